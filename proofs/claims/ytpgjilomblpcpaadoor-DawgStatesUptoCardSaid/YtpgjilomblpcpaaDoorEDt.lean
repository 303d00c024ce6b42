/- Layer 10: the law of the states. Conditions: none. -/
import Derived.Test.YtpgjilomblpcpaaDoorEDj
import Derived.Test.YtpgjilomblpcpaaDoorEK25
import Derived.KernelRfl
set_option linter.unusedVariables false
set_option linter.unusedSimpArgs false
set_option maxRecDepth 100000
set_option maxHeartbeats 0
namespace Go.EA
open F
def qE (l:List Wd) (a:Int):Int:=if 0<=a/\a<(↑(List.map stD (stsR l)).length:Int) then (0:Int) else (2:Int)
def qO (l:List Wd) (i:Nat):List Ed:=if 0<=(i:Int)/\(i:Int)<(↑(List.map stD (stsR l)).length:Int) then (stA (List.map stD (stsR l)) i).1 else []
def qN (l:List Wd) (i:Nat):Bool:=decide (0<=(i:Int)/\(i:Int)<(↑(List.map stD (stsR l)).length:Int))&&(stA (List.map stD (stsR l)) i).2.1
def qV (l:List Wd) (i:Nat) (r:Int):Int:=if 0<=(i:Int)/\(i:Int)<(↑(List.map stD (stsR l)).length:Int) then nxtV (stA (List.map stD (stsR l)) i).1 r else 0
def qX (l:List Wd) (a:Int) (i:Nat) (r:Int):Int:=if 0<=a/\a<(↑(List.map stD (stsR l)).length:Int) then if nxtB (stA (List.map stD (stsR l)) i).1 r=true then (0:Int) else (10:Int) else (2:Int)
def qS (l:List Wd) (i:Nat):RSt:=(stsR l).getD i ([],false,[])
theorem qa {a n:Int} {b:Bool} (h:0<=a):decide (decide (a<n)=!decide ((if 0<=a/\a<n then if b=true then (0:Int) else (10:Int) else (2:Int))=2))=true:=by
 by_cases h1:a<n
 ·rw [if_pos ⟨h,h1⟩]; cases b <;> simp [h1]
 ·rw [if_neg (fun h=>h1 h.2)];simp [h1]
theorem qb {a n:Int} (h:0<=a):decide (decide (a<n)=decide ((if 0<=a/\a<n then (0:Int) else (2:Int))=0))=true:=by
 by_cases h1:a<n
 ·rw [if_pos ⟨h,h1⟩];simp [h1]
 ·rw [if_neg (fun h=>h1 h.2)];simp [h1]
theorem w263 {S:SC} (hB:SB S) (q276:PrOk S 276 (pureP G276)) (q277:PrOk S 277 (pureP G277)) (q278:PrOk S 278 (pureP G278)) (q279:PrOk S 279 (pureP G279)) (q280:PrOk S 280 (pureP G280)) (q281:PrOk S 281 (pureP G281)) (q282:PrOk S 282 (pureP G282)) (q283:PrOk S 283 (pureP G283)) (q284:PrOk S 284 (pureP G284)) (q285:PrOk S 285 (pureP G285)) (q286:PrOk S 286 (pureP G286)) (q287:PrOk S 287 (pureP G287)) (q288:PrOk S 288 (pureP G288)) (q289:PrOk S 289 (pureP G289)) (q290:PrOk S 290 (pureP G290)) (h263:S.has 263 f263) (l:List (List UInt8×Int)) (a:Int) (r:Int) (hl0:l.length<=1048576) (hs0:∀ x∈l,x.1.length<=1048576) (hr0 : -2147483648<=r/\r<=2147483647):MF S 263 [] [den0 (.one (.row (.pair .str (.int .i64)) l)),den0 (.one (.int .i64 a)),den0 (.one (.int .i32 r))] (hl []) fun v _=>v=.one (.bool true):=
 mfM hB [] [⟨276,G276,K276⟩,⟨277,G277,K277⟩,⟨278,G278,K278⟩,⟨279,G279,K279⟩,⟨280,G280,K280⟩,⟨281,G281,K281⟩,⟨282,G282,K282⟩,⟨283,G283,K283⟩,⟨284,G284,K284⟩,⟨285,G285,K285⟩,⟨286,G286,K286⟩,⟨287,G287,K287⟩,⟨288,G288,K288⟩,⟨289,G289,K289⟩,⟨290,G290,K290⟩] trivial ⟨⟨q276,K276_ok⟩,⟨q277,K277_ok⟩,⟨q278,K278_ok⟩,⟨q279,K279_ok⟩,⟨q280,K280_ok⟩,⟨q281,K281_ok⟩,⟨q282,K282_ok⟩,⟨q283,K283_ok⟩,⟨q284,K284_ok⟩,⟨q285,K285_ok⟩,⟨q286,K286_ok⟩,⟨q287,K287_ok⟩,⟨q288,K288_ok⟩,⟨q289,K289_ok⟩,⟨q290,K290_ok⟩,trivial⟩ h263 (v:=.one .tt) (xs:=[.one (.row (.pair .str (.int .i64)) l),.one (.int .i64 a),.one (.int .i32 r)]) rfl rfl rfl (fun f id T L=>match f,id with
  | 263,0=>some (.inv { i:Nat // i<=(stsR l).length } (fun x=>([(79,.one (.int .i64 x.1))],[])) (fun x=>(stsR l).length-x.1))
  | _,_=>none) 3000 (VC.use (p:=
  (((!true)=true →
    (false=true)) /\
  (¬(!true) = true →
   ((l.length<=1048576) /\
   ((SmX l) /\
   ((grtB l=true →
     True) /\
   (¬grtB l = true →
    ((l.length<=1099511627776) /\
    ((SmW l) /\
    ((isE l=0 →
      ((l.length<=1099511627776) /\
      ((SmW l) /\
      ((isE l=0 →
        ((isE l=0) /\
        ((SmW l) /\
        (((0:Int)=(0:Int) →
          (((↑(List.map stD (stsR l)).length:Int)=(↑(stsR l).length:Int) →
            (((stsR l).length<=8388607) /\
            ((∀ (s:List (List Int)×Bool×List (Int×Int)),s∈stsR l->s.2.2.length<=1099511627776) /\
            ((edgN (stsR l)=edgN (stsR l) →
              (((↑(List.map (fun x=>x.snd) l).length:Int)=(↑l.length:Int) →
                ((∃ x1:{ i:Nat // i≤(stsR l).length },
                  ((a=a) /\
                  ((r=r) /\
                  ((newD l=newD l) /\
                  ((stsR l=stsR l) /\
                  ((stsR l=stsR l) /\
                  (((↑(stsR l).length:Int)=(↑(stsR l).length:Int)) /\
                  (0=(x1.1:Int))))))))) /\
                (∀ x1 : { i : Nat // i ≤ (stsR l).length },
                 (((↑x1.val:Int) < (↑(stsR l).length:Int) →
                   ((0<=(x1.1:Int)/\(x1.1:Int)<(↑(stsR l).length:Int)) /\
                   ((EdS (List.map stD (stsR l))) /\
                   (((qE l (↑x1.val:Int))=0 →
                     (((qE l (↑x1.val:Int))=0 →
                       (((qO l x1.1).length<=1099511627776) /\
                       (((qO l x1.1).length<=1099511627776) /\
                       ((List.length (qS l x1.1).2.2<=1099511627776) /\
                       (((!decide ((qO l x1.val)=(qS l x1.val).snd.snd))=true →
                         (false=true)) /\
                       (¬(!decide ((qO l x1.val) = (qS l x1.val).snd.snd)) = true →
                        (((!decide ((qN l x1.val)=(qS l x1.val).snd.fst))=true →
                          (false=true)) /\
                        (¬(!decide ((qN l x1.val) = (qS l x1.val).snd.fst)) = true →
                         ((EdS (List.map stD (stsR l))) /\
                         ((IR r) /\
                         ((List.length (qS l x1.1).2.2<=1099511627776) /\
                         (((qV l x1.val r)=nxtV (qS l x1.val).snd.snd r →
                           (((!decide (nxtB (qS l x1.val).snd.snd r=decide ((qX l (↑x1.val:Int) x1.val r)=0)))=true →
                             (false=true)) /\
                           (¬(!decide (nxtB (qS l x1.val).snd.snd r = decide ((qX l (↑x1.val : Int) x1.val r) = 0))) = true →
                            (((!nxtB (qS l x1.val).snd.snd r)=true →
                              (((qX l (↑x1.val:Int) x1.val r)=10 →
                                ((i64R ((x1.1:Int)+1)) /\
                                (∃ x2 : { i : Nat // i ≤ (stsR l).length },
                                 (((stsR l).length-x2.1<(stsR l).length-x1.1) /\
                                 ((a=a) /\
                                 ((r=r) /\
                                 ((newD l=newD l) /\
                                 ((stsR l=stsR l) /\
                                 ((stsR l=stsR l) /\
                                 (((↑(stsR l).length:Int)=(↑(stsR l).length:Int)) /\
                                 ((x1.1:Int)+1=(x2.1:Int)))))))))))) /\
                              (¬(qX l (↑x1.val : Int) x1.val r) = 10 →
                               (false=true)))) /\
                            (¬(!nxtB (qS l x1.val).snd.snd r) = true →
                             ((i64R ((x1.1:Int)+1)) /\
                             (∃ x2 : { i : Nat // i ≤ (stsR l).length },
                              (((stsR l).length-x2.1<(stsR l).length-x1.1) /\
                              ((a=a) /\
                              ((r=r) /\
                              ((newD l=newD l) /\
                              ((stsR l=stsR l) /\
                              ((stsR l=stsR l) /\
                              (((↑(stsR l).length:Int)=(↑(stsR l).length:Int)) /\
                              ((x1.1:Int)+1=(x2.1:Int)))))))))))))))) /\
                         (¬(qV l x1.val r) = nxtV (qS l x1.val).snd.snd r →
                          (false=true)))))))))))))) /\
                     (¬(qE l (↑x1.val : Int)) = 0 →
                      (false=true)))) /\
                   (¬(qE l (↑x1.val : Int)) = 0 →
                    (false=true)))))) /\
                 (¬(↑x1.val : Int) < (↑(stsR l).length : Int) →
                  ((0≤a →
                    ((EdS (List.map stD (stsR l))) /\
                    ((IR r) /\
                    ((EdS (List.map stD (stsR l))) /\
                    ((decide (decide (a < (↑(stsR l).length:Int))=!decide ((qX l a a.toNat r)=2))=true →
                      ((decide (decide (a < (↑(stsR l).length:Int))=decide ((qE l a)=0))=true →
                        ((decide (decide (a < (↑(stsR l).length:Int))=decide ((qE l a)=0))=true →
                          ((a < (↑(stsR l).length:Int) →
                            True) /\
                          (¬a < (↑(stsR l).length : Int) →
                           (((qE l a)=2 →
                             (decide ((qE l a)=2)=true)) /\
                           (¬(qE l a) = 2 →
                            (false=true)))))) /\
                        (¬decide (decide (a < (↑(stsR l).length : Int)) = decide ((qE l a) = 0)) = true →
                         (false=true)))) /\
                      (¬decide (decide (a < (↑(stsR l).length : Int)) = decide ((qE l a) = 0)) = true →
                       (false=true)))) /\
                    (¬decide (decide (a < (↑(stsR l).length : Int)) = !decide ((qX l a a.toNat r) = 2)) = true →
                     (false=true))))))) /\
                  (¬0 ≤ a →
                   ((EdS (List.map stD (stsR l))) /\
                   ((IR r) /\
                   ((EdS (List.map stD (stsR l))) /\
                   ((decide (false=!decide ((qX l a a.toNat r)=2))=true →
                     ((decide (false=decide ((qE l a)=0))=true →
                       ((decide (false=decide ((qE l a)=0))=true →
                         (((qE l a)=2 →
                           (decide ((qE l a)=2)=true)) /\
                         (¬(qE l a) = 2 →
                          (false=true)))) /\
                       (¬decide (false = decide ((qE l a) = 0)) = true →
                        (false=true)))) /\
                     (¬decide (false = decide ((qE l a) = 0)) = true →
                      (false=true)))) /\
                   (¬decide (false = !decide ((qX l a a.toNat r) = 2)) = true →
                    (false=true))))))))))))) /\
              (¬(↑(List.map (fun x => x.snd) l).length : Int) = (↑l.length : Int) →
               (false=true)))) /\
            (¬edgN (stsR l) = edgN (stsR l) →
             (false=true)))))) /\
          (¬(↑(List.map stD (stsR l)).length : Int) = (↑(stsR l).length : Int) →
           (false=true)))) /\
        (¬(0 : Int) = (0 : Int) →
         (false=true)))))) /\
      (¬isE l = 0 →
       (false=true)))))) /\
    (¬isE l = 0 →
     ((l.length<=1099511627776) /\
     ((SmW l) /\
     ((isE l=0 →
       ((isE l=0) /\
       ((SmW l) /\
       (false=true)))) /\
     (¬isE l = 0 →
      (decide (isE l=isE l)=true)))))))))))))))) (by kernel_rfl) (by
  unfold qE qO qN qV qX qS
  have hw:SmW l:=fun x hx=>Nat.le_trans (hs0 x hx) (by decide)
  refine ⟨fun h=>(by cases h),fun _=>⟨hl0,hs0,fun _=>trivial,fun _=>⟨by omega,hw,fun he=>⟨by omega,hw,fun _=>⟨he,hw,?_⟩,fun h=>absurd he h⟩,fun he=>⟨by omega,hw,fun h=>absurd h he,fun _=>decide_eq_true rfl⟩⟩⟩⟩
  have hS:=sts he
  have hT:=(nml he).tot
  have hE:EdS (List.map stD (stsR l)):=hS.eds hT
  have hR:IR r:=hr0
  have hfew:=hS.few
  have hout:∀ s∈stsR l,s.2.2.length<=1099511627776:=fun s hs=>by
   have h1:=(hE (stD s) (List.mem_map_of_mem hs)).2.2
   have h2:(stD s).1=s.2.2:=rfl
   rw [h2] at h1
   omega
  have hlm:(List.map stD (stsR l)).length=(stsR l).length:=List.length_map ..
  have hlm2:(List.map (fun x:List UInt8×Int=>x.2) l).length=l.length:=List.length_map ..
  rw [hlm,hlm2]
  refine ⟨fun _=>⟨fun _=>⟨by omega,hout,fun _=>⟨fun _=>⟨⟨⟨0,Nat.zero_le _⟩,rfl,rfl,rfl,rfl,rfl,rfl,rfl⟩,?_⟩,fun h=>absurd rfl h⟩,fun h=>absurd rfl h⟩,fun h=>absurd rfl h⟩,fun h=>absurd rfl h⟩
  rintro ⟨i,hi⟩
  dsimp only
  refine ⟨fun h=>?_,fun h=>⟨fun h0=>⟨hE,hR,hE,fun _=>⟨fun _=>⟨fun _=>⟨fun _=>trivial,fun h1=>?_⟩,fun h=>absurd (qb h0) h⟩,fun h=>absurd (qb h0) h⟩,fun h=>absurd (qa h0) h⟩,fun h0=>⟨hE,hR,hE,?_⟩⟩⟩
  ·have hil:i<(stsR l).length:=by omega
   have hp:0<=(i:Int)/\(i:Int)<((stsR l).length:Int):=⟨by omega,h⟩
   have e:stA (List.map stD (stsR l)) i=stD (rAt (stsR l) i):=sAt_map hil
   have hol:(rAt (stsR l) i).2.2.length<=1099511627776:=hout _ (by unfold rAt;rw [zA,zB hil];exact List.getElem_mem _)
   have r1:(if 0<=(i:Int)/\(i:Int)<((stsR l).length:Int) then (0:Int) else (2:Int))=0:=if_pos hp
   have r2:(decide (0<=(i:Int)/\(i:Int)<((stsR l).length:Int))&&(stA (List.map stD (stsR l)) i).2.1)=(rAt (stsR l) i).2.1:=by rw [decide_eq_true hp,e];rfl
   have r3:(if 0<=(i:Int)/\(i:Int)<((stsR l).length:Int) then (stA (List.map stD (stsR l)) i).1 else [])=(rAt (stsR l) i).2.2:=by rw [if_pos hp,e];rfl
   have r4:(if 0<=(i:Int)/\(i:Int)<((stsR l).length:Int) then nxtV (stA (List.map stD (stsR l)) i).1 r else 0)=nxtV (rAt (stsR l) i).2.2 r:=by rw [if_pos hp,e];rfl
   have r5:(if 0<=(i:Int)/\(i:Int)<((stsR l).length:Int) then if nxtB (stA (List.map stD (stsR l)) i).1 r=true then (0:Int) else (10:Int) else (2:Int))=if nxtB (rAt (stsR l) i).2.2 r=true then (0:Int) else (10:Int):=by rw [if_pos hp,e];rfl
   rw [r1,r2,r3,r4,r5]
   clear r1 r2 r3 r4 r5
   unfold rAt at hol ⊢
   clear e
   generalize (stsR l).getD i ([],false,[])=s at hol ⊢
   have fin:∀ (Q:{ i:Nat // i<=(stsR l).length }->Prop),Q ⟨i+1,by omega⟩->∃ x,Q x:=fun Q h=>⟨_,h⟩
   refine ⟨⟨by omega,h⟩,hE,fun _=>⟨fun _=>⟨hol,hol,hol,fun h=>(by simp at h),fun _=>⟨fun h=>(by simp at h),fun _=>⟨hE,hR,hol,fun _=>⟨fun h=>?_,fun _=>⟨fun hb=>⟨fun _=>⟨by unfold i64R;omega,⟨i+1,by omega⟩,by dsimp only;omega,rfl,rfl,rfl,rfl,rfl,rfl,by push_cast;rfl⟩,fun h=>?_⟩,fun _=>⟨by unfold i64R;omega,⟨i+1,by omega⟩,by dsimp only;omega,rfl,rfl,rfl,rfl,rfl,rfl,by push_cast;rfl⟩⟩⟩,fun h=>absurd rfl h⟩⟩⟩,fun h=>absurd rfl h⟩,fun h=>absurd rfl h⟩
   ·exfalso
    cases hb:nxtB s.2.2 r <;> rw [hb] at h <;> simp at h
   ·exfalso
    have hb:nxtB s.2.2 r=false:=by simpa using hb
    rw [hb] at h
    simp at h
  ·rw [if_neg (fun h=>h1 h.2)]
   exact ⟨fun _=>decide_eq_true rfl,fun h=>absurd rfl h⟩
  ·rw [if_neg (fun h=>h0 h.1)]
   simp
   exact ⟨fun _=>⟨fun _=>⟨fun _=>.inl (by omega),fun h=>absurd h h0⟩,fun h=>absurd h h0⟩,fun h=>absurd h h0⟩))
end Go.EA
