/- Layer 10: the law that how frequent words are changes nothing else. Conditions: none. -/
import Derived.Test.YtpgjilomblpcpaaDoorEDfr
import Derived.Test.YtpgjilomblpcpaaDoorEDu
import Derived.Test.YtpgjilomblpcpaaDoorEDj
import Derived.Test.YtpgjilomblpcpaaDoorEK25
import Derived.Test.YtpgjilomblpcpaaDoorELx5
import Derived.KernelRfl
set_option linter.unusedVariables false
set_option linter.unusedSimpArgs false
set_option maxRecDepth 100000
set_option maxHeartbeats 0
namespace Go.EA
open F
theorem w269 {S:SC} (hB:SB S) (q276:PrOk S 276 (pureP G276)) (q277:PrOk S 277 (pureP G277)) (q278:PrOk S 278 (pureP G278)) (q281:PrOk S 281 (pureP G281)) (q282:PrOk S 282 (pureP G282)) (q285:PrOk S 285 (pureP G285)) (q291:PrOk S 291 (pureP G291)) (q288:PrOk S 288 (pureP G288)) (q287:PrOk S 287 (pureP G287)) (q302:PrOk S 302 (pureP G302)) (h269:S.has 269 f269) (l:List (List UInt8×Int)) (q:Int) (hl0:l.length<=1048576) (hs0:∀ x∈l,x.1.length<=1048576) (hf0:0<=q/\q<=65535):MF S 269 [] [den0 (.one (.row (.pair .str (.int .i64)) l)),den0 (.one (.int .u16 q))] (hl []) fun v _=>v=.one (.bool true):=
 mfM hB [] [⟨276,G276,K276⟩,⟨277,G277,K277⟩,⟨278,G278,K278⟩,⟨281,G281,K281⟩,⟨282,G282,K282⟩,⟨285,G285,K285⟩,⟨291,G291,K291⟩,⟨288,G288,K288⟩,⟨287,G287,K287⟩,⟨302,G302,K302⟩] trivial ⟨⟨q276,K276_ok⟩,⟨q277,K277_ok⟩,⟨q278,K278_ok⟩,⟨q281,K281_ok⟩,⟨q282,K282_ok⟩,⟨q285,K285_ok⟩,⟨q291,K291_ok⟩,⟨q288,K288_ok⟩,⟨q287,K287_ok⟩,⟨q302,K302_ok⟩,trivial⟩ h269 (v:=.one .tt) (xs:=[.one (.row (.pair .str (.int .i64)) l),.one (.int .u16 q)]) rfl rfl rfl (fun f id T L=>match f,id with
  | 269,0=>match T.getD 6 .junk with | .one (.osl n)=>some (.inv { i:Nat // i<=(norO l).length } (fun x=>([(38,.one (.int .i64 x.1))],[(n,.row (.pair .str (.int .i64)) (frq (norO l) q x.1))])) (fun x=>(norO l).length-x.1)) | _=>none
  | 269,4055=>some (.cut Unit fun _=>([(8,.one (.vptr DwT (newD (norO l)) 0)),(9,.one (.int .i64 0))],[]))
  | 269,4059=>match T.getD 6 .junk with | .one (.osl n)=>some (.cut Unit fun _=>([(6,.junk),(10,.one (.vptr DwT (newD (fqL l q)) 0)),(11,.one (.int .i64 0))],[(n,.dead)])) | _=>none
  | 269,2=>some (.inv { i:Nat // i<=(stsR (norO l)).length } (fun x=>([(81,.one (.int .i64 x.1))],[])) (fun x=>(stsR (norO l)).length-x.1))
  | 269,4=>some (.inv { i:Nat // i<=(norO l).length } (fun x=>([(105,.one (.int .i64 x.1))],[])) (fun x=>(norO l).length-x.1))
  | _,_=>none) 4000 (VC.use (p:=
  (((!true)=true →
    (false=true))/\
  (¬(!true) = true →
   ((l.length<=1099511627776)/\
   ((SmW l)/\
   (((norO l).length<=1048576)/\
   ((SmX (norO l))/\
   ((grtB (norO l)=true →
     True)/\
   (¬grtB (norO l) = true →
    ((norE l=0 →
      (((0+(norO l).length)*24<=140737488355328)/\
      ((∃ x1:{ i:Nat // i≤(norO l).length },
        ((norO l=norO l)/\
        ((q=q)/\
        (((↑([]++norO l).length:Int)=(↑([]++norO l).length:Int))/\
        ((0=(x1.1:Int))/\
        ([]++norO l=frq (norO l) q x1.1))))))/\
      (∀ x1 : { i : Nat // i ≤ (norO l).length },
       (((↑x1.val:Int) < (↑([]++norO l).length:Int) →
         ((i64R q)/\
         ((i64R (q+1))/\
         ((0<=(x1.1:Int)/\(x1.1:Int)<(↑(frq (norO l) q x1.1).length:Int))/\
         ((x1.1<(frq (norO l) q x1.1).length)/\
         ((i64R ((x1.1:Int)+1))/\
         (∃ x2 : { i : Nat // i ≤ (norO l).length },
          (((norO l).length-x2.1<(norO l).length-x1.1)/\
          ((norO l=norO l)/\
          ((q=q)/\
          (((↑([]++norO l).length:Int)=(↑([]++norO l).length:Int))/\
          (((x1.1:Int)+1=(x2.1:Int))/\
          ((frq (norO l) q x1.1).set x1.1 (((frq (norO l) q x1.1).getD x1.1 ([],0)).1,q+1)=frq (norO l) q x2.1)))))))))))))/\
       (¬(↑x1.val : Int) < (↑([] ++ norO l).length : Int) →
        ((((norO l).length ≤ 1099511627776) ∧
         ((SmW (norO l))/\
         ((isE (norO l)=0 →
           (∃ x2 : Unit,
            ((norO l=norO l)/\
            ((q=q)/\
            ((newD (norO l)=newD (norO l))/\
            (((0:Int)=(0:Int))/\
            (frq (norO l) q x1.1=frq (norO l) q x1.1)))))))/\
         (¬isE (norO l) = 0 →
          (∃ x2 : Unit,
           False)))))/\
        (∀ x2 : Unit,
         ((((frq (norO l) q x1.val).length ≤ 1099511627776) ∧
          ((SmW (frq (norO l) q x1.1))/\
          ((isE (frq (norO l) q x1.val)=0 →
            (∃ x3 : Unit,
             ((norO l=norO l)/\
             ((q=q)/\
             ((newD (norO l)=newD (norO l))/\
             (((0:Int)=(0:Int))/\
             ((newD (frq (norO l) q x1.1)=newD (fqL l q))/\
             ((0:Int)=(0:Int)))))))))/\
          (¬isE (frq (norO l) q x1.val) = 0 →
           (∃ x3 : Unit,
            False)))))/\
         (∀ x3 : Unit,
          (((0:Int)=(0:Int) →
            (((0:Int)=(0:Int) →
              (((↑(List.map stD (stsR (norO l))).length:Int)=(↑(List.map stD (stsR (fqL l q))).length:Int) →
                ((edgN (stsR (norO l))=edgN (stsR (fqL l q)) →
                  ((∃ x4:{ i:Nat // i≤(stsR (norO l)).length },
                    ((norO l=norO l)/\
                    ((q=q)/\
                    ((newD (norO l)=newD (norO l))/\
                    ((newD (fqL l q)=newD (fqL l q))/\
                    (((↑(List.map stD (stsR (norO l))).length:Int)=(↑(List.map stD (stsR (norO l))).length:Int))/\
                    (0=(x4.1:Int))))))))/\
                  (∀ x4 : { i : Nat // i ≤ (stsR (norO l)).length },
                   (((↑x4.val:Int) < (↑(List.map stD (stsR (norO l))).length:Int) →
                     ((EdS (List.map stD (stsR (norO l))))/\
                     ((EdS (List.map stD (stsR (fqL l q))))/\
                     (((if 0<=(x4.1:Int)/\(x4.1:Int)<(↑(List.map stD (stsR (norO l))).length:Int) then (stA (List.map stD (stsR (norO l))) x4.1).1 else []).length<=1099511627776)/\
                     (((if 0<=(x4.1:Int)/\(x4.1:Int)<(↑(List.map stD (stsR (fqL l q))).length:Int) then (stA (List.map stD (stsR (fqL l q))) x4.1).1 else []).length<=1099511627776)/\
                     (((if 0<=(x4.1:Int)/\(x4.1:Int)<(↑(List.map stD (stsR (norO l))).length:Int) then (stA (List.map stD (stsR (norO l))) x4.1).1 else []).length<=1099511627776)/\
                     (((if 0<=(x4.1:Int)/\(x4.1:Int)<(↑(List.map stD (stsR (fqL l q))).length:Int) then (stA (List.map stD (stsR (fqL l q))) x4.1).1 else []).length<=1099511627776)/\
                     (((!decide ((if 0≤(↑x4.val:Int)∧(↑x4.val:Int) < (↑(List.map stD (stsR (norO l))).length:Int) then (stA (List.map stD (stsR (norO l))) x4.val).fst else [])=if 0≤(↑x4.val:Int)∧(↑x4.val:Int) < (↑(List.map stD (stsR (fqL l q))).length:Int) then (stA (List.map stD (stsR (fqL l q))) x4.val).fst else []))=true →
                       (false=true))/\
                     (¬(!decide ((if 0 ≤ (↑x4.val : Int) ∧ (↑x4.val : Int) < (↑(List.map stD (stsR (norO l))).length : Int) then (stA (List.map stD (stsR (norO l))) x4.val).fst else []) = if 0 ≤ (↑x4.val : Int) ∧ (↑x4.val : Int) < (↑(List.map stD (stsR (fqL l q))).length : Int) then (stA (List.map stD (stsR (fqL l q))) x4.val).fst else [])) = true →
                      ((i64R ((x4.1:Int)+1))/\
                      (∃ x5 : { i : Nat // i ≤ (stsR (norO l)).length },
                       (((stsR (norO l)).length-x5.1<(stsR (norO l)).length-x4.1)/\
                       ((norO l=norO l)/\
                       ((q=q)/\
                       ((newD (norO l)=newD (norO l))/\
                       ((newD (fqL l q)=newD (fqL l q))/\
                       (((↑(List.map stD (stsR (norO l))).length:Int)=(↑(List.map stD (stsR (norO l))).length:Int))/\
                       ((x4.1:Int)+1=(x5.1:Int)))))))))))))))))))/\
                   (¬(↑x4.val : Int) < (↑(List.map stD (stsR (norO l))).length : Int) →
                    ((∃ x5:{ i:Nat // i≤(norO l).length },
                      ((norO l=norO l)/\
                      ((q=q)/\
                      ((newD (fqL l q)=newD (fqL l q))/\
                      (((↑(norO l).length:Int)=(↑(norO l).length:Int))/\
                      (0=(x5.1:Int)))))))/\
                    (∀ x5 : { i : Nat // i ≤ (norO l).length },
                     (((↑x5.val:Int) < (↑(norO l).length:Int) →
                       ((DwS (List.map stD (stsR (fqL l q))))/\
                       (((↑(List.map (fun x=>x.2) (fqL l q)).length:Int)=(stA (List.map stD (stsR (fqL l q))) 0).2.2)/\
                       (((if 0≤(↑x5.val:Int)∧(↑x5.val:Int) < (↑(List.map (fun x=>x.snd) (fqL l q)).length:Int) then (0:Int) else (2:Int))=0 →
                         ((0<=(x5.1:Int)/\(x5.1:Int)<(↑(norO l).length:Int))/\
                         (((if 0≤(↑x5.val:Int)∧(↑x5.val:Int) < (↑(List.map (fun x=>x.snd) (fqL l q)).length:Int) then wrdB (List.map stD (stsR (fqL l q))) (↑x5.val:Int) else [])=((norO l).getD x5.val ([],0)).fst →
                           ((i64R q)/\
                           ((i64R (q+1))/\
                           (((if 0≤(↑x5.val:Int)∧(↑x5.val:Int) < (↑(List.map (fun x=>x.snd) (fqL l q)).length:Int) then (List.map (fun x=>x.snd) (fqL l q)).getD x5.val 0 else 0)=q+1 →
                             ((i64R ((x5.1:Int)+1))/\
                             (∃ x6 : { i : Nat // i ≤ (norO l).length },
                              (((norO l).length-x6.1<(norO l).length-x5.1)/\
                              ((norO l=norO l)/\
                              ((q=q)/\
                              ((newD (fqL l q)=newD (fqL l q))/\
                              (((↑(norO l).length:Int)=(↑(norO l).length:Int))/\
                              ((x5.1:Int)+1=(x6.1:Int))))))))))/\
                           (¬(if 0 ≤ (↑x5.val : Int) ∧ (↑x5.val : Int) < (↑(List.map (fun x => x.snd) (fqL l q)).length : Int) then (List.map (fun x => x.snd) (fqL l q)).getD x5.val 0 else 0) = q + 1 →
                            (false=true))))))/\
                         (¬(if 0 ≤ (↑x5.val : Int) ∧ (↑x5.val : Int) < (↑(List.map (fun x => x.snd) (fqL l q)).length : Int) then wrdB (List.map stD (stsR (fqL l q))) (↑x5.val : Int) else []) = ((norO l).getD x5.val ([], 0)).fst →
                          (false=true)))))/\
                       (¬(if 0 ≤ (↑x5.val : Int) ∧ (↑x5.val : Int) < (↑(List.map (fun x => x.snd) (fqL l q)).length : Int) then (0 : Int) else (2 : Int)) = 0 →
                        (false=true))))))/\
                     (¬(↑x5.val : Int) < (↑(norO l).length : Int) →
                      True)))))))))/\
                (¬edgN (stsR (norO l)) = edgN (stsR (fqL l q)) →
                 (false=true))))/\
              (¬(↑(List.map stD (stsR (norO l))).length : Int) = (↑(List.map stD (stsR (fqL l q))).length : Int) →
               (false=true))))/\
            (¬(0 : Int) = (0 : Int) →
             (false=true))))/\
          (¬(0 : Int) = (0 : Int) →
           (false=true)))))))))))))/\
    (¬norE l = 0 →
     True))))))))))) (by kernel_rfl) (by
  have hw:SmW l:=fun x hx=>Nat.le_trans (hs0 x hx) (by decide)
  have hn1:=Nat.le_trans (norO_len l) hl0
  have hn2:SmX (norO l):=norO_sm hs0
  have hnl:([]++norO l).length=(norO l).length:=by simp
  rw [hnl]
  refine ⟨fun h=>(by cases h),fun _=>⟨by omega,hw,hn1,hn2,fun _=>trivial,fun _=>⟨fun hz=>?_,fun _=>trivial⟩⟩⟩
  obtain ⟨e1,e2,e3⟩:=nor_zero hz
  have he:isE (norO l)=0:=by rw [e1];exact e3
  have hf:=fq_isE he hf0
  have hS:=sts he
  have hT:=(nml he).tot
  have hE:EdS (List.map stD (stsR (norO l))):=hS.eds hT
  have hfew:=hS.few
  have hfl:(fqL l q).length=(norO l).length:=by rw [fqL_eq,zR]
  have hml:(List.map (fun x:List UInt8×Int=>x.2) (fqL l q)).length=(norO l).length:=by rw [zR,hfl]
  have hsm:SmW (fqL l q):=fun x hx=>by
   rw [fqL_eq] at hx
   obtain ⟨w,hw,rfl⟩:=List.mem_map.1 hx
   exact Nat.le_trans (hn2 w hw) (by decide)
  have hDS:DwS (List.map stD (stsR (norO l))):=⟨_,_,hS,hT,rfl⟩
  have hlen:(List.map stD (stsR (norO l))).length=(stsR (norO l)).length:=zR ..
  rw [fq_sts,hml,hlen]
  refine ⟨by omega,⟨⟨0,Nat.zero_le _⟩,rfl,rfl,rfl,rfl,rfl⟩,?_⟩
  rintro ⟨i,hi⟩
  dsimp only
  have hfi:=frq_len (norO l) q hi
  refine ⟨fun h=>⟨by unfold i64R;omega,by unfold i64R;omega,⟨by omega,by omega⟩,by omega,by unfold i64R;omega,⟨i+1,by omega⟩,by dsimp only;omega,rfl,rfl,rfl,by push_cast;rfl,frq_step (norO l) q (by omega)⟩,fun h=>?_⟩
  obtain rfl:i=(norO l).length:=by omega
  have hfq:frq (norO l) q (norO l).length=fqL l q:=rfl
  rw [hfq,hfl]
  refine ⟨⟨by omega,fun x hx=>Nat.le_trans (hn2 x hx) (by decide),fun _=>⟨(),rfl,rfl,rfl,rfl,rfl⟩,fun h'=>absurd he h'⟩,fun _=>⟨⟨by omega,hsm,fun _=>⟨(),rfl,rfl,rfl,rfl,rfl,rfl⟩,fun h'=>absurd hf h'⟩,fun _=>⟨fun _=>⟨fun _=>⟨fun _=>⟨fun _=>⟨⟨⟨0,Nat.zero_le _⟩,rfl,rfl,rfl,rfl,rfl,rfl⟩,?_⟩,fun h'=>absurd rfl h'⟩,fun h'=>absurd rfl h'⟩,fun h'=>absurd rfl h'⟩,fun h'=>absurd rfl h'⟩⟩⟩
  rintro ⟨a,ha⟩
  dsimp only
  refine ⟨fun h2=>?_,fun h2=>⟨⟨⟨0,Nat.zero_le _⟩,rfl,rfl,rfl,rfl,rfl⟩,?_⟩⟩
  ·have hp:0<=(a:Int)/\(a:Int)<((stsR (norO l)).length:Int):=⟨by omega,h2⟩
   rw [if_pos hp]
   have hol:(stA (List.map stD (stsR (norO l))) a).1.length<=4194305:=(hE.at a).2.2
   exact ⟨hE,hE,by omega,by omega,by omega,by omega,fun h3=>by simp at h3,fun _=>⟨by unfold i64R;omega,⟨a+1,by omega⟩,by dsimp only;omega,rfl,rfl,rfl,rfl,rfl,by push_cast;rfl⟩⟩
  rintro ⟨b,hb⟩
  dsimp only
  refine ⟨fun h3=>?_,fun _=>trivial⟩
  have hp:0<=(b:Int)/\(b:Int)<((norO l).length:Int):=⟨by omega,h3⟩
  have hwb:wrdB (List.map stD (stsR (norO l))) (b:Int)=((norO l).getD b ([],0)).1:=wrdB_ok he (by omega)
  have hgq:(List.map (fun x:List UInt8×Int=>x.2) (fqL l q)).getD b 0=q+1:=by
   rw [fqL_eq,List.map_map,zA,List.getElem?_map,zB (by omega)];rfl
  have hct:((norO l).length:Int)=(stA (List.map stD (stsR (norO l))) 0).2.2:=by
   rw [sAt_map hS.pos]
   show _=((rAt (stsR (norO l)) 0).1.length:Int)
   rw [hS.root,wdR_len]
  rw [if_pos hp,if_pos hp,if_pos hp,hwb,hgq]
  exact ⟨hDS,hct,fun _=>⟨⟨by omega,h3⟩,fun _=>⟨by unfold i64R;omega,by unfold i64R;omega,fun _=>⟨by unfold i64R;omega,⟨b+1,by omega⟩,by dsimp only;omega,rfl,rfl,rfl,rfl,by push_cast;rfl⟩,fun h'=>absurd rfl h'⟩,fun h'=>absurd rfl h'⟩,fun h'=>absurd rfl h'⟩))
end Go.EA
