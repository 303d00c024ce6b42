/- Layer 9: the law of the most frequent words. Conditions: none. (Printed by a program of this project's own.) -/
import Derived.Test.YtpgjilomblpcpaaDoorELx4
import Derived.Test.YtpgjilomblpcpaaDoorENr5
import Derived.KernelRfl
set_option linter.unusedVariables false
set_option linter.unusedSimpArgs false
set_option maxRecDepth 100000
set_option maxHeartbeats 0
namespace Go.EA
open F
theorem w274 {S:SC} (hB:SB S) (q293:PrOk S 293 (pureP G293)) (q294:PrOk S 294 (pureP G294)) (q295:PrOk S 295 (pureP G295)) (q307:PrOk S 307 (pureP G307)) (q303:PrOk S 303 (pureP G303)) (h274:S.has 274 f274) (l:List (List UInt8×Int)) (k:Int) (hl0:l.length≤1048576) (hs0:∀ x∈l,x.1.length≤1048576) (hk0:0≤k∧k≤255):MF S 274 [] [den0 (.one (.row (.pair .str (.int .i64)) l)),den0 (.one (.int .u8 k))] (hl []) fun v _=>v=.one (.bool true):=
  mfM hB [] [⟨293,G293,K293⟩,⟨294,G294,K294⟩,⟨295,G295,K295⟩,⟨307,G307,K307⟩,⟨303,G303,K303⟩] trivial ⟨⟨q293,K293_ok⟩,⟨q294,K294_ok⟩,⟨q295,K295_ok⟩,⟨q307,K307_ok⟩,⟨q303,K303_ok⟩,trivial⟩ h274 (v:=.one .tt) (xs:=[.one (.row (.pair .str (.int .i64)) l),.one (.int .u8 k)]) rfl rfl rfl (fun f id T L=>match f,id with
      | 274,0=>match T.getD 7 .junk,T.getD 9 .junk with | .one (.row (.pair .str (.int .i64)) b),.one (.mp m)=>some (.inv { i:Nat // i≤b.length } (fun x=>([(52,.one (.int .i64 x.1))],[(m,.mapo .str .bool (metW (b.take x.1)))])) (fun x=>b.length - x.1)) | _,_=>none
      | 274,2=>match T.getD 5 .junk with | .one (.row (.pair .str (.int .i64)) a)=>some (.inv { i:Nat // i≤a.length } (fun x=>([(121,.one (.int .i64 x.1))],[])) (fun x=>a.length - x.1)) | _=>none
      | _,_=>none) 3000 (VC.use (p:=
    (((!true)=true →
      (false=true)) ∧
    (¬(!true) = true →
     ((l.length≤1099511627776) ∧
     ((SmW l) ∧
     ((l.length≤4194304) ∧
     ((∀ (x:List UInt8×Int),x∈l→x.fst.length≤1099511627776) ∧
     ((decide (500 < l.length∨8000 < lenL l)=true →
       True) ∧
     (¬decide (500 < l.length ∨ 8000 < lenL l) = true →
      ((norE l=0 →
        ((i64R k) ∧
        (((norO l).length≤1099511627776) ∧
        ((SmW (norO l)) ∧
        ((bstE (norO l) k=0 →
          ((i64R k) ∧
          (((↑(bstO (norO l) k).length:Int) =   (if (↑(norO l).length:Int) < k then (↑(norO l).length:Int) else k) →
            ((∃ x1:{ i:Nat // i≤(bstO (norO l) k).length },
              ((norO l=norO l) ∧
              ((bstO (norO l) k=bstO (norO l) k) ∧
              ((bstO (norO l) k=bstO (norO l) k) ∧
              (((↑(bstO (norO l) k).length:Int)=(↑(bstO (norO l) k).length:Int)) ∧
              ((0=(↑x1.val:Int)) ∧
              (metW (List.take x1.val (bstO (norO l) k))=[]))))))) ∧
            (∀ x1 : { i : Nat // i ≤ (bstO (norO l) k).length },
             (((↑x1.val:Int) < (↑(bstO (norO l) k).length:Int) →
               ((0≤(↑x1.val:Int)∧(↑x1.val:Int) < (↑(bstO (norO l) k).length:Int)) ∧
               (((norO l).length≤1099511627776) ∧
               ((SmW (norO l)) ∧
               ((fndE (norO l) ((bstO (norO l) k).getD x1.val ([],0)).fst=0 →
                 ((fndV (norO l) ((bstO (norO l) k).getD x1.val ([],0)).fst=((bstO (norO l) k).getD x1.val ([],0)).snd →
                   (((Ty.str.mget (metW (List.take x1.val (bstO (norO l) k))) ((bstO (norO l) k).getD x1.val ([],0)).fst).getD false=true →
                     (false=true)) ∧
                   (¬(Ty.str.mget (metW (List.take x1.val (bstO (norO l) k))) ((bstO (norO l) k).getD x1.val ([], 0)).fst).getD false = true →
                    ((0 < (↑x1.val:Int) →
                      ((i64R ((↑x1.val:Int) - 1)) ∧
                      ((0≤(↑x1.val:Int) - 1∧(↑x1.val:Int) - 1 < (↑(bstO (norO l) k).length:Int)) ∧
                      ((((bstO (norO l) k).getD ((↑x1.val:Int) - 1).toNat ([],0)).snd < ((bstO (norO l) k).getD x1.val ([],0)).snd →
                        (false=true)) ∧
                      (¬((bstO (norO l) k).getD ((↑x1.val : Int) - 1).toNat ([], 0)).snd < ((bstO (norO l) k).getD x1.val ([], 0)).snd →
                       ((i64R ((↑x1.val:Int) - 1)) ∧
                       ((0≤(↑x1.val:Int) - 1∧(↑x1.val:Int) - 1 < (↑(bstO (norO l) k).length:Int)) ∧
                       ((((bstO (norO l) k).getD ((↑x1.val:Int) - 1).toNat ([],0)).snd=((bstO (norO l) k).getD x1.val ([],0)).snd →
                         ((i64R ((↑x1.val:Int) - 1)) ∧
                         ((0≤(↑x1.val:Int) - 1∧(↑x1.val:Int) - 1 < (↑(bstO (norO l) k).length:Int)) ∧
                         (((!sless ((bstO (norO l) k).getD ((↑x1.val:Int) - 1).toNat ([],0)).fst ((bstO (norO l) k).getD x1.val ([],0)).fst)=true →
                           (false=true)) ∧
                         (¬(!sless ((bstO (norO l) k).getD ((↑x1.val : Int) - 1).toNat ([], 0)).fst ((bstO (norO l) k).getD x1.val ([], 0)).fst) = true →
                          ((i64R ((↑x1.val:Int)+1)) ∧
                          (∃ x2 : { i : Nat // i ≤ (bstO (norO l) k).length },
                           (((bstO (norO l) k).length - x2.val < (bstO (norO l) k).length - x1.val) ∧
                           ((norO l=norO l) ∧
                           ((bstO (norO l) k=bstO (norO l) k) ∧
                           ((bstO (norO l) k=bstO (norO l) k) ∧
                           (((↑(bstO (norO l) k).length:Int)=(↑(bstO (norO l) k).length:Int)) ∧
                           (((↑x1.val:Int)+1=(↑x2.val:Int)) ∧
                           (castM (a:=Ty.str) (b:=Ty.bool) (c:=Ty.str) (d:=Ty.bool) rfl rfl (Ty.str.mput (metW (List.take x1.val (bstO (norO l) k))) ((bstO (norO l) k).getD x1.val ([],(0:Int))).fst true)=metW (List.take x2.val (bstO (norO l) k)))))))))))))))) ∧
                       (¬((bstO (norO l) k).getD ((↑x1.val : Int) - 1).toNat ([], 0)).snd = ((bstO (norO l) k).getD x1.val ([], 0)).snd →
                        ((i64R ((↑x1.val:Int)+1)) ∧
                        (∃ x2 : { i : Nat // i ≤ (bstO (norO l) k).length },
                         (((bstO (norO l) k).length - x2.val < (bstO (norO l) k).length - x1.val) ∧
                         ((norO l=norO l) ∧
                         ((bstO (norO l) k=bstO (norO l) k) ∧
                         ((bstO (norO l) k=bstO (norO l) k) ∧
                         (((↑(bstO (norO l) k).length:Int)=(↑(bstO (norO l) k).length:Int)) ∧
                         (((↑x1.val:Int)+1=(↑x2.val:Int)) ∧
                         (castM (a:=Ty.str) (b:=Ty.bool) (c:=Ty.str) (d:=Ty.bool) rfl rfl (Ty.str.mput (metW (List.take x1.val (bstO (norO l) k))) ((bstO (norO l) k).getD x1.val ([],(0:Int))).fst true)=metW (List.take x2.val (bstO (norO l) k)))))))))))))))))))) ∧
                    (¬0 < (↑x1.val : Int) →
                     ((i64R ((↑x1.val:Int)+1)) ∧
                     (∃ x2 : { i : Nat // i ≤ (bstO (norO l) k).length },
                      (((bstO (norO l) k).length - x2.val < (bstO (norO l) k).length - x1.val) ∧
                      ((norO l=norO l) ∧
                      ((bstO (norO l) k=bstO (norO l) k) ∧
                      ((bstO (norO l) k=bstO (norO l) k) ∧
                      (((↑(bstO (norO l) k).length:Int)=(↑(bstO (norO l) k).length:Int)) ∧
                      (((↑x1.val:Int)+1=(↑x2.val:Int)) ∧
                      (castM (a:=Ty.str) (b:=Ty.bool) (c:=Ty.str) (d:=Ty.bool) rfl rfl (Ty.str.mput (metW (List.take x1.val (bstO (norO l) k))) ((bstO (norO l) k).getD x1.val ([],(0:Int))).fst true)=metW (List.take x2.val (bstO (norO l) k)))))))))))))))) ∧
                 (¬fndV (norO l) ((bstO (norO l) k).getD x1.val ([], 0)).fst = ((bstO (norO l) k).getD x1.val ([], 0)).snd →
                  (false=true)))) ∧
               (¬fndE (norO l) ((bstO (norO l) k).getD x1.val ([], 0)).fst = 0 →
                (false=true))))))) ∧
             (¬(↑x1.val : Int) < (↑(bstO (norO l) k).length : Int) →
              ((∃ x2:{ i:Nat // i≤(norO l).length },
                ((bstO (norO l) k=bstO (norO l) k) ∧
                ((norO l=norO l) ∧
                (((↑(norO l).length:Int)=(↑(norO l).length:Int)) ∧
                ((0=(↑x2.val:Int)) ∧
                (castM (a:=Ty.str) (b:=Ty.bool) (c:=Ty.str) (d:=Ty.bool) rfl rfl (metW (List.take x1.val (bstO (norO l) k)))=metW (List.take x1.val (bstO (norO l) k)))))))) ∧
              (∀ x2 : { i : Nat // i ≤ (norO l).length },
               (((↑x2.val:Int) < (↑(norO l).length:Int) →
                 ((0≤(↑x2.val:Int)∧(↑x2.val:Int) < (↑(norO l).length:Int)) ∧
                 (((!(Ty.str.mget (metW (List.take x1.val (bstO (norO l) k))) ((norO l).getD x2.val ([],0)).fst).getD false)=true →
                   ((0 < (↑(bstO (norO l) k).length:Int) →
                     ((i64R ((↑(bstO (norO l) k).length:Int) - 1)) ∧
                     ((0≤(↑(bstO (norO l) k).length:Int) - 1∧(↑(bstO (norO l) k).length:Int) - 1 < (↑(bstO (norO l) k).length:Int)) ∧
                     ((((bstO (norO l) k).getD ((↑(bstO (norO l) k).length:Int) - 1).toNat ([],0)).snd < ((norO l).getD x2.val ([],0)).snd →
                       (false=true)) ∧
                     (¬((bstO (norO l) k).getD ((↑(bstO (norO l) k).length : Int) - 1).toNat ([], 0)).snd < ((norO l).getD x2.val ([], 0)).snd →
                      ((((norO l).getD x2.val ([],0)).snd=((bstO (norO l) k).getD ((↑(bstO (norO l) k).length:Int) - 1).toNat ([],0)).snd →
                        ((sless ((norO l).getD x2.val ([],0)).fst ((bstO (norO l) k).getD ((↑(bstO (norO l) k).length:Int) - 1).toNat ([],0)).fst=true →
                          (false=true)) ∧
                        (¬sless ((norO l).getD x2.val ([], 0)).fst ((bstO (norO l) k).getD ((↑(bstO (norO l) k).length : Int) - 1).toNat ([], 0)).fst = true →
                         ((i64R ((↑x2.val:Int)+1)) ∧
                         (∃ x3 : { i : Nat // i ≤ (norO l).length },
                          (((norO l).length - x3.val < (norO l).length - x2.val) ∧
                          ((bstO (norO l) k=bstO (norO l) k) ∧
                          ((norO l=norO l) ∧
                          (((↑(norO l).length:Int)=(↑(norO l).length:Int)) ∧
                          (((↑x2.val:Int)+1=(↑x3.val:Int)) ∧
                          (castM (a:=Ty.str) (b:=Ty.bool) (c:=Ty.str) (d:=Ty.bool) rfl rfl (metW (List.take x1.val (bstO (norO l) k)))=metW (List.take x1.val (bstO (norO l) k))))))))))))) ∧
                      (¬((norO l).getD x2.val ([], 0)).snd = ((bstO (norO l) k).getD ((↑(bstO (norO l) k).length : Int) - 1).toNat ([], 0)).snd →
                       ((i64R ((↑x2.val:Int)+1)) ∧
                       (∃ x3 : { i : Nat // i ≤ (norO l).length },
                        (((norO l).length - x3.val < (norO l).length - x2.val) ∧
                        ((bstO (norO l) k=bstO (norO l) k) ∧
                        ((norO l=norO l) ∧
                        (((↑(norO l).length:Int)=(↑(norO l).length:Int)) ∧
                        (((↑x2.val:Int)+1=(↑x3.val:Int)) ∧
                        (castM (a:=Ty.str) (b:=Ty.bool) (c:=Ty.str) (d:=Ty.bool) rfl rfl (metW (List.take x1.val (bstO (norO l) k)))=metW (List.take x1.val (bstO (norO l) k))))))))))))))))) ∧
                   (¬0 < (↑(bstO (norO l) k).length : Int) →
                    ((i64R ((↑x2.val:Int)+1)) ∧
                    (∃ x3 : { i : Nat // i ≤ (norO l).length },
                     (((norO l).length - x3.val < (norO l).length - x2.val) ∧
                     ((bstO (norO l) k=bstO (norO l) k) ∧
                     ((norO l=norO l) ∧
                     (((↑(norO l).length:Int)=(↑(norO l).length:Int)) ∧
                     (((↑x2.val:Int)+1=(↑x3.val:Int)) ∧
                     (castM (a:=Ty.str) (b:=Ty.bool) (c:=Ty.str) (d:=Ty.bool) rfl rfl (metW (List.take x1.val (bstO (norO l) k)))=metW (List.take x1.val (bstO (norO l) k))))))))))))) ∧
                 (¬(!(Ty.str.mget (metW (List.take x1.val (bstO (norO l) k))) ((norO l).getD x2.val ([], 0)).fst).getD false) = true →
                  ((i64R ((↑x2.val:Int)+1)) ∧
                  (∃ x3 : { i : Nat // i ≤ (norO l).length },
                   (((norO l).length - x3.val < (norO l).length - x2.val) ∧
                   ((bstO (norO l) k=bstO (norO l) k) ∧
                   ((norO l=norO l) ∧
                   (((↑(norO l).length:Int)=(↑(norO l).length:Int)) ∧
                   (((↑x2.val:Int)+1=(↑x3.val:Int)) ∧
                   (castM (a:=Ty.str) (b:=Ty.bool) (c:=Ty.str) (d:=Ty.bool) rfl rfl (metW (List.take x1.val (bstO (norO l) k)))=metW (List.take x1.val (bstO (norO l) k)))))))))))))) ∧
               (¬(↑x2.val : Int) < (↑(norO l).length : Int) →
                True))))))))) ∧
          (¬(↑(bstO (norO l) k).length : Int) =     (if (↑(norO l).length : Int) < k then (↑(norO l).length : Int) else k) →
           (false=true))))) ∧
        (¬bstE (norO l) k = 0 →
         (false=true))))))) ∧
      (¬norE l = 0 →
       True))))))))))) (by kernel_rfl) (by
    have hw:∀ x∈l,x.1.length≤1099511627776:=fun x hx=>Nat.le_trans (hs0 x hx) (by decide)
    refine ⟨fun h=>(by cases h),fun _=>⟨by omega,hw,by omega,hw,fun _=>by trivial,fun _=>⟨fun he=>?_,fun _=>by trivial⟩⟩⟩
    obtain ⟨e1,_,e3⟩:=nor_zero he
    have q:isE (norO l)=0:=by rw [e1];exact e3
    have hsm:SmW (norO l):=by rw [e1];exact fun x hx=>Nat.le_trans (SmW.norm hs0 x hx) (by decide)
    have hlen:=(isE_zero.1 q).2.2
    have hr:=(isE_zero.1 q).2.1
    obtain ⟨b1,b2⟩:=bst_of q (k:=k) (by omega)
    rw [b1]
    clear e1 e3 hw he
    generalize norO l=A at *
    have hSl:=(srtB_perm A).length_eq
    refine ⟨by unfold i64R;omega,by omega,hsm,fun _=>⟨by unfold i64R;omega,fun hl=>?_,fun hl=>?_⟩,fun h=>absurd b2.symm h⟩
    rotate_left
    · exfalso
      refine hl ?_
      rw [List.length_take,hSl]
      split <;> omega
    refine ⟨⟨⟨0,Nat.zero_le _⟩,by repeat' (first | rfl | apply And.intro)⟩,?_⟩
    rintro ⟨i,hi⟩
    dsimp only
    generalize hB:(srtB A).take k.toNat=B at *
    have hBl:B.length≤A.length:=by rw [← hB,List.length_take];omega
    refine ⟨fun h=>?_,fun h=>?_⟩
    · have hib:i < B.length:=by omega
      have hm:B.getD i ([],0)∈A:=by
        have:=srt_mem (a:=A) (n:=k.toNat) (i:=i) (by rw [hB];exact hib)
        rwa [hB] at this
      obtain ⟨f1,f2⟩:=fnd_mem q hm
      have hst:=met_step hib
      have hat:∀ j,j < B.length→B.getD j ([],0)=(srtB A).getD j ([],0):=fun j hj=>by
        have:=take_at (a:=srtB A) (n:=k.toNat) (i:=j) (by rw [hB];exact hj)
        rwa [hB] at this
      have hBS:B.length≤(srtB A).length:=by omega
      have hnew:¬ (Ty.mget .str (metW (B.take i)) (B.getD i ([],0)).1).getD false=true:=by
        rw [met_get]
        rintro ⟨w,hw1,hw2⟩
        obtain ⟨j,hj,rfl⟩:=List.mem_iff_getElem.1 hw1
        rw [List.length_take] at hj
        have h3:(B.take i)[j]=B.getD j ([],0):=by rw [getD_lt (by omega)];simp
        rw [h3,hat j (by omega),hat i hib] at hw2
        exact srt_key hr (p:=j) (q:=i) (by omega) (by omega) hw2
      refine ⟨by omega,by omega,hsm,fun _=>⟨fun _=>⟨fun h1=>absurd h1 hnew,fun _=>⟨fun h0=>?_,fun h0=>?_⟩⟩,fun h1=>absurd f1.symm h1⟩,fun h1=>absurd f2.symm h1⟩
      · have e:((i:Int) - 1).toNat=i - 1:=by omega
        rw [e]
        have hlt:=srt_lt hr (p:=i - 1) (q:=i) (by omega) (by omega)
        rw [← hat (i - 1) (by omega),← hat i hib,ltB_iff] at hlt
        refine ⟨by unfold i64R;omega,by omega,fun h1=>?_,fun h1=>⟨by unfold i64R;omega,by omega,fun h2=>⟨by unfold i64R;omega,by omega,fun h3=>?_,fun h3=>?_⟩,fun h2=>?_⟩⟩
        · exfalso; rcases hlt with h4 | ⟨h4,_⟩ <;> omega
        · exfalso
          rcases hlt with h4 | ⟨_,h4⟩
          · omega
          · rw [h4] at h3;cases h3
        · exact ⟨by unfold i64R;omega,⟨i+1,by omega⟩,by dsimp only;omega,by repeat' (first | rfl | exact hst | apply And.intro)⟩
        · exact ⟨by unfold i64R;omega,⟨i+1,by omega⟩,by dsimp only;omega,by repeat' (first | rfl | exact hst | apply And.intro)⟩
      · exact ⟨by unfold i64R;omega,⟨i+1,by omega⟩,by dsimp only;omega,by repeat' (first | rfl | exact hst | apply And.intro)⟩
    · rw [List.take_of_length_le (show B.length≤i by omega)]
      refine ⟨⟨⟨0,Nat.zero_le _⟩,by repeat' (first | rfl | apply And.intro)⟩,?_⟩
      rintro ⟨j,hj⟩
      dsimp only
      refine ⟨fun h2=>⟨by omega,fun h3=>⟨fun h4=>?_,fun h4=>?_⟩,fun h3=>?_⟩,fun _=>by trivial⟩
      · have hjA:j < A.length:=by omega
        have hw:A.getD j ([],0)∈A:=by rw [getD_lt hjA];exact List.getElem_mem _
        have ho:¬ ∃ x∈(srtB A).take k.toNat,x.1=(A.getD j ([],0)).1:=by
          rw [hB,← met_get]
          simpa using h3
        have hlt:=srt_out hr hw ho (by rw [hB];omega)
        rw [hB,ltB_iff] at hlt
        have e:((B.length:Int) - 1).toNat=B.length - 1:=by omega
        rw [e]
        refine ⟨by unfold i64R;omega,by omega,fun h5=>?_,fun h5=>⟨fun h6=>⟨fun h7=>?_,fun h7=>?_⟩,fun h6=>?_⟩⟩
        · exfalso; rcases hlt with h8 | ⟨h8,_⟩ <;> omega
        · exfalso
          rcases hlt with h8 | ⟨_,h8⟩
          · omega
          · rw [sl_asy h8] at h7;cases h7
        · exact ⟨by unfold i64R;omega,⟨j+1,by omega⟩,by dsimp only;omega,by repeat' (first | rfl | apply And.intro)⟩
        · exact ⟨by unfold i64R;omega,⟨j+1,by omega⟩,by dsimp only;omega,by repeat' (first | rfl | apply And.intro)⟩
      · exact ⟨by unfold i64R;omega,⟨j+1,by omega⟩,by dsimp only;omega,by repeat' (first | rfl | apply And.intro)⟩
      · exact ⟨by unfold i64R;omega,⟨j+1,by omega⟩,by dsimp only;omega,by repeat' (first | rfl | apply And.intro)⟩))
end Go.EA
