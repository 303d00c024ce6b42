/- Layer 15: the first ones, and where one stands. Conditions: none. (Printed by a program of this project's own.) -/
import Derived.Test.YtfkejbbajggmnaaDoorERk2
import Derived.Test.YtfkejbbajggmnaaDoorERc1
import Derived.KernelRfl
set_option linter.unusedVariables false
set_option linter.unusedSimpArgs false
set_option maxRecDepth 100000
set_option maxHeartbeats 0
namespace Go.EA
open F
def metC (l:List Cd):List (List UInt8×Bool):=l.map fun c=>(c.1,true)
theorem metC_len (l:List Cd):(metC l).length=l.length:=by unfold metC;rw [List.length_map]
theorem metC_get (s:List UInt8):∀ (o:List Cd),((Ty.mget .str (metC o) s).getD false=true)↔hasK o s=true
  | []=>⟨fun h=>(by cases h),fun h=>(by cases h)⟩
  | c::o=>by
    have ih:=metC_get s o
    show ((match decide (c.1=s) with | true=>some true | false=>Ty.mget .str (metC o) s).getD false=true)↔_
    by_cases h:c.1=s
    · rw [decide_eq_true h];simp [hasK,h]
    · rw [decide_eq_false h];simp only [ih];simp [hasK,h]
theorem metC_put {s:List UInt8} {c:Cd} (hc:c.1=s):∀ {o:List Cd},hasK o s=false→Ty.mput .str (metC o) s true=metC (o++[c])
  | [],_=>by rw [← hc];rfl
  | d::o,h=>by
    have h1:d.1≠s∧hasK o s=false:=by simpa [hasK] using h
    show (match decide (d.1=s) with | true=>(s,true)::metC o | false=>(d.1,true)::Ty.mput .str (metC o) s true)=_
    rw [decide_eq_false h1.1,metC_put hc h1.2];rfl
theorem take_snocC {l:List Cd} {i:Nat} (h:i < l.length):l.take i++[l.getD i ([],0,0)]=l.take (i+1):=by
  rw [List.take_add_one,List.getElem?_eq_getElem h,Option.toList_some,← getC_lt h]
def P379:(List (List UInt8×Int×Int))×Int→List SV:=fun (l,k)=>[.one (.row (.pair .str (.pair (.int .i64) (.int .i64))) l),.one (.int .i64 k)]
def R379:(List (List UInt8×Int×Int))×Int→SV×List Prop:=fun (l,k)=>(.tup [.o (.row CdT (topO l k)),.o (.int .i64 (topE l k))],[l.length≤1099511627776,SmC l])
def K379:Con:=⟨false,[some (.pair .str (.pair (.int .i64) (.int .i64))),none],fun xs=>match xs with | [.one (.row (.pair .str (.pair (.int .i64) (.int .i64))) l),.one (.int .i64 k)]=>some (R379 (l,k)) | _=>none⟩
noncomputable def G379:GP:=conG P379 R379
theorem P379_inj:∀ a b,(P379 a).map den0=(P379 b).map den0→a=b:=by
  rintro ⟨a0,a1⟩ ⟨b0,b1⟩ h
  simp only [P379,List.map_cons,List.map_nil,den0,den0L,List.cons.injEq,AV.one.injEq,AV.agg.injEq,Lf.int.injEq,Lf.str.injEq,Lf.bool.injEq,Lf.vrow.injEq,and_true,true_and,and_assoc] at h
  obtain ⟨h0,h1⟩:=h
  have h0:=row_inj h0
  subst h0 h1
  rfl
theorem K379_ok:ConG G379 K379:=conG_of P379_inj (fun ⟨_,_⟩ ⟨_,_⟩=>rfl) (fun ⟨_,_⟩=>rfl) fun xs r h=>by
  simp only [K379] at h
  split at h
  · cases h;rename_i l k;exact ⟨(l,k),rfl,rfl⟩
  · cases h
theorem pr379 {S:SC} (hB:SB S) (u400:MutOk S 400 C400) (q390:PrOk S 390 (pureP G390)) (h391:S.has 391 f391) (h395:S.has 395 f395) (h396:S.has 396 f396) (h397:S.has 397 f397) (h399:S.has 399 f399) (h401:S.has 401 f401) (h402:S.has 402 f402) (h379:S.has 379 f379):PrOk S 379 (pureP G379):=by
  refine prMM hB [(391,f391),(395,f395),(396,f396),(397,f397),(399,f399),(401,f401),(402,f402)] [⟨390,G390,K390⟩] [(400,C400)] ⟨h391,h395,h396,h397,h399,h401,h402,trivial⟩ ⟨⟨q390,K390_ok⟩,trivial⟩ ⟨u400,trivial⟩ h379 (fun ⟨l,k⟩=>⟨rfl,rfl,rfl⟩) (fun (l,k)=>fun f id T L=>match f,id with
      | 401,0=>some (.inv { i:Nat // i≤l.length } (fun x=>([(7,.one (.int .i64 x.1))],[(6,.cell [.osl 8]),(8,.row CdT (l.take x.1))])) (fun x=>l.length - x.1))
      | 395,0=>match getO L 8 with | .row (.pair .str (.pair (.int .i64) (.int .i64))) y=>some (.inv { i:Nat // i≤y.length∧((onceC (y.take i)).length:Int)≤k } (fun x=>([(11,.one (.int .i64 x.1))],[(1,.cell [.osl 9]),(4,.mapo .str .bool (metC (onceC (y.take x.1)))),(9,.row CdT (onceC (y.take x.1)))])) (fun x=>y.length - x.1)) | _=>none
      | _,_=>none) 3000 ?_
  rintro ⟨l,k⟩ hc
  have hc1:l.length≤1099511627776:=hc.1
  have hc2:SmC l:=hc.2.1
  refine VC.use (p:=
    ((l.length≤1099511627776) ∧
    ((SmC l) ∧
    ((errC l=0 →
      ((k < 0 →
        ((topO l k=[]) ∧
        (2=topE l k))) ∧
      (¬k < 0 →
       ((1000 < k →
         ((topO l k=[]) ∧
         (2=topE l k))) ∧
       (¬1000 < k →
        ((∃ x1:{ i:Nat // i≤l.length },
          ((l=l) ∧
          (((↑l.length:Int)=(↑l.length:Int)) ∧
          ((0=(↑x1.val:Int)) ∧
          ((k=k) ∧
          ((l=l) ∧
          ((l=l) ∧
          ((List.take x1.val l=[]) ∧
          (List.take x1.val l=[]))))))))) ∧
        (∀ x1 : { i : Nat // i ≤ l.length },
         (((↑x1.val:Int) < (↑l.length:Int) →
           ((0≤(↑x1.val:Int)∧(↑x1.val:Int) < (↑l.length:Int)) ∧
           ((((List.take x1.val l).length+[((l.getD x1.val ([],0,0)).fst,(l.getD x1.val ([],0,0)).snd.fst,(l.getD x1.val ([],0,0)).snd.snd)].length)*32≤140737488355328) ∧
           ((i64R ((↑x1.val:Int)+1)) ∧
           (∃ x2 : { i : Nat // i ≤ l.length },
            ((l.length - x2.val < l.length - x1.val) ∧
            ((l=l) ∧
            (((↑l.length:Int)=(↑l.length:Int)) ∧
            (((↑x1.val:Int)+1=(↑x2.val:Int)) ∧
            ((k=k) ∧
            ((l=l) ∧
            ((l=l) ∧
            (List.take x1.val l++[((l.getD x1.val ([],0,0)).fst,(l.getD x1.val ([],0,0)).snd.fst,(l.getD x1.val ([],0,0)).snd.snd)]=List.take x2.val l))))))))))))) ∧
         (¬(↑x1.val : Int) < (↑l.length : Int) →
          (((List.take x1.val l).length≤1099511627776) ∧
          (∀ x2 : (List (List UInt8 × Int × Int)),
           (PI (List.take x1.val l) x2 0 (List.take x1.val l).length →
            (SrtR ltC ([], 0, 0) x2 0 (List.take x1.val l).length →
             ((∃ x3:{ i:Nat // i≤(x2).length∧(↑(onceC (List.take i (x2))).length:Int)≤k },
               (((↑(x2).length:Int)=(↑(x2).length:Int)) ∧
               ((0=(↑x3.val:Int)) ∧
               ((k=k) ∧
               ((onceC (List.take x3.val (x2))=[]) ∧
               ((l=l) ∧
               ((metC (onceC (List.take x3.val (x2)))=[]) ∧
               ((l=l) ∧
               ((x2=x2) ∧
               (onceC (List.take x3.val (x2))=[])))))))))) ∧
             (∀ x3 : { i : Nat // i ≤ (x2).length ∧ (↑(onceC (List.take i (x2))).length : Int) ≤ k },
              (((↑x3.val:Int) < (↑(x2).length:Int) →
                ((0≤(↑x3.val:Int)∧(↑x3.val:Int) < (↑(x2).length:Int)) ∧
                ((x3.val < (x2).length) ∧
                (((Ty.str.mget (metC (onceC (List.take x3.val (x2)))) ((x2).getD x3.val ([],0,0)).fst).getD false=true →
                  ((i64R ((↑x3.val:Int)+1)) ∧
                  (∃ x4 : { i : Nat // i ≤ (x2).length ∧ (↑(onceC (List.take i (x2))).length : Int) ≤ k },
                   (((x2).length - x4.val < (x2).length - x3.val) ∧
                   (((↑(x2).length:Int)=(↑(x2).length:Int)) ∧
                   (((↑x3.val:Int)+1=(↑x4.val:Int)) ∧
                   ((k=k) ∧
                   ((l=l) ∧
                   ((castM (a:=Ty.str) (b:=Ty.bool) (c:=Ty.str) (d:=Ty.bool) rfl rfl (metC (onceC (List.take x3.val (x2))))=metC (onceC (List.take x4.val (x2)))) ∧
                   ((l=l) ∧
                   ((x2=x2) ∧
                   (onceC (List.take x3.val (x2))=onceC (List.take x4.val (x2)))))))))))))) ∧
                (¬(Ty.str.mget (metC (onceC (List.take x3.val (x2)))) ((x2).getD x3.val ([], 0, 0)).fst).getD false = true →
                 (((↑(metC (onceC (List.take x3.val (x2)))).length:Int)=k →
                   ((onceC (List.take x3.val (x2))=topO l k) ∧
                   (0=topE l k))) ∧
                 (¬(↑(metC (onceC (List.take x3.val (x2)))).length : Int) = k →
                  ((((onceC (List.take x3.val (x2))).length+[(((x2).getD x3.val ([],0,0)).fst,((x2).getD x3.val ([],0,0)).snd.fst,((x2).getD x3.val ([],0,0)).snd.snd)].length)*32≤140737488355328) ∧
                  ((i64R ((↑x3.val:Int)+1)) ∧
                  (∃ x4 : { i : Nat // i ≤ (x2).length ∧ (↑(onceC (List.take i (x2))).length : Int) ≤ k },
                   (((x2).length - x4.val < (x2).length - x3.val) ∧
                   (((↑(x2).length:Int)=(↑(x2).length:Int)) ∧
                   (((↑x3.val:Int)+1=(↑x4.val:Int)) ∧
                   ((k=k) ∧
                   ((l=l) ∧
                   ((castM (a:=Ty.str) (b:=Ty.bool) (c:=Ty.str) (d:=Ty.bool) rfl rfl (Ty.str.mput (metC (onceC (List.take x3.val (x2)))) ((x2).getD x3.val ([],(0:Int),(0:Int))).fst true)=metC (onceC (List.take x4.val (x2)))) ∧
                   ((l=l) ∧
                   ((x2=x2) ∧
                   (onceC (List.take x3.val (x2))++[(((x2).getD x3.val ([],0,0)).fst,((x2).getD x3.val ([],0,0)).snd.fst,((x2).getD x3.val ([],0,0)).snd.snd)]=onceC (List.take x4.val (x2))))))))))))))))))))) ∧
              (¬(↑x3.val : Int) < (↑(x2).length : Int) →
               ((onceC (List.take x3.val (x2))=topO l k) ∧
               (0=topE l k))))))))))))))))))) ∧
    (¬errC l = 0 →
     ((topO l k=[]) ∧
     (errC l=topE l k))))))) (by kernel_rfl) ?_
  refine ⟨hc1,hc2,fun he=>⟨fun h=>top_arg he (.inl h),fun h0=>⟨fun h=>top_arg he (.inr h),fun h1=>⟨⟨⟨0,Nat.zero_le _⟩,rfl,rfl,rfl,rfl,rfl,rfl,rfl,rfl⟩,?_⟩⟩⟩,fun he=>top_bad he⟩
  rintro ⟨i,hi⟩
  dsimp only
  refine ⟨fun h=>⟨by omega,?_,by unfold i64R;omega,⟨i+1,by omega⟩,by dsimp only;omega,rfl,rfl,by push_cast;rfl,rfl,rfl,rfl,take_snocC (by omega)⟩,fun h=>?_⟩
  · rw [List.length_take,List.length_cons,List.length_nil];omega
  rw [List.take_of_length_le (show l.length≤i by omega)]
  refine ⟨hc1,fun y hy hs=>?_⟩
  have hyl:=hy.len
  rw [← hyl] at hs
  obtain rfl:=srtC_uniq hy.perm hs
  obtain ⟨t1,t2⟩:=top_of (l:=l) (k:=k) he (by omega)
  refine ⟨⟨⟨0,Nat.zero_le _,by show ((0:Nat):Int)≤k;omega⟩,rfl,rfl,rfl,rfl,rfl,rfl,rfl,rfl,rfl⟩,?_⟩
  rintro ⟨j,hj,hk⟩
  dsimp only at hk ⊢
  have hjl:(srtC l).length=l.length:=(srtC_perm l).length_eq
  have hol:=onceC_len ((srtC l).take j)
  rw [List.length_take] at hol
  have hot:=onceC_take (srtC l) j
  refine ⟨fun h2=>⟨by omega,by omega,fun h3=>?_,fun h3=>⟨fun h4=>?_,fun h4=>?_⟩⟩,fun h2=>?_⟩
  · have hst:=onceC_step (l:=srtC l) (i:=j) (by omega)
    rw [if_pos ((metC_get _ _).1 h3)] at hst
    exact ⟨by unfold i64R;omega,⟨j+1,by omega,by rw [hst];exact hk⟩,by dsimp only;omega,rfl,by push_cast;rfl,rfl,rfl,by dsimp only;rw [hst];rfl,rfl,rfl,by dsimp only;rw [hst]⟩
  · rw [metC_len] at h4
    refine ⟨?_,t2⟩
    rw [t1,hot,← h4,Int.toNat_natCast]
    rfl
  · rw [metC_len] at h4
    have hst:=onceC_step (l:=srtC l) (i:=j) (by omega)
    rw [if_neg fun e=>h3 ((metC_get _ _).2 e)] at hst
    refine ⟨?_,by unfold i64R;omega,⟨j+1,by omega,?_⟩,by dsimp only;omega,rfl,by push_cast;rfl,rfl,rfl,?_,rfl,rfl,by dsimp only;rw [hst]⟩
    · rw [List.length_cons,List.length_nil];omega
    · rw [hst,List.length_append,List.length_cons,List.length_nil];omega
    · dsimp only
      rw [hst]
      exact metC_put rfl (Bool.eq_false_iff.2 fun e=>h3 ((metC_get _ _).2 e))
  · rw [List.take_of_length_le (show (srtC l).length≤j by omega)] at hk ⊢
    refine ⟨?_,t2⟩
    rw [t1]
    exact (List.take_of_length_le (by show (onceC (srtC l)).length≤_;omega)).symm
end Go.EA
