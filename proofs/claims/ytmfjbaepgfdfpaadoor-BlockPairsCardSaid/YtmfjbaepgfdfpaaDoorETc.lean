/- Layer 4: the reference's distance and steps. Conditions: none. (Printed by a program of this project's own.) -/
import Derived.Test.YtmfjbaepgfdfpaaDoorETb
import Derived.Test.YtmfjbaepgfdfpaaDoorERf
import Derived.Test.YtmfjbaepgfdfpaaDoorESp4
import Derived.KernelRfl
set_option linter.unusedVariables false
set_option linter.unusedSimpArgs false
set_option maxRecDepth 100000
set_option maxHeartbeats 0
namespace Go.EA
open F
theorem kind_ref {a b:List Int} {i j:Nat} (hi:i≤a.length) (hj:j≤b.length) (h0:0 < i+j) :
    (0 < i→0 < j→a.getD (i - 1) 0=b.getD (j - 1) 0→Dt a b i j=Dt a b (i - 1) (j - 1)→kindL (rv a i) (rv b j)=0) ∧
    (0 < i→0 < j→¬ a.getD (i - 1) 0=b.getD (j - 1) 0→Dt a b i j=Dt a b (i - 1) (j - 1)+1→kindL (rv a i) (rv b j)=1) ∧
    (0 < i→(0 < j→¬ Dt a b i j=Dt a b (i - 1) (j - 1)+(if a.getD (i - 1) 0=b.getD (j - 1) 0 then 0 else 1))→Dt a b i j=Dt a b (i - 1) j+1→kindL (rv a i) (rv b j)=2) ∧
    ((0 < i→¬ Dt a b i j=Dt a b (i - 1) j+1)→(0 < i→0 < j→¬ Dt a b i j=Dt a b (i - 1) (j - 1)+(if a.getD (i - 1) 0=b.getD (j - 1) 0 then 0 else 1))→kindL (rv a i) (rv b j)=3):=by
  cases i with
  | zero=>
    cases j with
    | zero=>omega
    | succ j=>
      rw [rv_zero,rv_succ (by omega)]
      exact ⟨fun h=>by omega,fun h=>by omega,fun h=>by omega,fun _ _=>rfl⟩
  | succ i=>
    cases j with
    | zero=>
      have e1:=Dt_00 a b (i:=i+1) (by omega)
      have e2:=Dt_00 a b (i:=i) (by omega)
      rw [rv_zero,rv_succ (by omega)]
      refine ⟨fun _ h=>by omega,fun _ h=>by omega,fun _ _ _=>rfl,fun h=>?_⟩
      have:=h (by omega)
      rw [Nat.add_sub_cancel,e1,e2] at this
      exact absurd (by push_cast;rfl) this
    | succ j=>
      have m:=Dt_ss (a:=a) (b:=b) (i:=i) (j:=j) (by omega) (by omega)
      rw [Nat.add_sub_cancel,Nat.add_sub_cancel]
      have e:kindL (rv a (i+1)) (rv b (j+1))=(let m:=Dt a b i j+if a.getD i 0=b.getD j 0 then 0 else 1
        let d:=Dt a b i (j+1)+1
        let k:=Dt a b (i+1) j+1
        if k < min m d then 3 else if d < m then 2 else if a.getD i 0=b.getD j 0 then 0 else 1):=by
        unfold Dt
        rw [rv_succ (l:=a) (by omega),rv_succ (l:=b) (by omega)]
        simp only [kindL]
        split <;> (congr 1 <;> first | (rw [eq_iff_iff]; omega) | skip)
        all_goals (congr 1 <;> first | (rw [eq_iff_iff]; omega) | skip)
      rw [e]
      dsimp only
      clear e
      generalize Dt a b (i+1) (j+1)=D at *
      generalize Dt a b i j=D1 at *
      generalize Dt a b i (j+1)=D2 at *
      generalize Dt a b (i+1) j=D3 at *
      by_cases h:a.getD i 0=b.getD j 0
      · simp only [if_pos h] at m ⊢
        refine ⟨fun _ _ _ h1=>?_,fun _ _ h1=>absurd h h1,fun _ h1 h2=>?_,fun h1 h2=>?_⟩
        · rw [if_neg (by omega),if_neg (by omega)]
        · have:=h1 (by omega);rw [if_neg (by omega),if_pos (by omega)]
        · have:=h1 (by omega);have:=h2 (by omega) (by omega);rw [if_pos (by omega)]
      · simp only [if_neg h] at m ⊢
        refine ⟨fun _ _ h1=>absurd h1 h,fun _ _ _ h1=>?_,fun _ h1 h2=>?_,fun h1 h2=>?_⟩
        · rw [if_neg (by omega),if_neg (by omega)]
        · have:=h1 (by omega);rw [if_neg (by omega),if_pos (by omega)]
        · have:=h1 (by omega);have:=h2 (by omega) (by omega);rw [if_pos (by omega)]
theorem tabV_len (a b:List Int):(tabV a b).length=a.length+1:=tabR_len _ _ _
theorem tabV_row {a b:List Int} {i:Nat} (hi:i≤a.length):(tabV a b).getD i []=rowD a b i:=by
  rw [tabV,tabR_get hi,if_pos (by omega)]
theorem walk_k {a b:List Int} {i j:Nat} {o:List Stp} (hi:i≤a.length) (hj:j≤b.length) (h:o++walkL (rv a i) (rv b j)=walkL a.reverse b.reverse) (h0:0 < i+j) :
    (kindL (rv a i) (rv b j)=0→(o++[(0,a.getD (i - 1) 0,b.getD (j - 1) 0)])++walkL (rv a (i - 1)) (rv b (j - 1))=walkL a.reverse b.reverse) ∧
    (kindL (rv a i) (rv b j)=1→(o++[(1,a.getD (i - 1) 0,b.getD (j - 1) 0)])++walkL (rv a (i - 1)) (rv b (j - 1))=walkL a.reverse b.reverse) ∧
    (kindL (rv a i) (rv b j)=2→(o++[(2,a.getD (i - 1) 0,0)])++walkL (rv a (i - 1)) (rv b j)=walkL a.reverse b.reverse) ∧
    (kindL (rv a i) (rv b j)=3→(o++[(3,0,b.getD (j - 1) 0)])++walkL (rv a i) (rv b (j - 1))=walkL a.reverse b.reverse):=
  ⟨fun hk=>(walk_next hi hj h h0 hk.symm).2.2,fun hk=>(walk_next hi hj h h0 hk.symm).2.2,fun hk=>(walk_next hi hj h h0 hk.symm).2.2,fun hk=>(walk_next hi hj h h0 hk.symm).2.2⟩
theorem rev_take {o:List Stp} {p:Nat} (hp:p < o.length):o.reverse.take p++[o.getD (o.length - 1 - p) (0,0,0)]=o.reverse.take (p+1):=by
  rw [List.take_add_one,List.getElem?_reverse hp,List.getD_eq_getElem?_getD,List.getElem?_eq_getElem (by omega)]
  rfl
def P215:List UInt8×List UInt8→List SV:=fun (s,t)=>[.one (.str s),.one (.str t)]
def R215:List UInt8×List UInt8→SV×List Prop:=fun (s,t)=>(.tup [.o (.row StpT (stepsV s t)),.o (.int .i64 (twoE s t))],[s.length≤1099511627776,t.length≤1099511627776])
def K215:Con:=⟨false,[none,none],fun xs=>match xs with | [.one (.str s),.one (.str t)]=>some (R215 (s,t)) | _=>none⟩
noncomputable def G215:GP:=conG P215 R215
theorem P215_inj:∀ a b,(P215 a).map den0=(P215 b).map den0→a=b:=by
  rintro ⟨a0,a1⟩ ⟨b0,b1⟩ h
  simp only [P215,List.map_cons,List.map_nil,den0,den0L,List.cons.injEq,AV.one.injEq,AV.agg.injEq,Lf.int.injEq,Lf.str.injEq,Lf.bool.injEq,Lf.vrow.injEq,and_true,true_and,and_assoc] at h
  obtain ⟨h0,h1⟩:=h
  subst h0 h1
  rfl
theorem K215_ok:ConG G215 K215:=conG_of P215_inj (fun ⟨_,_⟩ ⟨_,_⟩=>rfl) (fun ⟨_,_⟩=>rfl) fun xs r h=>by
  simp only [K215] at h
  split at h
  · cases h;rename_i s t;exact ⟨(s,t),rfl,rfl⟩
  · cases h
theorem pr215 {S:SC} (hB:SB S) (q21:PrOk S 21 (pureP G21)) (q242:PrOk S 242 (pureP G242)) (h241:S.has 241 f241) (h215:S.has 215 f215):PrOk S 215 (pureP G215):=by
  refine prM hB [(241,f241)] [⟨21,G21,K21⟩,⟨242,G242,K242⟩] ⟨h241,trivial⟩ ⟨⟨q21,K21_ok⟩,⟨q242,K242_ok⟩,trivial⟩ h215 (fun ⟨s,t⟩=>⟨rfl,rfl,rfl⟩) (fun (s,t)=>fun f id T L=>match f,id with
      | 215,0=>match T.getD 6 .junk,T.getD 7 .junk with | .one (.row (.int .i32) a),.one (.row (.int .i32) b)=>some (.inv (Walk a b) (fun x=>([(11,.one (.int .i64 x.1.1)),(12,.one (.int .i64 x.1.2.1)),(10,.one (.osl 0))],[(0,.row StpT x.1.2.2)])) (fun x=>x.1.1+x.1.2.1)) | _,_=>none
      | 215,3=>match L.getD 0 .dead with | .row (.pair (.int .i64) (.pair (.int .i32) (.int .i32))) o=>some (.inv { p:Nat // p≤o.length } (fun x=>([(14,.one (.int .i64 ((o.length:Int) - 1 - x.1))),(13,.one (.osl 1))],[(1,.row StpT (o.reverse.take x.1))])) (fun x=>o.length - x.1)) | _=>none
      | 215,3052=>match T.getD 34 .junk with | .one .tt=>some (.rnd 1) | .one .ff=>some (.rnd 0) | _=>none
      | 215,3109=>match T.getD 52 .junk with | .one .tt=>some (.rnd 1) | .one .ff=>some (.rnd 0) | _=>none
      | 215,3113=>match T.getD 56 .junk with | .one .tt=>some (.rnd 1) | .one .ff=>some (.rnd 0) | _=>none
      | 215,3126=>match T.getD 69 .junk with | .one .tt=>some (.rnd 0) | .one .ff=>some (.rnd 1) | _=>none
      | 215,3167=>match T.getD 52 .junk with | .one .tt=>some (.rnd 1) | .one .ff=>some (.rnd 0) | _=>none
      | _,_=>none) 3000 ?_
  rintro ⟨s,t⟩ hc
  have hc1:s.length≤1099511627776:=hc.1
  have hc2:t.length≤1099511627776:=hc.2.1
  refine VC.use (p:=
    ((s.length≤1099511627776) ∧
    ((tokE s=0 →
      ((t.length≤1099511627776) ∧
      ((tokE t=0 →
        (((tokR s).length≤1099511627776) ∧
        (((tokR t).length≤1099511627776) ∧
        ((∃ x1:Walk (tokR s) (tokR t),
          ((tokR s=tokR s) ∧
          ((tokR t=tokR t) ∧
          ((tabV (tokR s) (tokR t)=tabV (tokR s) (tokR t)) ∧
          ((x1.val.snd.snd=[]) ∧
          (((↑(tokR s).length:Int)=(↑x1.val.fst:Int)) ∧
          (((↑(tokR t).length:Int)=(↑x1.val.snd.fst:Int)) ∧
          (x1.val.snd.snd=[])))))))) ∧
        (∀ x1 : Walk (tokR s) (tokR t),
         ((0 < (↑x1.val.fst:Int) →
           ((0 < (↑x1.val.fst:Int)) ∧
           ((0 < (↑x1.val.snd.fst:Int) →
             ((i64R ((↑x1.val.fst:Int) - 1)) ∧
             ((0≤(↑x1.val.fst:Int) - 1∧(↑x1.val.fst:Int) - 1 < (↑(tokR s).length:Int)) ∧
             ((i64R ((↑x1.val.snd.fst:Int) - 1)) ∧
             ((0≤(↑x1.val.snd.fst:Int) - 1∧(↑x1.val.snd.fst:Int) - 1 < (↑(tokR t).length:Int)) ∧
             (((tokR s).getD ((↑x1.val.fst:Int) - 1).toNat 0=(tokR t).getD ((↑x1.val.snd.fst:Int) - 1).toNat 0 →
               ((0≤(↑x1.val.fst:Int)∧(↑x1.val.fst:Int) < (↑(tabV (tokR s) (tokR t)).length:Int)) ∧
               ((0≤(↑x1.val.snd.fst:Int)∧(↑x1.val.snd.fst:Int) < (↑(List.length ((tabV (tokR s) (tokR t)).getD x1.val.fst [])):Int)) ∧
               ((i64R ((↑x1.val.fst:Int) - 1)) ∧
               ((0≤(↑x1.val.fst:Int) - 1∧(↑x1.val.fst:Int) - 1 < (↑(tabV (tokR s) (tokR t)).length:Int)) ∧
               ((i64R ((↑x1.val.snd.fst:Int) - 1)) ∧
               ((0≤(↑x1.val.snd.fst:Int) - 1∧(↑x1.val.snd.fst:Int) - 1 < (↑(List.length ((tabV (tokR s) (tokR t)).getD ((↑x1.val.fst:Int) - 1).toNat [])):Int)) ∧
               ((List.getD ((tabV (tokR s) (tokR t)).getD x1.val.fst []) x1.val.snd.fst 0=List.getD ((tabV (tokR s) (tokR t)).getD ((↑x1.val.fst:Int) - 1).toNat []) ((↑x1.val.snd.fst:Int) - 1).toNat 0 →
                 ((i64R ((↑x1.val.fst:Int) - 1)) ∧
                 ((0≤(↑x1.val.fst:Int) - 1∧(↑x1.val.fst:Int) - 1 < (↑(tokR s).length:Int)) ∧
                 ((i64R ((↑x1.val.snd.fst:Int) - 1)) ∧
                 ((0≤(↑x1.val.snd.fst:Int) - 1∧(↑x1.val.snd.fst:Int) - 1 < (↑(tokR t).length:Int)) ∧
                 (((x1.val.snd.snd.length+[(0,(tokR s).getD ((↑x1.val.fst:Int) - 1).toNat 0,(tokR t).getD ((↑x1.val.snd.fst:Int) - 1).toNat 0)].length)*16≤140737488355328) ∧
                 ((i64R ((↑x1.val.fst:Int) - 1)) ∧
                 ((i64R ((↑x1.val.snd.fst:Int) - 1)) ∧
                 (∃ x2 : Walk (tokR s) (tokR t),
                  ((x2.val.fst+x2.val.snd.fst < x1.val.fst+x1.val.snd.fst) ∧
                  ((tokR s=tokR s) ∧
                  ((tokR t=tokR t) ∧
                  ((tabV (tokR s) (tokR t)=tabV (tokR s) (tokR t)) ∧
                  (((↑x1.val.fst:Int) - 1=(↑x2.val.fst:Int)) ∧
                  (((↑x1.val.snd.fst:Int) - 1=(↑x2.val.snd.fst:Int)) ∧
                  (x1.val.snd.snd++[(0,(tokR s).getD ((↑x1.val.fst:Int) - 1).toNat 0,(tokR t).getD ((↑x1.val.snd.fst:Int) - 1).toNat 0)]=x2.val.snd.snd)))))))))))))))) ∧
               (¬List.getD ((tabV (tokR s) (tokR t)).getD x1.val.fst []) x1.val.snd.fst 0 = List.getD ((tabV (tokR s) (tokR t)).getD ((↑x1.val.fst : Int) - 1).toNat []) ((↑x1.val.snd.fst : Int) - 1).toNat 0 →
                ((0 < (↑x1.val.fst:Int)) ∧
                ((0 < (↑x1.val.snd.fst:Int)) ∧
                ((i64R ((↑x1.val.fst:Int) - 1)) ∧
                ((0≤(↑x1.val.fst:Int) - 1∧(↑x1.val.fst:Int) - 1 < (↑(tokR s).length:Int)) ∧
                ((i64R ((↑x1.val.snd.fst:Int) - 1)) ∧
                ((0≤(↑x1.val.snd.fst:Int) - 1∧(↑x1.val.snd.fst:Int) - 1 < (↑(tokR t).length:Int)) ∧
                (((tokR s).getD ((↑x1.val.fst:Int) - 1).toNat 0=(tokR t).getD ((↑x1.val.snd.fst:Int) - 1).toNat 0) ∧
                ((0 < (↑x1.val.fst:Int)) ∧
                ((0≤(↑x1.val.fst:Int)∧(↑x1.val.fst:Int) < (↑(tabV (tokR s) (tokR t)).length:Int)) ∧
                ((0≤(↑x1.val.snd.fst:Int)∧(↑x1.val.snd.fst:Int) < (↑(List.length ((tabV (tokR s) (tokR t)).getD x1.val.fst [])):Int)) ∧
                ((i64R ((↑x1.val.fst:Int) - 1)) ∧
                ((0≤(↑x1.val.fst:Int) - 1∧(↑x1.val.fst:Int) - 1 < (↑(tabV (tokR s) (tokR t)).length:Int)) ∧
                ((0≤(↑x1.val.snd.fst:Int)∧(↑x1.val.snd.fst:Int) < (↑(List.length ((tabV (tokR s) (tokR t)).getD ((↑x1.val.fst:Int) - 1).toNat [])):Int)) ∧
                ((i64R (List.getD ((tabV (tokR s) (tokR t)).getD ((↑x1.val.fst:Int) - 1).toNat []) x1.val.snd.fst 0+1)) ∧
                ((List.getD ((tabV (tokR s) (tokR t)).getD x1.val.fst []) x1.val.snd.fst 0=List.getD ((tabV (tokR s) (tokR t)).getD ((↑x1.val.fst:Int) - 1).toNat []) x1.val.snd.fst 0+1 →
                  ((i64R ((↑x1.val.fst:Int) - 1)) ∧
                  ((0≤(↑x1.val.fst:Int) - 1∧(↑x1.val.fst:Int) - 1 < (↑(tokR s).length:Int)) ∧
                  (((x1.val.snd.snd.length+[(2,(tokR s).getD ((↑x1.val.fst:Int) - 1).toNat 0,0)].length)*16≤140737488355328) ∧
                  ((i64R ((↑x1.val.fst:Int) - 1)) ∧
                  (∃ x2 : Walk (tokR s) (tokR t),
                   ((x2.val.fst+x2.val.snd.fst < x1.val.fst+x1.val.snd.fst) ∧
                   ((tokR s=tokR s) ∧
                   ((tokR t=tokR t) ∧
                   ((tabV (tokR s) (tokR t)=tabV (tokR s) (tokR t)) ∧
                   (((↑x1.val.fst:Int) - 1=(↑x2.val.fst:Int)) ∧
                   (((↑x1.val.snd.fst:Int)=(↑x2.val.snd.fst:Int)) ∧
                   (x1.val.snd.snd++[(2,(tokR s).getD ((↑x1.val.fst:Int) - 1).toNat 0,0)]=x2.val.snd.snd))))))))))))) ∧
                (¬List.getD ((tabV (tokR s) (tokR t)).getD x1.val.fst []) x1.val.snd.fst 0 = List.getD ((tabV (tokR s) (tokR t)).getD ((↑x1.val.fst : Int) - 1).toNat []) x1.val.snd.fst 0 + 1 →
                 ((i64R ((↑x1.val.snd.fst:Int) - 1)) ∧
                 ((0≤(↑x1.val.snd.fst:Int) - 1∧(↑x1.val.snd.fst:Int) - 1 < (↑(tokR t).length:Int)) ∧
                 (((x1.val.snd.snd.length+[(3,0,(tokR t).getD ((↑x1.val.snd.fst:Int) - 1).toNat 0)].length)*16≤140737488355328) ∧
                 ((i64R ((↑x1.val.snd.fst:Int) - 1)) ∧
                 (∃ x2 : Walk (tokR s) (tokR t),
                  ((x2.val.fst+x2.val.snd.fst < x1.val.fst+x1.val.snd.fst) ∧
                  ((tokR s=tokR s) ∧
                  ((tokR t=tokR t) ∧
                  ((tabV (tokR s) (tokR t)=tabV (tokR s) (tokR t)) ∧
                  (((↑x1.val.fst:Int)=(↑x2.val.fst:Int)) ∧
                  (((↑x1.val.snd.fst:Int) - 1=(↑x2.val.snd.fst:Int)) ∧
                  (x1.val.snd.snd++[(3,0,(tokR t).getD ((↑x1.val.snd.fst:Int) - 1).toNat 0)]=x2.val.snd.snd))))))))))))))))))))))))))))))))))))) ∧
             (¬(tokR s).getD ((↑x1.val.fst : Int) - 1).toNat 0 = (tokR t).getD ((↑x1.val.snd.fst : Int) - 1).toNat 0 →
              ((0 < (↑x1.val.fst:Int)) ∧
              ((0 < (↑x1.val.snd.fst:Int)) ∧
              ((i64R ((↑x1.val.fst:Int) - 1)) ∧
              ((0≤(↑x1.val.fst:Int) - 1∧(↑x1.val.fst:Int) - 1 < (↑(tokR s).length:Int)) ∧
              ((i64R ((↑x1.val.snd.fst:Int) - 1)) ∧
              ((0≤(↑x1.val.snd.fst:Int) - 1∧(↑x1.val.snd.fst:Int) - 1 < (↑(tokR t).length:Int)) ∧
              ((¬(tokR s).getD ((↑x1.val.fst:Int) - 1).toNat 0=(tokR t).getD ((↑x1.val.snd.fst:Int) - 1).toNat 0) ∧
              ((0≤(↑x1.val.fst:Int)∧(↑x1.val.fst:Int) < (↑(tabV (tokR s) (tokR t)).length:Int)) ∧
              ((0≤(↑x1.val.snd.fst:Int)∧(↑x1.val.snd.fst:Int) < (↑(List.length ((tabV (tokR s) (tokR t)).getD x1.val.fst [])):Int)) ∧
              ((i64R ((↑x1.val.fst:Int) - 1)) ∧
              ((0≤(↑x1.val.fst:Int) - 1∧(↑x1.val.fst:Int) - 1 < (↑(tabV (tokR s) (tokR t)).length:Int)) ∧
              ((i64R ((↑x1.val.snd.fst:Int) - 1)) ∧
              ((0≤(↑x1.val.snd.fst:Int) - 1∧(↑x1.val.snd.fst:Int) - 1 < (↑(List.length ((tabV (tokR s) (tokR t)).getD ((↑x1.val.fst:Int) - 1).toNat [])):Int)) ∧
              ((i64R (List.getD ((tabV (tokR s) (tokR t)).getD ((↑x1.val.fst:Int) - 1).toNat []) ((↑x1.val.snd.fst:Int) - 1).toNat 0+1)) ∧
              ((List.getD ((tabV (tokR s) (tokR t)).getD x1.val.fst []) x1.val.snd.fst 0=List.getD ((tabV (tokR s) (tokR t)).getD ((↑x1.val.fst:Int) - 1).toNat []) ((↑x1.val.snd.fst:Int) - 1).toNat 0+1 →
                ((i64R ((↑x1.val.fst:Int) - 1)) ∧
                ((0≤(↑x1.val.fst:Int) - 1∧(↑x1.val.fst:Int) - 1 < (↑(tokR s).length:Int)) ∧
                ((i64R ((↑x1.val.snd.fst:Int) - 1)) ∧
                ((0≤(↑x1.val.snd.fst:Int) - 1∧(↑x1.val.snd.fst:Int) - 1 < (↑(tokR t).length:Int)) ∧
                (((x1.val.snd.snd.length+[(1,(tokR s).getD ((↑x1.val.fst:Int) - 1).toNat 0,(tokR t).getD ((↑x1.val.snd.fst:Int) - 1).toNat 0)].length)*16≤140737488355328) ∧
                ((i64R ((↑x1.val.fst:Int) - 1)) ∧
                ((i64R ((↑x1.val.snd.fst:Int) - 1)) ∧
                (∃ x2 : Walk (tokR s) (tokR t),
                 ((x2.val.fst+x2.val.snd.fst < x1.val.fst+x1.val.snd.fst) ∧
                 ((tokR s=tokR s) ∧
                 ((tokR t=tokR t) ∧
                 ((tabV (tokR s) (tokR t)=tabV (tokR s) (tokR t)) ∧
                 (((↑x1.val.fst:Int) - 1=(↑x2.val.fst:Int)) ∧
                 (((↑x1.val.snd.fst:Int) - 1=(↑x2.val.snd.fst:Int)) ∧
                 (x1.val.snd.snd++[(1,(tokR s).getD ((↑x1.val.fst:Int) - 1).toNat 0,(tokR t).getD ((↑x1.val.snd.fst:Int) - 1).toNat 0)]=x2.val.snd.snd)))))))))))))))) ∧
              (¬List.getD ((tabV (tokR s) (tokR t)).getD x1.val.fst []) x1.val.snd.fst 0 = List.getD ((tabV (tokR s) (tokR t)).getD ((↑x1.val.fst : Int) - 1).toNat []) ((↑x1.val.snd.fst : Int) - 1).toNat 0 + 1 →
               ((0 < (↑x1.val.fst:Int)) ∧
               ((0≤(↑x1.val.fst:Int)∧(↑x1.val.fst:Int) < (↑(tabV (tokR s) (tokR t)).length:Int)) ∧
               ((0≤(↑x1.val.snd.fst:Int)∧(↑x1.val.snd.fst:Int) < (↑(List.length ((tabV (tokR s) (tokR t)).getD x1.val.fst [])):Int)) ∧
               ((i64R ((↑x1.val.fst:Int) - 1)) ∧
               ((0≤(↑x1.val.fst:Int) - 1∧(↑x1.val.fst:Int) - 1 < (↑(tabV (tokR s) (tokR t)).length:Int)) ∧
               ((0≤(↑x1.val.snd.fst:Int)∧(↑x1.val.snd.fst:Int) < (↑(List.length ((tabV (tokR s) (tokR t)).getD ((↑x1.val.fst:Int) - 1).toNat [])):Int)) ∧
               ((i64R (List.getD ((tabV (tokR s) (tokR t)).getD ((↑x1.val.fst:Int) - 1).toNat []) x1.val.snd.fst 0+1)) ∧
               ((List.getD ((tabV (tokR s) (tokR t)).getD x1.val.fst []) x1.val.snd.fst 0=List.getD ((tabV (tokR s) (tokR t)).getD ((↑x1.val.fst:Int) - 1).toNat []) x1.val.snd.fst 0+1 →
                 ((i64R ((↑x1.val.fst:Int) - 1)) ∧
                 ((0≤(↑x1.val.fst:Int) - 1∧(↑x1.val.fst:Int) - 1 < (↑(tokR s).length:Int)) ∧
                 (((x1.val.snd.snd.length+[(2,(tokR s).getD ((↑x1.val.fst:Int) - 1).toNat 0,0)].length)*16≤140737488355328) ∧
                 ((i64R ((↑x1.val.fst:Int) - 1)) ∧
                 (∃ x2 : Walk (tokR s) (tokR t),
                  ((x2.val.fst+x2.val.snd.fst < x1.val.fst+x1.val.snd.fst) ∧
                  ((tokR s=tokR s) ∧
                  ((tokR t=tokR t) ∧
                  ((tabV (tokR s) (tokR t)=tabV (tokR s) (tokR t)) ∧
                  (((↑x1.val.fst:Int) - 1=(↑x2.val.fst:Int)) ∧
                  (((↑x1.val.snd.fst:Int)=(↑x2.val.snd.fst:Int)) ∧
                  (x1.val.snd.snd++[(2,(tokR s).getD ((↑x1.val.fst:Int) - 1).toNat 0,0)]=x2.val.snd.snd))))))))))))) ∧
               (¬List.getD ((tabV (tokR s) (tokR t)).getD x1.val.fst []) x1.val.snd.fst 0 = List.getD ((tabV (tokR s) (tokR t)).getD ((↑x1.val.fst : Int) - 1).toNat []) x1.val.snd.fst 0 + 1 →
                ((i64R ((↑x1.val.snd.fst:Int) - 1)) ∧
                ((0≤(↑x1.val.snd.fst:Int) - 1∧(↑x1.val.snd.fst:Int) - 1 < (↑(tokR t).length:Int)) ∧
                (((x1.val.snd.snd.length+[(3,0,(tokR t).getD ((↑x1.val.snd.fst:Int) - 1).toNat 0)].length)*16≤140737488355328) ∧
                ((i64R ((↑x1.val.snd.fst:Int) - 1)) ∧
                (∃ x2 : Walk (tokR s) (tokR t),
                 ((x2.val.fst+x2.val.snd.fst < x1.val.fst+x1.val.snd.fst) ∧
                 ((tokR s=tokR s) ∧
                 ((tokR t=tokR t) ∧
                 ((tabV (tokR s) (tokR t)=tabV (tokR s) (tokR t)) ∧
                 (((↑x1.val.fst:Int)=(↑x2.val.fst:Int)) ∧
                 (((↑x1.val.snd.fst:Int) - 1=(↑x2.val.snd.fst:Int)) ∧
                 (x1.val.snd.snd++[(3,0,(tokR t).getD ((↑x1.val.snd.fst:Int) - 1).toNat 0)]=x2.val.snd.snd)))))))))))))))))))))))))))))))))))))))))))) ∧
           (¬0 < (↑x1.val.snd.fst : Int) →
            ((0 < (↑x1.val.fst:Int)) ∧
            ((¬0 < (↑x1.val.snd.fst:Int)) ∧
            ((0 < (↑x1.val.fst:Int)) ∧
            ((0≤(↑x1.val.fst:Int)∧(↑x1.val.fst:Int) < (↑(tabV (tokR s) (tokR t)).length:Int)) ∧
            ((0≤(↑x1.val.snd.fst:Int)∧(↑x1.val.snd.fst:Int) < (↑(List.length ((tabV (tokR s) (tokR t)).getD x1.val.fst [])):Int)) ∧
            ((i64R ((↑x1.val.fst:Int) - 1)) ∧
            ((0≤(↑x1.val.fst:Int) - 1∧(↑x1.val.fst:Int) - 1 < (↑(tabV (tokR s) (tokR t)).length:Int)) ∧
            ((0≤(↑x1.val.snd.fst:Int)∧(↑x1.val.snd.fst:Int) < (↑(List.length ((tabV (tokR s) (tokR t)).getD ((↑x1.val.fst:Int) - 1).toNat [])):Int)) ∧
            ((i64R (List.getD ((tabV (tokR s) (tokR t)).getD ((↑x1.val.fst:Int) - 1).toNat []) x1.val.snd.fst 0+1)) ∧
            ((List.getD ((tabV (tokR s) (tokR t)).getD x1.val.fst []) x1.val.snd.fst 0=List.getD ((tabV (tokR s) (tokR t)).getD ((↑x1.val.fst:Int) - 1).toNat []) x1.val.snd.fst 0+1 →
              ((i64R ((↑x1.val.fst:Int) - 1)) ∧
              ((0≤(↑x1.val.fst:Int) - 1∧(↑x1.val.fst:Int) - 1 < (↑(tokR s).length:Int)) ∧
              (((x1.val.snd.snd.length+[(2,(tokR s).getD ((↑x1.val.fst:Int) - 1).toNat 0,0)].length)*16≤140737488355328) ∧
              ((i64R ((↑x1.val.fst:Int) - 1)) ∧
              (∃ x2 : Walk (tokR s) (tokR t),
               ((x2.val.fst+x2.val.snd.fst < x1.val.fst+x1.val.snd.fst) ∧
               ((tokR s=tokR s) ∧
               ((tokR t=tokR t) ∧
               ((tabV (tokR s) (tokR t)=tabV (tokR s) (tokR t)) ∧
               (((↑x1.val.fst:Int) - 1=(↑x2.val.fst:Int)) ∧
               (((↑x1.val.snd.fst:Int)=(↑x2.val.snd.fst:Int)) ∧
               (x1.val.snd.snd++[(2,(tokR s).getD ((↑x1.val.fst:Int) - 1).toNat 0,0)]=x2.val.snd.snd))))))))))))) ∧
            (¬List.getD ((tabV (tokR s) (tokR t)).getD x1.val.fst []) x1.val.snd.fst 0 = List.getD ((tabV (tokR s) (tokR t)).getD ((↑x1.val.fst : Int) - 1).toNat []) x1.val.snd.fst 0 + 1 →
             ((i64R ((↑x1.val.snd.fst:Int) - 1)) ∧
             ((0≤(↑x1.val.snd.fst:Int) - 1∧(↑x1.val.snd.fst:Int) - 1 < (↑(tokR t).length:Int)) ∧
             (((x1.val.snd.snd.length+[(3,0,(tokR t).getD ((↑x1.val.snd.fst:Int) - 1).toNat 0)].length)*16≤140737488355328) ∧
             ((i64R ((↑x1.val.snd.fst:Int) - 1)) ∧
             (∃ x2 : Walk (tokR s) (tokR t),
              ((x2.val.fst+x2.val.snd.fst < x1.val.fst+x1.val.snd.fst) ∧
              ((tokR s=tokR s) ∧
              ((tokR t=tokR t) ∧
              ((tabV (tokR s) (tokR t)=tabV (tokR s) (tokR t)) ∧
              (((↑x1.val.fst:Int)=(↑x2.val.fst:Int)) ∧
              (((↑x1.val.snd.fst:Int) - 1=(↑x2.val.snd.fst:Int)) ∧
              (x1.val.snd.snd++[(3,0,(tokR t).getD ((↑x1.val.snd.fst:Int) - 1).toNat 0)]=x2.val.snd.snd))))))))))))))))))))))))))) ∧
         (¬0 < (↑x1.val.fst : Int) →
          ((0 < (↑x1.val.snd.fst:Int) →
            ((¬0 < (↑x1.val.fst:Int)) ∧
            ((¬0 < (↑x1.val.fst:Int)) ∧
            ((¬0 < (↑x1.val.fst:Int)) ∧
            ((i64R ((↑x1.val.snd.fst:Int) - 1)) ∧
            ((0≤(↑x1.val.snd.fst:Int) - 1∧(↑x1.val.snd.fst:Int) - 1 < (↑(tokR t).length:Int)) ∧
            (((x1.val.snd.snd.length+[(3,0,(tokR t).getD ((↑x1.val.snd.fst:Int) - 1).toNat 0)].length)*16≤140737488355328) ∧
            ((i64R ((↑x1.val.snd.fst:Int) - 1)) ∧
            (∃ x2 : Walk (tokR s) (tokR t),
             ((x2.val.fst+x2.val.snd.fst < x1.val.fst+x1.val.snd.fst) ∧
             ((tokR s=tokR s) ∧
             ((tokR t=tokR t) ∧
             ((tabV (tokR s) (tokR t)=tabV (tokR s) (tokR t)) ∧
             (((↑x1.val.fst:Int)=(↑x2.val.fst:Int)) ∧
             (((↑x1.val.snd.fst:Int) - 1=(↑x2.val.snd.fst:Int)) ∧
             (x1.val.snd.snd++[(3,0,(tokR t).getD ((↑x1.val.snd.fst:Int) - 1).toNat 0)]=x2.val.snd.snd)))))))))))))))) ∧
          (¬0 < (↑x1.val.snd.fst : Int) →
           ((i64R ((↑x1.val.snd.snd.length:Int) - 1)) ∧
           ((∃ x2:{ p:Nat // p≤x1.val.snd.snd.length },
             ((List.take x2.val x1.val.snd.snd.reverse=[]) ∧
             (((↑x1.val.snd.snd.length:Int) - 1=(↑x1.val.snd.snd.length:Int) - 1 - (↑x2.val:Int)) ∧
             ((x1.val.snd.snd=x1.val.snd.snd) ∧
             (List.take x2.val x1.val.snd.snd.reverse=[]))))) ∧
           (∀ x2 : { p : Nat // p ≤ x1.val.snd.snd.length },
            ((0≤(↑x1.val.snd.snd.length:Int) - 1 - (↑x2.val:Int) →
              ((0≤(↑x1.val.snd.snd.length:Int) - 1 - (↑x2.val:Int)∧(↑x1.val.snd.snd.length:Int) - 1 - (↑x2.val:Int) < (↑x1.val.snd.snd.length:Int)) ∧
              ((((↑x1.val.snd.snd.length:Int) - 1 - (↑x2.val:Int)).toNat < x1.val.snd.snd.length) ∧
              ((((List.take x2.val x1.val.snd.snd.reverse).length+[((x1.val.snd.snd.getD ((↑x1.val.snd.snd.length:Int) - 1 - (↑x2.val:Int)).toNat (0,0,0)).fst,(x1.val.snd.snd.getD ((↑x1.val.snd.snd.length:Int) - 1 - (↑x2.val:Int)).toNat (0,0,0)).snd.fst,(x1.val.snd.snd.getD ((↑x1.val.snd.snd.length:Int) - 1 - (↑x2.val:Int)).toNat (0,0,0)).snd.snd)].length)*16≤140737488355328) ∧
              ((i64R ((↑x1.val.snd.snd.length:Int) - 1 - (↑x2.val:Int) - 1)) ∧
              (∃ x3 : { p : Nat // p ≤ x1.val.snd.snd.length },
               ((x1.val.snd.snd.length - x3.val < x1.val.snd.snd.length - x2.val) ∧
               (((↑x1.val.snd.snd.length:Int) - 1 - (↑x2.val:Int) - 1=(↑x1.val.snd.snd.length:Int) - 1 - (↑x3.val:Int)) ∧
               ((x1.val.snd.snd=x1.val.snd.snd) ∧
               (List.take x2.val x1.val.snd.snd.reverse++[((x1.val.snd.snd.getD ((↑x1.val.snd.snd.length:Int) - 1 - (↑x2.val:Int)).toNat (0,0,0)).fst,(x1.val.snd.snd.getD ((↑x1.val.snd.snd.length:Int) - 1 - (↑x2.val:Int)).toNat (0,0,0)).snd.fst,(x1.val.snd.snd.getD ((↑x1.val.snd.snd.length:Int) - 1 - (↑x2.val:Int)).toNat (0,0,0)).snd.snd)]=List.take x3.val x1.val.snd.snd.reverse)))))))))) ∧
            (¬0 ≤ (↑x1.val.snd.snd.length : Int) - 1 - (↑x2.val : Int) →
             ((List.take x2.val x1.val.snd.snd.reverse=stepsV s t) ∧
             (0=twoE s t)))))))))))))))) ∧
      (¬tokE t = 0 →
       ((stepsV s t=[]) ∧
       (tokE t=twoE s t)))))) ∧
    (¬tokE s = 0 →
     ((tokE s=0 →
       (((0:Nat)≤(1099511627776:Nat)) ∧
       (((0:Nat)≤(1099511627776:Nat)) ∧
       False))) ∧
     (¬tokE s = 0 →
      ((stepsV s t=[]) ∧
      (tokE s=twoE s t)))))))) (by kernel_rfl) ?_
  have ha:=tok64 (s:=s)
  have hb:=tok64 (s:=t)
  refine ⟨hc1,fun h1=>⟨hc2,fun h2=>?_,fun h2=>?_⟩,fun h1=>⟨fun h3=>absurd h3 h1,fun _=>?_⟩⟩
  rotate_left
  · have:=(two_b h1 h2).1;exact ⟨stepsV_no (by omega),this⟩
  · have:=(two_a (t:=t) h1).1;exact ⟨stepsV_no (by omega),this⟩
  have hE:=two_ok h1 h2
  refine ⟨by omega,by omega,⟨⟨((tokR s).length,(tokR t).length,[]),Nat.le_refl _,Nat.le_refl _,walk_start _ _⟩,rfl,rfl,rfl,rfl,rfl,rfl,rfl⟩,?_⟩
  rintro ⟨⟨i,j,o⟩,hw⟩
  have hwl:=walk_len hw
  obtain ⟨hi,hj,hw⟩:=hw
  dsimp only at hi hj hw hwl ⊢
  have t1:((i:Int) - 1).toNat=i - 1:=by omega
  have t2:((j:Int) - 1).toNat=j - 1:=by omega
  have g0:(tabV (tokR s) (tokR t)).getD i []=rowD (tokR s) (tokR t) i:=tabV_row hi
  have g1:(tabV (tokR s) (tokR t)).getD (i - 1) []=rowD (tokR s) (tokR t) (i - 1):=tabV_row (by omega)
  have r0:(rowD (tokR s) (tokR t) i).getD j 0=Dt (tokR s) (tokR t) i j:=rowD_get hj
  have r1:(rowD (tokR s) (tokR t) (i - 1)).getD j 0=Dt (tokR s) (tokR t) (i - 1) j:=rowD_get hj
  have r2:(rowD (tokR s) (tokR t) (i - 1)).getD (j - 1) 0=Dt (tokR s) (tokR t) (i - 1) (j - 1):=rowD_get (by omega)
  have b1:=Dt_r (tokR s) (tokR t) (i:=i - 1) (j:=j) (by omega) hj
  have b2:=Dt_r (tokR s) (tokR t) (i:=i - 1) (j:=j - 1) (by omega) (by omega)
  simp only [t1,t2,g0,g1,tabV_len,rowD_len,r0,r1,r2]
  refine ⟨fun h3=>⟨h3,fun h4=>?_,fun h4=>?_⟩,fun h3=>⟨fun h4=>?_,fun h4=>?_⟩⟩
  · refine ⟨by unfold i64R;omega,by omega,by unfold i64R;omega,by omega,fun h5=>?_,fun h5=>?_⟩
    · refine ⟨by omega,by omega,by unfold i64R;omega,by omega,by unfold i64R;omega,by omega,fun h6=>?_,fun h6=>?_⟩
      · have W:=(walk_k (a:=tokR s) (b:=tokR t) hi hj hw (by omega)).1 ((kind_ref (a:=tokR s) (b:=tokR t) hi hj (by omega)).1 (by omega) (by omega) h5 h6)
        exact ⟨by unfold i64R;omega,by omega,by unfold i64R;omega,by omega,by simp only [List.length_cons,List.length_nil];omega,by unfold i64R;omega,by unfold i64R;omega,⟨⟨(i - 1,j - 1,o++[(0,(tokR s).getD (i - 1) 0,(tokR t).getD (j - 1) 0)]),by dsimp only;omega,by dsimp only;omega,W⟩,by dsimp only;omega,trivial,trivial,trivial,by first | rfl | (dsimp only;omega),by first | rfl | (dsimp only;omega),rfl⟩⟩
      · have hm:0 < j→¬ Dt (tokR s) (tokR t) i j=Dt (tokR s) (tokR t) (i - 1) (j - 1)+(if (tokR s).getD (i - 1) 0=(tokR t).getD (j - 1) 0 then 0 else 1):=fun _=>by rw [if_pos h5];omega
        refine ⟨h3,h4,by unfold i64R;omega,by omega,by unfold i64R;omega,by omega,h5,h3,by omega,by omega,by unfold i64R;omega,by omega,by omega,by unfold i64R;omega,fun h7=>?_,fun h7=>?_⟩
        · have W:=(walk_k (a:=tokR s) (b:=tokR t) hi hj hw (by omega)).2.2.1 ((kind_ref (a:=tokR s) (b:=tokR t) hi hj (by omega)).2.2.1 (by omega) hm h7)
          exact ⟨by unfold i64R;omega,by omega,by simp only [List.length_cons,List.length_nil];omega,by unfold i64R;omega,⟨⟨(i - 1,j,o++[(2,(tokR s).getD (i - 1) 0,0)]),by dsimp only;omega,by dsimp only;omega,W⟩,by dsimp only;omega,trivial,trivial,trivial,by first | rfl | (dsimp only;omega),by first | rfl | (dsimp only;omega),rfl⟩⟩
        · have W:=(walk_k (a:=tokR s) (b:=tokR t) hi hj hw (by omega)).2.2.2 ((kind_ref (a:=tokR s) (b:=tokR t) hi hj (by omega)).2.2.2 (fun _=>h7) (fun _=>hm))
          exact ⟨by unfold i64R;omega,by omega,by simp only [List.length_cons,List.length_nil];omega,by unfold i64R;omega,⟨⟨(i,j - 1,o++[(3,0,(tokR t).getD (j - 1) 0)]),by dsimp only;omega,by dsimp only;omega,W⟩,by dsimp only;omega,trivial,trivial,trivial,by first | rfl | (dsimp only;omega),by first | rfl | (dsimp only;omega),rfl⟩⟩
    · refine ⟨h3,h4,by unfold i64R;omega,by omega,by unfold i64R;omega,by omega,h5,by omega,by omega,by unfold i64R;omega,by omega,by unfold i64R;omega,by omega,by unfold i64R;omega,fun h6=>?_,fun h6=>?_⟩
      · have W:=(walk_k (a:=tokR s) (b:=tokR t) hi hj hw (by omega)).2.1 ((kind_ref (a:=tokR s) (b:=tokR t) hi hj (by omega)).2.1 (by omega) (by omega) h5 h6)
        exact ⟨by unfold i64R;omega,by omega,by unfold i64R;omega,by omega,by simp only [List.length_cons,List.length_nil];omega,by unfold i64R;omega,by unfold i64R;omega,⟨⟨(i - 1,j - 1,o++[(1,(tokR s).getD (i - 1) 0,(tokR t).getD (j - 1) 0)]),by dsimp only;omega,by dsimp only;omega,W⟩,by dsimp only;omega,trivial,trivial,trivial,by first | rfl | (dsimp only;omega),by first | rfl | (dsimp only;omega),rfl⟩⟩
      · have hm:0 < j→¬ Dt (tokR s) (tokR t) i j=Dt (tokR s) (tokR t) (i - 1) (j - 1)+(if (tokR s).getD (i - 1) 0=(tokR t).getD (j - 1) 0 then 0 else 1):=fun _=>by rw [if_neg h5];omega
        refine ⟨h3,by omega,by omega,by unfold i64R;omega,by omega,by omega,by unfold i64R;omega,fun h7=>?_,fun h7=>?_⟩
        · have W:=(walk_k (a:=tokR s) (b:=tokR t) hi hj hw (by omega)).2.2.1 ((kind_ref (a:=tokR s) (b:=tokR t) hi hj (by omega)).2.2.1 (by omega) hm h7)
          exact ⟨by unfold i64R;omega,by omega,by simp only [List.length_cons,List.length_nil];omega,by unfold i64R;omega,⟨⟨(i - 1,j,o++[(2,(tokR s).getD (i - 1) 0,0)]),by dsimp only;omega,by dsimp only;omega,W⟩,by dsimp only;omega,trivial,trivial,trivial,by first | rfl | (dsimp only;omega),by first | rfl | (dsimp only;omega),rfl⟩⟩
        · have W:=(walk_k (a:=tokR s) (b:=tokR t) hi hj hw (by omega)).2.2.2 ((kind_ref (a:=tokR s) (b:=tokR t) hi hj (by omega)).2.2.2 (fun _=>h7) (fun _=>hm))
          exact ⟨by unfold i64R;omega,by omega,by simp only [List.length_cons,List.length_nil];omega,by unfold i64R;omega,⟨⟨(i,j - 1,o++[(3,0,(tokR t).getD (j - 1) 0)]),by dsimp only;omega,by dsimp only;omega,W⟩,by dsimp only;omega,trivial,trivial,trivial,by first | rfl | (dsimp only;omega),by first | rfl | (dsimp only;omega),rfl⟩⟩
  · have e1:Dt (tokR s) (tokR t) i j=i:=by rw [show j=0 by omega];exact Dt_00 _ _ hi
    have e2:Dt (tokR s) (tokR t) (i - 1) j=((i - 1:Nat):Int):=by rw [show j=0 by omega];exact Dt_00 _ _ (by omega)
    refine ⟨h3,h4,h3,by omega,by omega,by unfold i64R;omega,by omega,by omega,by unfold i64R;omega,fun h7=>?_,fun h7=>by omega⟩
    have W:=(walk_k (a:=tokR s) (b:=tokR t) hi hj hw (by omega)).2.2.1 ((kind_ref (a:=tokR s) (b:=tokR t) hi hj (by omega)).2.2.1 (by omega) (fun h=>by omega) h7)
    exact ⟨by unfold i64R;omega,by omega,by simp only [List.length_cons,List.length_nil];omega,by unfold i64R;omega,⟨⟨(i - 1,j,o++[(2,(tokR s).getD (i - 1) 0,0)]),by dsimp only;omega,by dsimp only;omega,W⟩,by dsimp only;omega,trivial,trivial,trivial,by first | rfl | (dsimp only;omega),by first | rfl | (dsimp only;omega),rfl⟩⟩
  · have W:=(walk_k (a:=tokR s) (b:=tokR t) hi hj hw (by omega)).2.2.2 ((kind_ref (a:=tokR s) (b:=tokR t) hi hj (by omega)).2.2.2 (fun h=>by omega) (fun h=>by omega))
    exact ⟨h3,h3,h3,by unfold i64R;omega,by omega,by simp only [List.length_cons,List.length_nil];omega,by unfold i64R;omega,⟨⟨(i,j - 1,o++[(3,0,(tokR t).getD (j - 1) 0)]),by dsimp only;omega,by dsimp only;omega,W⟩,by dsimp only;omega,trivial,trivial,trivial,by first | rfl | (dsimp only;omega),by first | rfl | (dsimp only;omega),rfl⟩⟩
  · have ho:=walk_end hw (by omega)
    refine ⟨by unfold i64R;omega,⟨⟨0,by omega⟩,rfl,by dsimp only;omega,trivial,rfl⟩,?_⟩
    rintro ⟨p,hp⟩
    dsimp only at hp ⊢
    refine ⟨fun h5=>?_,fun h5=>⟨?_,hE.1.symm⟩⟩
    · have e2:((o.length:Int) - 1 - p).toNat=o.length - 1 - p:=by omega
      have hx:∀ x:Stp,(x.1,x.2.1,x.2.2)=x:=fun _=>rfl
      have ht:=rev_take (o:=o) (p:=p) (by omega)
      rw [e2,hx]
      generalize o.getD (o.length - 1 - p) (0,0,0)=x at ht ⊢
      exact ⟨by omega,by omega,by simp only [List.length_cons,List.length_nil,List.length_take,List.length_reverse];omega,by unfold i64R;omega,⟨p+1,by omega⟩,by dsimp only;omega,by dsimp only;omega,trivial,ht⟩
    · rw [List.take_of_length_le (by simp;omega),ho,stepsV_ok h1 h2]
end Go.EA
