/- Comparing texts; the first number that is not nought. Conditions: none. (Printed by a program of this project's own.) -/
import Derived.Test.YtfkejbbajggmnaaDoorEAf4
import Derived.Test.YtfkejbbajggmnaaDoorEK9
import Derived.Test.YtfkejbbajggmnaaDoorEMean1
import Derived.KernelRfl
set_option linter.unusedVariables false
set_option linter.unusedSimpArgs false
set_option maxRecDepth 100000
set_option maxHeartbeats 0
namespace Go.EA
open F
def cmpS (a b:List UInt8):Int:=if sless a b=true then -1 else if a=b then 0 else 1
def orV (l:List Int):Int:=(l.find? fun x=>!decide (x=0)).getD 0
theorem orV_find {l:List Int} {i:Nat} (h:(l.take i).all (fun x=>decide (x=0))=true) (hi:i < l.length) (h0:¬ l.getD i 0=0):l.getD i 0=orV l:=by
  unfold orV
  have e:l=l.take i++(l.getD i 0::l.drop (i+1)):=by
    rw [List.getD_eq_getElem?_getD,List.getElem?_eq_getElem hi,Option.getD_some,← List.drop_eq_getElem_cons hi,List.take_append_drop]
  have:(l.find? fun x=>!decide (x=0))=some (l.getD i 0):=by
    conv=>lhs;rw [e]
    rw [List.find?_append,List.find?_eq_none.2 (fun x hx=>by have:=List.all_eq_true.1 h x hx;simp at this;simp [this])]
    simp only [Option.none_or,List.find?_cons]
    rw [decide_eq_false h0];rfl
  rw [this];rfl
theorem orV_none {l:List Int} (h:l.all (fun x=>decide (x=0))=true):0=orV l:=by
  unfold orV
  rw [List.find?_eq_none.2 (fun x hx=>by have:=List.all_eq_true.1 h x hx;simp at this;simp [this])];rfl
theorem takeL_all {α:Type} {p:α→Bool} {l:List α} {d:α} {i:Nat} (h:(l.take i).all p=true) (hi:i < l.length) (hp:p (l.getD i d)=true):(l.take (i+1)).all p=true:=by
  rw [List.take_add_one,List.getElem?_eq_getElem hi,List.all_append,h]
  rw [List.getD_eq_getElem?_getD,List.getElem?_eq_getElem hi] at hp
  simpa using hp
theorem allL_take {α:Type} {p:α→Bool} {l:List α} {i:Nat} (h:(l.take i).all p=true) (hi:l.length≤i):l.all p=true:=by rwa [List.take_of_length_le hi] at h
def P252:List UInt8×List UInt8→List SV:=fun (a,b)=>[.one (.str a),.one (.str b)]
def R252:List UInt8×List UInt8→SV×List Prop:=fun (a,b)=>(.one (.int .i64 (cmpS a b)),[])
def K252:Con:=⟨true,[none,none],fun xs=>match xs with | [.one (.str a),.one (.str b)]=>some (R252 (a,b)) | _=>none⟩
noncomputable def G252:GP:=conG P252 R252
theorem P252_inj:∀ a b,(P252 a).map den0=(P252 b).map den0→a=b:=by
  rintro ⟨a0,a1⟩ ⟨b0,b1⟩ h
  simp only [P252,List.map_cons,List.map_nil,den0,den0L,List.cons.injEq,AV.one.injEq,AV.agg.injEq,Lf.int.injEq,Lf.str.injEq,Lf.bool.injEq,Lf.vrow.injEq,and_true,true_and,and_assoc] at h
  obtain ⟨h0,h1⟩:=h
  subst h0 h1
  rfl
theorem K252_ok:ConG G252 K252:=conG_of P252_inj (fun ⟨_,_⟩ ⟨_,_⟩=>rfl) (fun ⟨_,_⟩=>rfl) fun xs r h=>by
  simp only [K252] at h
  split at h
  · cases h;rename_i a b;exact ⟨(a,b),rfl,rfl⟩
  · cases h
theorem pr252 {S:SC} (hB:SB S)  (h261:S.has 261 f261) (h252:S.has 252 f252):PrOk S 252 (pureP G252):=by
  refine prM hB [(261,f261)] [] ⟨h261,trivial⟩ trivial h252 (fun ⟨a,b⟩=>⟨rfl,rfl,rfl⟩) (fun (a,b)=>fun _ _ _ _=>none) 400 ?_
  rintro ⟨a,b⟩ hc
  refine VC.use (p:=
    ((a=a →
      ((b=b →
        ((sless a b=true →
          (-1=cmpS a b)) ∧
        (¬sless a b = true →
         (((!(sless a b||decide (a=b)))=true →
           (1=cmpS a b)) ∧
         (¬(!(sless a b || decide (a = b))) = true →
          (0=cmpS a b)))))) ∧
      (¬b = b →
       (1=cmpS a b)))) ∧
    (¬a = a →
     ((b=b →
       (-1=cmpS a b)) ∧
     (¬b = b →
      (0=cmpS a b)))))) (by kernel_rfl) ?_
  unfold cmpS
  repeat' (first | intro _ | apply And.intro)
  all_goals first
    | (exfalso;simp_all;done)
    | (simp_all;done)
def P251:List Int→List SV:=fun l=>[.one (.row (.int .i64) l)]
def R251:List Int→SV×List Prop:=fun l=>(.one (.int .i64 (orV l)),[l.length≤1099511627776])
def K251:Con:=⟨true,[some (.int .i64)],fun xs=>match xs with | [.one (.row (.int .i64) l)]=>some (R251 l) | _=>none⟩
noncomputable def G251:GP:=conG P251 R251
theorem P251_inj:∀ a b,(P251 a).map den0=(P251 b).map den0→a=b:=by
  rintro a0 b0 h
  simp only [P251,List.map_cons,List.map_nil,den0,den0L,List.cons.injEq,AV.one.injEq,AV.agg.injEq,Lf.int.injEq,Lf.str.injEq,Lf.bool.injEq,Lf.vrow.injEq,and_true,true_and] at h
  exact row_inj h
theorem K251_ok:ConG G251 K251:=conG_of P251_inj (fun _ _=>rfl) (fun _=>rfl) fun xs r h=>by
  simp only [K251] at h
  split at h
  · cases h;rename_i l;exact ⟨l,rfl,rfl⟩
  · cases h
theorem pr251 {S:SC} (hB:SB S)  (h251:S.has 251 f251):PrOk S 251 (pureP G251):=by
  refine prM hB [] [] trivial trivial h251 (fun _=>⟨rfl,rfl,rfl⟩) (fun l=>fun f id T L=>match f,id with
      | 251,0=>some (.inv { i:Nat // i≤l.length∧(l.take i).all (fun x=>decide (x=0))=true } (fun x=>([(8,.one (.int .i64 x.1))],[])) (fun x=>l.length - x.1))
      | _,_=>none) 400 ?_
  rintro l hc
  have hc1:l.length≤1099511627776:=hc.1
  refine VC.use (p:=
    ((∃ x1:{ i:Nat // i≤l.length∧((List.take i l).all fun x=>decide (x=0))=true },
      (((0:Int)=(0:Int)) ∧
      ((l=l) ∧
      (((↑l.length:Int)=(↑l.length:Int)) ∧
      (0=(↑x1.val:Int)))))) ∧
    (∀ x1 : { i : Nat // i ≤ l.length ∧ ((List.take i l).all fun x => decide (x = 0)) = true },
     (((↑x1.val:Int) < (↑l.length:Int) →
       ((0≤(↑x1.val:Int)∧(↑x1.val:Int) < (↑l.length:Int)) ∧
       ((l.getD x1.val 0=0 →
         ((i64R ((↑x1.val:Int)+1)) ∧
         (∃ x2 : { i : Nat // i ≤ l.length ∧ ((List.take i l).all fun x => decide (x = 0)) = true },
          ((l.length - x2.val < l.length - x1.val) ∧
          (((0:Int)=(0:Int)) ∧
          ((l=l) ∧
          (((↑l.length:Int)=(↑l.length:Int)) ∧
          ((↑x1.val:Int)+1=(↑x2.val:Int))))))))) ∧
       (¬l.getD x1.val 0 = 0 →
        (l.getD x1.val 0=orV l))))) ∧
     (¬(↑x1.val : Int) < (↑l.length : Int) →
      (0=orV l)))))) (by kernel_rfl) ?_
  refine ⟨⟨⟨0,by omega,rfl⟩,rfl,rfl,rfl,rfl⟩,?_⟩
  rintro ⟨i,hi,ha⟩
  dsimp only at hi ha ⊢
  exact ⟨fun h=>⟨by omega,fun h1=>⟨by unfold i64R;omega,⟨⟨i+1,by omega,takeL_all ha (by omega) (by simpa using h1)⟩,by dsimp only;omega,rfl,rfl,rfl,by push_cast;rfl⟩⟩,fun h1=>orV_find ha (by omega) h1⟩,fun h=>orV_none (allL_take ha (by omega))⟩
end Go.EA
