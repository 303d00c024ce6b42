/- Comparing texts; the first number that is not nought. Conditions: none. (Printed by a program of this project's own.) -/
import Derived.Test.YtpgjilomblpcpaaDoorEAf4
import Derived.Test.YtpgjilomblpcpaaDoorEK9
import Derived.Test.YtpgjilomblpcpaaDoorEMean1
import Derived.KernelRfl
set_option linter.unusedVariables false
set_option linter.unusedSimpArgs false
set_option maxRecDepth 100000
set_option maxHeartbeats 0
namespace Go.EA
open F
def cmpS (a b:List UInt8):Int:=if sless a b=true then -1 else if a=b then 0 else 1
def orV (l:List Int):Int:=(l.find? fun x=>!decide (x=0)).getD 0
theorem orV_none {l:List Int} (h:l.all (fun x=>decide (x=0))=true):0=orV l:=by
  unfold orV
  rw [List.find?_eq_none.2 (fun x hx=>by have:=List.all_eq_true.1 h x hx;simp at this;simp [this])];rfl
def P252:List UInt8×List UInt8→List SV:=fun (a,b)=>[.one (.str a),.one (.str b)]
def R252:List UInt8×List UInt8→SV×List Prop:=fun (a,b)=>(.one (.int .i64 (cmpS a b)),[])
def K252:Con:=⟨true,[none,none],fun xs=>match xs with | [.one (.str a),.one (.str b)]=>some (R252 (a,b)) | _=>none⟩
noncomputable def G252:GP:=conG P252 R252
theorem P252_inj:∀ a b,(P252 a).map den0=(P252 b).map den0→a=b:=by
  rintro ⟨a0,a1⟩ ⟨b0,b1⟩ h
  simp only [P252,List.map_cons,List.map_nil,den0,den0L,List.cons.injEq,AV.one.injEq,AV.agg.injEq,Lf.int.injEq,Lf.str.injEq,Lf.bool.injEq,Lf.vrow.injEq,and_true,true_and,and_assoc] at h
  obtain ⟨h0,h1⟩:=h
  subst h0 h1
  rfl
theorem K252_ok:ConG G252 K252:=conG_of P252_inj (fun ⟨_,_⟩ ⟨_,_⟩=>rfl) (fun ⟨_,_⟩=>rfl) fun xs r h=>by
  simp only [K252] at h
  split at h
  · cases h;rename_i a b;exact ⟨(a,b),rfl,rfl⟩
  · cases h
theorem pr252 {S:SC} (hB:SB S)  (h261:S.has 261 f261) (h252:S.has 252 f252):PrOk S 252 (pureP G252):=by
  refine prM hB [(261,f261)] [] ⟨h261,trivial⟩ trivial h252 (fun ⟨a,b⟩=>⟨rfl,rfl,rfl⟩) (fun (a,b)=>fun _ _ _ _=>none) 400 ?_
  rintro ⟨a,b⟩ hc
  refine VC.use (p:=
    ((a=a →
      ((b=b →
        ((sless a b=true →
          (-1=cmpS a b)) ∧
        (¬sless a b = true →
         (((!(sless a b||decide (a=b)))=true →
           (1=cmpS a b)) ∧
         (¬(!(sless a b || decide (a = b))) = true →
          (0=cmpS a b)))))) ∧
      (¬b = b →
       (1=cmpS a b)))) ∧
    (¬a = a →
     ((b=b →
       (-1=cmpS a b)) ∧
     (¬b = b →
      (0=cmpS a b)))))) (by kernel_rfl) ?_
  unfold cmpS
  repeat' (first | intro _ | apply And.intro)
  all_goals first
    | (exfalso;simp_all;done)
    | (simp_all;done)
end Go.EA
