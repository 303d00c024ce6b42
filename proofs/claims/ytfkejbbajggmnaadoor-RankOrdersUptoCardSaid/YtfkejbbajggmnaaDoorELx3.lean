/- Layer 9: which of two words is more frequent. Conditions: none. (Printed by a program of this project's own.) -/
import Derived.Test.YtfkejbbajggmnaaDoorEK12
import Derived.Test.YtfkejbbajggmnaaDoorERu
import Derived.Test.YtfkejbbajggmnaaDoorEAf1
import Derived.Test.YtfkejbbajggmnaaDoorEK9
import Derived.Test.YtfkejbbajggmnaaDoorEOrder
import Derived.Test.YtfkejbbajggmnaaDoorENorm2
import Derived.Test.YtfkejbbajggmnaaDoorEMean3
import Derived.Test.YtfkejbbajggmnaaDoorERx
import Derived.Test.YtfkejbbajggmnaaDoorEMean1
import Derived.KernelRfl
set_option linter.unusedVariables false
set_option linter.unusedSimpArgs false
set_option maxRecDepth 100000
set_option maxHeartbeats 0
namespace Go.EA
open F
def cmpJ (a b:Int):Int:=if a < b then -1 else if b < a then 1 else 0
def P345:Int→List SV:=fun a=>[.one (.int .i64 a)]
def R345:Int→SV×List Prop:=fun a=>(.one (.bool false),[])
def K345:Con:=⟨true,[none],fun xs=>match xs with | [.one (.int .i64 a)]=>some (R345 a) | _=>none⟩
noncomputable def G345:GP:=conG P345 R345
theorem P345_inj:∀ a b,(P345 a).map den0=(P345 b).map den0→a=b:=by
  rintro a0 b0 h
  simp only [P345,List.map_cons,List.map_nil,den0,den0L,List.cons.injEq,AV.one.injEq,AV.agg.injEq,Lf.int.injEq,Lf.str.injEq,Lf.bool.injEq,Lf.vrow.injEq,and_true,true_and] at h
  exact h
theorem K345_ok:ConG G345 K345:=conG_of P345_inj (fun _ _=>rfl) (fun _=>rfl) fun xs r h=>by
  simp only [K345] at h
  split at h
  · cases h;rename_i a;exact ⟨a,rfl,rfl⟩
  · cases h
theorem pr345 {S:SC} (hB:SB S)  (h345:S.has 345 f345):PrOk S 345 (pureP G345):=by
  refine prM hB [] [] trivial trivial h345 (fun _=>⟨rfl,rfl,rfl⟩) (fun a=>fun _ _ _ _=>none) 400 ?_
  rintro a hc
  refine VC.use (p:=
    ((!decide (a=a))=false)) (by kernel_rfl) ?_
  simp
def P328:Int×Int→List SV:=fun (a,b)=>[.one (.int .i64 a),.one (.int .i64 b)]
def R328:Int×Int→SV×List Prop:=fun (a,b)=>(.one (.int .i64 (cmpJ a b)),[])
def K328:Con:=⟨true,[none,none],fun xs=>match xs with | [.one (.int .i64 a),.one (.int .i64 b)]=>some (R328 (a,b)) | _=>none⟩
noncomputable def G328:GP:=conG P328 R328
theorem P328_inj:∀ a b,(P328 a).map den0=(P328 b).map den0→a=b:=by
  rintro ⟨a0,a1⟩ ⟨b0,b1⟩ h
  simp only [P328,List.map_cons,List.map_nil,den0,den0L,List.cons.injEq,AV.one.injEq,AV.agg.injEq,Lf.int.injEq,Lf.str.injEq,Lf.bool.injEq,Lf.vrow.injEq,and_true,true_and,and_assoc] at h
  obtain ⟨h0,h1⟩:=h
  subst h0 h1
  rfl
theorem K328_ok:ConG G328 K328:=conG_of P328_inj (fun ⟨_,_⟩ ⟨_,_⟩=>rfl) (fun ⟨_,_⟩=>rfl) fun xs r h=>by
  simp only [K328] at h
  split at h
  · cases h;rename_i a b;exact ⟨(a,b),rfl,rfl⟩
  · cases h
theorem pr328 {S:SC} (hB:SB S) (q345:PrOk S 345 (pureP G345)) (h328:S.has 328 f328):PrOk S 328 (pureP G328):=by
  refine prM hB [] [⟨345,G345,K345⟩] trivial ⟨⟨q345,K345_ok⟩,trivial⟩ h328 (fun ⟨a,b⟩=>⟨rfl,rfl,rfl⟩) (fun (a,b)=>fun _ _ _ _=>none) 400 ?_
  rintro ⟨a,b⟩ hc
  refine VC.use (p:=
    ((false=true →
      ((false=true →
        (0=cmpJ a b)) ∧
      (¬false = true →
       (-1=cmpJ a b)))) ∧
    (¬false = true →
     ((false=true →
       (1=cmpJ a b)) ∧
     (¬false = true →
      ((a < b →
        (-1=cmpJ a b)) ∧
      (¬a < b →
       ((b < a →
         (1=cmpJ a b)) ∧
       (¬b < a →
        (0=cmpJ a b)))))))))) (by kernel_rfl) ?_
  refine ⟨fun h=>(by cases h),fun _=>⟨fun h=>(by cases h),fun _=>⟨fun h=>?_,fun h=>⟨fun h1=>?_,fun h1=>?_⟩⟩⟩⟩
  all_goals
    unfold cmpJ
    split <;> (try split) <;> omega
end Go.EA
