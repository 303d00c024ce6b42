/- Layer 2: spans. Conditions: none. (Printed by a program of this project's own.) -/
import Derived.Test.YtmfjbaepgfdfpaaDoorEAf1
import Derived.Test.YtmfjbaepgfdfpaaDoorEAf2
import Derived.Test.YtmfjbaepgfdfpaaDoorEK9
import Derived.Test.YtmfjbaepgfdfpaaDoorEMean6
import Derived.Test.YtmfjbaepgfdfpaaDoorEPrim2
import Derived.Test.YtmfjbaepgfdfpaaDoorERf
import Derived.Test.YtmfjbaepgfdfpaaDoorERu
import Derived.Test.YtmfjbaepgfdfpaaDoorESpan
import Derived.KernelRfl
set_option linter.unusedVariables false
set_option linter.unusedSimpArgs false
set_option maxRecDepth 100000
set_option maxHeartbeats 0
namespace Go.EA
open F
def P51:List Int→List SV:=fun l=>[.one (.row (.int .i32) l)]
def R51:List Int→SV×List Prop:=fun l=>(.one (.str (encT l)),[l.length≤1099511627776])
def K51:Con:=⟨true,[some (.int .i32)],fun xs=>match xs with | [.one (.row (.int .i32) l)]=>some (R51 l) | _=>none⟩
noncomputable def G51:GP:=conG P51 R51
theorem P51_inj:∀ a b,(P51 a).map den0=(P51 b).map den0→a=b:=by
  rintro a0 b0 h
  simp only [P51,List.map_cons,List.map_nil,den0,den0L,List.cons.injEq,AV.one.injEq,AV.agg.injEq,Lf.int.injEq,Lf.str.injEq,Lf.bool.injEq,Lf.vrow.injEq,and_true,true_and] at h
  exact row_inj h
theorem K51_ok:ConG G51 K51:=conG_of P51_inj (fun _ _=>rfl) (fun _=>rfl) fun xs r h=>by
  simp only [K51] at h
  split at h
  · cases h;rename_i l;exact ⟨l,rfl,rfl⟩
  · cases h
theorem pr51 {S:SC} (hB:SB S) (q34:PrOk S 34 (pureP G34)) (h51:S.has 51 f51):PrOk S 51 (pureP G51):=by
  refine prM hB [] [⟨34,G34,K34⟩] trivial ⟨⟨q34,K34_ok⟩,trivial⟩ h51 (fun _=>⟨rfl,rfl,rfl⟩) (fun l=>fun _ _ _ _=>none) 400 ?_
  rintro l hc
  have hc1:l.length≤1099511627776:=hc.1
  refine VC.use (p:=
    ((l.length≤1099511627776) ∧
    (encT l=encT l))) (by kernel_rfl) ?_
  exact ⟨hc1,rfl⟩
end Go.EA
