/- Layer 4: laws of steps. Conditions: none. (Printed by a program of this project's own.) -/
import Derived.Test.YtmfjbaepgfdfpaaDoorELw8
import Derived.Test.YtmfjbaepgfdfpaaDoorERd
import Derived.Test.YtmfjbaepgfdfpaaDoorEWl
import Derived.Test.YtmfjbaepgfdfpaaDoorEK9
import Derived.KernelRfl
set_option linter.unusedVariables false
set_option linter.unusedSimpArgs false
set_option maxRecDepth 100000
set_option maxHeartbeats 0
namespace Go.EA
open F
theorem two_zero {s t:List UInt8} (h:twoE s t=0):tokE s=0∧tokE t=0:=by
  unfold twoE at h
  by_cases h1:tokE s=0
  · rw [if_neg (by simpa using h1)] at h;exact ⟨h1,h⟩
  · rw [if_pos h1] at h;exact absurd h h1
section
variable {s t:List UInt8}
theorem steps_cost (h:tokE s=0) (h1:tokE t=0):costL (stepsV s t)=distV s t∧(tokR s).length≤(stepsV s t).length∧(stepsV s t).length≤128:=by
  obtain ⟨g1,g2⟩:=walk_all (tokR s).reverse (tokR t).reverse
  have hr:=g1.rd
  have hl:=walkL_len (tokR s).reverse (tokR t).reverse
  have ha:=tok64 (s:=s)
  have hb:=tok64 (s:=t)
  have hc:=rdA_len (walkL (tokR s).reverse (tokR t).reverse)
  rw [hr.1] at hc
  simp only [List.length_reverse] at hl hc
  rw [stepsV_ok h h1,costL_rev,g2,dist_ok h h1,List.length_reverse]
  exact ⟨rfl,hc,by omega⟩
theorem tok_valid (h:tokE s=0):(tokR s).all Utf8.valid=true:=by
  obtain ⟨e,hk,_⟩:=tok_ok h
  rw [e];unfold decR;rw [if_pos hk]
  exact (enc_runes s.length s (Nat.le_refl _) hk).2
theorem steps_ok (h:tokE s=0) (h1:tokE t=0):chkE (stepsV s t)=0∧readA (stepsV s t)=s∧readB (stepsV s t)=t:=by
  obtain ⟨g1,g2⟩:=walk_all (tokR s).reverse (tokR t).reverse
  have hall:(stepsV s t).all okS=true:=by
    rw [stepsV_ok h h1,List.all_reverse]
    exact g1.ok (by rw [List.all_reverse];exact tok_valid h) (by rw [List.all_reverse];exact tok_valid h1)
  obtain ⟨r1,r2⟩:=g1.rd
  refine ⟨(chk_ok hall).symm,?_,?_⟩
  · rw [readA_ok hall,stepsV_ok h h1,rdA_rev,r1,List.reverse_reverse,tok_enc h]
  · rw [readB_ok hall,stepsV_ok h h1,rdB_rev,r2,List.reverse_reverse,tok_enc h1]
theorem read_len {l:List Stp} (hc:chkE l=0):(readA l).length≤4*l.length∧(readB l).length≤4*l.length:=by
  have hall:=chk_all hc
  have a:=encLI_len _ (rdA_valid hall)
  have b:=encLI_len _ (rdB_valid hall)
  rw [encLI_eq,List.length_map] at a b
  have c:=rdA_len l
  have d:=rdB_len l
  rw [readA_ok hall,readB_ok hall]
  omega
end
end Go.EA
