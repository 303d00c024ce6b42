/- Layer 1: what more functions mean: tokens, letters; the reference's loop in plain words. Conditions: none. -/
import Derived.Test.YtfkejbbajggmnaaDoorEFirst
set_option linter.unusedVariables false
set_option linter.unusedSimpArgs false
namespace Go.EA
def tokE (s:List UInt8):Int:=if decE s≠0 then decE s else if decR s=[] then 4 else if 64 < (decR s).length then 5 else 0
def tokR (s:List UInt8):List Int:=if tokE s=0 then decR s else []
theorem tok_u {s:List UInt8} (h:decE s≠0):tokR s=[]∧tokE s=decE s:=by
  have e:tokE s=decE s:=by unfold tokE;rw [if_pos h]
  exact ⟨by unfold tokR;rw [e,if_neg h],e⟩
theorem tok_e {s:List UInt8} (h:decE s=0) (h1:(decR s).length=0):tokR s=[]∧tokE s=4:=by
  have e:tokE s=4:=by unfold tokE;rw [if_neg (by omega),if_pos (List.eq_nil_of_length_eq_zero h1)]
  exact ⟨by unfold tokR;rw [e];rfl,e⟩
theorem tok_l {s:List UInt8} (h:decE s=0) (h1:64 < (decR s).length):tokR s=[]∧tokE s=5:=by
  have e:tokE s=5:=by unfold tokE;rw [if_neg (by omega),if_neg (by intro g;rw [g] at h1;simp at h1),if_pos h1]
  exact ⟨by unfold tokR;rw [e];rfl,e⟩
theorem tok_k {s:List UInt8} (h:decE s=0) (h0:(decR s).length≠0) (h1:¬ 64 < (decR s).length):tokR s=decR s∧tokE s=0:=by
  have e:tokE s=0:=by unfold tokE;rw [if_neg (by omega),if_neg (by intro g;rw [g] at h0;simp at h0),if_neg h1]
  exact ⟨by unfold tokR;rw [e,if_pos rfl],e⟩
noncomputable def g4:GP:=relG pS fun s=>(.one (.bool true),[])
theorem c4 (s:List UInt8):g4 [.one (.str s)]=some (.one (.bool true),[]):=relG_eq pS_inj s
theorem d19_end {s:List UInt8} {o:List Int} (h:runes s=(o.map fun r=>(r,true))++runes []):decR s=o∧decE s=0:=by
  rw [runes_nil,List.append_nil] at h
  have hk:decOk s=true:=by
    unfold decOk
    rw [h]
    simp
  unfold decR decE
  rw [hk,h]
  exact ⟨by simp [Function.comp_def],rfl⟩
end Go.EA
