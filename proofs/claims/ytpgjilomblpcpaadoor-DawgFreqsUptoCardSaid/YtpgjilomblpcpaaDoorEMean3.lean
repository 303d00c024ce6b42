/- Layer 1: what more functions mean: tokens, letters; the reference's loop in plain words. Conditions: none. -/
import Derived.Test.YtpgjilomblpcpaaDoorEFirst
set_option linter.unusedVariables false
set_option linter.unusedSimpArgs false
namespace Go.EA
def tokE (s:List UInt8):Int:=if decE s≠0 then decE s else if decR s=[] then 4 else if 64<(decR s).length then 5 else 0
def tokR (s:List UInt8):List Int:=if tokE s=0 then decR s else []
theorem tok_u {s:List UInt8} (h:decE s≠0):tokR s=[]/\tokE s=decE s:=by
 have e:tokE s=decE s:=by unfold tokE;rw [if_pos h]
 exact ⟨by unfold tokR;rw [e,if_neg h],e⟩
theorem tok_e {s:List UInt8} (h:decE s=0) (h1:(decR s).length=0):tokR s=[]/\tokE s=4:=by
 have e:tokE s=4:=by unfold tokE;rw [if_neg (by omega),if_pos (zT h1)]
 exact ⟨by unfold tokR;rw [e];rfl,e⟩
theorem tok_l {s:List UInt8} (h:decE s=0) (h1:64<(decR s).length):tokR s=[]/\tokE s=5:=by
 have e:tokE s=5:=by unfold tokE;rw [if_neg (by omega),if_neg (by intro g;rw [g] at h1;simp at h1),if_pos h1]
 exact ⟨by unfold tokR;rw [e];rfl,e⟩
theorem tok_k {s:List UInt8} (h:decE s=0) (h0:(decR s).length≠0) (h1:¬ 64<(decR s).length):tokR s=decR s/\tokE s=0:=by
 have e:tokE s=0:=by unfold tokE;rw [if_neg (by omega),if_neg (by intro g;rw [g] at h0;simp at h0),if_neg h1]
 exact ⟨by unfold tokR;rw [e,if_pos rfl],e⟩
noncomputable def g4:GP:=relG pS fun s=>(.one (.bool true),[])
theorem c4 (s:List UInt8):g4 [.one (.str s)]=some (.one (.bool true),[]):=relG_eq pS_inj s
theorem fst_bd (t:List UInt8):0<=(fstR t).2/\(fstR t).2<=t.length:=by
 unfold fstR
 split
 ·rename_i h
  have:=dec_width h.1
  dsimp only;omega
 ·dsimp only;omega
theorem fst_z {t:List UInt8} (ht:t≠[]) (h:(fstR t).2=0):isR t=false:=by
 unfold fstR at h
 split at h
 ·rename_i g
  have:=dec_width g.1
  dsimp only at h;omega
 ·rename_i g
  cases hr:isR t
  ·rfl
  ·exact absurd ⟨ht,hr⟩ g
theorem fst_p {t:List UInt8} (h:(fstR t).2≠0):t≠[]/\isR t=true/\fstR t=(((dec t).1:Int),((dec t).2:Int)):=by
 unfold fstR at h ⊢
 split at h
 ·rename_i g;exact ⟨g.1,g.2,if_pos g⟩
 ·exact absurd rfl h
theorem d19_step {s t:List UInt8} {o:List Int} (h:runes s=(o.map fun r=>(r,true))++runes t) (hf:(fstR t).2≠0):runes s=((o++[(fstR t).1]).map fun r=>(r,true))++runes (t.drop (fstR t).2.toNat):=by
 obtain ⟨h1,h2,h3⟩:=fst_p hf
 rw [h,h3,runes_cons h1,h2]
 simp
theorem d19_bad {s t:List UInt8} {o:List Int} (h:runes s=(o.map fun r=>(r,true))++runes t) (ht:t≠[]) (hf:(fstR t).2=0):decR s=[]/\decE s=3:=by
 have h0:=fst_z ht hf
 have hk:decOk s=false:=by
  unfold decOk
  rw [h,runes_cons ht,h0]
  simp
 unfold decR decE
 rw [hk]
 exact ⟨rfl,rfl⟩
theorem d19_end {s:List UInt8} {o:List Int} (h:runes s=(o.map fun r=>(r,true))++runes []):decR s=o/\decE s=0:=by
 rw [runes_nil,List.append_nil] at h
 have hk:decOk s=true:=by
  unfold decOk
  rw [h]
  simp
 unfold decR decE
 rw [hk,h]
 exact ⟨by simp [Function.comp_def],rfl⟩
end Go.EA
