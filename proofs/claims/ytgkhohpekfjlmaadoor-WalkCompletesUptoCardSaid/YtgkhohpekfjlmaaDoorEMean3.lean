/- Layer 1: what more functions mean: tokens, letters; the reference's loop in plain words. Conditions: none. -/
import Derived.Test.YtgkhohpekfjlmaaDoorEFirst
set_option linter.unusedVariables false
set_option linter.unusedSimpArgs false
namespace Go.EA
def eF (s:List UInt8):Int:=if bG s≠0 then bG s else if aJ s=[] then 4 else if 64<(aJ s).length then 5 else 0
def lq (s:List UInt8):List Int:=if eF s=0 then aJ s else []
theorem UH {s:List UInt8}(h:bG s≠0):lq s=[]/\eF s=bG s:=by
 have e:eF s=bG s:=by unfold eF;rw[if_pos h]
 exact⟨by unfold lq;rw[e,if_neg h],e⟩
theorem UZ {s:List UInt8}(h:bG s=0) (h1:(aJ s).length=0):lq s=[]/\eF s=4:=by
 have e:eF s=4:=by unfold eF;rw[if_neg (by omega),if_pos (zT h1)]
 exact⟨by unfold lq;rw[e];rfl,e⟩
theorem UW {s:List UInt8}(h:bG s=0) (h1:64<(aJ s).length):lq s=[]/\eF s=5:=by
 have e:eF s=5:=by unfold eF;rw[if_neg (by omega),if_neg (by intro g;rw[g] at h1;simp at h1),if_pos h1]
 exact⟨by unfold lq;rw[e];rfl,e⟩
theorem UG {s:List UInt8}(h:bG s=0) (h0:(aJ s).length≠0) (h1:¬ 64<(aJ s).length):lq s=aJ s/\eF s=0:=by
 have e:eF s=0:=by unfold eF;rw[if_neg (by omega),if_neg (by intro g;rw[g] at h0;simp at h0),if_neg h1]
 exact⟨by unfold lq;rw[e,if_pos rfl],e⟩
noncomputable def g4:GP:=Dj pS fun s=>(.one (.bool true),[])
theorem c4 (s:List UInt8):g4 [.one (.str s)]=some (.one (.bool true),[]):=GI Xj s
theorem Wu (t:List UInt8):0<=(eZ t).2/\(eZ t).2<=t.length:=by
 unfold eZ;split
 .rename_i h;have:=bJ h.1;dsimp only;omega
 .dsimp only;omega
theorem aao {t:List UInt8}(ht:t≠[]) (h:(eZ t).2=0):isR t=false:=by
 unfold eZ at h;split at h
 .rename_i g;have:=bJ g.1;dsimp only at h;omega
 .rename_i g;cases hr:isR t
  .rfl
  .exact absurd ⟨ht,hr⟩ g
theorem aaQ {t:List UInt8}(h:(eZ t).2≠0):t≠[]/\isR t=true/\eZ t=(((dec t).1:Int),((dec t).2:Int)):=by
 unfold eZ at h ⊢;split at h
 .rename_i g;exact⟨g.1,g.2,if_pos g⟩
 .exact absurd rfl h
theorem Om {s t:List UInt8}{o:List Int}(h:runes s=(o.map fun r=>(r,true))++runes t) (hf:(eZ t).2≠0):runes s=((o++[(eZ t).1]).map fun r=>(r,true))++runes (t.drop (eZ t).2.toNat):=by
 obtain⟨h1,h2,h3⟩:=aaQ hf;rw[h,h3,bX h1,h2];simp
theorem QL {s t:List UInt8}{o:List Int}(h:runes s=(o.map fun r=>(r,true))++runes t) (ht:t≠[]) (hf:(eZ t).2=0):aJ s=[]/\bG s=3:=by
 have h0:=aao ht hf;have hk:dH s=false:=by
  unfold dH;rw[h,bX ht,h0];simp
 unfold aJ bG;rw[hk];exact⟨rfl,rfl⟩
theorem GV {s:List UInt8}{o:List Int}(h:runes s=(o.map fun r=>(r,true))++runes []):aJ s=o/\bG s=0:=by
 rw[jJ,List.append_nil] at h;have hk:dH s=true:=by
  unfold dH;rw[h];simp
 unfold aJ bG;rw[hk,h];exact⟨by simp[Function.comp_def],rfl⟩
end Go.EA
