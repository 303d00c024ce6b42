/- Layer 1: what more functions mean: tokens, letters; the reference's loop in plain words. Conditions: none. -/
import Derived.Test.YtgkhohpekfjlmaaDoorEFirst
set_option linter.unusedVariables false
set_option linter.unusedSimpArgs false
namespace Go.EA
def ek (s:List UInt8):Int:=if bH s≠0 then bH s else if aK s=[] then 4 else if 64<(aK s).length then 5 else 0
def lh (s:List UInt8):List Int:=if ek s=0 then aK s else []
theorem Ub {s:List UInt8}(h:bH s≠0):lh s=[]/\ek s=bH s:=by
 have e:ek s=bH s:=by unfold ek;rw[if_pos h]
 exact⟨by unfold lh;rw[e,if_neg h],e⟩
theorem Uz {s:List UInt8}(h:bH s=0) (h1:(aK s).length=0):lh s=[]/\ek s=4:=by
 have e:ek s=4:=by unfold ek;rw[if_neg (by omega),if_pos (zT h1)]
 exact⟨by unfold lh;rw[e];rfl,e⟩
theorem Ue {s:List UInt8}(h:bH s=0) (h1:64<(aK s).length):lh s=[]/\ek s=5:=by
 have e:ek s=5:=by unfold ek;rw[if_neg (by omega),if_neg (by intro g;rw[g] at h1;simp at h1),if_pos h1]
 exact⟨by unfold lh;rw[e];rfl,e⟩
theorem Ur {s:List UInt8}(h:bH s=0) (h0:(aK s).length≠0) (h1:¬ 64<(aK s).length):lh s=aK s/\ek s=0:=by
 have e:ek s=0:=by unfold ek;rw[if_neg (by omega),if_neg (by intro g;rw[g] at h0;simp at h0),if_neg h1]
 exact⟨by unfold lh;rw[e,if_pos rfl],e⟩
noncomputable def g4:GP:=yD pS fun s=>(.one (.bool true),[])
theorem c4 (s:List UInt8):g4 [.one (.str s)]=some (.one (.bool true),[]):=Gc Xu s
theorem Xe (t:List UInt8):0<=(eX t).2/\(eX t).2<=t.length:=by
 unfold eX;split
 .rename_i h;have:=bI h.1;dsimp only;omega
 .dsimp only;omega
theorem Zt {t:List UInt8}(ht:t≠[]) (h:(eX t).2=0):isR t=false:=by
 unfold eX at h;split at h
 .rename_i g;have:=bI g.1;dsimp only at h;omega
 .rename_i g;cases hr:isR t
  .rfl
  .exact absurd ⟨ht,hr⟩ g
theorem Yd {t:List UInt8}(h:(eX t).2≠0):t≠[]/\isR t=true/\eX t=(((dec t).1:Int),((dec t).2:Int)):=by
 unfold eX at h ⊢;split at h
 .rename_i g;exact⟨g.1,g.2,if_pos g⟩
 .exact absurd rfl h
theorem NP {s t:List UInt8}{o:List Int}(h:runes s=(o.map fun r=>(r,true))++runes t) (hf:(eX t).2≠0):runes s=((o++[(eX t).1]).map fun r=>(r,true))++runes (t.drop (eX t).2.toNat):=by
 obtain⟨h1,h2,h3⟩:=Yd hf;rw[h,h3,bV h1,h2];simp
theorem Tw {s t:List UInt8}{o:List Int}(h:runes s=(o.map fun r=>(r,true))++runes t) (ht:t≠[]) (hf:(eX t).2=0):aK s=[]/\bH s=3:=by
 have h0:=Zt ht hf;have hk:dD s=false:=by
  unfold dD;rw[h,bV ht,h0];simp
 unfold aK bH;rw[hk];exact⟨rfl,rfl⟩
theorem GY {s:List UInt8}{o:List Int}(h:runes s=(o.map fun r=>(r,true))++runes []):aK s=o/\bH s=0:=by
 rw[jU,List.append_nil] at h;have hk:dD s=true:=by
  unfold dD;rw[h];simp
 unfold aK bH;rw[hk,h];exact⟨by simp[Function.comp_def],rfl⟩
end Go.EA
