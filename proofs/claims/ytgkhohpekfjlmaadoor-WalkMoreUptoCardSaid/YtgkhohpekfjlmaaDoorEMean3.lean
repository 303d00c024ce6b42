/- Layer 1: what more functions mean: tokens, letters; the reference's loop in plain words. Conditions: none. -/
import Derived.Test.YtgkhohpekfjlmaaDoorEFirst
set_option linter.unusedVariables false
set_option linter.unusedSimpArgs false
namespace Go.EA
def eB (s:List UInt8):Int:=if bU s≠0 then bU s else if aQ s=[] then 4 else if 64<(aQ s).length then 5 else 0
def kK (s:List UInt8):List Int:=if eB s=0 then aQ s else []
theorem Tc {s:List UInt8}(h:bU s≠0):kK s=[]/\eB s=bU s:=by
 have e:eB s=bU s:=by unfold eB;rw[if_pos h]
 exact⟨by unfold kK;rw[e,if_neg h],e⟩
theorem Tt {s:List UInt8}(h:bU s=0) (h1:(aQ s).length=0):kK s=[]/\eB s=4:=by
 have e:eB s=4:=by unfold eB;rw[if_neg (by omega),if_pos (zT h1)]
 exact⟨by unfold kK;rw[e];rfl,e⟩
theorem Ta {s:List UInt8}(h:bU s=0) (h1:64<(aQ s).length):kK s=[]/\eB s=5:=by
 have e:eB s=5:=by unfold eB;rw[if_neg (by omega),if_neg (by intro g;rw[g] at h1;simp at h1),if_pos h1]
 exact⟨by unfold kK;rw[e];rfl,e⟩
theorem SH {s:List UInt8}(h:bU s=0) (h0:(aQ s).length≠0) (h1:¬ 64<(aQ s).length):kK s=aQ s/\eB s=0:=by
 have e:eB s=0:=by unfold eB;rw[if_neg (by omega),if_neg (by intro g;rw[g] at h0;simp at h0),if_neg h1]
 exact⟨by unfold kK;rw[e,if_pos rfl],e⟩
noncomputable def g4:GP:=Af pS fun s=>(.one (.bool true),[])
theorem c4 (s:List UInt8):g4 [.one (.str s)]=some (.one (.bool true),[]):=Fv UR s
theorem Vf (t:List UInt8):0<=(eU t).2/\(eU t).2<=t.length:=by
 unfold eU;split
 .rename_i h;have:=cu h.1;dsimp only;omega
 .dsimp only;omega
theorem Ye {t:List UInt8}(ht:t≠[]) (h:(eU t).2=0):isR t=false:=by
 unfold eU at h;split at h
 .rename_i g;have:=cu g.1;dsimp only at h;omega
 .rename_i g;cases hr:isR t
  .rfl
  .exact absurd ⟨ht,hr⟩ g
theorem YO {t:List UInt8}(h:(eU t).2≠0):t≠[]/\isR t=true/\eU t=(((dec t).1:Int),((dec t).2:Int)):=by
 unfold eU at h ⊢;split at h
 .rename_i g;exact⟨g.1,g.2,if_pos g⟩
 .exact absurd rfl h
theorem JE {s t:List UInt8}{o:List Int}(h:runes s=(o.map fun r=>(r,true))++runes t) (hf:(eU t).2≠0):runes s=((o++[(eU t).1]).map fun r=>(r,true))++runes (t.drop (eU t).2.toNat):=by
 obtain⟨h1,h2,h3⟩:=YO hf;rw[h,h3,dw h1,h2];simp
theorem OH {s t:List UInt8}{o:List Int}(h:runes s=(o.map fun r=>(r,true))++runes t) (ht:t≠[]) (hf:(eU t).2=0):aQ s=[]/\bU s=3:=by
 have h0:=Ye ht hf;have hk:fJ s=false:=by
  unfold fJ;rw[h,dw ht,h0];simp
 unfold aQ bU;rw[hk];exact⟨rfl,rfl⟩
theorem EJ {s:List UInt8}{o:List Int}(h:runes s=(o.map fun r=>(r,true))++runes []):aQ s=o/\bU s=0:=by
 rw[pV,List.append_nil] at h;have hk:fJ s=true:=by
  unfold fJ;rw[h];simp
 unfold aQ bU;rw[hk,h];exact⟨by simp[Function.comp_def],rfl⟩
end Go.EA
