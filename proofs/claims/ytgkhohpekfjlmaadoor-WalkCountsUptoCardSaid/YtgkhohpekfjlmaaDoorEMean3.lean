/- Layer 1: what more functions mean: tokens, letters; the reference's loop in plain words. Conditions: none. -/
import Derived.Test.YtgkhohpekfjlmaaDoorEFirst
set_option linter.unusedVariables false
set_option linter.unusedSimpArgs false
namespace Go.EA
def eD (s:List UInt8):Int:=if bG s≠0 then bG s else if aL s=[] then 4 else if 64<(aL s).length then 5 else 0
def kY (s:List UInt8):List Int:=if eD s=0 then aL s else []
theorem UL {s:List UInt8}(h:bG s≠0):kY s=[]/\eD s=bG s:=by
 have e:eD s=bG s:=by unfold eD;rw[if_pos h]
 exact⟨by unfold kY;rw[e,if_neg h],e⟩
theorem UB {s:List UInt8}(h:bG s=0) (h1:(aL s).length=0):kY s=[]/\eD s=4:=by
 have e:eD s=4:=by unfold eD;rw[if_neg (by omega),if_pos (zT h1)]
 exact⟨by unfold kY;rw[e];rfl,e⟩
theorem Uy {s:List UInt8}(h:bG s=0) (h1:64<(aL s).length):kY s=[]/\eD s=5:=by
 have e:eD s=5:=by unfold eD;rw[if_neg (by omega),if_neg (by intro g;rw[g] at h1;simp at h1),if_pos h1]
 exact⟨by unfold kY;rw[e];rfl,e⟩
theorem UA {s:List UInt8}(h:bG s=0) (h0:(aL s).length≠0) (h1:¬ 64<(aL s).length):kY s=aL s/\eD s=0:=by
 have e:eD s=0:=by unfold eD;rw[if_neg (by omega),if_neg (by intro g;rw[g] at h0;simp at h0),if_neg h1]
 exact⟨by unfold kY;rw[e,if_pos rfl],e⟩
noncomputable def g4:GP:=yN pS fun s=>(.one (.bool true),[])
theorem c4 (s:List UInt8):g4 [.one (.str s)]=some (.one (.bool true),[]):=GA Yt s
theorem Xd (t:List UInt8):0<=(eY t).2/\(eY t).2<=t.length:=by
 unfold eY;split
 .rename_i h;have:=bH h.1;dsimp only;omega
 .dsimp only;omega
theorem aaH {t:List UInt8}(ht:t≠[]) (h:(eY t).2=0):isR t=false:=by
 unfold eY at h;split at h
 .rename_i g;have:=bH g.1;dsimp only at h;omega
 .rename_i g;cases hr:isR t
  .rfl
  .exact absurd ⟨ht,hr⟩ g
theorem Zn {t:List UInt8}(h:(eY t).2≠0):t≠[]/\isR t=true/\eY t=(((dec t).1:Int),((dec t).2:Int)):=by
 unfold eY at h ⊢;split at h
 .rename_i g;exact⟨g.1,g.2,if_pos g⟩
 .exact absurd rfl h
theorem Ox {s t:List UInt8}{o:List Int}(h:runes s=(o.map fun r=>(r,true))++runes t) (hf:(eY t).2≠0):runes s=((o++[(eY t).1]).map fun r=>(r,true))++runes (t.drop (eY t).2.toNat):=by
 obtain⟨h1,h2,h3⟩:=Zn hf;rw[h,h3,bT h1,h2];simp
theorem SA {s t:List UInt8}{o:List Int}(h:runes s=(o.map fun r=>(r,true))++runes t) (ht:t≠[]) (hf:(eY t).2=0):aL s=[]/\bG s=3:=by
 have h0:=aaH ht hf;have hk:dK s=false:=by
  unfold dK;rw[h,bT ht,h0];simp
 unfold aL bG;rw[hk];exact⟨rfl,rfl⟩
theorem Fw {s:List UInt8}{o:List Int}(h:runes s=(o.map fun r=>(r,true))++runes []):aL s=o/\bG s=0:=by
 rw[jD,List.append_nil] at h;have hk:dK s=true:=by
  unfold dK;rw[h];simp
 unfold aL bG;rw[hk,h];exact⟨by simp[Function.comp_def],rfl⟩
end Go.EA
