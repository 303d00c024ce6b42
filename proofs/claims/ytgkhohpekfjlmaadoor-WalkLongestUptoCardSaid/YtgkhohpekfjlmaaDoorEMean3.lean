/- Layer 1: what more functions mean: tokens, letters; the reference's loop in plain words. Conditions: none. -/
import Derived.Test.YtgkhohpekfjlmaaDoorEFirst
set_option linter.unusedVariables false
set_option linter.unusedSimpArgs false
namespace Go.EA
def ek (s:List UInt8):Int:=if bG s≠0 then bG s else if aJ s=[] then 4 else if 64<(aJ s).length then 5 else 0
def kW (s:List UInt8):List Int:=if ek s=0 then aJ s else []
theorem Tq {s:List UInt8}(h:bG s≠0):kW s=[]/\ek s=bG s:=by
 have e:ek s=bG s:=by unfold ek;rw[if_pos h]
 exact⟨by unfold kW;rw[e,if_neg h],e⟩
theorem TH {s:List UInt8}(h:bG s=0) (h1:(aJ s).length=0):kW s=[]/\ek s=4:=by
 have e:ek s=4:=by unfold ek;rw[if_neg (by omega),if_pos (zT h1)]
 exact⟨by unfold kW;rw[e];rfl,e⟩
theorem TC {s:List UInt8}(h:bG s=0) (h1:64<(aJ s).length):kW s=[]/\ek s=5:=by
 have e:ek s=5:=by unfold ek;rw[if_neg (by omega),if_neg (by intro g;rw[g] at h1;simp at h1),if_pos h1]
 exact⟨by unfold kW;rw[e];rfl,e⟩
theorem TI {s:List UInt8}(h:bG s=0) (h0:(aJ s).length≠0) (h1:¬ 64<(aJ s).length):kW s=aJ s/\ek s=0:=by
 have e:ek s=0:=by unfold ek;rw[if_neg (by omega),if_neg (by intro g;rw[g] at h0;simp at h0),if_neg h1]
 exact⟨by unfold kW;rw[e,if_pos rfl],e⟩
noncomputable def g4:GP:=AR pS fun s=>(.one (.bool true),[])
theorem c4 (s:List UInt8):g4 [.one (.str s)]=some (.one (.bool true),[]):=FX WB s
theorem VW (t:List UInt8):0<=(eU t).2/\(eU t).2<=t.length:=by
 unfold eU;split
 .rename_i h;have:=bH h.1;dsimp only;omega
 .dsimp only;omega
theorem Yt {t:List UInt8}(ht:t≠[]) (h:(eU t).2=0):isR t=false:=by
 unfold eU at h;split at h
 .rename_i g;have:=bH g.1;dsimp only at h;omega
 .rename_i g;cases hr:isR t
  .rfl
  .exact absurd ⟨ht,hr⟩ g
theorem Yc {t:List UInt8}(h:(eU t).2≠0):t≠[]/\isR t=true/\eU t=(((dec t).1:Int),((dec t).2:Int)):=by
 unfold eU at h ⊢;split at h
 .rename_i g;exact⟨g.1,g.2,if_pos g⟩
 .exact absurd rfl h
theorem KH {s t:List UInt8}{o:List Int}(h:runes s=(o.map fun r=>(r,true))++runes t) (hf:(eU t).2≠0):runes s=((o++[(eU t).1]).map fun r=>(r,true))++runes (t.drop (eU t).2.toNat):=by
 obtain⟨h1,h2,h3⟩:=Yc hf;rw[h,h3,bV h1,h2];simp
theorem Sd {s t:List UInt8}{o:List Int}(h:runes s=(o.map fun r=>(r,true))++runes t) (ht:t≠[]) (hf:(eU t).2=0):aJ s=[]/\bG s=3:=by
 have h0:=Yt ht hf;have hk:dL s=false:=by
  unfold dL;rw[h,bV ht,h0];simp
 unfold aJ bG;rw[hk];exact⟨rfl,rfl⟩
theorem EN {s:List UInt8}{o:List Int}(h:runes s=(o.map fun r=>(r,true))++runes []):aJ s=o/\bG s=0:=by
 rw[jG,List.append_nil] at h;have hk:dL s=true:=by
  unfold dL;rw[h];simp
 unfold aJ bG;rw[hk,h];exact⟨by simp[Function.comp_def],rfl⟩
end Go.EA
