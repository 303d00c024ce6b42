/- Layer 1: what more functions mean: tokens, letters; the reference's loop in plain words. Conditions: none. -/
import Derived.Test.YtpgjilomblpcpaaDoorEFirst
set_option linter.unusedVariables false
set_option linter.unusedSimpArgs false
namespace Go.EA
def ek (s:List UInt8):Int:=if bN s≠0 then bN s else if aC s=[] then 4 else if 64<(aC s).length then 5 else 0
def kJ (s:List UInt8):List Int:=if ek s=0 then aC s else []
theorem Sk {s:List UInt8}(h:bN s≠0):kJ s=[]/\ek s=bN s:=by
 have e:ek s=bN s:=by unfold ek;rw[if_pos h]
 exact⟨by unfold kJ;rw[e,if_neg h],e⟩
theorem RP {s:List UInt8}(h:bN s=0) (h1:(aC s).length=0):kJ s=[]/\ek s=4:=by
 have e:ek s=4:=by unfold ek;rw[if_neg (by omega),if_pos (zT h1)]
 exact⟨by unfold kJ;rw[e];rfl,e⟩
theorem RX {s:List UInt8}(h:bN s=0) (h1:64<(aC s).length):kJ s=[]/\ek s=5:=by
 have e:ek s=5:=by unfold ek;rw[if_neg (by omega),if_neg (by intro g;rw[g] at h1;simp at h1),if_pos h1]
 exact⟨by unfold kJ;rw[e];rfl,e⟩
theorem RA {s:List UInt8}(h:bN s=0) (h0:(aC s).length≠0) (h1:¬ 64<(aC s).length):kJ s=aC s/\ek s=0:=by
 have e:ek s=0:=by unfold ek;rw[if_neg (by omega),if_neg (by intro g;rw[g] at h0;simp at h0),if_neg h1]
 exact⟨by unfold kJ;rw[e,if_pos rfl],e⟩
noncomputable def g4:GP:=Ad pS fun s=>(.one (.bool true),[])
theorem c4 (s:List UInt8):g4 [.one (.str s)]=some (.one (.bool true),[]):=EZ Tt s
theorem Uc (t:List UInt8):0<=(eQ t).2/\(eQ t).2<=t.length:=by
 unfold eQ;split
 .rename_i h;have:=bF h.1;dsimp only;omega
 .dsimp only;omega
theorem VY {t:List UInt8}(ht:t≠[]) (h:(eQ t).2=0):isR t=false:=by
 unfold eQ at h;split at h
 .rename_i g;have:=bF g.1;dsimp only at h;omega
 .rename_i g;cases hr:isR t
  .rfl
  .exact absurd ⟨ht,hr⟩ g
theorem Xe {t:List UInt8}(h:(eQ t).2≠0):t≠[]/\isR t=true/\eQ t=(((dec t).1:Int),((dec t).2:Int)):=by
 unfold eQ at h ⊢;split at h
 .rename_i g;exact⟨g.1,g.2,if_pos g⟩
 .exact absurd rfl h
theorem KA {s t:List UInt8}{o:List Int}(h:runes s=(o.map fun r=>(r,true))++runes t) (hf:(eQ t).2≠0):runes s=((o++[(eQ t).1]).map fun r=>(r,true))++runes (t.drop (eQ t).2.toNat):=by
 obtain⟨h1,h2,h3⟩:=Xe hf;rw[h,h3,bT h1,h2];simp
theorem Oq {s t:List UInt8}{o:List Int}(h:runes s=(o.map fun r=>(r,true))++runes t) (ht:t≠[]) (hf:(eQ t).2=0):aC s=[]/\bN s=3:=by
 have h0:=VY ht hf;have hk:dE s=false:=by
  unfold dE;rw[h,bT ht,h0];simp
 unfold aC bN;rw[hk];exact⟨rfl,rfl⟩
theorem Eo {s:List UInt8}{o:List Int}(h:runes s=(o.map fun r=>(r,true))++runes []):aC s=o/\bN s=0:=by
 rw[jQ,List.append_nil] at h;have hk:dE s=true:=by
  unfold dE;rw[h];simp
 unfold aC bN;rw[hk,h];exact⟨by simp[Function.comp_def],rfl⟩
end Go.EA
