/- Layer 1: what more functions mean: tokens, letters; the reference's loop in plain words. Conditions: none. -/
import Derived.Test.YtkpahammkkfphaaDoorEFirst
set_option linter.unusedVariables false
set_option linter.unusedSimpArgs false
namespace Go.EA
noncomputable def g4:GP:=sI pS fun s=>(.one (.bool true),[])
theorem c4 (s:List UInt8):g4 [.one (.str s)]=some (.one (.bool true),[]):=yO Jv s
theorem Js (t:List UInt8):0<=(dK t).2/\(dK t).2<=t.length:=by
 unfold dK;split
 .rename_i h;have:=bH h.1;dsimp only;omega
 .dsimp only;omega
theorem Kn {t:List UInt8}(ht:t≠[]) (h:(dK t).2=0):isR t=false:=by
 unfold dK at h;split at h
 .rename_i g;have:=bH g.1;dsimp only at h;omega
 .rename_i g;cases hr:isR t
  .rfl
  .exact absurd ⟨ht,hr⟩ g
theorem KR {t:List UInt8}(h:(dK t).2≠0):t≠[]/\isR t=true/\dK t=(((dec t).1:Int),((dec t).2:Int)):=by
 unfold dK at h ⊢;split at h
 .rename_i g;exact⟨g.1,g.2,if_pos g⟩
 .exact absurd rfl h
theorem BK {s t:List UInt8}{o:List Int}(h:runes s=(o.map fun r=>(r,true))++runes t) (hf:(dK t).2≠0):runes s=((o++[(dK t).1]).map fun r=>(r,true))++runes (t.drop (dK t).2.toNat):=by
 obtain⟨h1,h2,h3⟩:=KR hf;rw[h,h3,cK h1,h2];simp
theorem FW {s t:List UInt8}{o:List Int}(h:runes s=(o.map fun r=>(r,true))++runes t) (ht:t≠[]) (hf:(dK t).2=0):aS s=[]/\iL s=3:=by
 have h0:=Kn ht hf;have hk:aR s=false:=by
  unfold aR;rw[h,cK ht,h0];simp
 unfold aS iL;rw[hk];exact⟨rfl,rfl⟩
theorem FX {s:List UInt8}{o:List Int}(h:runes s=(o.map fun r=>(r,true))++runes []):aS s=o/\iL s=0:=by
 rw[jD,List.append_nil] at h;have hk:aR s=true:=by
  unfold aR;rw[h];simp
 unfold aS iL;rw[hk,h];exact⟨by simp[Function.comp_def],rfl⟩
end Go.EA
