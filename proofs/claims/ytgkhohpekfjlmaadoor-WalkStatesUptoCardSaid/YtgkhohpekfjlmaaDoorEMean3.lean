/- Layer 1: what more functions mean: tokens, letters; the reference's loop in plain words. Conditions: none. -/
import Derived.Test.YtgkhohpekfjlmaaDoorEFirst
set_option linter.unusedVariables false
set_option linter.unusedSimpArgs false
namespace Go.EA
def eP (s:List UInt8):Int:=if bI s≠0 then bI s else if aF s=[] then 4 else if 64<(aF s).length then 5 else 0
def lq (s:List UInt8):List Int:=if eP s=0 then aF s else []
theorem Vw {s:List UInt8}(h:bI s≠0):lq s=[]/\eP s=bI s:=by
 have e:eP s=bI s:=by unfold eP;rw[if_pos h]
 exact⟨by unfold lq;rw[e,if_neg h],e⟩
theorem Vf {s:List UInt8}(h:bI s=0) (h1:(aF s).length=0):lq s=[]/\eP s=4:=by
 have e:eP s=4:=by unfold eP;rw[if_neg (by omega),if_pos (zT h1)]
 exact⟨by unfold lq;rw[e];rfl,e⟩
theorem Vn {s:List UInt8}(h:bI s=0) (h1:64<(aF s).length):lq s=[]/\eP s=5:=by
 have e:eP s=5:=by unfold eP;rw[if_neg (by omega),if_neg (by intro g;rw[g] at h1;simp at h1),if_pos h1]
 exact⟨by unfold lq;rw[e];rfl,e⟩
theorem Ve {s:List UInt8}(h:bI s=0) (h0:(aF s).length≠0) (h1:¬ 64<(aF s).length):lq s=aF s/\eP s=0:=by
 have e:eP s=0:=by unfold eP;rw[if_neg (by omega),if_neg (by intro g;rw[g] at h0;simp at h0),if_neg h1]
 exact⟨by unfold lq;rw[e,if_pos rfl],e⟩
noncomputable def g4:GP:=Bz pS fun s=>(.one (.bool true),[])
theorem c4 (s:List UInt8):g4 [.one (.str s)]=some (.one (.bool true),[]):=Gw YT s
theorem WE (t:List UInt8):0<=(fB t).2/\(fB t).2<=t.length:=by
 unfold fB;split
 .rename_i h;have:=bM h.1;dsimp only;omega
 .dsimp only;omega
theorem aa8 {t:List UInt8}(ht:t≠[]) (h:(fB t).2=0):isR t=false:=by
 unfold fB at h;split at h
 .rename_i g;have:=bM g.1;dsimp only at h;omega
 .rename_i g;cases hr:isR t
  .rfl
  .exact absurd ⟨ht,hr⟩ g
theorem aaS {t:List UInt8}(h:(fB t).2≠0):t≠[]/\isR t=true/\fB t=(((dec t).1:Int),((dec t).2:Int)):=by
 unfold fB at h ⊢;split at h
 .rename_i g;exact⟨g.1,g.2,if_pos g⟩
 .exact absurd rfl h
theorem JZ {s t:List UInt8}{o:List Int}(h:runes s=(o.map fun r=>(r,true))++runes t) (hf:(fB t).2≠0):runes s=((o++[(fB t).1]).map fun r=>(r,true))++runes (t.drop (fB t).2.toNat):=by
 obtain⟨h1,h2,h3⟩:=aaS hf;rw[h,h3,cu h1,h2];simp
theorem UO {s t:List UInt8}{o:List Int}(h:runes s=(o.map fun r=>(r,true))++runes t) (ht:t≠[]) (hf:(fB t).2=0):aF s=[]/\bI s=3:=by
 have h0:=aa8 ht hf;have hk:dO s=false:=by
  unfold dO;rw[h,cu ht,h0];simp
 unfold aF bI;rw[hk];exact⟨rfl,rfl⟩
theorem GH {s:List UInt8}{o:List Int}(h:runes s=(o.map fun r=>(r,true))++runes []):aF s=o/\bI s=0:=by
 rw[ku,List.append_nil] at h;have hk:dO s=true:=by
  unfold dO;rw[h];simp
 unfold aF bI;rw[hk,h];exact⟨by simp[Function.comp_def],rfl⟩
end Go.EA
