/- Layer 1: what more functions mean: tokens, letters; the reference's loop in plain words. Conditions: none. -/
import Derived.Test.YtpgjilomblpcpaaDoorEFirst
set_option linter.unusedVariables false
set_option linter.unusedSimpArgs false
namespace Go.EA
def fQ (s:List UInt8):Int:=if eP s≠0 then eP s else if aG s=[] then 4 else if 64<(aG s).length then 5 else 0
def qh (s:List UInt8):List Int:=if fQ s=0 then aG s else []
theorem Vu {s:List UInt8}(h:eP s≠0):qh s=[]/\fQ s=eP s:=by
 have e:fQ s=eP s:=by unfold fQ;rw[if_pos h]
 exact⟨by unfold qh;rw[e,if_neg h],e⟩
theorem Vs {s:List UInt8}(h:eP s=0) (h1:(aG s).length=0):qh s=[]/\fQ s=4:=by
 have e:fQ s=4:=by unfold fQ;rw[if_neg (by omega),if_pos (zT h1)]
 exact⟨by unfold qh;rw[e];rfl,e⟩
theorem Xf {s:List UInt8}(h:eP s=0) (h1:64<(aG s).length):qh s=[]/\fQ s=5:=by
 have e:fQ s=5:=by unfold fQ;rw[if_neg (by omega),if_neg (by intro g;rw[g] at h1;simp at h1),if_pos h1]
 exact⟨by unfold qh;rw[e];rfl,e⟩
theorem VX {s:List UInt8}(h:eP s=0) (h0:(aG s).length≠0) (h1:¬ 64<(aG s).length):qh s=aG s/\fQ s=0:=by
 have e:fQ s=0:=by unfold fQ;rw[if_neg (by omega),if_neg (by intro g;rw[g] at h0;simp at h0),if_neg h1]
 exact⟨by unfold qh;rw[e,if_pos rfl],e⟩
noncomputable def g4:GP:=BB pS fun s=>(.one (.bool true),[])
theorem c4 (s:List UInt8):g4 [.one (.str s)]=some (.one (.bool true),[]):=FB Ug s
theorem QC {s:List UInt8}{o:List Int}(h:runes s=(o.map fun r=>(r,true))++runes []):aG s=o/\eP s=0:=by
 rw[qc,List.append_nil] at h;have hk:gM s=true:=by
  unfold gM;rw[h];simp
 unfold aG eP;rw[hk,h];exact⟨by simp[Function.comp_def],rfl⟩
end Go.EA
