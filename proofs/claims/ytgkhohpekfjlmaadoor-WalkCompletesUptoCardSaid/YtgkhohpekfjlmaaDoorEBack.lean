/- What is encoded is decoded, and the other way round. Conditions: none. -/
import Derived.Test.YtgkhohpekfjlmaaDoorEBits
set_option linter.unusedVariables false
set_option linter.unusedSimpArgs false
namespace Go.EA
theorem qD {r:Int}(hv:Utf8.valid r=true) (X:List UInt8):runes (jh r++X)=(r,true)::runes X:=by
 have hn:(jh r).length<=(jh r++X).length:=by rw[zL];omega
 obtain⟨h1,h2,h3⟩:=FI (s:=jh r++X) hv hn (by rw[List.take_left]);rw[bX h1,h2,h3];have:=bA.1 hv;dsimp only;rw[List.drop_left]
 congr 2
 omega
theorem xA (r:Int) (l:List Int):bz (r::l)=jh r++bz l:=rfl
theorem kD:∀(l:List Int),l.all Utf8.valid=true->runes (bz l)=l.map fun r=>(r,true)
 |[],_=>rfl
 | r::l,h=>by
   rw[List.all_cons,zH] at h;rw[xA,qD h.1,kD l h.2]
   rfl
theorem qW:∀(n:Nat) (s:List UInt8),s.length<=n->dH s=true->bz ((runes s).map (·.1))=s/\((runes s).map (·.1)).all Utf8.valid=true
 |n,[],_,_=>⟨rfl,rfl⟩
 |0,x::s,h,_=>by simp at h
 | n+1,x::s,h,hk=>by
   have hne:=List.cons_ne_nil x s;generalize x::s=t at *;rw[fE hne,zH] at hk;have hw:=bJ hne;obtain⟨e1,e2⟩:=qW n (t.drop (dec t).2) (by rw[List.length_drop];omega) hk.2;obtain⟨f1,f2⟩:=rV hne hk.1;rw[bX hne,zK];refine⟨?_,?_⟩
   .rw[xA,e1];show jh ((dec t).1:Int)++_=t;rw[f2,List.take_append_drop]
   .rw[List.all_cons,e2];show (Utf8.valid ((dec t).1:Int)&&true)=true;rw[f1];rfl
end Go.EA
