/- What is encoded is decoded, and the other way round. Conditions: none. -/
import Derived.Test.YtgkhohpekfjlmaaDoorEBits
set_option linter.unusedVariables false
set_option linter.unusedSimpArgs false
namespace Go.EA
theorem vW {r:Int}(hv:Utf8.valid r=true) (X:List UInt8):runes (jy r++X)=(r,true)::runes X:=by
 have hn:(jy r).length<=(jy r++X).length:=by rw[zL];omega
 obtain⟨h1,h2,h3⟩:=FU (s:=jy r++X) hv hn (by rw[List.take_left]);rw[bT h1,h2,h3];have:=bv.1 hv;dsimp only;rw[List.drop_left]
 congr 2
 omega
theorem Ia (r:Int) (l:List Int):mR (r::l)=jy r++mR l:=rfl
theorem qN:∀(n:Nat) (s:List UInt8),s.length<=n->dK s=true->mR ((runes s).map (·.1))=s/\((runes s).map (·.1)).all Utf8.valid=true
 |n,[],_,_=>⟨rfl,rfl⟩
 |0,x::s,h,_=>by simp at h
 | n+1,x::s,h,hk=>by
   have hne:=List.cons_ne_nil x s;generalize x::s=t at *;rw[fE hne,zH] at hk;have hw:=bH hne;obtain⟨e1,e2⟩:=qN n (t.drop (dec t).2) (by rw[List.length_drop];omega) hk.2;obtain⟨f1,f2⟩:=su hne hk.1;rw[bT hne,zK];refine⟨?_,?_⟩
   .rw[Ia,e1];show jy ((dec t).1:Int)++_=t;rw[f2,List.take_append_drop]
   .rw[List.all_cons,e2];show (Utf8.valid ((dec t).1:Int)&&true)=true;rw[f1];rfl
end Go.EA
