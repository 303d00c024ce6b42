/- What is encoded is decoded, and the other way round. Conditions: none. -/
import Derived.Test.YtgkhohpekfjlmaaDoorEBits
set_option linter.unusedVariables false
set_option linter.unusedSimpArgs false
namespace Go.EA
theorem qM {r:Int}(hv:Utf8.valid r=true) (X:List UInt8):runes (jC r++X)=(r,true)::runes X:=by
 have hn:(jC r).length<=(jC r++X).length:=by rw[zL];omega
 obtain⟨h1,h2,h3⟩:=Gq (s:=jC r++X) hv hn (by rw[List.take_left]);rw[cu h1,h2,h3];have:=bA.1 hv;dsimp only;rw[List.drop_left]
 congr 2
 omega
theorem wG (r:Int) (l:List Int):iR (r::l)=jC r++iR l:=rfl
theorem sV:∀(l:List Int),l.all Utf8.valid=true->runes (iR l)=l.map fun r=>(r,true)
 |[],_=>rfl
 | r::l,h=>by
   rw[List.all_cons,zH] at h;rw[wG,qM h.1,sV l h.2]
   rfl
theorem qE:∀(n:Nat) (s:List UInt8),s.length<=n->dO s=true->iR ((runes s).map (·.1))=s/\((runes s).map (·.1)).all Utf8.valid=true
 |n,[],_,_=>⟨rfl,rfl⟩
 |0,x::s,h,_=>by simp at h
 | n+1,x::s,h,hk=>by
   have hne:=List.cons_ne_nil x s;generalize x::s=t at *;rw[fI hne,zH] at hk;have hw:=bM hne;obtain⟨e1,e2⟩:=qE n (t.drop (dec t).2) (by rw[List.length_drop];omega) hk.2;obtain⟨f1,f2⟩:=rV hne hk.1;rw[cu hne,zK];refine⟨?_,?_⟩
   .rw[wG,e1];show jC ((dec t).1:Int)++_=t;rw[f2,List.take_append_drop]
   .rw[List.all_cons,e2];show (Utf8.valid ((dec t).1:Int)&&true)=true;rw[f1];rfl
end Go.EA
