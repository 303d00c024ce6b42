/- What is encoded is decoded, and the other way round. Conditions: none. -/
import Derived.Test.YtgkhohpekfjlmaaDoorEBits
set_option linter.unusedVariables false
set_option linter.unusedSimpArgs false
namespace Go.EA
theorem qh {r:Int}(hv:Utf8.valid r=true) (X:List UInt8):runes (jk r++X)=(r,true)::runes X:=by
 have hn:(jk r).length<=(jk r++X).length:=by rw[zL];omega
 obtain⟨h1,h2,h3⟩:=Gq (s:=jk r++X) hv hn (by rw[List.take_left]);rw[bU h1,h2,h3];have:=bv.1 hv;dsimp only;rw[List.drop_left]
 congr 2
 omega
theorem vJ (r:Int) (l:List Int):iC (r::l)=jk r++iC l:=rfl
theorem tK:∀(l:List Int),l.all Utf8.valid=true->runes (iC l)=l.map fun r=>(r,true)
 |[],_=>rfl
 | r::l,h=>by
   rw[List.all_cons,zH] at h;rw[vJ,qh h.1,tK l h.2]
   rfl
theorem qc:∀(n:Nat) (s:List UInt8),s.length<=n->dK s=true->iC ((runes s).map (·.1))=s/\((runes s).map (·.1)).all Utf8.valid=true
 |n,[],_,_=>⟨rfl,rfl⟩
 |0,x::s,h,_=>by simp at h
 | n+1,x::s,h,hk=>by
   have hne:=List.cons_ne_nil x s;generalize x::s=t at *;rw[fq hne,zH] at hk;have hw:=bI hne;obtain⟨e1,e2⟩:=qc n (t.drop (dec t).2) (by rw[List.length_drop];omega) hk.2;obtain⟨f1,f2⟩:=ru hne hk.1;rw[bU hne,zK];refine⟨?_,?_⟩
   .rw[vJ,e1];show jk ((dec t).1:Int)++_=t;rw[f2,List.take_append_drop]
   .rw[List.all_cons,e2];show (Utf8.valid ((dec t).1:Int)&&true)=true;rw[f1];rfl
end Go.EA
