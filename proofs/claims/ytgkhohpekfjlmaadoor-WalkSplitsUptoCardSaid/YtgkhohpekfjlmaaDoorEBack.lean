/- What is encoded is decoded, and the other way round. Conditions: none. -/
import Derived.Test.YtgkhohpekfjlmaaDoorEBits
set_option linter.unusedVariables false
set_option linter.unusedSimpArgs false
namespace Go.EA
theorem pQ {r:Int}(hv:Utf8.valid r=true) (X:List UInt8):runes (jd r++X)=(r,true)::runes X:=by
 have hn:(jd r).length<=(jd r++X).length:=by rw[zL];omega
 obtain⟨h1,h2,h3⟩:=FQ (s:=jd r++X) hv hn (by rw[List.take_left]);rw[bV h1,h2,h3];have:=bz.1 hv;dsimp only;rw[List.drop_left]
 congr 2
 omega
theorem wP (r:Int) (l:List Int):bv (r::l)=jd r++bv l:=rfl
theorem kU:∀(l:List Int),l.all Utf8.valid=true->runes (bv l)=l.map fun r=>(r,true)
 |[],_=>rfl
 | r::l,h=>by
   rw[List.all_cons,zH] at h;rw[wP,pQ h.1,kU l h.2]
   rfl
theorem qy:∀(n:Nat) (s:List UInt8),s.length<=n->dD s=true->bv ((runes s).map (·.1))=s/\((runes s).map (·.1)).all Utf8.valid=true
 |n,[],_,_=>⟨rfl,rfl⟩
 |0,x::s,h,_=>by simp at h
 | n+1,x::s,h,hk=>by
   have hne:=List.cons_ne_nil x s;generalize x::s=t at *;rw[fw hne,zH] at hk;have hw:=bI hne;obtain⟨e1,e2⟩:=qy n (t.drop (dec t).2) (by rw[List.length_drop];omega) hk.2;obtain⟨f1,f2⟩:=rT hne hk.1;rw[bV hne,zK];refine⟨?_,?_⟩
   .rw[wP,e1];show jd ((dec t).1:Int)++_=t;rw[f2,List.take_append_drop]
   .rw[List.all_cons,e2];show (Utf8.valid ((dec t).1:Int)&&true)=true;rw[f1];rfl
end Go.EA
