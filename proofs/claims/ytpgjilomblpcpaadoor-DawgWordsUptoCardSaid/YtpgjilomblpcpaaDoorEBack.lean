/- What is encoded is decoded, and the other way round. Conditions: none. -/
import Derived.Test.YtpgjilomblpcpaaDoorEBits
set_option linter.unusedVariables false
set_option linter.unusedSimpArgs false
namespace Go.EA
theorem wR {r:Int}(hv:Utf8.valid r=true) (X:List UInt8):runes (kR r++X)=(r,true)::runes X:=by
 have hn:(kR r).length<=(kR r++X).length:=by rw[zL];omega
 obtain⟨h1,h2,h3⟩:=Qq (s:=kR r++X) hv hn (by rw[List.take_left]);rw[dO h1,h2,h3];have:=bT.1 hv;dsimp only;rw[List.drop_left]
 congr 2
 omega
theorem Hl (r:Int) (l:List Int):Ii (r::l)=kR r++Ii l:=rfl
theorem qy:∀(n:Nat) (s:List UInt8),s.length<=n->gM s=true->Ii ((runes s).map (·.1))=s/\((runes s).map (·.1)).all Utf8.valid=true
 |n,[],_,_=>⟨rfl,rfl⟩
 |0,x::s,h,_=>by simp at h
 | n+1,x::s,h,hk=>by
   have hne:=List.cons_ne_nil x s;generalize x::s=t at *;rw[nS hne,zH] at hk;have hw:=dV hne;obtain⟨e1,e2⟩:=qy n (t.drop (dec t).2) (by rw[List.length_drop];omega) hk.2;obtain⟨f1,f2⟩:=yx hne hk.1;rw[dO hne,zK];refine⟨?_,?_⟩
   .rw[Hl,e1];show kR ((dec t).1:Int)++_=t;rw[f2,List.take_append_drop]
   .rw[List.all_cons,e2];show (Utf8.valid ((dec t).1:Int)&&true)=true;rw[f1];rfl
end Go.EA
