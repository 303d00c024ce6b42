/- What is encoded is decoded, and the other way round. Conditions: none. -/
import Derived.Test.YtkpahammkkfphaaDoorEBits
set_option linter.unusedVariables false
set_option linter.unusedSimpArgs false
namespace Go.EA
theorem AR {r:Int}(hv:Utf8.valid r=true) (X:List UInt8):runes (bC r++X)=(r,true)::runes X:=by
 have hn:(bC r).length<=(bC r++X).length:=by rw[zL];omega
 obtain⟨h1,h2,h3⟩:=yl (s:=bC r++X) hv hn (by rw[List.take_left]);rw[cK h1,h2,h3];have:=aY.1 hv;dsimp only;rw[List.drop_left]
 congr 2
 omega
theorem eY (r:Int) (l:List Int):bf (r::l)=bC r++bf l:=rfl
theorem iI:∀(l:List Int),l.all Utf8.valid=true->runes (bf l)=l.map fun r=>(r,true)
 |[],_=>rfl
 | r::l,h=>by
   rw[List.all_cons,zH] at h;rw[eY,AR h.1,iI l h.2]
   rfl
theorem Fa {l:List Int}(h:l.all Utf8.valid=true):aS (bf l)=l/\iL (bf l)=0/\aR (bf l)=true:=by
 have hk:aR (bf l)=true:=by
  unfold aR;rw[iI l h];simp
 refine⟨?_,?_,hk⟩
 .unfold aS;rw[if_pos hk,iI l h];simp[Function.comp_def]
 .unfold iL;rw[if_pos hk]
theorem mG:∀(n:Nat) (s:List UInt8),s.length<=n->aR s=true->bf ((runes s).map (·.1))=s/\((runes s).map (·.1)).all Utf8.valid=true
 |n,[],_,_=>⟨rfl,rfl⟩
 |0,x::s,h,_=>by simp at h
 | n+1,x::s,h,hk=>by
   have hne:=List.cons_ne_nil x s;generalize x::s=t at *;rw[fT hne,zH] at hk;have hw:=bH hne;obtain⟨e1,e2⟩:=mG n (t.drop (dec t).2) (by rw[List.length_drop];omega) hk.2;obtain⟨f1,f2⟩:=kM hne hk.1;rw[cK hne,zK];refine⟨?_,?_⟩
   .rw[eY,e1];show bC ((dec t).1:Int)++_=t;rw[f2,List.take_append_drop]
   .rw[List.all_cons,e2];show (Utf8.valid ((dec t).1:Int)&&true)=true;rw[f1];rfl
end Go.EA
