/- A text's pieces and tokens: more of the plain law of layer 2. Conditions: none. -/
import Derived.Test.YtkpahammkkfphaaDoorESpan
set_option linter.unusedVariables false
set_option linter.unusedSimpArgs false
namespace Go.EA
def fl (gs:List (Bool×List Int)):List UInt8:=bf (gs.map (·.2)).flatten
theorem Ae (x:Bool×List Int) (gs:List (Bool×List Int)):fl (x::gs)=bf x.2++fl gs:=by simp[fl,ib]
theorem iq:∀(gs:List (Bool×List Int)) (a:Int),(spans a gs).length=gs.length
 |[],_=>rfl
 |(b,g)::t,a=>by simp[spans,iq t]
theorem lY:∀(gs:List (Bool×List Int)) (a:Int) (i:Nat),i<gs.length->
 (spans a gs).getD i (0,0,false)=(a+(fl (gs.take i)).length,a+(fl (gs.take i)).length+(bf (gs.getD i (false,[])).2).length,(gs.getD i (false,[])).1)
 |[],_,i,h=>by simp at h
 |(b,g)::t,a,0,_=>by simp[spans,fl,bf]
 | (b,g)::t,a,i+1,h=>by
   have:=lY t (a+(bf g).length) i (by simpa using h);simp only[spans,List.getD_cons_succ,List.take_succ_cons,Ae,zL];rw[this];push_cast;simp only[Int.add_assoc]
theorem pW:∀(q:List Int),((grp q).map (·.2)).flatten=q
 |[]=>rfl
 | r::q=>by
   have h:=pW q;rw[grp];cases hg:grp q with
   |nil=>rw[hg] at h;simp at h;simp[h]
   | cons x t=>
     obtain⟨b,g⟩:=x;rw[hg] at h;by_cases hb:b=aj r
     .simp only[hb,if_true];simpa using h
     .simp only[hb,if_false];simpa using h
theorem Dq:∀(q:List Int),∀x∈grp q,x.2≠[]/\∀r∈x.2,aj r=x.1
 |[],x,h=>by simp[grp] at h
 | r::q,x,h=>by
   have h0:=Dq q;rw[grp] at h;cases hg:grp q with
   |nil=>rw[hg] at h;simp at h;subst h;simp
   | cons y t=>
     obtain⟨b,g⟩:=y;rw[hg] at h h0;by_cases hb:b=aj r
     .simp only[hb,if_true,List.mem_cons] at h;rcases h with rfl | h
      .refine⟨by simp,fun r' hr'=>?_⟩;rcases List.mem_cons.1 hr' with rfl | hr'
       .rfl
       .exact((h0 (b,g) (by simp)).2 r' hr').trans hb
      .exact h0 x (by simp[h])
     .simp only[hb,if_false,List.mem_cons] at h;rcases h with rfl | h
      .simp
      .exact h0 x (by simpa using h)
theorem Ac:∀(q:List Int) (i:Nat),i+1<(grp q).length->((grp q).getD i (false,[])).1≠((grp q).getD (i+1) (false,[])).1
 |[],i,h=>by simp[grp] at h
 | r::q,i,h=>by
   have h0:=Ac q;rw[grp] at h ⊢;cases hg:grp q with
   |nil=>rw[hg] at h;simp at h
   | cons y t=>
     obtain⟨b,g⟩:=y;rw[hg] at h h0;by_cases hb:b=aj r
     .simp only[hb,if_true] at h ⊢;have:=h0 i (by simpa using h);cases i with
      |zero=>simpa [hb] using this
      |succ i=>simpa using this
     .simp only[hb,if_false] at h ⊢;cases i with
      |zero=>simp;exact fun h=>hb h.symm
      |succ i=>simpa using h0 i (by simpa using h)
theorem piece {q:List Int}{i:Nat}(h:i<(grp q).length) :
 ((bf q).drop (fl ((grp q).take i)).length).take (bf ((grp q).getD i (false,[])).2).length=bf ((grp q).getD i (false,[])).2/\(fl ((grp q).take i)).length+(bf ((grp q).getD i (false,[])).2).length<=(bf q).length:=by
 have h1:bf q=fl ((grp q).take i)++(bf ((grp q).getD i (false,[])).2++fl ((grp q).drop (i+1))):=by
  rw[<- Ae,<- qN (false,[]) h];have:=pW q
  conv=>lhs;rw[<- this,<- List.take_append_drop i (grp q),List.map_append,List.flatten_append,ib]
  rfl
 constructor
 .conv=>lhs;rw[h1]
  rw[List.drop_left,List.take_left]
 .rw[h1];simp only[zL];omega
theorem DU {r:Int}(h:Utf8.valid r=true):1<=(bC r).length:=by
 have:=Gn h;cases hx:bC r with
 |nil=>exact absurd hx this
 |cons _ _=>simp
theorem Ci {l:List Int}(h:l≠[]) (hv:l.all Utf8.valid=true):1<=(bf l).length:=by
 cases l with
 |nil=>exact absurd rfl h
 | cons r t=>
   simp at hv;have:=DU hv.1;rw[eY,zL];omega
structure LF (s:List UInt8) (i:Nat) (x:Int×Int×Bool):Prop where
 lo:0<=x.1
 lt:x.1<x.2.1
 hi:x.2.1<=s.length
 ok:aR ((s.drop x.1.toNat).take (x.2.1.toNat-x.1.toNat))=true
 is:∀r∈rn ((s.drop x.1.toNat).take (x.2.1.toNat-x.1.toNat)),aj r=x.2.2
 fst:i=0->x.1=0
 nxt:∀j,i=j+1->((spL s).getD j (0,0,false)).2.1=x.1/\((spL s).getD j (0,0,false)).2.2≠x.2.2
 lst:i+1=(spL s).length->x.2.1=s.length
theorem De {s:List UInt8}{i:Nat}(h:i<(spL s).length):spL s=spans 0 (grp (rn s))/\aR s=true/\s.length<=1048576/\i<(grp (rn s)).length:=by
 unfold spL at h ⊢;split at h
 .next h1=>rw[if_pos h1];exact⟨rfl,h1.2,h1.1,by rwa [iq] at h⟩
 .simp at h
theorem gG {s:List UInt8}{i:Nat}(h:i<(spL s).length):LF s i ((spL s).getD i (0,0,false)):=by
 obtain⟨e,hk,hs,hi⟩:=De h;have he:=nK hk;obtain⟨p1,p2⟩:=piece hi;rw[he] at p1 p2;have hg:=Dq (rn s) ((grp (rn s)).getD i (false,[])) (by rw[zA,zB hi];exact List.getElem_mem hi);have hflat:=pW (rn s);have hva:=oQ hk;have hv:((grp (rn s)).getD i (false,[])).2.all Utf8.valid=true:=by
  rw[List.all_eq_true] at hva ⊢;intro r hr
  apply hva
  rw[<- hflat,List.mem_flatten];exact⟨_,List.mem_map_of_mem (by rw[zA,zB hi];exact List.getElem_mem hi),hr⟩
 have hp:=Ci hg.1 hv;have hx:=lY (grp (rn s)) 0 i hi;have hcut:(s.drop ((0:Int)+(fl ((grp (rn s)).take i)).length).toNat).take (((0:Int)+(fl ((grp (rn s)).take i)).length+(bf ((grp (rn s)).getD i (false,[])).2).length).toNat-((0:Int)+(fl ((grp (rn s)).take i)).length).toNat)=bf ((grp (rn s)).getD i (false,[])).2:=by
  rw[show ((0:Int)+(fl ((grp (rn s)).take i)).length).toNat=(fl ((grp (rn s)).take i)).length by omega,
   show ((0:Int)+(fl ((grp (rn s)).take i)).length+(bf ((grp (rn s)).getD i (false,[])).2).length).toNat-(fl ((grp (rn s)).take i)).length=(bf ((grp (rn s)).getD i (false,[])).2).length by omega]
  exact p1
 have hlen:(spL s).length=(grp (rn s)).length:=by rw[e,iq]
 have htk:∀j,i=j+1->(fl ((grp (rn s)).take (j+1))).length=(fl ((grp (rn s)).take j)).length+(bf ((grp (rn s)).getD j (false,[])).2).length:=fun j hj=>by
  have hj':j<(grp (rn s)).length:=by omega
  have:(grp (rn s)).take (j+1)=(grp (rn s)).take j++[(grp (rn s)).getD j (false,[])]:=by
   rw[List.take_add_one,zA,zB hj'];rfl
  rw[this];unfold fl;rw[List.map_append,List.flatten_append,ib,zL];simp
 constructor
 .rw[e,hx];dsimp only;omega
 .rw[e,hx];dsimp only;omega
 .rw[e,hx];dsimp only;omega
 .rw[e,hx];dsimp only;rw[hcut];exact yN hv
 .rw[e,hx];dsimp only;rw[hcut,yQ hv];exact hg.2
 .intro h0;subst h0;rw[e,hx];simp[fl,bf]
 .intro j hj;have hj':j<(grp (rn s)).length:=by omega
  rw[e,hx,lY _ 0 j hj'];dsimp only;refine⟨?_,?_⟩
  .subst hj;rw[htk j rfl];push_cast;omega
  .subst hj;exact Ac (rn s) j hi
 .intro hl;rw[e,hx];dsimp only;have h1:(grp (rn s)).take (i+1)=grp (rn s):=List.take_of_length_le (by omega);have h2:fl (grp (rn s))=s:=by unfold fl;rw[hflat,he]
  have h3:(grp (rn s)).take (i+1)=(grp (rn s)).take i++[(grp (rn s)).getD i (false,[])]:=by
   rw[List.take_add_one,zA,zB hi];rfl
  have h4:s.length=(fl ((grp (rn s)).take i)).length+(bf ((grp (rn s)).getD i (false,[])).2).length:=by
   conv=>lhs;rw[<- h2,<- h1,h3]
   unfold fl;rw[List.map_append,List.flatten_append,ib,zL];simp
  omega
theorem nM (s:List UInt8):(spL s).length<=1048576:=by
 by_cases h:0<(spL s).length
 .obtain⟨e,hk,hs,hi⟩:=De h;have hg:∀q:List Int,(grp q).length<=q.length:=by
   intro q
   induction q with
   |nil=>simp[grp]
   | cons r q ih=>
     rw[grp];split
     .simp
     .next h=>rw[h] at ih; split <;> simp at * <;> omega
  have:=hg (rn s);have h2:(rn s).length<=s.length:=by unfold rn;rw[zR];exact qQ s
  rw[e,iq];omega
 .omega
end Go.EA
