/- Texts. Conditions: none. -/
import Derived.Test.YtgkhohpekfjlmaaDoorEK12
import Derived.Test.YtgkhohpekfjlmaaDoorEOrder
import Derived.Test.YtgkhohpekfjlmaaDoorEMean3
import Derived.Test.YtgkhohpekfjlmaaDoorERu
import Derived.Test.YtgkhohpekfjlmaaDoorERx
set_option linter.unusedVariables false
set_option linter.unusedSimpArgs false
section
namespace Go.EA
abbrev Ed:=Int×Int
abbrev Rst:=List (List Int)
def dP (out:List Int) (x:List Int):List Int:=match x with
 |[]=>out
 |r::_=>if out.getLast?=some r then out else out++[r]
def aD (l:Rst):List Int:=l.foldl dP []
def dI (r:Int) (x:List Int):Bool:=match x with | []=>false | y::_=>decide (y=r)
def aZ (l:Rst) (r:Int):Rst:=(l.filter (dI r)).map (·.drop 1)
def SmR (l:Rst):Prop:=l.length<=1099511627776/\∀x∈l,x.length<=1099511627776
theorem SmR.at {l:Rst}(h:SmR l) (i:Nat):(l.getD i []).length<=1099511627776:=by
 rw[zA];cases hi:l[i]? with
 |none=>simp
 |some x=>exact h.2 x (zU hi)
theorem Eh (out x:List Int):(dP out x).length<=out.length+1:=by
 unfold dP; split <;> (try split) <;> simp
theorem bF {α:Type}{l:List α}{i:Nat}(d:α) (h:i<l.length):l.take (i+1)=l.take i++[l.getD i d]:=by
 rw[List.take_add_one,zB h,zA,zB h];rfl
theorem iq (l:Rst):(aD l).length<=l.length:=by
 unfold aD
 suffices h:∀(l:Rst) out,(l.foldl dP out).length<=out.length+l.length by simpa using h l []
 intro l
 induction l with
 |nil=>simp
 |cons x l ih=>intro out;have:=ih (dP out x);have:=Eh out x;simp only[List.foldl_cons,zM];omega
theorem Fz (l:Rst) (r:Int):(aZ l r).length<=l.length:=by
 unfold aZ;rw[zR];exact List.length_filter_le ..
end Go.EA
end
section
namespace Go.EA
abbrev RSt:=Rst×Bool×List Ed
def tot (l:Rst):Nat:=(l.map List.length).sum
def mX (all:List RSt) (rests:Rst):Option Nat:=all.findIdx? fun s=>decide (s.1=rests)
def kG (all:List RSt) (i:Nat) (out:List Ed):List RSt:=all.set i ((all.getD i ([],false,[])).1,(all.getD i ([],false,[])).2.1,out)
def aH (l:Rst):Bool:=l.any List.isEmpty
def vis:Nat->List RSt->Rst->List RSt×Nat
 |0,all,_=>(all,0)
 |k+1,all,rests=>match mX all rests with
  |some i=>(all,i)
  | none=>
    let p:=(aD rests).foldl (fun p r=>((vis k p.1 (aZ rests r)).1,p.2++[(r,((vis k p.1 (aZ rests r)).2:Int))])) (all++[(rests,aH rests,([]:List Ed))],([]:List Ed))
    (kG p.1 all.length p.2,all.length)
def iF (all:List RSt) (rests:Rst):List RSt×Nat:=vis (tot rests+1) all rests
def jB (rests:Rst) (p:List RSt×List Ed) (r:Int):List RSt×List Ed:=((iF p.1 (aZ rests r)).1,p.2++[(r,((iF p.1 (aZ rests r)).2:Int))])
def dh (all:List RSt) (rests:Rst) (j:Nat):List RSt×List Ed:=((aD rests).take j).foldl (jB rests) (all++[(rests,aH rests,[])],[])
theorem jM {l:Rst}{r:Int}(h:r∈aD l):∃x∈l,dI r x=true:=by
 unfold aD at h
 suffices g:∀(l:Rst) out,r∈l.foldl dP out->r∈out\/∃x∈l,dI r x=true by
  rcases g l [] h with h | h
  .simp at h
  .exact h
 intro l
 induction l with
 |nil=>intro out h;exact .inl h
 | cons x l ih=>
   intro out h;rcases ih _ h with h | ⟨y,h1,h2⟩
   .unfold dP at h;split at h
    .exact .inl h
    .split at h
     .exact .inl h
     .rename_i y t _;rcases zX.1 h with h | h
      .exact .inl h
      .exact .inr ⟨_,List.mem_cons_self ..,by rw[List.mem_singleton.1 h];simp[dI]⟩
   .exact .inr ⟨y,by simp[h1],h2⟩
theorem QW {l:Rst}{r:Int}:tot (aZ l r)+(aZ l r).length<=tot l:=by
 unfold aZ tot
 induction l with
 |nil=>simp
 | cons x l ih=>
   simp only[List.filter_cons,zK,List.sum_cons];split
   .rename_i h;cases x with
    |nil=>simp[dI] at h
    |cons y t=>simp at ih ⊢;omega
   .omega
theorem iA {l:Rst}{r:Int}(h:r∈aD l):tot (aZ l r)<tot l:=by
 obtain⟨x,h1,h2⟩:=jM h;have:=QW (l:=l) (r:=r);have:0<(aZ l r).length:=by
  unfold aZ;rw[zR];exact List.length_pos_of_mem (List.mem_filter.2 ⟨h1,h2⟩)
 omega
theorem kw {α β:Type}{f g:β->α->β}:∀{l:List α}{b:β},(∀x∈l,∀b,f b x=g b x)->l.foldl f b=l.foldl g b
 |[],b,h=>rfl
 |x::l,b,h=>by rw[List.foldl_cons,List.foldl_cons,h x (by simp)];exact kw fun y hy b=>h y (by simp[hy]) b
theorem Pi:∀(k:Nat) (all:List RSt) (rests:Rst),tot rests<k->vis k all rests=iF all rests:=by
 suffices h:∀(n k k':Nat) (all:List RSt) (rests:Rst),tot rests<k->tot rests<k'->tot rests<n->vis k all rests=vis k' all rests from
  fun k all rests hk=>h (tot rests+1) k _ all rests hk (Nat.lt_succ_self _) (Nat.lt_succ_self _)
 intro n
 induction n with
 |zero=>intro k k' all rests _ _ h;omega
 | succ n ih=>
   intro k k' all rests h1 h2 h3;cases k with
   |zero=>omega
   | succ k=>
     cases k' with
     |zero=>omega
     | succ k'=>
       simp only[vis];split
       .rfl
       .have e:(aD rests).foldl (fun p r=>((vis k p.1 (aZ rests r)).1,p.2++[(r,((vis k p.1 (aZ rests r)).2:Int))])) (all++[(rests,aH rests,([]:List Ed))],([]:List Ed))=(aD rests).foldl (fun p r=>((vis k' p.1 (aZ rests r)).1,p.2++[(r,((vis k' p.1 (aZ rests r)).2:Int))])) (all++[(rests,aH rests,([]:List Ed))],([]:List Ed)):=
         kw fun r hr p=>by
          have:=iA hr;rw[ih k k' p.1 (aZ rests r) (by omega) (by omega) (by omega)]
        rw[e]
theorem mQ (all:List RSt) (rests:Rst):iF all rests=match mX all rests with
 |some i=>(all,i)
 |none=>(kG (dh all rests (aD rests).length).1 all.length (dh all rests (aD rests).length).2,all.length):=by
 unfold iF dh;simp only[vis];split
 .rfl
 .rw[List.take_length];have e:(aD rests).foldl (fun p r=>((vis (tot rests) p.1 (aZ rests r)).1,p.2++[(r,((vis (tot rests) p.1 (aZ rests r)).2:Int))])) (all++[(rests,aH rests,([]:List Ed))],([]:List Ed))=(aD rests).foldl (jB rests) (all++[(rests,aH rests,([]:List Ed))],([]:List Ed)):=
   kw fun r hr p=>by
    have:=iA hr;unfold jB;rw[Pi (tot rests) p.1 (aZ rests r) this]
  rw[e]
theorem kV {all:List RSt}{rests:Rst}{j:Nat}(h:j<(aD rests).length):dh all rests (j+1)=jB rests (dh all rests j) ((aD rests).getD j 0):=by
 unfold dh;rw[bF 0 h,List.foldl_append];rfl
def ltR:List Int->List Int->Prop
 |[],[]=>False
 |_::_,[]=>False
 |[],_::_=>True
 |a::x,b::y=>a<b\/(a=b/\ltR x y)
def dL (l:Rst):Prop:=l.Pairwise ltR
theorem vP:∀{x y z:List Int},ltR x y->ltR y z->ltR x z
 |[],[],_,h,_=>False.elim h
 |_::_,[],_,h,_=>False.elim h
 |_,_::_,[],_,h=>False.elim h
 |[],_::_,_::_,_,_=>trivial
 | a::x,b::y,c::z,h,h'=>by
   rcases h with h | ⟨h1,h2⟩ <;> rcases h' with h' | ⟨h1',h2'⟩
   .exact .inl (by omega)
   .exact .inl (by omega)
   .exact .inl (by omega)
   .exact .inr ⟨by omega,vP h2 h2'⟩
theorem kC:∀{x:List Int},¬ ltR x x
 |[],h=>h
 | a::x,h=>by
   rcases h with h | ⟨_,h⟩
   .omega
   .exact kC h
theorem pJ {l:Rst}(h:dL l) (r:Int):dL (aZ l r):=by
 unfold dL aZ at *;refine List.pairwise_map.2 (List.Pairwise.imp_of_mem (fun {x y} hx hy hxy=>?_) (h.filter _));have hx:=(List.mem_filter.1 hx).2;have hy:=(List.mem_filter.1 hy).2;cases x with
 |nil=>simp[dI] at hx
 | cons a x=>
   cases y with
   |nil=>simp[dI] at hy
   | cons b y=>
     simp[dI] at hx hy;subst hx hy;rcases hxy with h | ⟨_,h⟩
     .omega
     .exact h
theorem jC {l:Rst}(h:dL l):(aD l).Pairwise (·<·):=by
 suffices g:∀(l:Rst) (out:List Int),out.Pairwise (·<·)->dL l->(∀r∈out,∀x∈l,∀a t,x=a::t->r<=a)->(l.foldl dP out).Pairwise (·<·) from g l [] .nil h (by simp)
 intro l
 induction l with
 |nil=>intro out h _ _;exact h
 | cons x l ih=>
   intro out ho hl hle;have hl':=List.pairwise_cons.1 hl;refine ih _ ?_ hl'.2 ?_
   .unfold dP;split
    .exact ho
    .rename_i a t;split
     .exact ho
     .rename_i hne;refine List.pairwise_append.2 ⟨ho,List.pairwise_singleton ..,fun r hr b hb=>?_⟩;rw[List.mem_singleton.1 hb];have h1:=hle r hr (a::t) (by simp) a t rfl;rcases Int.lt_or_eq_of_le h1 with h2 | h2
      .exact h2
      .exfalso
       apply hne
       subst h2;rcases List.eq_nil_or_concat out with rfl | ⟨pre,z,rfl⟩
       .cases hr
       .rw[List.concat_eq_append] at *;have e:z=r:=by
         rcases zX.1 hr with hr | hr
         .have g1:=(List.pairwise_append.1 ho).2.2 r hr z (by simp);have g2:=hle z (by simp) (r::t) (by simp) r t rfl;omega
         .exact(List.mem_singleton.1 hr).symm
        rw[e];simp
   .intro r hr y hy b s hb;subst hb;have hxy:=hl'.1 _ hy;have key:∀a t,x=a::t->a<=b:=fun a t e=>by
     subst e;rcases hxy with h | ⟨h,_⟩ <;> omega
    unfold dP at hr;split at hr
    .exact hle r hr _ (by simp[hy]) b s rfl
    .split at hr
     .exact hle r hr _ (by simp[hy]) b s rfl
     .rcases zX.1 hr with hr | hr
      .exact hle r hr _ (by simp[hy]) b s rfl
      .rw[List.mem_singleton.1 hr];exact key _ _ rfl
theorem vL {l:Rst}:∀{hs:List Int},hs.Nodup->(∀r∈hs,∃x∈l,dI r x=true)->(hs.map fun r=>tot (aZ l r)+1).sum<=tot l:=by
 intro hs hn hm;have h1:(hs.map fun r=>tot (aZ l r)+1).sum<=(hs.map fun r=>((l.filter (dI r)).map List.length).sum).sum:=by
  clear hn
  induction hs with
  |nil=>simp
  | cons r hs ih=>
    simp only[zK,List.sum_cons];have:=ih fun r hr=>hm r (by simp[hr])
    obtain⟨x,g1,g2⟩:=hm r (by simp);have g:∀(m:Rst),(∀y∈m,dI r y=true)->tot (m.map (·.drop 1))+m.length=(m.map List.length).sum:=by
     intro m
     induction m with
     |nil=>intro _;rfl
     | cons y m ih=>
       intro h;have hy:=h y (by simp);have:=ih fun z hz=>h z (by simp[hz])
       unfold tot at this ⊢;cases y with
       |nil=>simp[dI] at hy
       |cons a t=>simp at this ⊢;omega
    have g3:=g (l.filter (dI r)) fun y hy=>(List.mem_filter.1 hy).2
    have g4:0<(l.filter (dI r)).length:=List.length_pos_of_mem (List.mem_filter.2 ⟨g1,g2⟩);have g5:aZ l r=(l.filter (dI r)).map (·.drop 1):=rfl;rw[<- g5] at g3;omega
 refine Nat.le_trans h1 ?_;clear h1 hm;unfold tot
 induction l with
 | nil=>
   clear hn
   induction hs with
   |nil=>simp
   |cons r hs ih=>simpa using ih
 | cons x l ih=>
   have:(hs.map fun r=>(((x::l).filter (dI r)).map List.length).sum).sum<=x.length+(hs.map fun r=>((l.filter (dI r)).map List.length).sum).sum:=by
    clear ih
    induction hs with
    |nil=>simp
    | cons r hs ih=>
      have hn':=List.nodup_cons.1 hn;simp only[zK,List.sum_cons];by_cases hb:dI r x=true
      .have e:(hs.map fun r=>(((x::l).filter (dI r)).map List.length).sum).sum=(hs.map fun r=>((l.filter (dI r)).map List.length).sum).sum:=by
        congr 1
        refine List.map_congr_left fun r' hr'=>?_
        rw[List.filter_cons,if_neg];intro hb';cases x with
        |nil=>simp[dI] at hb
        | cons a t=>
          simp[dI] at hb hb';exact hn'.1 (by rw[<- hb,hb'];exact hr')
       rw[e,List.filter_cons,if_pos hb];simp;omega
      .rw[List.filter_cons,if_neg hb];have:=ih hn'.2;omega
   simp only[zK,List.sum_cons];omega
theorem pU {l:List Int}(h:l.Pairwise (·<·)):l.Nodup:=h.imp fun h=>by omega
theorem DD (all:List RSt) (i:Nat) (out:List Ed):(kG all i out).length=all.length:=by unfold kG;rw[List.length_set]
theorem Aw:∀(n:Nat) (rests:Rst),tot rests<n->dL rests->∀all,(iF all rests).1.length<=all.length+tot rests+1:=by
 intro n
 induction n with
 |zero=>intro rests h;omega
 | succ n ih=>
   intro rests h hs all;rw[mQ];split
   .show all.length<=_;omega
   .show (kG _ _ _).length<=_;rw[DD];have g:∀(hs':List Int),(∀r∈hs',r∈aD rests)->∀p:List RSt×List Ed,(hs'.foldl (jB rests) p).1.length<=p.1.length+(hs'.map fun r=>tot (aZ rests r)+1).sum:=by
     intro hs'
     induction hs' with
     |nil=>intro _ p;simp
     | cons r hs' ih'=>
       intro hm p;rw[List.foldl_cons];have h1:=ih' (fun r hr=>hm r (by simp[hr])) (jB rests p r);have h2:=ih (aZ rests r) (by have:=iA (hm r (by simp));omega) (pJ hs r) p.1;simp only[zK,List.sum_cons];show _<=_;have h3:(jB rests p r).1.length=(iF p.1 (aZ rests r)).1.length:=rfl;omega
    unfold dh;rw[List.take_length];have h1:=g (aD rests) (fun r hr=>hr) (all++[(rests,aH rests,[])],[]);have h2:=vL (l:=rests) (pU (jC hs)) fun r hr=>jM hr
    simp at h1;omega
theorem Jc {all:List RSt}{rests:Rst}(hs:dL rests) (j:Nat):(dh all rests j).1.length<=all.length+tot rests+1/\(∀hj:j<(aD rests).length,(dh all rests j).1.length+tot (aZ rests ((aD rests).getD j 0))+1<=all.length+tot rests+1):=by
 have g:∀(hs':List Int),(∀r∈hs',r∈aD rests)->∀p:List RSt×List Ed,(hs'.foldl (jB rests) p).1.length<=p.1.length+(hs'.map fun r=>tot (aZ rests r)+1).sum:=by
  intro hs'
  induction hs' with
  |nil=>intro _ p;simp
  | cons r hs' ih'=>
    intro hm p;rw[List.foldl_cons];have h1:=ih' (fun r hr=>hm r (by simp[hr])) (jB rests p r);have h2:=Aw (tot (aZ rests r)+1) (aZ rests r) (Nat.lt_succ_self _) (pJ hs r) p.1;simp only[zK,List.sum_cons];have h3:(jB rests p r).1.length=(iF p.1 (aZ rests r)).1.length:=rfl;omega
 have h2:=vL (l:=rests) (pU (jC hs)) fun r hr=>jM hr
 have h1:=g ((aD rests).take j) (fun r hr=>List.mem_of_mem_take hr) (all++[(rests,aH rests,[])],[]);have e:(dh all rests j)=((aD rests).take j).foldl (jB rests) (all++[(rests,aH rests,[])],[]):=rfl;rw[<- e] at h1;have h3:((aD rests).map fun r=>tot (aZ rests r)+1).sum=(((aD rests).take j).map fun r=>tot (aZ rests r)+1).sum+(((aD rests).drop j).map fun r=>tot (aZ rests r)+1).sum:=by
  conv=>lhs;rw[<- List.take_append_drop j (aD rests)]
  rw[List.map_append,List.sum_append]
 simp only[zL,zN] at h1;refine⟨by omega,fun hj=>?_⟩;have h4:(aD rests).drop j=(aD rests).getD j 0::(aD rests).drop (j+1):=by
  rw[zA,zB hj];exact List.drop_eq_getElem_cons hj
 rw[h4] at h3;simp only[zK,List.sum_cons] at h3;omega
def SmA (all:List RSt):Prop:=∀s∈all,SmR s.1
theorem SmA.at {all:List RSt}(h:SmA all) {i:Nat}:SmR (all.getD i ([],false,[])).1:=by
 rw[zA];cases hi:all[i]? with
 |none=>exact⟨Nat.zero_le _,fun x hx=>by cases hx⟩
 |some x=>exact h x (zU hi)
theorem SmA.set {all:List RSt}(h:SmA all) (i:Nat) (out:List Ed):SmA (kG all i out):=fun s hs=>by
 unfold kG at hs;rcases List.mem_or_eq_of_mem_set hs with hs | rfl
 .exact h s hs
 .exact h.at
theorem Kc {all:List RSt}{rests:Rst}{i:Nat}(hi:i<all.length) (ha:∀j,j<i->(all.getD j ([],false,[])).1≠rests) (h:(all.getD i ([],false,[])).1=rests):mX all rests=some i:=by
 unfold mX;have hg:∀j (hj:j<all.length),all.getD j ([],false,[])=all[j]:=fun j hj=>by rw[zA,zB hj];rfl
 rw[List.findIdx?_eq_some_iff_getElem];refine⟨hi,?_,fun j hj=>?_⟩
 .rw[hg i hi] at h;exact decide_eq_true h
 .have:=ha j hj;rw[hg j (by omega)] at this;simpa using this
theorem Ij {all:List RSt}{rests:Rst}(ha:∀j,j<all.length->(all.getD j ([],false,[])).1≠rests):mX all rests=none:=by
 unfold mX;rw[List.findIdx?_eq_none_iff];intro s hs;obtain⟨j,hj,rfl⟩:=List.getElem_of_mem hs;have:=ha j hj;rw[zA,zB hj] at this;exact decide_eq_false this
theorem ig {α:Type}(l:List α) (x d:α):(l++[x]).getD l.length d=x:=by
 rw[zA,List.getElem?_concat_length];rfl
theorem KC {α:Type}(l:List α) (x y:α):(l++[x]).set l.length y=l++[y]:=by
 rw[List.set_append_right _ _ (zJ _)];simp
end Go.EA
end
section
namespace Go.EA
open Go.Lib (compareBytes)
theorem BC:∀{a b:List UInt8},aP a b=true->compareBytes a b = -1
 |a,[],h=>by rw[DV] at h;cases h
 |[],_::_,h=>rfl
 | x::a,y::b,h=>by
   unfold compareBytes;rcases (rW x y a b).1 h with h | ⟨h1,h2⟩
   .rw[if_pos h]
   .subst h1;rw[if_neg (UInt8.lt_irrefl x),if_neg (UInt8.lt_irrefl x)];exact BC h2
theorem Bw:∀{a b:List Int},cmpL a b = -1->ltR a b
 |[],[],h=>by simp[cmpL] at h
 |[],_::_,h=>trivial
 |_::_,[],h=>by simp[cmpL] at h
 | x::a,y::b,h=>by
   unfold cmpL at h;split at h
   .rename_i h1;exact .inl h1
   .split at h
    .simp at h
    .exact .inr ⟨by omega,Bw h⟩
theorem Jk {a b:List UInt8}(ha:bH a=0) (hb:bH b=0) (h:aP a b=true):ltR (aK a) (aK b):=Bw ((order ha hb).trans (BC h))
def wdR (l:List Wd):Rst:=l.map fun w=>aK w.1
theorem qm {s:List UInt8}(h:ek s=0):bH s=0/\0<(aK s).length/\(aK s).length<=64:=by
 unfold ek at h;split at h
 .rename_i h1;exact absurd h h1
 .split at h
  .cases h
  .split at h
   .cases h
   .rename_i h1 h2 h3;exact⟨by simpa using h1,List.length_pos_iff.2 h2,by omega⟩
theorem xI {w:Wd}(h:wE w=0):ek w.1=0/\1<=w.2/\w.2<=1073741824:=by
 unfold wE at h;split at h
 .rename_i h1;split at h
  .cases h
  .rename_i h2;exact⟨h1,by omega,by omega⟩
 .rename_i h1;exact absurd h h1
structure Nml (l:List Wd):Prop where
 e:isE l=0
 len:l.length<=65536
 dec:∀w∈l,bH w.1=0
 one:∀w∈l,0<(aK w.1).length
 few:∀w∈l,(aK w.1).length<=64
 frq:∀w∈l,1<=w.2/\w.2<=1073741824
 ris:ll l
theorem nml {l:List Wd}(h:isE l=0):Nml l:=by
 obtain⟨h1,h2,h3⟩:=mh.1 h;have h4:=qJ h1;exact⟨h,h3,fun w hw=>(qm (xI (h4 w hw)).1).1,fun w hw=>(qm (xI (h4 w hw)).1).2.1,fun w hw=>(qm (xI (h4 w hw)).1).2.2,fun w hw=>(xI (h4 w hw)).2,h2⟩
theorem Nml.srt {l:List Wd}(h:Nml l):dL (wdR l):=by
 unfold dL wdR;exact List.pairwise_map.2 (h.ris.imp_of_mem fun ha hb hab=>Jk (h.dec _ ha) (h.dec _ hb) hab)
theorem Nml.sm {l:List Wd}(h:Nml l):SmR (wdR l):=by
 refine⟨by unfold wdR;rw[zR];have:=h.len;omega,fun x hx=>?_⟩;obtain⟨w,hw,rfl⟩:=List.mem_map.1 hx;have:=h.few w hw;omega
theorem Nml.tot {l:List Wd}(h:Nml l):tot (wdR l)<=4194304:=by
 have g:∀(m:List Wd),(∀w∈m,(aK w.1).length<=64)->EA.tot (wdR m)<=64*m.length:=by
  intro m
  induction m with
  |nil=>intro _;exact Nat.zero_le _
  | cons w m ih=>
    intro hm;have h1:=ih fun x hx=>hm x (by simp[hx])
    have h2:=hm w (by simp);unfold EA.tot wdR at h1 ⊢;simp only[zK,List.sum_cons,zM];omega
 have:=g l h.few;have:=h.len;omega
theorem mE {l:List Wd}{i:Nat}(h:i<l.length):wdR (l.take (i+1))=wdR (l.take i)++[aK (l.getD i ([],0)).1]:=by
 unfold wdR;rw[bF ([],0) h,List.map_append];rfl
theorem yV (l:List Wd):(wdR l).length=l.length:=by unfold wdR;rw[zR]
def aM (l:List Wd):List RSt:=(iF [] (wdR l)).1
def nQ (all:List RSt):Int:=(all.map fun s=>(s.2.2.length:Int)).sum
def vK (out:List Ed) (r:Int):Option Ed:=out.find? fun e=>decide (e.1=r)
def gM (out:List Ed) (r:Int):Int:=((vK out r).map (·.2)).getD 0
def dz (out:List Ed) (r:Int):Bool:=(vK out r).isSome
theorem RU {out:List Ed}{r:Int}{i:Nat}(hi:i<out.length) (ha:∀j,j<i->(out.getD j (0,0)).1≠r) (h:(out.getD i (0,0)).1=r):vK out r=some (out.getD i (0,0)):=by
 have hg:∀j (hj:j<out.length),out.getD j (0,0)=out[j]:=fun j hj=>by rw[zA,zB hj];rfl
 unfold vK;rw[List.find?_eq_some_iff_getElem];refine⟨decide_eq_true h,i,hi,(hg i hi).symm,fun j hj=>?_⟩;have:=ha j hj;rw[hg j (by omega)] at this;simpa using this
theorem JS {out:List Ed}{r:Int}(ha:∀j,j<out.length->(out.getD j (0,0)).1≠r):vK out r=none:=by
 unfold vK;rw[List.find?_eq_none];intro s hs;obtain⟨j,hj,rfl⟩:=List.getElem_of_mem hs;have:=ha j hj;rw[zA,zB hj] at this;simpa using this
end Go.EA
end
section
namespace Go.EA
abbrev StD:=List Ed×Bool×Int
def dgB (n:Int):Int:=n.tmod 128+128
def ve:Nat->Int->List Int
 |0,_=>[]
 |k+1,n=>dgB n::(if n<128 then [] else ve k (n.tdiv 128))
def lY (n:Int):List Int:=ve (n.toNat+1) n
def Hq (e:Ed):List Int:=encI e.1++lY e.2++[0]
def lc (out:List Ed) (ends:Bool):List Int:=(if ends then 43 else 45)::out.flatMap Hq
def jY (out:List Ed) (ends:Bool):List UInt8:=(lc out ends).map fun z=>UInt8.ofNat z.toNat
theorem Yg:∀m:Fin 128,IntKind.u8.wrap ((BitVec.ofInt 8 (IntKind.u8.wrap (m.val:Int)) ||| BitVec.ofInt 8 128).toNat:Int)=(m.val:Int)+128:=by decide
theorem Xk {n:Int}(h:0<=n):IntKind.u8.wrap ((BitVec.ofInt 8 (IntKind.u8.wrap (n.tmod 128)) ||| BitVec.ofInt 8 128).toNat:Int)=dgB n:=by
 have h1:0<=n.tmod 128:=Int.tmod_nonneg _ h;have h2:n.tmod 128<128:=Int.tmod_lt_of_pos _ (by omega);obtain⟨m,hm⟩:∃m:Nat,n.tmod 128=m:=⟨(n.tmod 128).toNat,by omega⟩;unfold dgB;rw[hm];exact Yg ⟨m,by omega⟩
theorem kR {n:Int}(h:¬ n<128):0<=n.tdiv 128/\(n.tdiv 128).toNat<n.toNat/\n.tdiv 128<=n:=by
 rw[Int.tdiv_eq_ediv_of_nonneg (by omega)];omega
theorem vT:∀(k k':Nat) (n:Int),0<=n->n.toNat<k->n.toNat<k'->ve k n=ve k' n
 |0,_,n,_,h,_=>by omega
 |_+1,0,n,_,_,h=>by omega
 | k+1,k'+1,n,h0,h,h'=>by
   simp only[ve];split
   .rfl
   .rename_i h1;obtain⟨g1,g2,_⟩:=kR h1;rw[vT k k' (n.tdiv 128) g1 (by omega) (by omega)]
theorem BI {n:Int}(h:n<128):lY n=[dgB n]:=by unfold lY;simp only[ve,if_pos h]
theorem vQ {n:Int}(h:¬ n<128):lY n=dgB n::lY (n.tdiv 128):=by
 obtain⟨g1,g2,_⟩:=kR h;unfold lY;rw[show ve (n.toNat+1) n=dgB n::ve n.toNat (n.tdiv 128) by simp only[ve,if_neg h]];rw[vT n.toNat ((n.tdiv 128).toNat+1) _ g1 g2 (Nat.lt_succ_self _)]
theorem CZ:∀(k:Nat) (n:Int),(ve k n).length<=k
 |0,n=>zJ _
 | k+1,n=>by
   simp only[ve,zM];split
   .simp
   .have:=CZ k (n.tdiv 128);omega
theorem Bd (n:Int):(lY n).length<=n.toNat+1:=CZ _ n
theorem QO {r:Int}(h:Utf8.valid r=true):(encI r).length<=4:=by
 have hv:=bz.1 h;by_cases h1:r<128
 .rw[GM h h1];simp
 .by_cases h2:r<2048
  .rw[Gw h (by omega) h2];simp
  .by_cases h3:r<65536
   .rw[Cy h (by omega) h3];simp
   .rw[GX h (by omega)];simp
def OkE (out:List Ed):Prop:=∀e∈out,Utf8.valid e.1=true/\0<=e.2/\e.2<=8388608
theorem OkE.at {out:List Ed}(h:OkE out) {i:Nat}(hi:i<out.length):Utf8.valid (out.getD i (0,0)).1=true/\0<=(out.getD i (0,0)).2/\(out.getD i (0,0)).2<=8388608:=by
 rw[zA,zB hi];exact h _ (List.getElem_mem _)
theorem wD {out:List Ed}{b:Bool}{i:Nat}(h:i<out.length):lc (out.take (i+1)) b=lc (out.take i) b++Hq (out.getD i (0,0)):=by
 unfold lc;rw[bF (0,0) h,List.flatMap_append];simp
theorem Lu {e:Ed}(h:Utf8.valid e.1=true/\0<=e.2/\e.2<=8388608):(Hq e).length<=8388614:=by
 unfold Hq;have h1:=QO h.1;have h2:=Bd e.2;simp only[zL,zN];omega
theorem uT {out:List Ed}(h:OkE out) (b:Bool):∀i,i<=out.length->(lc (out.take i) b).length<=1+i*8388614
 |0,_=>by simp[lc]
 | i+1,hi=>by
   rw[wD (by omega),zL];have h1:=uT h b i (by omega);have h2:=Lu (h.at (i:=i) (by omega));omega
def bi:List Int->List Int->Nat
 |a::x,b::y=>if a=b then bi x y+1 else 0
 |_,_=>0
theorem Be {a b:List Int}{i:Nat}(h:¬ i<a.length\/¬ i<b.length):bi (a.drop i) (b.drop i)=0:=by
 rcases h with h | h
 .rw[List.drop_of_length_le (show a.length<=i by omega)];simp[bi]
 .rw[List.drop_of_length_le (show b.length<=i by omega)]; cases a.drop i <;> simp[bi]
theorem gu {l:List Int}{i:Nat}(h:i<l.length):l.drop i=l.getD i 0::l.drop (i+1):=by
 rw[List.drop_eq_getElem_cons h,zA,zB h];rfl
theorem vU {a b:List Int}{i:Nat}(h:i<a.length) (h':i<b.length):bi (a.drop i) (b.drop i)=if a.getD i 0=b.getD i 0 then bi (a.drop (i+1)) (b.drop (i+1))+1 else 0:=by
 rw[gu h,gu h'];rfl
end Go.EA
end
section
namespace Go.EA
abbrev Mp:=List (List UInt8×Int)
def fe (m:Mp) (k:List UInt8):Option Int:=Ty.mget .str m k
def oD (m:Mp) (k:List UInt8) (v:Int):Mp:=Ty.mput .str m k v
def stA (D:List StD) (i:Nat):StD:=D.getD i ([],false,0)
def pI (D:List StD) (i:Nat) (to:Int):List StD:=D.set i ((stA D i).1.set ((stA D i).1.length-1) (((stA D i).1.getD ((stA D i).1.length-1) (0,0)).1,to),(stA D i).2)
def chS (p:List StD×List Int) (r:Int):List StD×List Int:=
 ((p.1++[([],false,0)]).set (p.2.getD (p.2.length-1) 0).toNat ((stA (p.1++[([],false,0)]) (p.2.getD (p.2.length-1) 0).toNat).1++[(r,(p.1.length:Int))],(stA (p.1++[([],false,0)]) (p.2.getD (p.2.length-1) 0).toNat).2),p.2++[(p.1.length:Int)])
def nD (D:List StD) (i:Nat):List StD:=D.set i ((stA D i).1,true,(stA D i).2.2)
def bT (l:List Wd) (i:Nat):List Int:=match i with | 0=>[] | i+1=>aK (l.getD i ([],0)).1
end Go.EA
end
