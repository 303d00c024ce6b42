/- Texts. Conditions: none. -/
import Derived.Test.YtgkhohpekfjlmaaDoorEK12
import Derived.Test.YtgkhohpekfjlmaaDoorEOrder
import Derived.Test.YtgkhohpekfjlmaaDoorEMean3
import Derived.Test.YtgkhohpekfjlmaaDoorERu
import Derived.Test.YtgkhohpekfjlmaaDoorERx
set_option linter.unusedVariables false
set_option linter.unusedSimpArgs false
section
namespace Go.EA
abbrev Ed:=Int×Int
abbrev Rst:=List (List Int)
def df (out:List Int) (x:List Int):List Int:=match x with
 |[]=>out
 |r::_=>if out.getLast?=some r then out else out++[r]
def ak (l:Rst):List Int:=l.foldl df []
def dh (r:Int) (x:List Int):Bool:=match x with | []=>false | y::_=>decide (y=r)
def aO (l:Rst) (r:Int):Rst:=(l.filter (dh r)).map (·.drop 1)
def SmR (l:Rst):Prop:=l.length<=1099511627776/\∀x∈l,x.length<=1099511627776
theorem SmR.at {l:Rst}(h:SmR l) (i:Nat):(l.getD i []).length<=1099511627776:=by
 rw[zA];cases hi:l[i]? with
 |none=>simp
 |some x=>exact h.2 x (zU hi)
theorem EO (out x:List Int):(df out x).length<=out.length+1:=by
 unfold df; split <;> (try split) <;> simp
theorem aU {α:Type}{l:List α}{i:Nat}(d:α) (h:i<l.length):l.take (i+1)=l.take i++[l.getD i d]:=by
 rw[List.take_add_one,zB h,zA,zB h];rfl
theorem fM (l:Rst):(ak l).length<=l.length:=by
 unfold ak
 suffices h:∀(l:Rst) out,(l.foldl df out).length<=out.length+l.length by simpa using h l []
 intro l
 induction l with
 |nil=>simp
 |cons x l ih=>intro out;have:=ih (df out x);have:=EO out x;simp only[List.foldl_cons,zM];omega
theorem EZ {l:Rst}{i:Nat}(h:i<l.length):ak (l.take (i+1))=df (ak (l.take i)) (l.getD i []):=by
 unfold ak;rw[aU [] h,List.foldl_append];rfl
theorem su (l:Rst) (r:Int):(aO l r).length<=l.length:=by
 unfold aO;rw[zR];exact List.length_filter_le ..
theorem Fj {l:Rst}(h:SmR l) (r:Int):SmR (aO l r):=by
 refine⟨Nat.le_trans (su l r) h.1,fun x hx=>?_⟩;unfold aO at hx;obtain⟨y,hy,rfl⟩:=List.mem_map.1 hx;have:=h.2 y ((List.mem_filter.1 hy).1);simp;omega
theorem OV {l:Rst}{i:Nat}(h:i<l.length) (r:Int):aO (l.take (i+1)) r=aO (l.take i) r++(if dh r (l.getD i []) then [(l.getD i []).drop 1] else []):=by
 unfold aO;rw[aU [] h,List.filter_append,List.map_append]
 congr 1
 by_cases hb:dh r (l.getD i [])=true
 .rw[if_pos hb];simp only[List.filter,hb,zK,List.map_nil]
 .rw[if_neg hb];simp only[List.filter,hb,List.map_nil]
theorem VM {o x:List Int}(h:¬ 0<(x.length:Int)):df o x=o:=by
 cases x with
 |nil=>rfl
 |cons r t=>exact absurd (by rw[zM];omega) h
theorem wu {o:List Int}(h:o≠[]):o.getLast?=some (o.getD (o.length-1) 0):=by
 have hl:o.length≠0:=fun e=>h (zT e)
 rw[List.getLast?_eq_getElem?,zA,zB (by omega)];rfl
theorem Tf {o x:List Int}(hx:0<(x.length:Int)) (ho:o≠[]) (h:o.getD (o.length-1) 0=x.getD 0 0):df o x=o:=by
 cases x with
 |nil=>simp at hx
 |cons r t=>unfold df;rw[wu ho,h];simp
theorem MX {o x:List Int}(hx:0<(x.length:Int)) (h:o=[]\/o.getD (o.length-1) 0≠x.getD 0 0):df o x=o++[x.getD 0 0]:=by
 cases x with
 |nil=>simp at hx
 | cons r t=>
   unfold df;by_cases ho:o=[]
   .subst ho;simp
   .rw[wu ho];have h:=h.resolve_left ho;simp at h ⊢;exact h
theorem Tt {x:List Int}{r:Int}(hx:0<(x.length:Int)) (h:x.getD 0 0=r):dh r x=true:=by
 cases x with
 |nil=>simp at hx
 |cons y t=>simpa [dh] using h
theorem Xn {x:List Int}{r:Int}(h:x.getD 0 0≠r):dh r x=false:=by
 cases x with
 |nil=>rfl
 |cons y t=>simpa [dh] using h
theorem Sn {x:List Int}{r:Int}(h:¬ 0<(x.length:Int)):dh r x=false:=by
 cases x with
 |nil=>rfl
 |cons y t=>exact absurd (by rw[zM];omega) h
end Go.EA
end
section
namespace Go.EA
abbrev RSt:=Rst×Bool×List Ed
def tot (l:Rst):Nat:=(l.map List.length).sum
def mU (all:List RSt) (rests:Rst):Option Nat:=all.findIdx? fun s=>decide (s.1=rests)
def jk (all:List RSt) (i:Nat) (out:List Ed):List RSt:=all.set i ((all.getD i ([],false,[])).1,(all.getD i ([],false,[])).2.1,out)
def aD (l:Rst):Bool:=l.any List.isEmpty
def vis:Nat->List RSt->Rst->List RSt×Nat
 |0,all,_=>(all,0)
 |k+1,all,rests=>match mU all rests with
  |some i=>(all,i)
  | none=>
    let p:=(ak rests).foldl (fun p r=>((vis k p.1 (aO rests r)).1,p.2++[(r,((vis k p.1 (aO rests r)).2:Int))])) (all++[(rests,aD rests,([]:List Ed))],([]:List Ed))
    (jk p.1 all.length p.2,all.length)
def eD (all:List RSt) (rests:Rst):List RSt×Nat:=vis (tot rests+1) all rests
def fu (rests:Rst) (p:List RSt×List Ed) (r:Int):List RSt×List Ed:=((eD p.1 (aO rests r)).1,p.2++[(r,((eD p.1 (aO rests r)).2:Int))])
def bq (all:List RSt) (rests:Rst) (j:Nat):List RSt×List Ed:=((ak rests).take j).foldl (fu rests) (all++[(rests,aD rests,[])],[])
theorem iF {l:Rst}{r:Int}(h:r∈ak l):∃x∈l,dh r x=true:=by
 unfold ak at h
 suffices g:∀(l:Rst) out,r∈l.foldl df out->r∈out\/∃x∈l,dh r x=true by
  rcases g l [] h with h | h
  .simp at h
  .exact h
 intro l
 induction l with
 |nil=>intro out h;exact .inl h
 | cons x l ih=>
   intro out h;rcases ih _ h with h | ⟨y,h1,h2⟩
   .unfold df at h;split at h
    .exact .inl h
    .split at h
     .exact .inl h
     .rename_i y t _;rcases zX.1 h with h | h
      .exact .inl h
      .exact .inr ⟨_,List.mem_cons_self ..,by rw[List.mem_singleton.1 h];simp[dh]⟩
   .exact .inr ⟨y,by simp[h1],h2⟩
theorem TS {l:Rst}{r:Int}:tot (aO l r)+(aO l r).length<=tot l:=by
 unfold aO tot
 induction l with
 |nil=>simp
 | cons x l ih=>
   simp only[List.filter_cons,zK,List.sum_cons];split
   .rename_i h;cases x with
    |nil=>simp[dh] at h
    |cons y t=>simp at ih ⊢;omega
   .omega
theorem fF {l:Rst}{r:Int}(h:r∈ak l):tot (aO l r)<tot l:=by
 obtain⟨x,h1,h2⟩:=iF h;have:=TS (l:=l) (r:=r);have:0<(aO l r).length:=by
  unfold aO;rw[zR];exact List.length_pos_of_mem (List.mem_filter.2 ⟨h1,h2⟩)
 omega
theorem kM {α β:Type}{f g:β->α->β}:∀{l:List α}{b:β},(∀x∈l,∀b,f b x=g b x)->l.foldl f b=l.foldl g b
 |[],b,h=>rfl
 |x::l,b,h=>by rw[List.foldl_cons,List.foldl_cons,h x (by simp)];exact kM fun y hy b=>h y (by simp[hy]) b
theorem KM:∀(k:Nat) (all:List RSt) (rests:Rst),tot rests<k->vis k all rests=eD all rests:=by
 suffices h:∀(n k k':Nat) (all:List RSt) (rests:Rst),tot rests<k->tot rests<k'->tot rests<n->vis k all rests=vis k' all rests from
  fun k all rests hk=>h (tot rests+1) k _ all rests hk (Nat.lt_succ_self _) (Nat.lt_succ_self _)
 intro n
 induction n with
 |zero=>intro k k' all rests _ _ h;omega
 | succ n ih=>
   intro k k' all rests h1 h2 h3;cases k with
   |zero=>omega
   | succ k=>
     cases k' with
     |zero=>omega
     | succ k'=>
       simp only[vis];split
       .rfl
       .have e:(ak rests).foldl (fun p r=>((vis k p.1 (aO rests r)).1,p.2++[(r,((vis k p.1 (aO rests r)).2:Int))])) (all++[(rests,aD rests,([]:List Ed))],([]:List Ed))=(ak rests).foldl (fun p r=>((vis k' p.1 (aO rests r)).1,p.2++[(r,((vis k' p.1 (aO rests r)).2:Int))])) (all++[(rests,aD rests,([]:List Ed))],([]:List Ed)):=
         kM fun r hr p=>by
          have:=fF hr;rw[ih k k' p.1 (aO rests r) (by omega) (by omega) (by omega)]
        rw[e]
theorem gV (all:List RSt) (rests:Rst):eD all rests=match mU all rests with
 |some i=>(all,i)
 |none=>(jk (bq all rests (ak rests).length).1 all.length (bq all rests (ak rests).length).2,all.length):=by
 unfold eD bq;simp only[vis];split
 .rfl
 .rw[List.take_length];have e:(ak rests).foldl (fun p r=>((vis (tot rests) p.1 (aO rests r)).1,p.2++[(r,((vis (tot rests) p.1 (aO rests r)).2:Int))])) (all++[(rests,aD rests,([]:List Ed))],([]:List Ed))=(ak rests).foldl (fu rests) (all++[(rests,aD rests,([]:List Ed))],([]:List Ed)):=
   kM fun r hr p=>by
    have:=fF hr;unfold fu;rw[KM (tot rests) p.1 (aO rests r) this]
  rw[e]
theorem gM {all:List RSt}{rests:Rst}{j:Nat}(h:j<(ak rests).length):bq all rests (j+1)=fu rests (bq all rests j) ((ak rests).getD j 0):=by
 unfold bq;rw[aU 0 h,List.foldl_append];rfl
def ltR:List Int->List Int->Prop
 |[],[]=>False
 |_::_,[]=>False
 |[],_::_=>True
 |a::x,b::y=>a<b\/(a=b/\ltR x y)
def dE (l:Rst):Prop:=l.Pairwise ltR
theorem wJ:∀{x y z:List Int},ltR x y->ltR y z->ltR x z
 |[],[],_,h,_=>False.elim h
 |_::_,[],_,h,_=>False.elim h
 |_,_::_,[],_,h=>False.elim h
 |[],_::_,_::_,_,_=>trivial
 | a::x,b::y,c::z,h,h'=>by
   rcases h with h | ⟨h1,h2⟩ <;> rcases h' with h' | ⟨h1',h2'⟩
   .exact .inl (by omega)
   .exact .inl (by omega)
   .exact .inl (by omega)
   .exact .inr ⟨by omega,wJ h2 h2'⟩
theorem kJ:∀{x:List Int},¬ ltR x x
 |[],h=>h
 | a::x,h=>by
   rcases h with h | ⟨_,h⟩
   .omega
   .exact kJ h
theorem mE {l:Rst}(h:dE l) (r:Int):dE (aO l r):=by
 unfold dE aO at *;refine List.pairwise_map.2 (List.Pairwise.imp_of_mem (fun {x y} hx hy hxy=>?_) (h.filter _));have hx:=(List.mem_filter.1 hx).2;have hy:=(List.mem_filter.1 hy).2;cases x with
 |nil=>simp[dh] at hx
 | cons a x=>
   cases y with
   |nil=>simp[dh] at hy
   | cons b y=>
     simp[dh] at hx hy;subst hx hy;rcases hxy with h | ⟨_,h⟩
     .omega
     .exact h
theorem jU {l:Rst}(h:dE l):(ak l).Pairwise (·<·):=by
 suffices g:∀(l:Rst) (out:List Int),out.Pairwise (·<·)->dE l->(∀r∈out,∀x∈l,∀a t,x=a::t->r<=a)->(l.foldl df out).Pairwise (·<·) from g l [] .nil h (by simp)
 intro l
 induction l with
 |nil=>intro out h _ _;exact h
 | cons x l ih=>
   intro out ho hl hle;have hl':=List.pairwise_cons.1 hl;refine ih _ ?_ hl'.2 ?_
   .unfold df;split
    .exact ho
    .rename_i a t;split
     .exact ho
     .rename_i hne;refine List.pairwise_append.2 ⟨ho,List.pairwise_singleton ..,fun r hr b hb=>?_⟩;rw[List.mem_singleton.1 hb];have h1:=hle r hr (a::t) (by simp) a t rfl;rcases Int.lt_or_eq_of_le h1 with h2 | h2
      .exact h2
      .exfalso
       apply hne
       subst h2;rcases List.eq_nil_or_concat out with rfl | ⟨pre,z,rfl⟩
       .cases hr
       .rw[List.concat_eq_append] at *;have e:z=r:=by
         rcases zX.1 hr with hr | hr
         .have g1:=(List.pairwise_append.1 ho).2.2 r hr z (by simp);have g2:=hle z (by simp) (r::t) (by simp) r t rfl;omega
         .exact(List.mem_singleton.1 hr).symm
        rw[e];simp
   .intro r hr y hy b s hb;subst hb;have hxy:=hl'.1 _ hy;have key:∀a t,x=a::t->a<=b:=fun a t e=>by
     subst e;rcases hxy with h | ⟨h,_⟩ <;> omega
    unfold df at hr;split at hr
    .exact hle r hr _ (by simp[hy]) b s rfl
    .split at hr
     .exact hle r hr _ (by simp[hy]) b s rfl
     .rcases zX.1 hr with hr | hr
      .exact hle r hr _ (by simp[hy]) b s rfl
      .rw[List.mem_singleton.1 hr];exact key _ _ rfl
theorem xB {l:Rst}:∀{hs:List Int},hs.Nodup->(∀r∈hs,∃x∈l,dh r x=true)->(hs.map fun r=>tot (aO l r)+1).sum<=tot l:=by
 intro hs hn hm;have h1:(hs.map fun r=>tot (aO l r)+1).sum<=(hs.map fun r=>((l.filter (dh r)).map List.length).sum).sum:=by
  clear hn
  induction hs with
  |nil=>simp
  | cons r hs ih=>
    simp only[zK,List.sum_cons];have:=ih fun r hr=>hm r (by simp[hr])
    obtain⟨x,g1,g2⟩:=hm r (by simp);have g:∀(m:Rst),(∀y∈m,dh r y=true)->tot (m.map (·.drop 1))+m.length=(m.map List.length).sum:=by
     intro m
     induction m with
     |nil=>intro _;rfl
     | cons y m ih=>
       intro h;have hy:=h y (by simp);have:=ih fun z hz=>h z (by simp[hz])
       unfold tot at this ⊢;cases y with
       |nil=>simp[dh] at hy
       |cons a t=>simp at this ⊢;omega
    have g3:=g (l.filter (dh r)) fun y hy=>(List.mem_filter.1 hy).2
    have g4:0<(l.filter (dh r)).length:=List.length_pos_of_mem (List.mem_filter.2 ⟨g1,g2⟩);have g5:aO l r=(l.filter (dh r)).map (·.drop 1):=rfl;rw[<- g5] at g3;omega
 refine Nat.le_trans h1 ?_;clear h1 hm;unfold tot
 induction l with
 | nil=>
   clear hn
   induction hs with
   |nil=>simp
   |cons r hs ih=>simpa using ih
 | cons x l ih=>
   have:(hs.map fun r=>(((x::l).filter (dh r)).map List.length).sum).sum<=x.length+(hs.map fun r=>((l.filter (dh r)).map List.length).sum).sum:=by
    clear ih
    induction hs with
    |nil=>simp
    | cons r hs ih=>
      have hn':=List.nodup_cons.1 hn;simp only[zK,List.sum_cons];by_cases hb:dh r x=true
      .have e:(hs.map fun r=>(((x::l).filter (dh r)).map List.length).sum).sum=(hs.map fun r=>((l.filter (dh r)).map List.length).sum).sum:=by
        congr 1
        refine List.map_congr_left fun r' hr'=>?_
        rw[List.filter_cons,if_neg];intro hb';cases x with
        |nil=>simp[dh] at hb
        | cons a t=>
          simp[dh] at hb hb';exact hn'.1 (by rw[<- hb,hb'];exact hr')
       rw[e,List.filter_cons,if_pos hb];simp;omega
      .rw[List.filter_cons,if_neg hb];have:=ih hn'.2;omega
   simp only[zK,List.sum_cons];omega
theorem pW {l:List Int}(h:l.Pairwise (·<·)):l.Nodup:=h.imp fun h=>by omega
theorem uI (all:List RSt) (i:Nat) (out:List Ed):(jk all i out).length=all.length:=by unfold jk;rw[List.length_set]
theorem Bd:∀(n:Nat) (rests:Rst),tot rests<n->dE rests->∀all,(eD all rests).1.length<=all.length+tot rests+1:=by
 intro n
 induction n with
 |zero=>intro rests h;omega
 | succ n ih=>
   intro rests h hs all;rw[gV];split
   .show all.length<=_;omega
   .show (jk _ _ _).length<=_;rw[uI];have g:∀(hs':List Int),(∀r∈hs',r∈ak rests)->∀p:List RSt×List Ed,(hs'.foldl (fu rests) p).1.length<=p.1.length+(hs'.map fun r=>tot (aO rests r)+1).sum:=by
     intro hs'
     induction hs' with
     |nil=>intro _ p;simp
     | cons r hs' ih'=>
       intro hm p;rw[List.foldl_cons];have h1:=ih' (fun r hr=>hm r (by simp[hr])) (fu rests p r);have h2:=ih (aO rests r) (by have:=fF (hm r (by simp));omega) (mE hs r) p.1;simp only[zK,List.sum_cons];show _<=_;have h3:(fu rests p r).1.length=(eD p.1 (aO rests r)).1.length:=rfl;omega
    unfold bq;rw[List.take_length];have h1:=g (ak rests) (fun r hr=>hr) (all++[(rests,aD rests,[])],[]);have h2:=xB (l:=rests) (pW (jU hs)) fun r hr=>iF hr
    simp at h1;omega
theorem wO {all:List RSt}{rests:Rst}(hs:dE rests) (j:Nat):(bq all rests j).1.length<=all.length+tot rests+1/\(∀hj:j<(ak rests).length,(bq all rests j).1.length+tot (aO rests ((ak rests).getD j 0))+1<=all.length+tot rests+1):=by
 have g:∀(hs':List Int),(∀r∈hs',r∈ak rests)->∀p:List RSt×List Ed,(hs'.foldl (fu rests) p).1.length<=p.1.length+(hs'.map fun r=>tot (aO rests r)+1).sum:=by
  intro hs'
  induction hs' with
  |nil=>intro _ p;simp
  | cons r hs' ih'=>
    intro hm p;rw[List.foldl_cons];have h1:=ih' (fun r hr=>hm r (by simp[hr])) (fu rests p r);have h2:=Bd (tot (aO rests r)+1) (aO rests r) (Nat.lt_succ_self _) (mE hs r) p.1;simp only[zK,List.sum_cons];have h3:(fu rests p r).1.length=(eD p.1 (aO rests r)).1.length:=rfl;omega
 have h2:=xB (l:=rests) (pW (jU hs)) fun r hr=>iF hr
 have h1:=g ((ak rests).take j) (fun r hr=>List.mem_of_mem_take hr) (all++[(rests,aD rests,[])],[]);have e:(bq all rests j)=((ak rests).take j).foldl (fu rests) (all++[(rests,aD rests,[])],[]):=rfl;rw[<- e] at h1;have h3:((ak rests).map fun r=>tot (aO rests r)+1).sum=(((ak rests).take j).map fun r=>tot (aO rests r)+1).sum+(((ak rests).drop j).map fun r=>tot (aO rests r)+1).sum:=by
  conv=>lhs;rw[<- List.take_append_drop j (ak rests)]
  rw[List.map_append,List.sum_append]
 simp only[zL,zN] at h1;refine⟨by omega,fun hj=>?_⟩;have h4:(ak rests).drop j=(ak rests).getD j 0::(ak rests).drop (j+1):=by
  rw[zA,zB hj];exact List.drop_eq_getElem_cons hj
 rw[h4] at h3;simp only[zK,List.sum_cons] at h3;omega
def SmA (all:List RSt):Prop:=∀s∈all,SmR s.1
theorem SmA.at {all:List RSt}(h:SmA all) {i:Nat}:SmR (all.getD i ([],false,[])).1:=by
 rw[zA];cases hi:all[i]? with
 |none=>exact⟨Nat.zero_le _,fun x hx=>by cases hx⟩
 |some x=>exact h x (zU hi)
theorem SmA.set {all:List RSt}(h:SmA all) (i:Nat) (out:List Ed):SmA (jk all i out):=fun s hs=>by
 unfold jk at hs;rcases List.mem_or_eq_of_mem_set hs with hs | rfl
 .exact h s hs
 .exact h.at
theorem TQ:∀(n:Nat) (rests:Rst),tot rests<n->SmR rests->∀all,SmA all->SmA (eD all rests).1:=by
 intro n
 induction n with
 |zero=>intro rests h;omega
 | succ n ih=>
   intro rests h hr all ha;rw[gV];split
   .exact ha
   .refine SmA.set ?_ _ _;have g:∀(hs':List Int),(∀r∈hs',r∈ak rests)->∀p:List RSt×List Ed,SmA p.1->SmA (hs'.foldl (fu rests) p).1:=by
     intro hs'
     induction hs' with
     |nil=>intro _ p h;exact h
     | cons r hs' ih'=>
       intro hm p hp;rw[List.foldl_cons];exact ih' (fun r hr=>hm r (by simp[hr])) _ (ih (aO rests r) (by have:=fF (hm r (by simp));omega) (Fj hr r) p.1 hp)
    unfold bq;rw[List.take_length];refine g _ (fun r hr=>hr) _ fun s hs=>?_
    rcases zX.1 hs with hs | hs
    .exact ha s hs
    .rw[List.mem_singleton.1 hs];exact hr
theorem Nr {all:List RSt}{rests:Rst}(ha:SmA all) (hr:SmR rests) (j:Nat):SmA (bq all rests j).1:=by
 have g:∀(hs':List Int) (p:List RSt×List Ed),SmA p.1->SmA (hs'.foldl (fu rests) p).1:=by
  intro hs'
  induction hs' with
  |nil=>intro p h;exact h
  | cons r hs' ih'=>
    intro p hp;rw[List.foldl_cons];exact ih' _ (TQ _ (aO rests r) (Nat.lt_succ_self _) (Fj hr r) p.1 hp)
 refine g _ _ fun s hs=>?_
 rcases zX.1 hs with hs | hs
 .exact ha s hs
 .rw[List.mem_singleton.1 hs];exact hr
theorem TV:∀(n:Nat) (rests:Rst),tot rests<n->∀all,all.length<=(eD all rests).1.length:=by
 intro n
 induction n with
 |zero=>intro rests h;omega
 | succ n ih=>
   intro rests h all;rw[gV];split
   .exact zJ _
   .show _<=(jk _ _ _).length;rw[uI];have g:∀(hs':List Int),(∀r∈hs',r∈ak rests)->∀p:List RSt×List Ed,p.1.length<=(hs'.foldl (fu rests) p).1.length:=by
     intro hs'
     induction hs' with
     |nil=>intro _ p;exact zJ _
     | cons r hs' ih'=>
       intro hm p;rw[List.foldl_cons];have h1:=ih' (fun r hr=>hm r (by simp[hr])) (fu rests p r);have h2:=ih (aO rests r) (by have:=fF (hm r (by simp));omega) p.1;exact Nat.le_trans h2 h1
    unfold bq;rw[List.take_length];have:=g _ (fun r hr=>hr) (all++[(rests,aD rests,[])],[]);simp at this;omega
theorem PU {all:List RSt}{rests:Rst}(j:Nat):all.length+1<=(bq all rests j).1.length:=by
 have g:∀(hs':List Int) (p:List RSt×List Ed),p.1.length<=(hs'.foldl (fu rests) p).1.length:=by
  intro hs'
  induction hs' with
  |nil=>intro p;exact zJ _
  | cons r hs' ih'=>
    intro p;rw[List.foldl_cons];exact Nat.le_trans (TV _ (aO rests r) (Nat.lt_succ_self _) p.1) (ih' (fu rests p r))
 have:=g ((ak rests).take j) (all++[(rests,aD rests,[])],[]);simp at this;exact this
theorem Je {all:List RSt}{rests:Rst}(j:Nat):(bq all rests j).2.length<=j:=by
 have g:∀(hs':List Int) (p:List RSt×List Ed),(hs'.foldl (fu rests) p).2.length=p.2.length+hs'.length:=by
  intro hs'
  induction hs' with
  |nil=>intro p;rfl
  | cons r hs' ih'=>
    intro p;rw[List.foldl_cons,ih'];simp[fu];omega
 have:=g ((ak rests).take j) (all++[(rests,aD rests,[])],[]);simp at this;have e:(bq all rests j)=((ak rests).take j).foldl (fu rests) (all++[(rests,aD rests,[])],[]):=rfl;rw[<- e] at this;omega
theorem Bn {all:List RSt}{rests:Rst}{i:Nat}(hi:i<all.length) (ha:∀j,j<i->(all.getD j ([],false,[])).1≠rests) (h:(all.getD i ([],false,[])).1=rests):mU all rests=some i:=by
 unfold mU;have hg:∀j (hj:j<all.length),all.getD j ([],false,[])=all[j]:=fun j hj=>by rw[zA,zB hj];rfl
 rw[List.findIdx?_eq_some_iff_getElem];refine⟨hi,?_,fun j hj=>?_⟩
 .rw[hg i hi] at h;exact decide_eq_true h
 .have:=ha j hj;rw[hg j (by omega)] at this;simpa using this
theorem xx {all:List RSt}{rests:Rst}(ha:∀j,j<all.length->(all.getD j ([],false,[])).1≠rests):mU all rests=none:=by
 unfold mU;rw[List.findIdx?_eq_none_iff];intro s hs;obtain⟨j,hj,rfl⟩:=List.getElem_of_mem hs;have:=ha j hj;rw[zA,zB hj] at this;exact decide_eq_false this
theorem pq {l:Rst}{i:Nat}(h:i<l.length):aD (l.take (i+1))=(aD (l.take i)||(l.getD i []).isEmpty):=by
 unfold aD;rw[aU [] h,List.any_append];simp
theorem gJ {α:Type}(l:List α) (x d:α):(l++[x]).getD l.length d=x:=by
 rw[zA,List.getElem?_concat_length];rfl
theorem Aq {α:Type}(l:List α) (x y:α):(l++[x]).set l.length y=l++[y]:=by
 rw[List.set_append_right _ _ (zJ _)];simp
end Go.EA
end
section
namespace Go.EA
open Go.Lib (compareBytes)
theorem Dn:∀{a b:List UInt8},aX a b=true->compareBytes a b = -1
 |a,[],h=>by rw[xN] at h;cases h
 |[],_::_,h=>rfl
 | x::a,y::b,h=>by
   unfold compareBytes;rcases (kK x y a b).1 h with h | ⟨h1,h2⟩
   .rw[if_pos h]
   .subst h1;rw[if_neg (UInt8.lt_irrefl x),if_neg (UInt8.lt_irrefl x)];exact Dn h2
theorem BD:∀{a b:List Int},cmpL a b = -1->ltR a b
 |[],[],h=>by simp[cmpL] at h
 |[],_::_,h=>trivial
 |_::_,[],h=>by simp[cmpL] at h
 | x::a,y::b,h=>by
   unfold cmpL at h;split at h
   .rename_i h1;exact .inl h1
   .split at h
    .simp at h
    .exact .inr ⟨by omega,BD h⟩
theorem HY {a b:List UInt8}(ha:bI a=0) (hb:bI b=0) (h:aX a b=true):ltR (aF a) (aF b):=BD ((order ha hb).trans (Dn h))
def wdR (l:List Wd):Rst:=l.map fun w=>aF w.1
theorem qp {s:List UInt8}(h:eP s=0):bI s=0/\0<(aF s).length/\(aF s).length<=64:=by
 unfold eP at h;split at h
 .rename_i h1;exact absurd h h1
 .split at h
  .cases h
  .split at h
   .cases h
   .rename_i h1 h2 h3;exact⟨by simpa using h1,List.length_pos_iff.2 h2,by omega⟩
theorem yh {w:Wd}(h:wE w=0):eP w.1=0/\1<=w.2/\w.2<=1073741824:=by
 unfold wE at h;split at h
 .rename_i h1;split at h
  .cases h
  .rename_i h2;exact⟨h1,by omega,by omega⟩
 .rename_i h1;exact absurd h h1
structure Nml (l:List Wd):Prop where
 e:isE l=0
 len:l.length<=65536
 dec:∀w∈l,bI w.1=0
 one:∀w∈l,0<(aF w.1).length
 few:∀w∈l,(aF w.1).length<=64
 frq:∀w∈l,1<=w.2/\w.2<=1073741824
 ris:mX l
theorem nml {l:List Wd}(h:isE l=0):Nml l:=by
 obtain⟨h1,h2,h3⟩:=pI.1 h;have h4:=qy h1;exact⟨h,h3,fun w hw=>(qp (yh (h4 w hw)).1).1,fun w hw=>(qp (yh (h4 w hw)).1).2.1,fun w hw=>(qp (yh (h4 w hw)).1).2.2,fun w hw=>(yh (h4 w hw)).2,h2⟩
theorem Nml.srt {l:List Wd}(h:Nml l):dE (wdR l):=by
 unfold dE wdR;exact List.pairwise_map.2 (h.ris.imp_of_mem fun ha hb hab=>HY (h.dec _ ha) (h.dec _ hb) hab)
theorem Nml.sm {l:List Wd}(h:Nml l):SmR (wdR l):=by
 refine⟨by unfold wdR;rw[zR];have:=h.len;omega,fun x hx=>?_⟩;obtain⟨w,hw,rfl⟩:=List.mem_map.1 hx;have:=h.few w hw;omega
theorem Nml.tot {l:List Wd}(h:Nml l):tot (wdR l)<=4194304:=by
 have g:∀(m:List Wd),(∀w∈m,(aF w.1).length<=64)->EA.tot (wdR m)<=64*m.length:=by
  intro m
  induction m with
  |nil=>intro _;exact Nat.zero_le _
  | cons w m ih=>
    intro hm;have h1:=ih fun x hx=>hm x (by simp[hx])
    have h2:=hm w (by simp);unfold EA.tot wdR at h1 ⊢;simp only[zK,List.sum_cons,zM];omega
 have:=g l h.few;have:=h.len;omega
theorem jI {l:List Wd}{i:Nat}(h:i<l.length):wdR (l.take (i+1))=wdR (l.take i)++[aF (l.getD i ([],0)).1]:=by
 unfold wdR;rw[aU ([],0) h,List.map_append];rfl
theorem sD (l:List Wd):(wdR l).length=l.length:=by unfold wdR;rw[zR]
def bg (l:List Wd):List RSt:=(eD [] (wdR l)).1
def nR (all:List RSt):Int:=(all.map fun s=>(s.2.2.length:Int)).sum
def vF (out:List Ed) (r:Int):Option Ed:=out.find? fun e=>decide (e.1=r)
def dW (out:List Ed) (r:Int):Int:=((vF out r).map (·.2)).getD 0
def bQ (out:List Ed) (r:Int):Bool:=(vF out r).isSome
theorem Hg {out:List Ed}{r:Int}{i:Nat}(hi:i<out.length) (ha:∀j,j<i->(out.getD j (0,0)).1≠r) (h:(out.getD i (0,0)).1=r):vF out r=some (out.getD i (0,0)):=by
 have hg:∀j (hj:j<out.length),out.getD j (0,0)=out[j]:=fun j hj=>by rw[zA,zB hj];rfl
 unfold vF;rw[List.find?_eq_some_iff_getElem];refine⟨decide_eq_true h,i,hi,(hg i hi).symm,fun j hj=>?_⟩;have:=ha j hj;rw[hg j (by omega)] at this;simpa using this
theorem Ap {out:List Ed}{r:Int}(ha:∀j,j<out.length->(out.getD j (0,0)).1≠r):vF out r=none:=by
 unfold vF;rw[List.find?_eq_none];intro s hs;obtain⟨j,hj,rfl⟩:=List.getElem_of_mem hs;have:=ha j hj;rw[zA,zB hj] at this;simpa using this
end Go.EA
end
section
namespace Go.EA
abbrev StD:=List Ed×Bool×Int
def dgB (n:Int):Int:=n.tmod 128+128
def uU:Nat->Int->List Int
 |0,_=>[]
 |k+1,n=>dgB n::(if n<128 then [] else uU k (n.tdiv 128))
def lD (n:Int):List Int:=uU (n.toNat+1) n
def Jn (e:Ed):List Int:=encI e.1++lD e.2++[0]
def lm (out:List Ed) (ends:Bool):List Int:=(if ends then 43 else 45)::out.flatMap Jn
def kw (out:List Ed) (ends:Bool):List UInt8:=(lm out ends).map fun z=>UInt8.ofNat z.toNat
theorem ZE:∀m:Fin 128,IntKind.u8.wrap ((BitVec.ofInt 8 (IntKind.u8.wrap (m.val:Int)) ||| BitVec.ofInt 8 128).toNat:Int)=(m.val:Int)+128:=by decide
theorem Ww {n:Int}(h:0<=n):IntKind.u8.wrap ((BitVec.ofInt 8 (IntKind.u8.wrap (n.tmod 128)) ||| BitVec.ofInt 8 128).toNat:Int)=dgB n:=by
 have h1:0<=n.tmod 128:=Int.tmod_nonneg _ h;have h2:n.tmod 128<128:=Int.tmod_lt_of_pos _ (by omega);obtain⟨m,hm⟩:∃m:Nat,n.tmod 128=m:=⟨(n.tmod 128).toNat,by omega⟩;unfold dgB;rw[hm];exact ZE ⟨m,by omega⟩
theorem kR {n:Int}(h:¬ n<128):0<=n.tdiv 128/\(n.tdiv 128).toNat<n.toNat/\n.tdiv 128<=n:=by
 rw[Int.tdiv_eq_ediv_of_nonneg (by omega)];omega
theorem vU:∀(k k':Nat) (n:Int),0<=n->n.toNat<k->n.toNat<k'->uU k n=uU k' n
 |0,_,n,_,h,_=>by omega
 |_+1,0,n,_,_,h=>by omega
 | k+1,k'+1,n,h0,h,h'=>by
   simp only[uU];split
   .rfl
   .rename_i h1;obtain⟨g1,g2,_⟩:=kR h1;rw[vU k k' (n.tdiv 128) g1 (by omega) (by omega)]
theorem Dk {n:Int}(h:n<128):lD n=[dgB n]:=by unfold lD;simp only[uU,if_pos h]
theorem xC {n:Int}(h:¬ n<128):lD n=dgB n::lD (n.tdiv 128):=by
 obtain⟨g1,g2,_⟩:=kR h;unfold lD;rw[show uU (n.toNat+1) n=dgB n::uU n.toNat (n.tdiv 128) by simp only[uU,if_neg h]];rw[vU n.toNat ((n.tdiv 128).toNat+1) _ g1 g2 (Nat.lt_succ_self _)]
theorem Ar:∀(k:Nat) (n:Int),(uU k n).length<=k
 |0,n=>zJ _
 | k+1,n=>by
   simp only[uU,zM];split
   .simp
   .have:=Ar k (n.tdiv 128);omega
theorem Be (n:Int):(lD n).length<=n.toNat+1:=Ar _ n
theorem Hw {r:Int}(h:Utf8.valid r=true):(encI r).length<=4:=by
 have hv:=bA.1 h;by_cases h1:r<128
 .rw[Gv h h1];simp
 .by_cases h2:r<2048
  .rw[Ht h (by omega) h2];simp
  .by_cases h3:r<65536
   .rw[BS h (by omega) h3];simp
   .rw[Fq h (by omega)];simp
def OkE (out:List Ed):Prop:=∀e∈out,Utf8.valid e.1=true/\0<=e.2/\e.2<=8388608
theorem OkE.at {out:List Ed}(h:OkE out) {i:Nat}(hi:i<out.length):Utf8.valid (out.getD i (0,0)).1=true/\0<=(out.getD i (0,0)).2/\(out.getD i (0,0)).2<=8388608:=by
 rw[zA,zB hi];exact h _ (List.getElem_mem _)
theorem xz {out:List Ed}{b:Bool}{i:Nat}(h:i<out.length):lm (out.take (i+1)) b=lm (out.take i) b++Jn (out.getD i (0,0)):=by
 unfold lm;rw[aU (0,0) h,List.flatMap_append];simp
theorem Pn {e:Ed}(h:Utf8.valid e.1=true/\0<=e.2/\e.2<=8388608):(Jn e).length<=8388614:=by
 unfold Jn;have h1:=Hw h.1;have h2:=Be e.2;simp only[zL,zN];omega
theorem tV {out:List Ed}(h:OkE out) (b:Bool):∀i,i<=out.length->(lm (out.take i) b).length<=1+i*8388614
 |0,_=>by simp[lm]
 | i+1,hi=>by
   rw[xz (by omega),zL];have h1:=tV h b i (by omega);have h2:=Pn (h.at (i:=i) (by omega));omega
def bi:List Int->List Int->Nat
 |a::x,b::y=>if a=b then bi x y+1 else 0
 |_,_=>0
theorem BB {a b:List Int}{i:Nat}(h:¬ i<a.length\/¬ i<b.length):bi (a.drop i) (b.drop i)=0:=by
 rcases h with h | h
 .rw[List.drop_of_length_le (show a.length<=i by omega)];simp[bi]
 .rw[List.drop_of_length_le (show b.length<=i by omega)]; cases a.drop i <;> simp[bi]
theorem fe {l:List Int}{i:Nat}(h:i<l.length):l.drop i=l.getD i 0::l.drop (i+1):=by
 rw[List.drop_eq_getElem_cons h,zA,zB h];rfl
theorem xe {a b:List Int}{i:Nat}(h:i<a.length) (h':i<b.length):bi (a.drop i) (b.drop i)=if a.getD i 0=b.getD i 0 then bi (a.drop (i+1)) (b.drop (i+1))+1 else 0:=by
 rw[fe h,fe h'];rfl
end Go.EA
end
section
namespace Go.EA
abbrev Mp:=List (List UInt8×Int)
def fC (m:Mp) (k:List UInt8):Option Int:=Ty.mget .str m k
def oh (m:Mp) (k:List UInt8) (v:Int):Mp:=Ty.mput .str m k v
def stA (D:List StD) (i:Nat):StD:=D.getD i ([],false,0)
def pz (D:List StD) (i:Nat) (to:Int):List StD:=D.set i ((stA D i).1.set ((stA D i).1.length-1) (((stA D i).1.getD ((stA D i).1.length-1) (0,0)).1,to),(stA D i).2)
def chS (p:List StD×List Int) (r:Int):List StD×List Int:=
 ((p.1++[([],false,0)]).set (p.2.getD (p.2.length-1) 0).toNat ((stA (p.1++[([],false,0)]) (p.2.getD (p.2.length-1) 0).toNat).1++[(r,(p.1.length:Int))],(stA (p.1++[([],false,0)]) (p.2.getD (p.2.length-1) 0).toNat).2),p.2++[(p.1.length:Int)])
def nU (D:List StD) (i:Nat):List StD:=D.set i ((stA D i).1,true,(stA D i).2.2)
def bY (l:List Wd) (i:Nat):List Int:=match i with | 0=>[] | i+1=>aF (l.getD i ([],0)).1
end Go.EA
end
