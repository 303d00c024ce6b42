/- Texts. Conditions: none. -/
import Derived.Test.YtgkhohpekfjlmaaDoorEK24
import Derived.Test.YtgkhohpekfjlmaaDoorEMean3
import Derived.Test.YtgkhohpekfjlmaaDoorEK9
set_option linter.unusedVariables false
set_option linter.unusedSimpArgs false
section
namespace Go.EA
open F
def wE (w:Wd):Int:=if eF w.1=0 then (if w.2<1\/1073741824<w.2 then 2 else 0) else eF w.1
def iq (w:Wd):Bool:=!decide (wE w=0)
def lG (l:List Wd):Int:=match l.findIdx? iq with | some i=>i | none => -1
def eu (l:List Wd):Int:=orV (l.map wE)
def SmW (l:List Wd):Prop:=∀x∈l,x.1.length<=1099511627776
theorem SmW.at {l:List Wd}(h:SmW l) (i:Nat):(l.getD i ([],0)).1.length<=1099511627776:=by
 rw[zA];cases hi:l[i]? with
 |none=>exact Nat.zero_le _
 |some x=>exact h x (zU hi)
theorem Mm {w:Wd}:iq w=true↔¬ wE w=0:=by unfold iq;simp
theorem yO {w:Wd}:iq w=false↔wE w=0:=by unfold iq;simp
theorem rz {α:Type}{p:α->Bool}:∀{l:List α}{d:α}{i:Nat},i<l.length->(∀j,j<i->p (l.getD j d)=false)->p (l.getD i d)=true->l.findIdx? p=some i
 |[],_,_,h,_,_=>by cases h
 |x::l,d,0,_,_,h=>by rw[List.findIdx?_cons];rw[show p x=true from h];rfl
 | x::l,d,i+1,hi,hn,h=>by
   rw[List.findIdx?_cons,show p x=false from hn 0 (Nat.succ_pos i),rz (l:=l) (d:=d) (i:=i) (Nat.lt_of_succ_lt_succ hi) (fun j hj=>hn (j+1) (Nat.succ_lt_succ hj)) h]
   rfl
theorem pI {α:Type}{p:α->Bool}:∀{l:List α}{d:α},(∀j,j<l.length->p (l.getD j d)=false)->l.findIdx? p=none
 |[],_,_=>rfl
 | x::l,d,hn=>by
   rw[List.findIdx?_cons,show p x=false from hn 0 (Nat.succ_pos _),pI (l:=l) (d:=d) fun j hj=>hn (j+1) (Nat.succ_lt_succ hj)]
   rfl
theorem yK:∀{l:List Wd}{i:Nat},i<l.length->(∀j,j<i->iq (l.getD j ([],0))=false)->iq (l.getD i ([],0))=true->eu l=wE (l.getD i ([],0))
 |[],_,h,_,_=>by cases h
 | x::l,0,_,_,h=>by
   have h1:¬ wE x=0:=Mm.1 h;simp[eu,orV,h1]
 | x::l,i+1,hi,hn,h=>by
   have h0:wE x=0:=yO.1 (hn 0 (Nat.succ_pos i));have:=yK (l:=l) (i:=i) (Nat.lt_of_succ_lt_succ hi) (fun j hj=>hn (j+1) (Nat.succ_lt_succ hj)) h;simpa [eu,orV,h0] using this
theorem qE {l:List Wd}(hn:∀j,j<l.length->iq (l.getD j ([],0))=false):eu l=0:=by
 refine(KL ?_).symm;rw[List.all_eq_true];intro x hx;obtain⟨w,hw,rfl⟩:=List.mem_map.1 hx;obtain⟨j,hj,rfl⟩:=List.mem_iff_getElem.1 hw;have:=hn j hj;rw[zA,zB hj] at this;simpa using yO.1 this
theorem qm {l:List Wd}(h:eu l=0):∀x∈l,wE x=0:=by
 intro x hx;unfold eu orV at h;cases hf:(l.map wE).find? (fun x=>!decide (x=0)) with
 | none=>
   have:=List.find?_eq_none.1 hf (wE x) (List.mem_map_of_mem hx);simpa using this
 | some e=>
   rw[hf] at h;have:=List.find?_some hf;simp only[Option.getD_some] at h;rw[h] at this;simp at this
def Ris (l:List Wd):Prop:=∀i,i+1<l.length->ltW (l.getD i ([],0)) (l.getD (i+1) ([],0))=true
def VA (l:List Wd):Bool:=(List.range l.length).all fun i=>decide (i+1<l.length->ltW (l.getD i ([],0)) (l.getD (i+1) ([],0))=true)
theorem oZ (l:List Wd):VA l=true↔Ris l:=by
 simp only[VA,List.all_eq_true,List.mem_range,decide_eq_true_eq];exact⟨fun h i hi=>h i (by omega) hi,fun h i _ hi=>h i hi⟩
def isE (l:List Wd):Int:=if eu l=0 then (if VA l=true then (if 65536<l.length then 6 else 0) else 7) else eu l
def oH (a b:List Wd):Bool:=decide (a=b)
def ib (w:Wd):List Wd->List Wd
 |[]=>[w]
 |x::r=>if aW x.1 w.1=true then x::ib w r else if x.1=w.1 then (x.1,min 1073741824 (x.2+w.2))::r else w::x::r
def aa (l:List Wd):List Wd:=l.foldl (fun o w=>ib w o) []
def kQ (l:List Wd):Int:=if eu l=0 then (if 65536<(aa l).length then 6 else 0) else eu l
def bv (l:List Wd):List Wd:=if kQ l=0 then aa l else []
theorem EQ (l:List Wd) (w:Wd):aa (l++[w])=ib w (aa l):=by
 unfold aa;rw[List.foldl_append];rfl
theorem Df {w x:Wd}:∀{o:List Wd},x∈ib w o->x.1=w.1\/∃z∈o,z.1=x.1
 |[],h=>by simp only[ib,List.mem_singleton] at h;exact .inl (by rw[h])
 | y::o,h=>by
   simp only[ib] at h;split at h
   .rcases List.mem_cons.1 h with rfl | h
    .exact .inr ⟨_,List.mem_cons_self ..,rfl⟩
    .rcases Df h with h | ⟨z,hz,e⟩
     .exact .inl h
     .exact .inr ⟨z,List.mem_cons_of_mem _ hz,e⟩
   .split at h
    .rcases List.mem_cons.1 h with rfl | h
     .exact .inr ⟨_,List.mem_cons_self ..,rfl⟩
     .exact .inr ⟨x,List.mem_cons_of_mem _ h,rfl⟩
    .rcases List.mem_cons.1 h with rfl | h
     .exact .inl rfl
     .exact .inr ⟨x,h,rfl⟩
theorem BB {P:Wd->Prop}{w:Wd}(hw:P w) (hm:∀x,P x->x.1=w.1->P (x.1,min 1073741824 (x.2+w.2))):∀{o:List Wd},(∀x∈o,P x)->∀x∈ib w o,P x
 |[],_,x,h=>by simp only[ib,List.mem_singleton] at h;rw[h];exact hw
 | y::o,ho,x,h=>by
   simp only[ib] at h;split at h
   .rcases List.mem_cons.1 h with rfl | h
    .exact ho _ (List.mem_cons_self ..)
    .exact BB hw hm (fun z hz=>ho z (List.mem_cons_of_mem _ hz)) x h
   .split at h
    .rename_i e;rcases List.mem_cons.1 h with rfl | h
     .exact hm y (ho _ (List.mem_cons_self ..)) e
     .exact ho x (List.mem_cons_of_mem _ h)
    .rcases List.mem_cons.1 h with rfl | h
     .exact hw
     .exact ho x h
theorem xg {P:Wd->Prop}{l:List Wd}(hl:∀w∈l,P w) (hm:∀w x,P w->P x->x.1=w.1->P (x.1,min 1073741824 (x.2+w.2))):∀x∈aa l,P x:=by
 have:∀(l o:List Wd),(∀w∈l,P w)->(∀x∈o,P x)->∀x∈l.foldl (fun o w=>ib w o) o,P x:=by
  intro l
  induction l with
  |nil=>intro o _ ho;exact ho
  | cons w l ih=>
    intro o hl ho;exact ih (ib w o) (fun z hz=>hl z (List.mem_cons_of_mem _ hz)) (BB (hl w (List.mem_cons_self ..)) (fun x hx e=>hm w x (hl w (List.mem_cons_self ..)) hx e) ho)
 exact this l [] hl fun x hx=>by cases hx
theorem yT {w:Wd}:wE w=0↔eF w.1=0/\1<=w.2/\w.2<=1073741824:=by
 unfold wE;split
 .rename_i h;split
  .simp;omega
  .simp[h];omega
 .rename_i h;simp[h]
theorem Dq {l:List Wd}(h:∀x∈l,wE x=0):∀x∈aa l,wE x=0:=by
 refine xg h fun w x hw hx e=>?_
 rw[yT] at hw hx ⊢;dsimp only;exact⟨hx.1,by omega,by omega⟩
theorem JK {l:List Wd}:∀x∈aa l,∃z∈l,z.1=x.1:=
 xg (P:=fun x=>∃z∈l,z.1=x.1) (fun w hw=>⟨w,hw,rfl⟩) fun w x _ hx _=>hx
theorem Cs (w:Wd):∀o,(ib w o).length<=o.length+1
 |[]=>zJ _
 | x::o=>by
   simp only[ib];split
   .simp only[zM];have:=Cs w o;omega
   .split <;> simp
theorem wL (l:List Wd):(aa l).length<=l.length:=by
 have:∀(l o:List Wd),(l.foldl (fun o w=>ib w o) o).length<=o.length+l.length:=by
  intro l
  induction l with
  |nil=>intro o;exact zJ _
  |cons w l ih=>intro o;have h1:=ih (ib w o);have h2:=Cs w o;simp only[List.foldl_cons,zM];omega
 have h:=this l [];rw[List.length_nil,Nat.zero_add] at h;exact h
def nk (o:List Wd):Prop:=o.Pairwise fun a b=>aW a.1 b.1=true
theorem CU {w:Wd}:∀{o:List Wd},nk o->nk (ib w o)
 |[],_=>List.pairwise_singleton ..
 | x::o,h=>by
   have ⟨h1,h2⟩:=List.pairwise_cons.1 h;simp only[ib];split
   .rename_i hl;refine List.pairwise_cons.2 ⟨fun y hy=>?_,CU h2⟩;rcases Df hy with e | ⟨z,hz,e⟩
    .rw[e];exact hl
    .rw[<- e];exact h1 z hz
   .rename_i hl;split
    .exact List.pairwise_cons.2 ⟨h1,h2⟩
    .rename_i hne;have hlt:aW w.1 x.1=true:=by
      rcases EN x.1 w.1 with e | e | e
      .exact absurd e hl
      .exact absurd e hne
      .exact e
     refine List.pairwise_cons.2 ⟨fun y hy=>?_,h⟩;rcases List.mem_cons.1 hy with rfl | hy
     .exact hlt
     .exact jQ hlt (h1 y hy)
theorem IZ (l:List Wd):nk (aa l):=by
 have:∀(l o:List Wd),nk o->nk (l.foldl (fun o w=>ib w o) o):=by
  intro l
  induction l with
  |nil=>intro o h;exact h
  |cons w l ih=>intro o h;exact ih _ (CU h)
 exact this l [] List.Pairwise.nil
theorem getD_lt {l:List Wd}{i:Nat}(h:i<l.length):l.getD i ([],0)=l[i]:=by
 rw[zA,zB h,Option.getD_some]
theorem nk.at {l:List Wd}(h:nk l) {i j:Nat}(hij:i<j) (hj:j<l.length):aW (l.getD i ([],0)).1 (l.getD j ([],0)).1=true:=by
 rw[getD_lt (by omega),getD_lt hj];exact List.pairwise_iff_getElem.1 h i j (by omega) hj hij
theorem Gb (l:List Wd):Ris l↔nk l:=by
 constructor
 .intro h;refine List.pairwise_iff_getElem.2 fun i j hi hj hij=>?_
  rw[<- getD_lt hi,<- getD_lt hj];obtain⟨k,rfl⟩:∃k,j=i+1+k:=⟨j-(i+1),by omega⟩;clear hij
  induction k with
  |zero=>exact h i (by omega)
  |succ k ih=>exact jQ (ih (by omega)) (h (i+1+k) (by omega))
 .intro h i hi;exact h.at (Nat.lt_succ_self i) hi
theorem Uv {l:List Wd}(h:∀x∈l,wE x=0):eu l=0:=qE fun j hj=>yO.2 (h _ (by rw[getD_lt hj];exact List.getElem_mem _))
theorem DR {l:List Wd}(h:eu l=0):eu (aa l)=0:=Uv (Dq (qm h))
theorem pJ {l:List Wd}:isE l=0↔eu l=0/\nk l/\l.length<=65536:=by
 unfold isE;split
 .rename_i h;split
  .rename_i h1;rw[oZ,Gb] at h1;split
   .simp;omega
   .simp[h,h1];omega
  .rename_i h1;rw[oZ,Gb] at h1;simp[h1]
 .rename_i h;simp[h]
theorem NC {l:List Wd}{i:Nat}(hi:i<l.length) (hn:∀j,j<i->iq (l.getD j ([],0))=false) (h:iq (l.getD i ([],0))=true):lG l=i:=by
 unfold lG;rw[rz hi hn h]
theorem JE {l:List Wd}(hn:∀j,j<l.length->iq (l.getD j ([],0))=false):lG l = -1:=by
 unfold lG;rw[pI hn]
theorem Ip (l:List Wd):(lG l = -1/\eu l=0)\/∃i:Nat,i<l.length/\lG l=i/\wE (l.getD i ([],0))=eu l:=by
 unfold lG;cases h:l.findIdx? iq with
 | none=>
   refine .inl ⟨rfl,qE fun j hj=>?_⟩;rw[getD_lt hj];have:=List.findIdx?_eq_none_iff.1 h _ (List.getElem_mem hj);simpa using this
 | some i=>
   obtain⟨hi,h1,h2⟩:=List.findIdx?_eq_some_iff_getElem.1 h;refine .inr ⟨i,hi,rfl,(yK hi (fun j hj=>?_) (by rw[getD_lt hi];exact h1)).symm⟩;rw[getD_lt (by omega)];simpa using h2 j hj
theorem pW {P:Nat->Prop}{i:Nat}(h:∀j,j<i->P j) (hi:P i):∀j,j<i+1->P j:=fun j hj=>by
 rcases Nat.lt_succ_iff_lt_or_eq.1 hj with h1 | rfl
 .exact h j h1
 .exact hi
theorem aaD {l:List Wd}{i:Nat}(he:eu l=0) (h0:0<(i:Int)) (hi:i<l.length) (h:(!aW (l.getD ((i:Int)-1).toNat ([],0)).1 (l.getD i ([],0)).1)=true):7=isE l:=by
 unfold isE;rw[if_pos he,if_neg];rw[oZ];intro hr;obtain⟨k,rfl⟩:∃k,i=k+1:=⟨i-1,by omega⟩;rw[show (((k+1:Nat):Int)-1).toNat=k by omega] at h;have:=hr k hi;unfold ltW at this;rw[this] at h;cases h
theorem SF {l:List Wd}(he:eu l=0) (h:∀j,j+1<l.length->ltW (l.getD j ([],0)) (l.getD (j+1) ([],0))=true):isE l=if 65536<l.length then 6 else 0:=by
 unfold isE;rw[if_pos he,if_pos ((oZ l).2 h)]
theorem Bp {l:List Wd}{i:Nat}(h:∀j,j+1<i->ltW (l.getD j ([],0)) (l.getD (j+1) ([],0))=true) (hs:0<(i:Int)->¬ (!aW (l.getD ((i:Int)-1).toNat ([],0)).1 (l.getD i ([],0)).1)=true):∀j,j+1<i+1->ltW (l.getD j ([],0)) (l.getD (j+1) ([],0))=true:=fun j hj=>by
 rcases Nat.lt_succ_iff_lt_or_eq.1 hj with h1 | rfl
 .exact h j h1
 .have:=hs (by omega);rw[show (((j+1:Nat):Int)-1).toNat=j by omega] at this;unfold ltW;simpa using this
theorem TH (x y:Wd):nG (List.take 2 (List.drop 0 ((Ty.pair .str (.int .i64)).cells x))) (List.take 2 (List.drop 0 ((Ty.pair .str (.int .i64)).cells y)))=decide (x=y):=by
 obtain⟨a,c⟩:=x;obtain⟨a',c'⟩:=y;rw[Bool.eq_iff_iff];simp[Ty.cells,nG,SL.i?,SL.b?]
theorem MK {a b:List Wd}(hl:(a.length:Int)=b.length) (h:∀j,j<a.length->a.getD j ([],0)=b.getD j ([],0)):a=b:=by
 refine List.ext_getElem (by omega) fun i h1 h2=>?_
 have:=h i h1
 rwa [getD_lt h1,getD_lt h2] at this
theorem Ho {l:List Wd}(he:eu l=0) (h:65536<((aa l).length:Int)):bv l=[]/\6=kQ l:=by
 have e:kQ l=6:=by unfold kQ;rw[if_pos he,if_pos (by omega)]
 unfold bv;rw[e];exact⟨rfl,rfl⟩
theorem Bh {l:List Wd}(he:eu l=0) (h:¬ 65536<((aa l).length:Int)):aa l=bv l/\0=kQ l:=by
 have e:kQ l=0:=by unfold kQ;rw[if_pos he,if_neg (by omega)]
 unfold bv;rw[e];exact⟨rfl,rfl⟩
theorem FV {l:List Wd}(he:¬ eu l=0):bv l=[]/\eu l=kQ l:=by
 have e:kQ l=eu l:=by unfold kQ;rw[if_neg he]
 unfold bv;rw[e,if_neg he];exact⟨rfl,rfl⟩
end Go.EA
end
section
namespace Go.EA
open F
def preB (a b:List UInt8):Bool:=decide (b.length<=a.length/\a.take b.length=b)
def aV (l:List Wd) (s:List UInt8):Nat:=(l.takeWhile fun w=>aW w.1 s).length
def aba (l:List Wd) (s:List UInt8):Int:=if isE l=0 then (if (l.find? fun w=>decide (w.1=s)).isSome then 0 else 10) else isE l
def dA (l:List Wd) (s:List UInt8):Nat:=aV l s+((l.drop (aV l s)).takeWhile fun w=>preB w.1 s).length
theorem oJ {α:Type}(p:α->Bool) (d:α):∀(l:List α),(l.takeWhile p).length<=l.length/\(∀k,k<(l.takeWhile p).length->p (l.getD k d)=true)/\((l.takeWhile p).length<l.length->p (l.getD (l.takeWhile p).length d)=false)
 |[]=>⟨zJ _,fun _ h=>absurd h (zS _),fun h=>absurd h (Nat.lt_irrefl _)⟩
 | x::l=>by
   obtain⟨h1,h2,h3⟩:=oJ p d l;rw[List.takeWhile_cons];cases hx:p x with
   |false=>exact⟨Nat.zero_le _,fun _ h=>absurd h (zS _),fun _=>hx⟩
   | true=>
     rw[if_pos rfl,zM];refine⟨Nat.succ_le_succ h1,fun k hk=>?_,fun h=>h3 (Nat.lt_of_succ_lt_succ h)⟩;cases k with
     |zero=>exact hx
     |succ k=>exact h2 k (Nat.lt_of_succ_lt_succ hk)
theorem Gd (l:List Wd) (s:List UInt8):aV l s<=l.length:=(oJ _ ([],0) l).1
theorem GH {l:List Wd}{s:List UInt8}{k:Nat}(h:k<aV l s):aW (l.getD k ([],0)).1 s=true:=(oJ (fun w:Wd=>aW w.1 s) ([],0) l).2.1 k h
theorem TU {l:List Wd}{s:List UInt8}(h:aV l s<l.length):aW (l.getD (aV l s) ([],0)).1 s=false:=(oJ (fun w:Wd=>aW w.1 s) ([],0) l).2.2 h
theorem GR {l:List Wd}{s:List UInt8}(hr:nk l) {k:Nat}(h:aV l s<=k) (hk:k<l.length):aW (l.getD k ([],0)).1 s=false:=by
 have h0:=TU (l:=l) (s:=s) (by omega);rcases Nat.lt_or_eq_of_le h with h1 | h1
 .cases hx:aW (l.getD k ([],0)).1 s with
  |false=>rfl
  |true=>rw[jQ (hr.at h1 hk) hx] at h0;cases h0
 .rw[<- h1];exact h0
theorem Ka (a b:List UInt8):aC a none (some (b.length:Int))=a.take b.length:=by
 unfold aC;simp
theorem QO {a b:List UInt8}(h:(b.length:Int)<=a.length):decide (aC a none (some (b.length:Int))=b)=preB a b:=by
 rw[Ka];exact decide_eq_decide.2 ⟨fun e=>⟨by omega,e⟩,fun e=>e.2⟩
theorem Yt {a b:List UInt8}(h:¬ (b.length:Int)<=a.length):false=preB a b:=by
 unfold preB;rw[decide_eq_false];rintro⟨h1,_⟩;omega
end Go.EA
end
section
namespace Go.EA
open F
theorem Oq (a:List UInt8):preB a []=true:=by simp[preB]
theorem wO (x y:UInt8) (a b:List UInt8):preB (x::a) (y::b)=true↔x=y/\preB a b=true:=by
 simp only[preB,decide_eq_true_eq,zM,List.take_succ_cons,zG,Nat.add_le_add_iff_right];exact⟨fun⟨h1,h2,h3⟩=>⟨h2,h1,h3⟩,fun⟨h1,h2,h3⟩=>⟨h2,h1,h3⟩⟩
theorem Hl:∀{s x y:List UInt8},aW x s=false->preB x s=false->aW x y=true->preB y s=false
 |[],x,y,_,h,_=>by rw[Oq] at h;cases h
 | c::s,[],y,h,_,_=>by
   have e:aW [] (c::s)=true:=rfl;rw[e] at h;cases h
 |c::s,d::x,[],_,_,h=>by rw[xS] at h;cases h
 | c::s,d::x,e::y,h1,h2,h3=>by
   rw[Bool.eq_false_iff] at h1 h2 ⊢;rw[Ne,kR] at h1;rw[Ne,wO] at h2 ⊢;rw[kR] at h3;rintro⟨rfl,h4⟩;rcases h3 with h3 | ⟨rfl,h3⟩
   .exact h1 (.inl h3)
   .have:=Hl (s:=s) (x:=x) (y:=y) (by rw[Bool.eq_false_iff];exact fun h=>h1 (.inr ⟨rfl,h⟩)) (by rw[Bool.eq_false_iff];exact fun h=>h2 ⟨rfl,h⟩) h3;rw[this] at h4;cases h4
theorem Nq:∀{s y:List UInt8},preB y s=true->aW y s=false
 |[],y,_=>by cases y <;> rfl
 |c::s,[],h=>by simp[preB] at h
 | c::s,e::y,h=>by
   rw[wO] at h;obtain⟨rfl,h⟩:=h;rw[Bool.eq_false_iff,Ne,kR];rintro(h1 | ⟨_,h1⟩)
   .exact absurd h1 (UInt8.lt_irrefl _)
   .rw[Nq h] at h1;cases h1
theorem jR (l:List Wd) (s:List UInt8):aV l s<=dA l s/\dA l s<=l.length/\(∀j,aV l s<=j->j<dA l s->preB (l.getD j ([],0)).1 s=true)/\(dA l s<l.length->preB (l.getD (dA l s) ([],0)).1 s=false):=by
 have hd:∀k,(l.drop (aV l s)).getD k ([],0)=l.getD (aV l s+k) ([],0):=fun k=>by
  rw[zA,zA,List.getElem?_drop]
 have hp:=Gd l s;obtain⟨h1,h2,h3⟩:=oJ (fun w:Wd=>preB w.1 s) ([],0) (l.drop (aV l s));rw[List.length_drop] at h1 h3;unfold dA;refine⟨by omega,by omega,fun j j1 j2=>?_,fun h=>?_⟩
 .have:=h2 (j-aV l s) (by omega);rw[hd,show aV l s+(j-aV l s)=j by omega] at this;exact this
 .have:=h3 (by omega);rw[hd] at this;exact this
theorem sI {l:List Wd}(hr:nk l) {s:List UInt8}{j:Nat}(hj:j<l.length):preB (l.getD j ([],0)).1 s=true↔aV l s<=j/\j<dA l s:=by
 obtain⟨h1,h2,h3,h4⟩:=jR l s;refine⟨fun h=>⟨?_,?_⟩,fun h=>h3 j h.1 h.2⟩
 .rcases Nat.lt_or_ge j (aV l s) with h5 | h5
  .have:=GH h5;rw[Nq h] at this;cases this
  .exact h5
 .rcases Nat.lt_or_ge j (dA l s) with h5 | h5
  .exact h5
  .have h6:=h4 (by omega);rcases Nat.lt_or_eq_of_le h5 with h7 | h7
   .have:=Hl (GR hr h1 (by omega)) h6 (hr.at h7 hj);rw[this] at h;cases h
   .rw[<- h7,h6] at h;cases h
theorem Bu {l:List Wd}(h:kQ l=0):bv l=aa l/\eu l=0/\isE (aa l)=0:=by
 have e:bv l=aa l:=by unfold bv;rw[if_pos h]
 unfold kQ at h;split at h
 .rename_i h1;split at h
  .cases h
  .exact⟨e,h1,pJ.2 ⟨DR h1,IZ l,by omega⟩⟩
 .rename_i h1;exact absurd h h1
theorem SmW.norm {l:List Wd}{n:Nat}(h:∀x∈l,x.1.length<=n):∀x∈aa l,x.1.length<=n:=fun x hx=>by
 obtain⟨z,hz,e⟩:=JK x hx;rw[<- e];exact h z hz
theorem FU {w:Wd}:∀{o:List Wd}{n:Nat},(∀j,j<n->aW (o.getD j ([],0)).1 w.1=true)->n<o.length->(o.getD n ([],0)).1=w.1->ib w o=o.set n ((o.getD n ([],0)).1,min 1073741824 ((o.getD n ([],0)).2+w.2))
 |[],_,_,h,_=>absurd h (zS _)
 | x::o,0,_,_,e=>by
   have e:x.1=w.1:=e;rw[ib,if_neg (by rw[e,Aa];decide),if_pos e]
   rfl
 | x::o,n+1,hj,hn,e=>by
   rw[ib,if_pos (show aW x.1 w.1=true from hj 0 (Nat.succ_pos n)),FU (o:=o) (n:=n) (fun j h=>hj (j+1) (Nat.succ_lt_succ h)) (Nat.lt_of_succ_lt_succ hn) e]
   rfl
theorem Gi {w:Wd}:∀{o:List Wd}{n:Nat},(∀j,j<n->aW (o.getD j ([],0)).1 w.1=true)->n<=o.length->(n<o.length->aW (o.getD n ([],0)).1 w.1=false/\(o.getD n ([],0)).1≠w.1)->ib w o=o.take n++[w]++o.drop n
 | [],n,_,h,_=>by
   have:n=0:=by simpa using h
   subst this;rfl
 | x::o,0,_,_,e=>by
   obtain⟨e1,e2⟩:=e (Nat.succ_pos _);have e1:aW x.1 w.1=false:=e1;have e2:x.1≠w.1:=e2;rw[ib,if_neg (by rw[e1];decide),if_neg e2]
   rfl
 | x::o,n+1,hj,hn,e=>by
   rw[ib,if_pos (show aW x.1 w.1=true from hj 0 (Nat.succ_pos n)),Gi (o:=o) (n:=n) (fun j h=>hj (j+1) (Nat.succ_lt_succ h)) (Nat.le_of_succ_le_succ hn) fun h=>e (Nat.succ_lt_succ h)]
   rfl
theorem Jt {l:List Wd}{i:Nat}(hi:i<l.length):aa (l.take (i+1))=ib (l.getD i ([],0)) (aa (l.take i)):=by
 rw[List.take_add_one,zB hi,Option.toList_some,<- getD_lt hi,EQ]
end Go.EA
end
