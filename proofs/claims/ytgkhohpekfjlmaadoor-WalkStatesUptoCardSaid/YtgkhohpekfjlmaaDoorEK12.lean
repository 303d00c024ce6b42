/- Texts. Conditions: none. -/
import Derived.Test.YtgkhohpekfjlmaaDoorEK24
import Derived.Test.YtgkhohpekfjlmaaDoorEMean3
import Derived.Test.YtgkhohpekfjlmaaDoorEK9
set_option linter.unusedVariables false
set_option linter.unusedSimpArgs false
section
namespace Go.EA
open F
def wE (w:Wd):Int:=if eP w.1=0 then (if w.2<1\/1073741824<w.2 then 2 else 0) else eP w.1
def iB (w:Wd):Bool:=!decide (wE w=0)
def lN (l:List Wd):Int:=match l.findIdx? iB with | some i=>i | none => -1
def eF (l:List Wd):Int:=orV (l.map wE)
def SmW (l:List Wd):Prop:=∀x∈l,x.1.length<=1099511627776
theorem SmW.at {l:List Wd}(h:SmW l) (i:Nat):(l.getD i ([],0)).1.length<=1099511627776:=by
 rw[zA];cases hi:l[i]? with
 |none=>exact Nat.zero_le _
 |some x=>exact h x (zU hi)
theorem NM {w:Wd}:iB w=true↔¬ wE w=0:=by unfold iB;simp
theorem yF {w:Wd}:iB w=false↔wE w=0:=by unfold iB;simp
theorem qR {α:Type}{p:α->Bool}:∀{l:List α}{d:α}{i:Nat},i<l.length->(∀j,j<i->p (l.getD j d)=false)->p (l.getD i d)=true->l.findIdx? p=some i
 |[],_,_,h,_,_=>by cases h
 |x::l,d,0,_,_,h=>by rw[List.findIdx?_cons];rw[show p x=true from h];rfl
 | x::l,d,i+1,hi,hn,h=>by
   rw[List.findIdx?_cons,show p x=false from hn 0 (Nat.succ_pos i),qR (l:=l) (d:=d) (i:=i) (Nat.lt_of_succ_lt_succ hi) (fun j hj=>hn (j+1) (Nat.succ_lt_succ hj)) h]
   rfl
theorem oN {α:Type}{p:α->Bool}:∀{l:List α}{d:α},(∀j,j<l.length->p (l.getD j d)=false)->l.findIdx? p=none
 |[],_,_=>rfl
 | x::l,d,hn=>by
   rw[List.findIdx?_cons,show p x=false from hn 0 (Nat.succ_pos _),oN (l:=l) (d:=d) fun j hj=>hn (j+1) (Nat.succ_lt_succ hj)]
   rfl
theorem yX:∀{l:List Wd}{i:Nat},i<l.length->(∀j,j<i->iB (l.getD j ([],0))=false)->iB (l.getD i ([],0))=true->eF l=wE (l.getD i ([],0))
 |[],_,h,_,_=>by cases h
 | x::l,0,_,_,h=>by
   have h1:¬ wE x=0:=NM.1 h;simp[eF,orV,h1]
 | x::l,i+1,hi,hn,h=>by
   have h0:wE x=0:=yF.1 (hn 0 (Nat.succ_pos i));have:=yX (l:=l) (i:=i) (Nat.lt_of_succ_lt_succ hi) (fun j hj=>hn (j+1) (Nat.succ_lt_succ hj)) h;simpa [eF,orV,h0] using this
theorem pO {l:List Wd}(hn:∀j,j<l.length->iB (l.getD j ([],0))=false):eF l=0:=by
 refine(KX ?_).symm;rw[List.all_eq_true];intro x hx;obtain⟨w,hw,rfl⟩:=List.mem_map.1 hx;obtain⟨j,hj,rfl⟩:=List.mem_iff_getElem.1 hw;have:=hn j hj;rw[zA,zB hj] at this;simpa using yF.1 this
theorem qy {l:List Wd}(h:eF l=0):∀x∈l,wE x=0:=by
 intro x hx;unfold eF orV at h;cases hf:(l.map wE).find? (fun x=>!decide (x=0)) with
 | none=>
   have:=List.find?_eq_none.1 hf (wE x) (List.mem_map_of_mem hx);simpa using this
 | some e=>
   rw[hf] at h;have:=List.find?_some hf;simp only[Option.getD_some] at h;rw[h] at this;simp at this
def Ris (l:List Wd):Prop:=∀i,i+1<l.length->ltW (l.getD i ([],0)) (l.getD (i+1) ([],0))=true
def YA (l:List Wd):Bool:=(List.range l.length).all fun i=>decide (i+1<l.length->ltW (l.getD i ([],0)) (l.getD (i+1) ([],0))=true)
theorem ol (l:List Wd):YA l=true↔Ris l:=by
 simp only[YA,List.all_eq_true,List.mem_range,decide_eq_true_eq];exact⟨fun h i hi=>h i (by omega) hi,fun h i _ hi=>h i hi⟩
def isE (l:List Wd):Int:=if eF l=0 then (if YA l=true then (if 65536<l.length then 6 else 0) else 7) else eF l
def il (w:Wd):List Wd->List Wd
 |[]=>[w]
 |x::r=>if aX x.1 w.1=true then x::il w r else if x.1=w.1 then (x.1,min 1073741824 (x.2+w.2))::r else w::x::r
def aa (l:List Wd):List Wd:=l.foldl (fun o w=>il w o) []
def kU (l:List Wd):Int:=if eF l=0 then (if 65536<(aa l).length then 6 else 0) else eF l
def bu (l:List Wd):List Wd:=if kU l=0 then aa l else []
theorem Ej (l:List Wd) (w:Wd):aa (l++[w])=il w (aa l):=by
 unfold aa;rw[List.foldl_append];rfl
theorem BA {w x:Wd}:∀{o:List Wd},x∈il w o->x.1=w.1\/∃z∈o,z.1=x.1
 |[],h=>by simp only[il,List.mem_singleton] at h;exact .inl (by rw[h])
 | y::o,h=>by
   simp only[il] at h;split at h
   .rcases List.mem_cons.1 h with rfl | h
    .exact .inr ⟨_,List.mem_cons_self ..,rfl⟩
    .rcases BA h with h | ⟨z,hz,e⟩
     .exact .inl h
     .exact .inr ⟨z,List.mem_cons_of_mem _ hz,e⟩
   .split at h
    .rcases List.mem_cons.1 h with rfl | h
     .exact .inr ⟨_,List.mem_cons_self ..,rfl⟩
     .exact .inr ⟨x,List.mem_cons_of_mem _ h,rfl⟩
    .rcases List.mem_cons.1 h with rfl | h
     .exact .inl rfl
     .exact .inr ⟨x,h,rfl⟩
theorem Dp {P:Wd->Prop}{w:Wd}(hw:P w) (hm:∀x,P x->x.1=w.1->P (x.1,min 1073741824 (x.2+w.2))):∀{o:List Wd},(∀x∈o,P x)->∀x∈il w o,P x
 |[],_,x,h=>by simp only[il,List.mem_singleton] at h;rw[h];exact hw
 | y::o,ho,x,h=>by
   simp only[il] at h;split at h
   .rcases List.mem_cons.1 h with rfl | h
    .exact ho _ (List.mem_cons_self ..)
    .exact Dp hw hm (fun z hz=>ho z (List.mem_cons_of_mem _ hz)) x h
   .split at h
    .rename_i e;rcases List.mem_cons.1 h with rfl | h
     .exact hm y (ho _ (List.mem_cons_self ..)) e
     .exact ho x (List.mem_cons_of_mem _ h)
    .rcases List.mem_cons.1 h with rfl | h
     .exact hw
     .exact ho x h
theorem xn {P:Wd->Prop}{l:List Wd}(hl:∀w∈l,P w) (hm:∀w x,P w->P x->x.1=w.1->P (x.1,min 1073741824 (x.2+w.2))):∀x∈aa l,P x:=by
 have:∀(l o:List Wd),(∀w∈l,P w)->(∀x∈o,P x)->∀x∈l.foldl (fun o w=>il w o) o,P x:=by
  intro l
  induction l with
  |nil=>intro o _ ho;exact ho
  | cons w l ih=>
    intro o hl ho;exact ih (il w o) (fun z hz=>hl z (List.mem_cons_of_mem _ hz)) (Dp (hl w (List.mem_cons_self ..)) (fun x hx e=>hm w x (hl w (List.mem_cons_self ..)) hx e) ho)
 exact this l [] hl fun x hx=>by cases hx
theorem Af {w:Wd}:wE w=0↔eP w.1=0/\1<=w.2/\w.2<=1073741824:=by
 unfold wE;split
 .rename_i h;split
  .simp;omega
  .simp[h];omega
 .rename_i h;simp[h]
theorem Cb {l:List Wd}(h:∀x∈l,wE x=0):∀x∈aa l,wE x=0:=by
 refine xn h fun w x hw hx e=>?_
 rw[Af] at hw hx ⊢;dsimp only;exact⟨hx.1,by omega,by omega⟩
theorem Ih {l:List Wd}:∀x∈aa l,∃z∈l,z.1=x.1:=
 xn (P:=fun x=>∃z∈l,z.1=x.1) (fun w hw=>⟨w,hw,rfl⟩) fun w x _ hx _=>hx
theorem BZ (w:Wd):∀o,(il w o).length<=o.length+1
 |[]=>zJ _
 | x::o=>by
   simp only[il];split
   .simp only[zM];have:=BZ w o;omega
   .split <;> simp
theorem wR (l:List Wd):(aa l).length<=l.length:=by
 have:∀(l o:List Wd),(l.foldl (fun o w=>il w o) o).length<=o.length+l.length:=by
  intro l
  induction l with
  |nil=>intro o;exact zJ _
  |cons w l ih=>intro o;have h1:=ih (il w o);have h2:=BZ w o;simp only[List.foldl_cons,zM];omega
 have h:=this l [];rw[List.length_nil,Nat.zero_add] at h;exact h
def mX (o:List Wd):Prop:=o.Pairwise fun a b=>aX a.1 b.1=true
theorem Cs {w:Wd}:∀{o:List Wd},mX o->mX (il w o)
 |[],_=>List.pairwise_singleton ..
 | x::o,h=>by
   have ⟨h1,h2⟩:=List.pairwise_cons.1 h;simp only[il];split
   .rename_i hl;refine List.pairwise_cons.2 ⟨fun y hy=>?_,Cs h2⟩;rcases BA hy with e | ⟨z,hz,e⟩
    .rw[e];exact hl
    .rw[<- e];exact h1 z hz
   .rename_i hl;split
    .exact List.pairwise_cons.2 ⟨h1,h2⟩
    .rename_i hne;have hlt:aX w.1 x.1=true:=by
      rcases EC x.1 w.1 with e | e | e
      .exact absurd e hl
      .exact absurd e hne
      .exact e
     refine List.pairwise_cons.2 ⟨fun y hy=>?_,h⟩;rcases List.mem_cons.1 hy with rfl | hy
     .exact hlt
     .exact jN hlt (h1 y hy)
theorem Jc (l:List Wd):mX (aa l):=by
 have:∀(l o:List Wd),mX o->mX (l.foldl (fun o w=>il w o) o):=by
  intro l
  induction l with
  |nil=>intro o h;exact h
  |cons w l ih=>intro o h;exact ih _ (Cs h)
 exact this l [] List.Pairwise.nil
theorem getD_lt {l:List Wd}{i:Nat}(h:i<l.length):l.getD i ([],0)=l[i]:=by
 rw[zA,zB h,Option.getD_some]
theorem mX.at {l:List Wd}(h:mX l) {i j:Nat}(hij:i<j) (hj:j<l.length):aX (l.getD i ([],0)).1 (l.getD j ([],0)).1=true:=by
 rw[getD_lt (by omega),getD_lt hj];exact List.pairwise_iff_getElem.1 h i j (by omega) hj hij
theorem GQ (l:List Wd):Ris l↔mX l:=by
 constructor
 .intro h;refine List.pairwise_iff_getElem.2 fun i j hi hj hij=>?_
  rw[<- getD_lt hi,<- getD_lt hj];obtain⟨k,rfl⟩:∃k,j=i+1+k:=⟨j-(i+1),by omega⟩;clear hij
  induction k with
  |zero=>exact h i (by omega)
  |succ k ih=>exact jN (ih (by omega)) (h (i+1+k) (by omega))
 .intro h i hi;exact h.at (Nat.lt_succ_self i) hi
theorem Qh {l:List Wd}(h:∀x∈l,wE x=0):eF l=0:=pO fun j hj=>yF.2 (h _ (by rw[getD_lt hj];exact List.getElem_mem _))
theorem Em {l:List Wd}(h:eF l=0):eF (aa l)=0:=Qh (Cb (qy h))
theorem pI {l:List Wd}:isE l=0↔eF l=0/\mX l/\l.length<=65536:=by
 unfold isE;split
 .rename_i h;split
  .rename_i h1;rw[ol,GQ] at h1;split
   .simp;omega
   .simp[h,h1];omega
  .rename_i h1;rw[ol,GQ] at h1;simp[h1]
 .rename_i h;simp[h]
theorem MV {l:List Wd}{i:Nat}(hi:i<l.length) (hn:∀j,j<i->iB (l.getD j ([],0))=false) (h:iB (l.getD i ([],0))=true):lN l=i:=by
 unfold lN;rw[qR hi hn h]
theorem JR {l:List Wd}(hn:∀j,j<l.length->iB (l.getD j ([],0))=false):lN l = -1:=by
 unfold lN;rw[oN hn]
theorem Iz (l:List Wd):(lN l = -1/\eF l=0)\/∃i:Nat,i<l.length/\lN l=i/\wE (l.getD i ([],0))=eF l:=by
 unfold lN;cases h:l.findIdx? iB with
 | none=>
   refine .inl ⟨rfl,pO fun j hj=>?_⟩;rw[getD_lt hj];have:=List.findIdx?_eq_none_iff.1 h _ (List.getElem_mem hj);simpa using this
 | some i=>
   obtain⟨hi,h1,h2⟩:=List.findIdx?_eq_some_iff_getElem.1 h;refine .inr ⟨i,hi,rfl,(yX hi (fun j hj=>?_) (by rw[getD_lt hi];exact h1)).symm⟩;rw[getD_lt (by omega)];simpa using h2 j hj
theorem tJ {P:Nat->Prop}{i:Nat}(h:∀j,j<i->P j) (hi:P i):∀j,j<i+1->P j:=fun j hj=>by
 rcases Nat.lt_succ_iff_lt_or_eq.1 hj with h1 | rfl
 .exact h j h1
 .exact hi
theorem ZN {l:List Wd}{i:Nat}(he:eF l=0) (h0:0<(i:Int)) (hi:i<l.length) (h:(!aX (l.getD ((i:Int)-1).toNat ([],0)).1 (l.getD i ([],0)).1)=true):7=isE l:=by
 unfold isE;rw[if_pos he,if_neg];rw[ol];intro hr;obtain⟨k,rfl⟩:∃k,i=k+1:=⟨i-1,by omega⟩;rw[show (((k+1:Nat):Int)-1).toNat=k by omega] at h;have:=hr k hi;unfold ltW at this;rw[this] at h;cases h
theorem QX {l:List Wd}(he:eF l=0) (h:∀j,j+1<l.length->ltW (l.getD j ([],0)) (l.getD (j+1) ([],0))=true):isE l=if 65536<l.length then 6 else 0:=by
 unfold isE;rw[if_pos he,if_pos ((ol l).2 h)]
theorem CK {l:List Wd}{i:Nat}(h:∀j,j+1<i->ltW (l.getD j ([],0)) (l.getD (j+1) ([],0))=true) (hs:0<(i:Int)->¬ (!aX (l.getD ((i:Int)-1).toNat ([],0)).1 (l.getD i ([],0)).1)=true):∀j,j+1<i+1->ltW (l.getD j ([],0)) (l.getD (j+1) ([],0))=true:=fun j hj=>by
 rcases Nat.lt_succ_iff_lt_or_eq.1 hj with h1 | rfl
 .exact h j h1
 .have:=hs (by omega);rw[show (((j+1:Nat):Int)-1).toNat=j by omega] at this;unfold ltW;simpa using this
theorem Hu {l:List Wd}(he:eF l=0) (h:65536<((aa l).length:Int)):bu l=[]/\6=kU l:=by
 have e:kU l=6:=by unfold kU;rw[if_pos he,if_pos (by omega)]
 unfold bu;rw[e];exact⟨rfl,rfl⟩
theorem AL {l:List Wd}(he:eF l=0) (h:¬ 65536<((aa l).length:Int)):aa l=bu l/\0=kU l:=by
 have e:kU l=0:=by unfold kU;rw[if_pos he,if_neg (by omega)]
 unfold bu;rw[e];exact⟨rfl,rfl⟩
theorem GR {l:List Wd}(he:¬ eF l=0):bu l=[]/\eF l=kU l:=by
 have e:kU l=eF l:=by unfold kU;rw[if_neg he]
 unfold bu;rw[e,if_neg he];exact⟨rfl,rfl⟩
end Go.EA
end
section
namespace Go.EA
open F
def preB (a b:List UInt8):Bool:=decide (b.length<=a.length/\a.take b.length=b)
def bG (l:List Wd) (s:List UInt8):Nat:=(l.takeWhile fun w=>aX w.1 s).length
def dY (l:List Wd) (s:List UInt8):Nat:=bG l s+((l.drop (bG l s)).takeWhile fun w=>preB w.1 s).length
theorem oK {α:Type}(p:α->Bool) (d:α):∀(l:List α),(l.takeWhile p).length<=l.length/\(∀k,k<(l.takeWhile p).length->p (l.getD k d)=true)/\((l.takeWhile p).length<l.length->p (l.getD (l.takeWhile p).length d)=false)
 |[]=>⟨zJ _,fun _ h=>absurd h (zS _),fun h=>absurd h (Nat.lt_irrefl _)⟩
 | x::l=>by
   obtain⟨h1,h2,h3⟩:=oK p d l;rw[List.takeWhile_cons];cases hx:p x with
   |false=>exact⟨Nat.zero_le _,fun _ h=>absurd h (zS _),fun _=>hx⟩
   | true=>
     rw[if_pos rfl,zM];refine⟨Nat.succ_le_succ h1,fun k hk=>?_,fun h=>h3 (Nat.lt_of_succ_lt_succ h)⟩;cases k with
     |zero=>exact hx
     |succ k=>exact h2 k (Nat.lt_of_succ_lt_succ hk)
theorem FV (l:List Wd) (s:List UInt8):bG l s<=l.length:=(oK _ ([],0) l).1
theorem Hr {l:List Wd}{s:List UInt8}{k:Nat}(h:k<bG l s):aX (l.getD k ([],0)).1 s=true:=(oK (fun w:Wd=>aX w.1 s) ([],0) l).2.1 k h
theorem TR {l:List Wd}{s:List UInt8}(h:bG l s<l.length):aX (l.getD (bG l s) ([],0)).1 s=false:=(oK (fun w:Wd=>aX w.1 s) ([],0) l).2.2 h
theorem Fv {l:List Wd}{s:List UInt8}(hr:mX l) {k:Nat}(h:bG l s<=k) (hk:k<l.length):aX (l.getD k ([],0)).1 s=false:=by
 have h0:=TR (l:=l) (s:=s) (by omega);rcases Nat.lt_or_eq_of_le h with h1 | h1
 .cases hx:aX (l.getD k ([],0)).1 s with
  |false=>rfl
  |true=>rw[jN (hr.at h1 hk) hx] at h0;cases h0
 .rw[<- h1];exact h0
theorem Od (a b:List UInt8):aH a none (some (b.length:Int))=a.take b.length:=by
 unfold aH;simp
theorem TI {a b:List UInt8}(h:(b.length:Int)<=a.length):decide (aH a none (some (b.length:Int))=b)=preB a b:=by
 rw[Od];exact decide_eq_decide.2 ⟨fun e=>⟨by omega,e⟩,fun e=>e.2⟩
theorem YZ {a b:List UInt8}(h:¬ (b.length:Int)<=a.length):false=preB a b:=by
 unfold preB;rw[decide_eq_false];rintro⟨h1,_⟩;omega
end Go.EA
end
section
namespace Go.EA
open F
theorem Mh (a:List UInt8):preB a []=true:=by simp[preB]
theorem wX (x y:UInt8) (a b:List UInt8):preB (x::a) (y::b)=true↔x=y/\preB a b=true:=by
 simp only[preB,decide_eq_true_eq,zM,List.take_succ_cons,zG,Nat.add_le_add_iff_right];exact⟨fun⟨h1,h2,h3⟩=>⟨h2,h1,h3⟩,fun⟨h1,h2,h3⟩=>⟨h2,h1,h3⟩⟩
theorem FR:∀{s x y:List UInt8},aX x s=false->preB x s=false->aX x y=true->preB y s=false
 |[],x,y,_,h,_=>by rw[Mh] at h;cases h
 | c::s,[],y,h,_,_=>by
   have e:aX [] (c::s)=true:=rfl;rw[e] at h;cases h
 |c::s,d::x,[],_,_,h=>by rw[xN] at h;cases h
 | c::s,d::x,e::y,h1,h2,h3=>by
   rw[Bool.eq_false_iff] at h1 h2 ⊢;rw[Ne,kK] at h1;rw[Ne,wX] at h2 ⊢;rw[kK] at h3;rintro⟨rfl,h4⟩;rcases h3 with h3 | ⟨rfl,h3⟩
   .exact h1 (.inl h3)
   .have:=FR (s:=s) (x:=x) (y:=y) (by rw[Bool.eq_false_iff];exact fun h=>h1 (.inr ⟨rfl,h⟩)) (by rw[Bool.eq_false_iff];exact fun h=>h2 ⟨rfl,h⟩) h3;rw[this] at h4;cases h4
theorem KZ:∀{s y:List UInt8},preB y s=true->aX y s=false
 |[],y,_=>by cases y <;> rfl
 |c::s,[],h=>by simp[preB] at h
 | c::s,e::y,h=>by
   rw[wX] at h;obtain⟨rfl,h⟩:=h;rw[Bool.eq_false_iff,Ne,kK];rintro(h1 | ⟨_,h1⟩)
   .exact absurd h1 (UInt8.lt_irrefl _)
   .rw[KZ h] at h1;cases h1
theorem jH (l:List Wd) (s:List UInt8):bG l s<=dY l s/\dY l s<=l.length/\(∀j,bG l s<=j->j<dY l s->preB (l.getD j ([],0)).1 s=true)/\(dY l s<l.length->preB (l.getD (dY l s) ([],0)).1 s=false):=by
 have hd:∀k,(l.drop (bG l s)).getD k ([],0)=l.getD (bG l s+k) ([],0):=fun k=>by
  rw[zA,zA,List.getElem?_drop]
 have hp:=FV l s;obtain⟨h1,h2,h3⟩:=oK (fun w:Wd=>preB w.1 s) ([],0) (l.drop (bG l s));rw[List.length_drop] at h1 h3;unfold dY;refine⟨by omega,by omega,fun j j1 j2=>?_,fun h=>?_⟩
 .have:=h2 (j-bG l s) (by omega);rw[hd,show bG l s+(j-bG l s)=j by omega] at this;exact this
 .have:=h3 (by omega);rw[hd] at this;exact this
theorem rW {l:List Wd}(hr:mX l) {s:List UInt8}{j:Nat}(hj:j<l.length):preB (l.getD j ([],0)).1 s=true↔bG l s<=j/\j<dY l s:=by
 obtain⟨h1,h2,h3,h4⟩:=jH l s;refine⟨fun h=>⟨?_,?_⟩,fun h=>h3 j h.1 h.2⟩
 .rcases Nat.lt_or_ge j (bG l s) with h5 | h5
  .have:=Hr h5;rw[KZ h] at this;cases this
  .exact h5
 .rcases Nat.lt_or_ge j (dY l s) with h5 | h5
  .exact h5
  .have h6:=h4 (by omega);rcases Nat.lt_or_eq_of_le h5 with h7 | h7
   .have:=FR (Fv hr h1 (by omega)) h6 (hr.at h7 hj);rw[this] at h;cases h
   .rw[<- h7,h6] at h;cases h
theorem Ba {l:List Wd}(h:kU l=0):bu l=aa l/\eF l=0/\isE (aa l)=0:=by
 have e:bu l=aa l:=by unfold bu;rw[if_pos h]
 unfold kU at h;split at h
 .rename_i h1;split at h
  .cases h
  .exact⟨e,h1,pI.2 ⟨Em h1,Jc l,by omega⟩⟩
 .rename_i h1;exact absurd h h1
theorem SmW.norm {l:List Wd}{n:Nat}(h:∀x∈l,x.1.length<=n):∀x∈aa l,x.1.length<=n:=fun x hx=>by
 obtain⟨z,hz,e⟩:=Ih x hx;rw[<- e];exact h z hz
theorem GY {w:Wd}:∀{o:List Wd}{n:Nat},(∀j,j<n->aX (o.getD j ([],0)).1 w.1=true)->n<o.length->(o.getD n ([],0)).1=w.1->il w o=o.set n ((o.getD n ([],0)).1,min 1073741824 ((o.getD n ([],0)).2+w.2))
 |[],_,_,h,_=>absurd h (zS _)
 | x::o,0,_,_,e=>by
   have e:x.1=w.1:=e;rw[il,if_neg (by rw[e,xR];decide),if_pos e]
   rfl
 | x::o,n+1,hj,hn,e=>by
   rw[il,if_pos (show aX x.1 w.1=true from hj 0 (Nat.succ_pos n)),GY (o:=o) (n:=n) (fun j h=>hj (j+1) (Nat.succ_lt_succ h)) (Nat.lt_of_succ_lt_succ hn) e]
   rfl
theorem FM {w:Wd}:∀{o:List Wd}{n:Nat},(∀j,j<n->aX (o.getD j ([],0)).1 w.1=true)->n<=o.length->(n<o.length->aX (o.getD n ([],0)).1 w.1=false/\(o.getD n ([],0)).1≠w.1)->il w o=o.take n++[w]++o.drop n
 | [],n,_,h,_=>by
   have:n=0:=by simpa using h
   subst this;rfl
 | x::o,0,_,_,e=>by
   obtain⟨e1,e2⟩:=e (Nat.succ_pos _);have e1:aX x.1 w.1=false:=e1;have e2:x.1≠w.1:=e2;rw[il,if_neg (by rw[e1];decide),if_neg e2]
   rfl
 | x::o,n+1,hj,hn,e=>by
   rw[il,if_pos (show aX x.1 w.1=true from hj 0 (Nat.succ_pos n)),FM (o:=o) (n:=n) (fun j h=>hj (j+1) (Nat.succ_lt_succ h)) (Nat.le_of_succ_le_succ hn) fun h=>e (Nat.succ_lt_succ h)]
   rfl
theorem Jr {l:List Wd}{i:Nat}(hi:i<l.length):aa (l.take (i+1))=il (l.getD i ([],0)) (aa (l.take i)):=by
 rw[List.take_add_one,zB hi,Option.toList_some,<- getD_lt hi,Ej]
end Go.EA
end
