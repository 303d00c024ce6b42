/- Texts. Conditions: none. -/
import Derived.Test.YtgkhohpekfjlmaaDoorEK24
import Derived.Test.YtgkhohpekfjlmaaDoorEMean3
import Derived.Test.YtgkhohpekfjlmaaDoorEK9
set_option linter.unusedVariables false
set_option linter.unusedSimpArgs false
section
namespace Go.EA
open F
def wE (w:Wd):Int:=if ek w.1=0 then (if w.2<1\/1073741824<w.2 then 2 else 0) else ek w.1
def gW (w:Wd):Bool:=!decide (wE w=0)
def lq (l:List Wd):Int:=match l.findIdx? gW with | some i=>i | none => -1
def dY (l:List Wd):Int:=orV (l.map wE)
def SmW (l:List Wd):Prop:=∀x∈l,x.1.length<=1099511627776
theorem SmW.at {l:List Wd}(h:SmW l) (i:Nat):(l.getD i ([],0)).1.length<=1099511627776:=by
 rw[zA];cases hi:l[i]? with
 |none=>exact Nat.zero_le _
 |some x=>exact h x (zU hi)
theorem Mi {w:Wd}:gW w=true↔¬ wE w=0:=by unfold gW;simp
theorem yG {w:Wd}:gW w=false↔wE w=0:=by unfold gW;simp
theorem qV {α:Type}{p:α->Bool}:∀{l:List α}{d:α}{i:Nat},i<l.length->(∀j,j<i->p (l.getD j d)=false)->p (l.getD i d)=true->l.findIdx? p=some i
 |[],_,_,h,_,_=>by cases h
 |x::l,d,0,_,_,h=>by rw[List.findIdx?_cons];rw[show p x=true from h];rfl
 | x::l,d,i+1,hi,hn,h=>by
   rw[List.findIdx?_cons,show p x=false from hn 0 (Nat.succ_pos i),qV (l:=l) (d:=d) (i:=i) (Nat.lt_of_succ_lt_succ hi) (fun j hj=>hn (j+1) (Nat.succ_lt_succ hj)) h]
   rfl
theorem oW {α:Type}{p:α->Bool}:∀{l:List α}{d:α},(∀j,j<l.length->p (l.getD j d)=false)->l.findIdx? p=none
 |[],_,_=>rfl
 | x::l,d,hn=>by
   rw[List.findIdx?_cons,show p x=false from hn 0 (Nat.succ_pos _),oW (l:=l) (d:=d) fun j hj=>hn (j+1) (Nat.succ_lt_succ hj)]
   rfl
theorem yB:∀{l:List Wd}{i:Nat},i<l.length->(∀j,j<i->gW (l.getD j ([],0))=false)->gW (l.getD i ([],0))=true->dY l=wE (l.getD i ([],0))
 |[],_,h,_,_=>by cases h
 | x::l,0,_,_,h=>by
   have h1:¬ wE x=0:=Mi.1 h;simp[dY,orV,h1]
 | x::l,i+1,hi,hn,h=>by
   have h0:wE x=0:=yG.1 (hn 0 (Nat.succ_pos i));have:=yB (l:=l) (i:=i) (Nat.lt_of_succ_lt_succ hi) (fun j hj=>hn (j+1) (Nat.succ_lt_succ hj)) h;simpa [dY,orV,h0] using this
theorem qx {l:List Wd}(hn:∀j,j<l.length->gW (l.getD j ([],0))=false):dY l=0:=by
 refine(Mg ?_).symm;rw[List.all_eq_true];intro x hx;obtain⟨w,hw,rfl⟩:=List.mem_map.1 hx;obtain⟨j,hj,rfl⟩:=List.mem_iff_getElem.1 hw;have:=hn j hj;rw[zA,zB hj] at this;simpa using yG.1 this
theorem qJ {l:List Wd}(h:dY l=0):∀x∈l,wE x=0:=by
 intro x hx;unfold dY orV at h;cases hf:(l.map wE).find? (fun x=>!decide (x=0)) with
 | none=>
   have:=List.find?_eq_none.1 hf (wE x) (List.mem_map_of_mem hx);simpa using this
 | some e=>
   rw[hf] at h;have:=List.find?_some hf;simp only[Option.getD_some] at h;rw[h] at this;simp at this
def Ris (l:List Wd):Prop:=∀i,i+1<l.length->ltW (l.getD i ([],0)) (l.getD (i+1) ([],0))=true
def Xf (l:List Wd):Bool:=(List.range l.length).all fun i=>decide (i+1<l.length->ltW (l.getD i ([],0)) (l.getD (i+1) ([],0))=true)
theorem oQ (l:List Wd):Xf l=true↔Ris l:=by
 simp only[Xf,List.all_eq_true,List.mem_range,decide_eq_true_eq];exact⟨fun h i hi=>h i (by omega) hi,fun h i _ hi=>h i hi⟩
def isE (l:List Wd):Int:=if dY l=0 then (if Xf l=true then (if 65536<l.length then 6 else 0) else 7) else dY l
def gQ (w:Wd):List Wd->List Wd
 |[]=>[w]
 |x::r=>if aP x.1 w.1=true then x::gQ w r else if x.1=w.1 then (x.1,min 1073741824 (x.2+w.2))::r else w::x::r
def aa (l:List Wd):List Wd:=l.foldl (fun o w=>gQ w o) []
def kM (l:List Wd):Int:=if dY l=0 then (if 65536<(aa l).length then 6 else 0) else dY l
def aA (l:List Wd):List Wd:=if kM l=0 then aa l else []
theorem EO (l:List Wd) (w:Wd):aa (l++[w])=gQ w (aa l):=by
 unfold aa;rw[List.foldl_append];rfl
theorem De {w x:Wd}:∀{o:List Wd},x∈gQ w o->x.1=w.1\/∃z∈o,z.1=x.1
 |[],h=>by simp only[gQ,List.mem_singleton] at h;exact .inl (by rw[h])
 | y::o,h=>by
   simp only[gQ] at h;split at h
   .rcases List.mem_cons.1 h with rfl | h
    .exact .inr ⟨_,List.mem_cons_self ..,rfl⟩
    .rcases De h with h | ⟨z,hz,e⟩
     .exact .inl h
     .exact .inr ⟨z,List.mem_cons_of_mem _ hz,e⟩
   .split at h
    .rcases List.mem_cons.1 h with rfl | h
     .exact .inr ⟨_,List.mem_cons_self ..,rfl⟩
     .exact .inr ⟨x,List.mem_cons_of_mem _ h,rfl⟩
    .rcases List.mem_cons.1 h with rfl | h
     .exact .inl rfl
     .exact .inr ⟨x,h,rfl⟩
theorem AU {P:Wd->Prop}{w:Wd}(hw:P w) (hm:∀x,P x->x.1=w.1->P (x.1,min 1073741824 (x.2+w.2))):∀{o:List Wd},(∀x∈o,P x)->∀x∈gQ w o,P x
 |[],_,x,h=>by simp only[gQ,List.mem_singleton] at h;rw[h];exact hw
 | y::o,ho,x,h=>by
   simp only[gQ] at h;split at h
   .rcases List.mem_cons.1 h with rfl | h
    .exact ho _ (List.mem_cons_self ..)
    .exact AU hw hm (fun z hz=>ho z (List.mem_cons_of_mem _ hz)) x h
   .split at h
    .rename_i e;rcases List.mem_cons.1 h with rfl | h
     .exact hm y (ho _ (List.mem_cons_self ..)) e
     .exact ho x (List.mem_cons_of_mem _ h)
    .rcases List.mem_cons.1 h with rfl | h
     .exact hw
     .exact ho x h
theorem xu {P:Wd->Prop}{l:List Wd}(hl:∀w∈l,P w) (hm:∀w x,P w->P x->x.1=w.1->P (x.1,min 1073741824 (x.2+w.2))):∀x∈aa l,P x:=by
 have:∀(l o:List Wd),(∀w∈l,P w)->(∀x∈o,P x)->∀x∈l.foldl (fun o w=>gQ w o) o,P x:=by
  intro l
  induction l with
  |nil=>intro o _ ho;exact ho
  | cons w l ih=>
    intro o hl ho;exact ih (gQ w o) (fun z hz=>hl z (List.mem_cons_of_mem _ hz)) (AU (hl w (List.mem_cons_self ..)) (fun x hx e=>hm w x (hl w (List.mem_cons_self ..)) hx e) ho)
 exact this l [] hl fun x hx=>by cases hx
theorem yn {w:Wd}:wE w=0↔ek w.1=0/\1<=w.2/\w.2<=1073741824:=by
 unfold wE;split
 .rename_i h;split
  .simp;omega
  .simp[h];omega
 .rename_i h;simp[h]
theorem Ac {l:List Wd}(h:∀x∈l,wE x=0):∀x∈aa l,wE x=0:=by
 refine xu h fun w x hw hx e=>?_
 rw[yn] at hw hx ⊢;dsimp only;exact⟨hx.1,by omega,by omega⟩
theorem Jg {l:List Wd}:∀x∈aa l,∃z∈l,z.1=x.1:=
 xu (P:=fun x=>∃z∈l,z.1=x.1) (fun w hw=>⟨w,hw,rfl⟩) fun w x _ hx _=>hx
theorem Ck (w:Wd):∀o,(gQ w o).length<=o.length+1
 |[]=>zJ _
 | x::o=>by
   simp only[gQ];split
   .simp only[zM];have:=Ck w o;omega
   .split <;> simp
theorem wT (l:List Wd):(aa l).length<=l.length:=by
 have:∀(l o:List Wd),(l.foldl (fun o w=>gQ w o) o).length<=o.length+l.length:=by
  intro l
  induction l with
  |nil=>intro o;exact zJ _
  |cons w l ih=>intro o;have h1:=ih (gQ w o);have h2:=Ck w o;simp only[List.foldl_cons,zM];omega
 have h:=this l [];rw[List.length_nil,Nat.zero_add] at h;exact h
def ll (o:List Wd):Prop:=o.Pairwise fun a b=>aP a.1 b.1=true
theorem Ao {w:Wd}:∀{o:List Wd},ll o->ll (gQ w o)
 |[],_=>List.pairwise_singleton ..
 | x::o,h=>by
   have ⟨h1,h2⟩:=List.pairwise_cons.1 h;simp only[gQ];split
   .rename_i hl;refine List.pairwise_cons.2 ⟨fun y hy=>?_,Ao h2⟩;rcases De hy with e | ⟨z,hz,e⟩
    .rw[e];exact hl
    .rw[<- e];exact h1 z hz
   .rename_i hl;split
    .exact List.pairwise_cons.2 ⟨h1,h2⟩
    .rename_i hne;have hlt:aP w.1 x.1=true:=by
      rcases xR x.1 w.1 with e | e | e
      .exact absurd e hl
      .exact absurd e hne
      .exact e
     refine List.pairwise_cons.2 ⟨fun y hy=>?_,h⟩;rcases List.mem_cons.1 hy with rfl | hy
     .exact hlt
     .exact gL hlt (h1 y hy)
theorem Jo (l:List Wd):ll (aa l):=by
 have:∀(l o:List Wd),ll o->ll (l.foldl (fun o w=>gQ w o) o):=by
  intro l
  induction l with
  |nil=>intro o h;exact h
  |cons w l ih=>intro o h;exact ih _ (Ao h)
 exact this l [] List.Pairwise.nil
theorem getD_lt {l:List Wd}{i:Nat}(h:i<l.length):l.getD i ([],0)=l[i]:=by
 rw[zA,zB h,Option.getD_some]
theorem ll.at {l:List Wd}(h:ll l) {i j:Nat}(hij:i<j) (hj:j<l.length):aP (l.getD i ([],0)).1 (l.getD j ([],0)).1=true:=by
 rw[getD_lt (by omega),getD_lt hj];exact List.pairwise_iff_getElem.1 h i j (by omega) hj hij
theorem Fe (l:List Wd):Ris l↔ll l:=by
 constructor
 .intro h;refine List.pairwise_iff_getElem.2 fun i j hi hj hij=>?_
  rw[<- getD_lt hi,<- getD_lt hj];obtain⟨k,rfl⟩:∃k,j=i+1+k:=⟨j-(i+1),by omega⟩;clear hij
  induction k with
  |zero=>exact h i (by omega)
  |succ k ih=>exact gL (ih (by omega)) (h (i+1+k) (by omega))
 .intro h i hi;exact h.at (Nat.lt_succ_self i) hi
theorem TD {l:List Wd}(h:∀x∈l,wE x=0):dY l=0:=qx fun j hj=>yG.2 (h _ (by rw[getD_lt hj];exact List.getElem_mem _))
theorem Dx {l:List Wd}(h:dY l=0):dY (aa l)=0:=TD (Ac (qJ h))
theorem mh {l:List Wd}:isE l=0↔dY l=0/\ll l/\l.length<=65536:=by
 unfold isE;split
 .rename_i h;split
  .rename_i h1;rw[oQ,Fe] at h1;split
   .simp;omega
   .simp[h,h1];omega
  .rename_i h1;rw[oQ,Fe] at h1;simp[h1]
 .rename_i h;simp[h]
theorem KU {l:List Wd}{i:Nat}(hi:i<l.length) (hn:∀j,j<i->gW (l.getD j ([],0))=false) (h:gW (l.getD i ([],0))=true):lq l=i:=by
 unfold lq;rw[qV hi hn h]
theorem JE {l:List Wd}(hn:∀j,j<l.length->gW (l.getD j ([],0))=false):lq l = -1:=by
 unfold lq;rw[oW hn]
theorem JA (l:List Wd):(lq l = -1/\dY l=0)\/∃i:Nat,i<l.length/\lq l=i/\wE (l.getD i ([],0))=dY l:=by
 unfold lq;cases h:l.findIdx? gW with
 | none=>
   refine .inl ⟨rfl,qx fun j hj=>?_⟩;rw[getD_lt hj];have:=List.findIdx?_eq_none_iff.1 h _ (List.getElem_mem hj);simpa using this
 | some i=>
   obtain⟨hi,h1,h2⟩:=List.findIdx?_eq_some_iff_getElem.1 h;refine .inr ⟨i,hi,rfl,(yB hi (fun j hj=>?_) (by rw[getD_lt hi];exact h1)).symm⟩;rw[getD_lt (by omega)];simpa using h2 j hj
theorem vg {P:Nat->Prop}{i:Nat}(h:∀j,j<i->P j) (hi:P i):∀j,j<i+1->P j:=fun j hj=>by
 rcases Nat.lt_succ_iff_lt_or_eq.1 hj with h1 | rfl
 .exact h j h1
 .exact hi
theorem XP {l:List Wd}{i:Nat}(he:dY l=0) (h0:0<(i:Int)) (hi:i<l.length) (h:(!aP (l.getD ((i:Int)-1).toNat ([],0)).1 (l.getD i ([],0)).1)=true):7=isE l:=by
 unfold isE;rw[if_pos he,if_neg];rw[oQ];intro hr;obtain⟨k,rfl⟩:∃k,i=k+1:=⟨i-1,by omega⟩;rw[show (((k+1:Nat):Int)-1).toNat=k by omega] at h;have:=hr k hi;unfold ltW at this;rw[this] at h;cases h
theorem Rw {l:List Wd}(he:dY l=0) (h:∀j,j+1<l.length->ltW (l.getD j ([],0)) (l.getD (j+1) ([],0))=true):isE l=if 65536<l.length then 6 else 0:=by
 unfold isE;rw[if_pos he,if_pos ((oQ l).2 h)]
theorem AJ {l:List Wd}{i:Nat}(h:∀j,j+1<i->ltW (l.getD j ([],0)) (l.getD (j+1) ([],0))=true) (hs:0<(i:Int)->¬ (!aP (l.getD ((i:Int)-1).toNat ([],0)).1 (l.getD i ([],0)).1)=true):∀j,j+1<i+1->ltW (l.getD j ([],0)) (l.getD (j+1) ([],0))=true:=fun j hj=>by
 rcases Nat.lt_succ_iff_lt_or_eq.1 hj with h1 | rfl
 .exact h j h1
 .have:=hs (by omega);rw[show (((j+1:Nat):Int)-1).toNat=j by omega] at this;unfold ltW;simpa using this
theorem GA {l:List Wd}(he:dY l=0) (h:65536<((aa l).length:Int)):aA l=[]/\6=kM l:=by
 have e:kM l=6:=by unfold kM;rw[if_pos he,if_pos (by omega)]
 unfold aA;rw[e];exact⟨rfl,rfl⟩
theorem AB {l:List Wd}(he:dY l=0) (h:¬ 65536<((aa l).length:Int)):aa l=aA l/\0=kM l:=by
 have e:kM l=0:=by unfold kM;rw[if_pos he,if_neg (by omega)]
 unfold aA;rw[e];exact⟨rfl,rfl⟩
theorem FK {l:List Wd}(he:¬ dY l=0):aA l=[]/\dY l=kM l:=by
 have e:kM l=dY l:=by unfold kM;rw[if_neg he]
 unfold aA;rw[e,if_neg he];exact⟨rfl,rfl⟩
end Go.EA
end
section
namespace Go.EA
open F
def preB (a b:List UInt8):Bool:=decide (b.length<=a.length/\a.take b.length=b)
def mZ (l:List Wd) (s:List UInt8):Nat:=(l.takeWhile fun w=>aP w.1 s).length
def vk (l:List Wd) (s:List UInt8):Int:=mZ l s
def isW (l:List Wd) (s:List UInt8):Bool:=decide (mZ l s<l.length/\(l.getD (mZ l s) ([],0)).1=s)
def vB (l:List Wd) (s:List UInt8):Int:=if isE l=0 then ((l.find? fun w=>decide (w.1=s)).map (·.2)).getD 0 else 0
def mf (l:List Wd) (s:List UInt8):Int:=if isE l=0 then (if (l.find? fun w=>decide (w.1=s)).isSome then 0 else 10) else isE l
def Ta (l:List Wd) (s:List UInt8):Nat:=mZ l s+((l.drop (mZ l s)).takeWhile fun w=>preB w.1 s).length
theorem Mv {α:Type}{p:α->Bool}{d:α}:∀{l:List α}{a:Nat},a<=l.length->(∀k,k<a->p (l.getD k d)=true)->(a<l.length->p (l.getD a d)=false)->(l.takeWhile p).length=a
 |[],0,_,_,_=>rfl
 |[],a+1,h,_,_=>absurd h (by simp)
 |x::l,0,_,_,h=>by rw[List.takeWhile_cons,show p x=false from h (Nat.succ_pos _)];rfl
 | x::l,a+1,h,hk,hn=>by
   rw[List.takeWhile_cons,show p x=true from hk 0 (Nat.succ_pos a),if_pos rfl,zM,Mv (l:=l) (a:=a) (d:=d) (Nat.le_of_succ_le_succ h) (fun k h1=>hk (k+1) (Nat.succ_lt_succ h1)) fun h1=>hn (Nat.succ_lt_succ h1)]
theorem yL {α:Type}(p:α->Bool) (d:α):∀(l:List α),(l.takeWhile p).length<=l.length/\(∀k,k<(l.takeWhile p).length->p (l.getD k d)=true)/\((l.takeWhile p).length<l.length->p (l.getD (l.takeWhile p).length d)=false)
 |[]=>⟨zJ _,fun _ h=>absurd h (zS _),fun h=>absurd h (Nat.lt_irrefl _)⟩
 | x::l=>by
   obtain⟨h1,h2,h3⟩:=yL p d l;rw[List.takeWhile_cons];cases hx:p x with
   |false=>exact⟨Nat.zero_le _,fun _ h=>absurd h (zS _),fun _=>hx⟩
   | true=>
     rw[if_pos rfl,zM];refine⟨Nat.succ_le_succ h1,fun k hk=>?_,fun h=>h3 (Nat.lt_of_succ_lt_succ h)⟩;cases k with
     |zero=>exact hx
     |succ k=>exact h2 k (Nat.lt_of_succ_lt_succ hk)
theorem FX {l:List Wd}{s:List UInt8}{k:Nat}(h:k<mZ l s):aP (l.getD k ([],0)).1 s=true:=(yL (fun w:Wd=>aP w.1 s) ([],0) l).2.1 k h
theorem Qu {l:List Wd}{s:List UInt8}(h:mZ l s<l.length):aP (l.getD (mZ l s) ([],0)).1 s=false:=(yL (fun w:Wd=>aP w.1 s) ([],0) l).2.2 h
theorem Tq {l:List Wd}{s:List UInt8}{a:Nat}(h:a<=l.length) (hk:∀k,k<a->aP (l.getD k ([],0)).1 s=true) (hn:a<l.length->aP (l.getD a ([],0)).1 s=false):mZ l s=a:=
 Mv (p:=fun w:Wd=>aP w.1 s) (d:=([],0)) h hk hn
theorem Kw {l:List Wd}{s:List UInt8}{i:Nat}(hi:i<l.length) (hn:∀j,j<i->(l.getD j ([],0)).1≠s) (h:(l.getD i ([],0)).1=s):l.find? (fun w=>decide (w.1=s))=some (l.getD i ([],0)):=by
 rw[List.find?_eq_some_iff_getElem];refine⟨by simpa using h,i,hi,(getD_lt hi).symm,fun j hj=>?_⟩;have:=hn j hj;rw[getD_lt (by omega)] at this;simpa using this
theorem Sk {l:List Wd}{s:List UInt8}(hn:∀j,j<l.length->(l.getD j ([],0)).1≠s):l.find? (fun w=>decide (w.1=s))=none:=by
 rw[List.find?_eq_none];intro w hw;obtain⟨j,hj,rfl⟩:=List.mem_iff_getElem.1 hw;have:=hn j hj;rw[getD_lt hj] at this;simpa using this
theorem TP {l:List Wd}{s:List UInt8}(h:isW l s=true):mZ l s<l.length/\l.find? (fun w=>decide (w.1=s))=some (l.getD (mZ l s) ([],0)):=by
 have h:=of_decide_eq_true h;exact⟨h.1,Kw h.1 (fun j hj=>LW (FX hj)) h.2⟩
theorem NZ {l:List Wd}{s:List UInt8}(hr:ll l) (h:isW l s=false):l.find? (fun w=>decide (w.1=s))=none:=by
 have h:=of_decide_eq_false h;refine Sk fun j hj=>?_
 rcases Nat.lt_or_ge j (mZ l s) with h1 | h1
 .exact LW (FX h1)
 .have h2:(l.getD (mZ l s) ([],0)).1≠s:=fun e=>h ⟨by omega,e⟩
  have h3:=Qu (l:=l) (s:=s) (by omega);have h4:aP s (l.getD (mZ l s) ([],0)).1=true:=by
   rcases xR s (l.getD (mZ l s) ([],0)).1 with e | e | e
   .exact e
   .exact absurd e.symm h2
   .rw[h3] at e;cases e
  rcases Nat.lt_or_eq_of_le h1 with h5 | h5
  .exact fun e=>LW (gL h4 (hr.at h5 hj)) e.symm
  .rw[<- h5];exact h2
theorem QM {l:List Wd}{s:List UInt8}(he:isE l=0) (h:(!isW l s)=true):0=vB l s/\10=mf l s:=by
 have:=NZ (mh.1 he).2.1 (s:=s) (by simpa using h);unfold vB mf;rw[if_pos he,if_pos he,this];exact⟨rfl,rfl⟩
theorem VN {l:List Wd}{s:List UInt8}{w:Wd}(he:isE l=0) (h:l.find? (fun w=>decide (w.1=s))=some w):w.2=vB l s/\0=mf l s:=by
 unfold vB mf;rw[if_pos he,if_pos he,h];exact⟨rfl,rfl⟩
theorem QF {l:List Wd}{s:List UInt8}(he:¬ isE l=0):0=vB l s/\isE l=mf l s:=by
 unfold vB mf;rw[if_neg he,if_neg he];exact⟨rfl,rfl⟩
theorem Pd {a b:List UInt8}(h:kr a b=0):a=b:=by
 unfold kr at h;split at h
 .cases h
 .split at h
  .assumption
  .cases h
end Go.EA
end
section
namespace Go.EA
open F
theorem Bq {l:List Wd}(h:kM l=0):aA l=aa l/\dY l=0/\isE (aa l)=0:=by
 have e:aA l=aa l:=by unfold aA;rw[if_pos h]
 unfold kM at h;split at h
 .rename_i h1;split at h
  .cases h
  .exact⟨e,h1,mh.2 ⟨Dx h1,Jo l,by omega⟩⟩
 .rename_i h1;exact absurd h h1
theorem SmW.norm {l:List Wd}{n:Nat}(h:∀x∈l,x.1.length<=n):∀x∈aa l,x.1.length<=n:=fun x hx=>by
 obtain⟨z,hz,e⟩:=Jg x hx;rw[<- e];exact h z hz
theorem Fa {w:Wd}:∀{o:List Wd}{n:Nat},(∀j,j<n->aP (o.getD j ([],0)).1 w.1=true)->n<o.length->(o.getD n ([],0)).1=w.1->gQ w o=o.set n ((o.getD n ([],0)).1,min 1073741824 ((o.getD n ([],0)).2+w.2))
 |[],_,_,h,_=>absurd h (zS _)
 | x::o,0,_,_,e=>by
   have e:x.1=w.1:=e;rw[gQ,if_neg (by rw[e,pK];decide),if_pos e]
   rfl
 | x::o,n+1,hj,hn,e=>by
   rw[gQ,if_pos (show aP x.1 w.1=true from hj 0 (Nat.succ_pos n)),Fa (o:=o) (n:=n) (fun j h=>hj (j+1) (Nat.succ_lt_succ h)) (Nat.lt_of_succ_lt_succ hn) e]
   rfl
theorem FN {w:Wd}:∀{o:List Wd}{n:Nat},(∀j,j<n->aP (o.getD j ([],0)).1 w.1=true)->n<=o.length->(n<o.length->aP (o.getD n ([],0)).1 w.1=false/\(o.getD n ([],0)).1≠w.1)->gQ w o=o.take n++[w]++o.drop n
 | [],n,_,h,_=>by
   have:n=0:=by simpa using h
   subst this;rfl
 | x::o,0,_,_,e=>by
   obtain⟨e1,e2⟩:=e (Nat.succ_pos _);have e1:aP x.1 w.1=false:=e1;have e2:x.1≠w.1:=e2;rw[gQ,if_neg (by rw[e1];decide),if_neg e2]
   rfl
 | x::o,n+1,hj,hn,e=>by
   rw[gQ,if_pos (show aP x.1 w.1=true from hj 0 (Nat.succ_pos n)),FN (o:=o) (n:=n) (fun j h=>hj (j+1) (Nat.succ_lt_succ h)) (Nat.le_of_succ_le_succ hn) fun h=>e (Nat.succ_lt_succ h)]
   rfl
theorem Ig {l:List Wd}{i:Nat}(hi:i<l.length):aa (l.take (i+1))=gQ (l.getD i ([],0)) (aa (l.take i)):=by
 rw[List.take_add_one,zB hi,Option.toList_some,<- getD_lt hi,EO]
end Go.EA
end
