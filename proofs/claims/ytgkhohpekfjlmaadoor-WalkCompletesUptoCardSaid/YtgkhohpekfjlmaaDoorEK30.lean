/- Texts. Conditions: none. -/
import Derived.Test.YtgkhohpekfjlmaaDoorEK33
import Derived.Test.YtgkhohpekfjlmaaDoorELx1
set_option linter.unusedVariables false
set_option linter.unusedSimpArgs false
section
namespace Go.EA
def wdA (d0:List StD) (d2:List Int):List Wd:=(List.range d2.length).map fun(i:Nat)=>(tX d0 (i:Int),d2.getD i 0)
def NwD (d0:List StD) (d2:List Int):Prop:=∃l,isE l=0/\d0=List.map stD (bM l)/\d2=l.map (·.2)
theorem Ug {α β:Type}(f:α->β) {l:List α}{i:Nat}{d:α}{d':β}(h:i<l.length):(l.map f).getD i d'=f (l.getD i d):=by
 rw[zA,zA,List.getElem?_map,zB h];rfl
theorem oU {l:List Wd}(h:isE l=0):wdA (List.map stD (bM l)) (l.map (·.2))=l:=by
 unfold wdA;refine List.ext_getElem (by simp) fun i h1 h2=>?_
 rw[List.getElem_map,List.getElem_range,TL h h2,Ug (d:=([],0)) _ h2,zA,zB h2]
 rfl
theorem NwD.new {l:List Wd}(h:isE l=0):NwD (tY l).1 (tY l).2.2:=⟨l,h,rfl,rfl⟩
structure NwP (d0:List StD) (d2:List Int):Prop where
 e:isE (wdA d0 d2)=0
 st:d0=List.map stD (bM (wdA d0 d2))
 fr:d2=(wdA d0 d2).map (·.2)
 ok:ql d0
 s:DwS d0
 ct:(d2.length:Int)=(stA d0 0).2.2
 len:(wdA d0 d2).length=d2.length
 few:d2.length<=65536
theorem NwD.p {d0:List StD}{d2:List Int}(h:NwD d0 d2):NwP d0 d2:=by
 obtain⟨l,h1,rfl,rfl⟩:=h;have hS:=sts h1;have hT:=(nml h1).tot;have hl:=(nml h1).len;refine⟨by rw[oU h1];exact h1,by rw[oU h1],by rw[oU h1],hS.ok hT,⟨_,_,hS,hT,rfl⟩,?_,by rw[oU h1,zR],by rw[zR];exact hl⟩;rw[zR,dL hS.pos];show _=((rAt (bM l) 0).1.length:Int);rw[hS.root,yA]
theorem VD {d0:List StD}{d2:List Int}{i:Nat}(h:i<d2.length):(wdA d0 d2).getD i ([],0)=(tX d0 (i:Int),d2.getD i 0):=by
 unfold wdA;rw[zA,zB (by simpa using h),Option.getD_some,List.getElem_map,List.getElem_range]
def tkE (s:List UInt8):Int:=if bG s=0 then (if 64<(aJ s).length then 5 else 0) else bG s
def tkL (s:List UInt8):List Int:=if tkE s=0 then aJ s else []
theorem Ke (s:List UInt8):bG s=0\/bG s=3/\aJ s=[]:=by
 unfold bG aJ;split
 .exact .inl rfl
 .exact .inr ⟨rfl,rfl⟩
theorem En {s:List UInt8}(h:tkE s=0):bG s=0/\(aJ s).length<=64/\tkL s=aJ s:=by
 have e:tkL s=aJ s:=by unfold tkL;rw[if_pos h]
 unfold tkE at h;split at h
 .rename_i h0;split at h
  .cases h
  .rename_i h1;exact⟨h0,by omega,e⟩
 .rename_i h0;exact absurd h h0
theorem GU {s:List UInt8}(h0:bG s=0) (h:¬ 64<((aJ s).length:Int)):aJ s=tkL s/\bG s=tkE s:=by
 have e:tkE s=0:=by unfold tkE;rw[if_pos h0,if_neg (by omega)]
 exact⟨by unfold tkL;rw[if_pos e],by rw[e,h0]⟩
theorem tu {s:List UInt8}(h0:bG s=0) (h:64<((aJ s).length:Int)):([]:List Int)=tkL s/\5=tkE s:=by
 have e:tkE s=5:=by unfold tkE;rw[if_pos h0,if_pos (by omega)]
 exact⟨by unfold tkL;rw[e];rfl,e.symm⟩
theorem FP {s:List UInt8}(h0:¬ bG s=0):aJ s=tkL s/\bG s=tkE s:=by
 have e:tkE s=bG s:=by unfold tkE;rw[if_neg h0]
 refine⟨?_,e.symm⟩;unfold tkL;rw[e,if_neg h0];rcases Ke s with h | h
 .exact absurd h h0
 .exact h.2
def enL (S:List StD):List Int->Int->Int->List Int
 |[],i,n=>if (stA S i.toNat).2.1=true then [n] else []
 |r::rs,i,n=>(if (stA S i.toNat).2.1=true then [n] else [])++(if dD (stA S i.toNat).1 r=true then enL S rs (gM (stA S i.toNat).1 r) (n+1) else [])
theorem sQ (S:List StD):∀(l:List Int) (i n:Int),∀m∈enL S l i n,n<=m/\m<=n+l.length
 | [],i,n,m,h=>by
   unfold enL at h;split at h
   .have:=List.mem_singleton.1 h;subst this;simp
   .cases h
 | r::rs,i,n,m,h=>by
   unfold enL at h;rcases zX.1 h with h | h
   .split at h
    .have:=List.mem_singleton.1 h;subst this;simp;omega
    .cases h
   .split at h
    .have:=sQ S rs _ _ m h;simp only[zM];push_cast;omega
    .cases h
theorem yS (S:List StD):∀(l:List Int) (i n:Int),(enL S l i n).length<=l.length+1
 | [],i,n=>by
   unfold enL;split <;> simp
 | r::rs,i,n=>by
   unfold enL;rw[zL];have h1:(if (stA S i.toNat).2.1=true then [n] else []).length<=1:=by split <;> simp
   have h2:(if dD (stA S i.toNat).1 r=true then enL S rs (gM (stA S i.toNat).1 r) (n+1) else []).length<=rs.length+1:=by
    split
    .exact yS S rs _ _
    .simp
   simp only[zM];omega
def loE (S:List StD) (s:List UInt8):List UInt8×Int:=if tkE s=0 then (if (enL S (tkL s) 0 0).length=0 then ([],10) else (iQ ((tkL s).take ((enL S (tkL s) 0 0).getD ((enL S (tkL s) 0 0).length-1) 0).toNat),0)) else ([],tkE s)
def cmN (l:List Wd) (s:List UInt8) (k:Int):Nat:=min (dA l s) (aV l s+k.toNat)-aV l s
def cmE (l:List Wd) (s:List UInt8) (k:Int):List Wd×Int:=if tkE s=0 then (if 0<=k/\k<=1000 then ((l.drop (aV l s)).take (cmN l s k),0) else ([],2)) else ([],tkE s)
end Go.EA
end
section
namespace Go.EA
def cmF (l:List Wd) (s:List UInt8) (k:Int):List Wd:=(l.filter fun w=>preB w.1 s).take k.toNat
def cmR (l:List Wd) (s:List UInt8) (k:Int):List Wd×Int:=if tkE s=0 then (if 0<=k/\k<=1000 then (cmF l s k,0) else ([],2)) else ([],tkE s)
theorem qA (p:Wd->Bool) {l:List Wd}{i:Nat}(h:i<l.length):(l.take (i+1)).filter p=(l.take i).filter p++if p (l.getD i ([],0))=true then [l.getD i ([],0)] else []:=by
 rw[bg ([],0) h,List.filter_append,List.filter_cons];rfl
theorem Ue {l:List Wd}{s:List UInt8}{k:Int}{i:Nat}(h:i<l.length) (hp:preB (l.getD i ([],0)).1 s=true) (hk:((cmF (l.take i) s k).length:Int)<k):cmF (l.take i) s k++[l.getD i ([],0)]=cmF (l.take (i+1)) s k:=by
 unfold cmF at hk ⊢;rw[zP] at hk;have e1:=List.take_of_length_le (i:=k.toNat) (l:=(l.take i).filter fun w=>preB w.1 s) (by omega);have e2:=List.take_of_length_le (i:=k.toNat) (l:=((l.take i).filter fun w=>preB w.1 s)++[l.getD i ([],0)]) (by rw[zL,zN];omega);rw[qA (fun w=>preB w.1 s) h,if_pos hp,e1,e2]
theorem MJ {l:List Wd}{s:List UInt8}{k:Int}{i:Nat}(h:i<l.length) (hp:preB (l.getD i ([],0)).1 s=true) (hk:¬ ((cmF (l.take i) s k).length:Int)<k):cmF (l.take i) s k=cmF (l.take (i+1)) s k:=by
 unfold cmF at hk ⊢;rw[zP] at hk;rw[qA (fun w=>preB w.1 s) h,if_pos hp,List.take_append_of_le_length (by omega)]
theorem VG {l:List Wd}{s:List UInt8}{k:Int}{i:Nat}(h:i<l.length) (hp:¬ preB (l.getD i ([],0)).1 s=true):cmF (l.take i) s k=cmF (l.take (i+1)) s k:=by
 unfold cmF;rw[qA (fun w=>preB w.1 s) h,if_neg hp,List.append_nil]
end Go.EA
end
section
namespace Go.EA
abbrev FF:=List (Int×Int)
def spB (t:FF):List Int->Int×Int->Int×Int
 |[],p=>p
 |n::ns,p=>spB t ns (if (t.getD (n.toNat-1) (0,0)).1+1<p.1 then ((t.getD (n.toNat-1) (0,0)).1+1,n) else p)
def spT (S:List StD):List Int->FF
 |[]=>[(0,0)]
 |r::rs=>spB (spT S rs) (enL S (r::rs) 0 0).reverse (65,0)::spT S rs
def spW (Z:FF) (l:List Int):Nat->Nat->List (List UInt8)
 |0,_=>[]
 |k+1,a=>if a<l.length then iQ ((l.drop a).take (Z.getD a (0,0)).2.toNat)::spW Z l k (a+(Z.getD a (0,0)).2.toNat) else []
def spE (S:List StD) (s:List UInt8):List (List UInt8)×Int:=if tkE s=0 then (if 64<((spT S (tkL s)).getD 0 (0,0)).1 then ([],10) else (spW (spT S (tkL s)) (tkL s) ((tkL s).length+1) 0,0)) else ([],tkE s)
theorem Bt (S:List StD):∀(l:List Int) (j:Nat),j<=l.length->(spT S l).drop j=spT S (l.drop j)
 |l,0,_=>rfl
 |[],j+1,h=>by simp at h
 | r::rs,j+1,h=>by
   simp only[zM] at h;show (spT S (r::rs)).drop (j+1)=spT S (rs.drop j);have e:spT S (r::rs)=spB (spT S rs) (enL S (r::rs) 0 0).reverse (65,0)::spT S rs:=rfl;rw[e,List.drop_succ_cons,Bt S rs j (by omega)]
theorem jP (S:List StD) (l:List Int) {j k:Nat}(h:j<=l.length):(spT S (l.drop j)).getD k (0,0)=(spT S l).getD (j+k) (0,0):=by
 rw[<- Bt S l j h,zA,zA,List.getElem?_drop]
theorem Kw (S:List StD) {l:List Int}{j:Nat}(h:j<l.length):(spT S l).getD j (0,0)=spB (spT S (l.drop (j+1))) (enL S (l.drop j) 0 0).reverse (65,0):=by
 have h1:=jP S l (j:=j) (k:=0) (by omega);rw[Nat.add_zero] at h1;rw[<- h1,gI h];rfl
theorem Sd (S:List StD) (l:List Int):(spT S l).getD l.length (0,0)=(0,0):=by
 have h1:=jP S l (j:=l.length) (k:=0) (zJ _);rw[Nat.add_zero] at h1;rw[<- h1,List.drop_length];rfl
theorem Ea {t:FF}(ht:∀i,0<=(t.getD i (0,0)).1):∀(ns:List Int) (p:Int×Int),0<=p.1->0<=(spB t ns p).1/\(spB t ns p).1<=p.1
 |[],p,h=>⟨h,Int.le_refl _⟩
 | n::ns,p,h=>by
   unfold spB;have h1:=ht (n.toNat-1);split
   .have:=Ea ht ns ((t.getD (n.toNat-1) (0,0)).1+1,n) (by dsimp only;omega);dsimp only at this;omega
   .exact Ea ht ns p h
theorem xX (S:List StD):∀(l:List Int) (i:Nat),0<=((spT S l).getD i (0,0)).1/\((spT S l).getD i (0,0)).1<=65
 |[],0=>by show 0<=(0:Int)/\(0:Int)<=65;decide
 |[],i+1=>by show 0<=(0:Int)/\(0:Int)<=65;decide
 | r::rs,0=>by
   have:=Ea (t:=spT S rs) (fun i=>(xX S rs i).1) (enL S (r::rs) 0 0).reverse (65,0) (by decide);exact this
 |r::rs,i+1=>xX S rs i
theorem EJ {t:FF}:∀(ns:List Int) (p:Int×Int),spB t ns p=p\/∃n∈ns,spB t ns p=((t.getD (n.toNat-1) (0,0)).1+1,n)
 |[],p=>.inl rfl
 | n::ns,p=>by
   unfold spB;split
   .rcases EJ ns ((t.getD (n.toNat-1) (0,0)).1+1,n) with h | ⟨m,h1,h2⟩
    .exact .inr ⟨n,by simp,h⟩
    .exact .inr ⟨m,by simp[h1],h2⟩
   .rcases EJ ns p with h | ⟨m,h1,h2⟩
    .exact .inl h
    .exact .inr ⟨m,by simp[h1],h2⟩
theorem NwP.root {d0:List StD}{d2:List Int}(h:NwP d0 d2):(stA d0 0).2.1=false:=by
 have hS:=sts h.e;have hN:=nml h.e;rw[h.st,dL hS.pos];show (rAt (bM (wdA d0 d2)) 0).2.1=false;rw[(hS.g _ (hS.mem hS.pos)).ends,hS.root];cases he:aH (wdR (wdA d0 d2)) with
 |false=>rfl
 | true=>
   obtain⟨w,hw,e⟩:=xI.1 (eP.1 he);have:=hN.one w hw;rw[e] at this;cases this
theorem NwP.en {d0:List StD}{d2:List Int}(h:NwP d0 d2) (l:List Int):∀n∈enL d0 l 0 0,1<=n/\n<=l.length:=by
 intro n hn;have h1:=sQ d0 l 0 0 n hn;refine⟨?_,by omega⟩;have hr:(stA d0 ((0:Int)).toNat).2.1=false:=h.root;cases l with
 | nil=>
   unfold enL at hn;rw[hr,if_neg (by decide)] at hn;cases hn
 | cons r rs=>
   unfold enL at hn;rw[hr,if_neg (by decide),List.nil_append] at hn;split at hn
   .exact(sQ d0 rs _ _ n hn).1
   .cases hn
theorem NwP.first {d0:List StD}{d2:List Int}(h:NwP d0 d2) {l:List Int}{j:Nat}(hj:j<l.length) (hf:((spT d0 l).getD j (0,0)).1<=64) :
 1<=((spT d0 l).getD j (0,0)).2/\j+((spT d0 l).getD j (0,0)).2.toNat<=l.length/\((spT d0 l).getD j (0,0)).2∈enL d0 (l.drop j) 0 0/\((spT d0 l).getD j (0,0)).1=((spT d0 l).getD (j+((spT d0 l).getD j (0,0)).2.toNat) (0,0)).1+1:=by
 have e:=Kw d0 hj;rcases EJ (t:=spT d0 (l.drop (j+1))) (enL d0 (l.drop j) 0 0).reverse (65,0) with h1 | ⟨n,h1,h2⟩
 .rw[e,h1] at hf;exact absurd hf (by decide)
 .have hn:=h.en _ n (List.mem_reverse.1 h1);rw[List.length_drop] at hn;rw[jP d0 l (by omega),show j+1+(n.toNat-1)=j+n.toNat by omega] at h2;rw[e,h2];exact⟨hn.1,by dsimp only;omega,List.mem_reverse.1 h1,rfl⟩
structure SpI (S:List StD) (l:List Int) (x:Nat×List Int×List Int):Prop where
 le:x.1<=l.length
 lf:x.2.1.length=l.length+1
 lg:x.2.2.length=l.length+1
 at':∀j,x.1<=j->j<=l.length->x.2.1.getD j 0=((spT S l).getD j (0,0)).1/\x.2.2.getD j 0=((spT S l).getD j (0,0)).2
 zr:∀j,j<x.1->x.2.2.getD j 0=0
def SpJ (S:List StD) (l:List Int) (a:Int) (E:List Int) (x:Nat×Int×Int):Prop:=x.1<=E.length/\0<=x.2.1/\x.2.1<=65/\spB (spT S (l.drop (a.toNat+1))) E.reverse (65,0)=spB (spT S (l.drop (a.toNat+1))) (E.take x.1).reverse x.2
def SpO (S:List StD) (l:List Int) (x:Nat×Nat×List (List UInt8)):Prop:=x.2.1<=l.length/\l.length+1<=x.1+x.2.1/\x.2.2.length<=x.2.1/\((spT S l).getD x.2.1 (0,0)).1<=64/\spW (spT S l) l (l.length+1) 0=x.2.2++spW (spT S l) l x.1 x.2.1
theorem jB {l:List Int}{a:Nat}{p:Int}(h:a<l.length):(l.set a p).getD a 0=p:=by
 rw[zA,List.getElem?_set_self h];rfl
theorem fP {l:List Int}{a j:Nat}{p:Int}(h:a≠j):(l.set a p).getD j 0=l.getD j 0:=by
 rw[zA,zA,List.getElem?_set_ne h]
theorem vL {l:List Int}{a:Nat}:l.set a (l.getD a 0)=l:=by
 refine List.ext_getElem? fun j=>?_
 by_cases h:a=j
 .subst h;by_cases hl:a<l.length
  .rw[List.getElem?_set_self hl,zA,zB hl];rfl
  .rw[List.getElem?_eq_none (by rw[List.length_set];omega),List.getElem?_eq_none (by omega)]
 .rw[List.getElem?_set_ne h]
theorem SpI.start (S:List StD) (l:List Int):SpI S l (l.length,List.replicate (l.length+1) 0,List.replicate (l.length+1) 0):=by
 have hr:∀j,(List.replicate (l.length+1) (0:Int)).getD j 0=0:=fun j=>by
  rw[zA,List.getElem?_replicate];split <;> rfl
 refine⟨zJ _,List.length_replicate,List.length_replicate,fun j h1 h2=>?_,fun j _=>hr j⟩;have:j=l.length:=by dsimp only at h1;omega
 subst this;rw[Sd];exact⟨hr _,hr _⟩
theorem SpJ.val {S:List StD}{l:List Int}{a:Nat}{F G:List Int}(h:SpI S l (a+1,F,G)) {n p:Int}(h1:1<=n) (h2:a+n.toNat<=l.length):(F.set a p).getD (a+n.toNat) 0=((spT S (l.drop (a+1))).getD (n.toNat-1) (0,0)).1:=by
 have h3:=(h.at' (a+n.toNat) (by dsimp only;omega) h2).1;dsimp only at h3;rw[fP (by omega),h3,jP S l (by omega),show a+1+(n.toNat-1)=a+n.toNat by omega]
theorem SpJ.step {S:List StD}{l:List Int}{a b:Nat}{E:List Int}{p q:Int}(h:SpJ S l (a:Int) E (b+1,p,q)):SpJ S l (a:Int) E (b,if ((spT S (l.drop (a+1))).getD ((E.getD b 0).toNat-1) (0,0)).1+1<p then (((spT S (l.drop (a+1))).getD ((E.getD b 0).toNat-1) (0,0)).1+1,E.getD b 0) else (p,q)):=by
 obtain⟨h1,h2,h3,h4⟩:=h;dsimp only at h1 h2 h3 h4;rw[Int.toNat_natCast] at h4;have hv:=(xX S (l.drop (a+1)) ((E.getD b 0).toNat-1)).1;refine⟨by dsimp only;omega,?_,?_,?_⟩
 .dsimp only; split <;> (dsimp only; omega)
 .dsimp only; split <;> (dsimp only; omega)
 .dsimp only;rw[Int.toNat_natCast,h4,bg 0 (by omega),List.reverse_append]
  rfl
theorem SpJ.out {S:List StD}{l:List Int}{a:Nat}{F G:List Int}{p q:Int}(h:SpI S l (a+1,F,G)) (hj:SpJ S l (a:Int) (enL S (l.drop a) 0 0) (0,p,q)):SpI S l (a,F.set a p,G.set a q):=by
 have hle:=h.le;dsimp only at hle;have hlf:=h.lf;have hlg:=h.lg;dsimp only at hlf hlg;have e:(spT S l).getD a (0,0)=(p,q):=by
  rw[Kw S (by omega)];have:=hj.2.2.2;rw[Int.toNat_natCast] at this;exact this
 refine⟨by dsimp only;omega,by rw[List.length_set];exact hlf,by rw[List.length_set];exact hlg,fun j h1 h2=>?_,fun j h1=>?_⟩
 .dsimp only at h1 ⊢;by_cases h3:a=j
  .subst h3;rw[jB (by omega),jB (by omega),e];exact⟨rfl,rfl⟩
  .rw[fP h3,fP h3];exact h.at' j (by dsimp only;omega) h2
 .dsimp only at h1 ⊢;rw[fP (by omega)];exact h.zr j (by dsimp only;omega)
theorem SpO.next {d0:List StD}{d2:List Int}(hw:NwP d0 d2) {l:List Int}{F G:List Int}(h:SpI d0 l (0,F,G)) {k a:Nat}{o:List (List UInt8)}(hO:SpO d0 l (k+1,a,o)) (ha:a<l.length) :
 1<=G.getD a 0/\a+(G.getD a 0).toNat<=l.length/\SpO d0 l (k,a+(G.getD a 0).toNat,o++[iQ ((l.drop a).take (G.getD a 0).toNat)]):=by
 obtain⟨o1,o2,o3,o4,o5⟩:=hO;dsimp only at o1 o2 o3 o4 o5;have hg:=(h.at' a (Nat.zero_le _) (by omega)).2;dsimp only at hg;obtain⟨f1,f2,f3,f4⟩:=hw.first ha o4
 rw[hg];refine⟨f1,f2,f2,by dsimp only;omega,by dsimp only;rw[zL,zN];omega,by dsimp only;omega,?_⟩;dsimp only;rw[o5,zO]
 congr 1
 show (if a<l.length then iQ ((l.drop a).take ((spT d0 l).getD a (0,0)).2.toNat)::spW (spT d0 l) l k (a+((spT d0 l).getD a (0,0)).2.toNat) else [])=_;rw[if_pos ha];rfl
theorem SpO.end {S:List StD}{l:List Int}{k a:Nat}{o:List (List UInt8)}(h:SpO S l (k,a,o)) (ha:¬ a<l.length):spW (spT S l) l (l.length+1) 0=o:=by
 have h5:=h.2.2.2.2;dsimp only at h5;have e:spW (spT S l) l k a=[]:=by
  cases k with
  |zero=>rfl
  |succ k=>unfold spW;rw[if_neg ha]
 rw[h5,e,List.append_nil]
end Go.EA
end
section
namespace Go.EA
theorem MB {l:List Wd}(hr:nk l) (s:List UInt8):(l.filter fun w=>preB w.1 s)=(l.drop (aV l s)).take (dA l s-aV l s):=by
 obtain⟨q1,q2,q3,q4⟩:=jR l s;have hd:(l.drop (aV l s)).drop (dA l s-aV l s)=l.drop (dA l s):=by rw[List.drop_drop];congr 1;omega
 have h:l=l.take (aV l s)++((l.drop (aV l s)).take (dA l s-aV l s)++l.drop (dA l s)):=by
  rw[<- hd,List.take_append_drop,List.take_append_drop]
 have at':∀{m:List Wd} {k:Nat},(∀i,i<m.length->m.getD i ([],0)=l.getD (k+i) ([],0))->∀w∈m,∃i,i<m.length/\w=l.getD (k+i) ([],0):=fun {m k} hm w hw=>by
  obtain⟨i,hi,e⟩:=List.getElem_of_mem hw;refine⟨i,hi,?_⟩;rw[<- hm i hi,zA,zB hi];exact e.symm
 have f1:((l.take (aV l s)).filter fun w=>preB w.1 s)=[]:=by
  rw[List.filter_eq_nil_iff];intro w hw;obtain⟨i,hi,rfl⟩:=at' (k:=0) (fun i hi=>by rw[zP] at hi;rw[Nat.zero_add,zA,zA,List.getElem?_take_of_lt (by omega)]) w hw;rw[zP] at hi;rw[Nat.zero_add,sI hr (by omega)];omega
 have f3:((l.drop (dA l s)).filter fun w=>preB w.1 s)=[]:=by
  rw[List.filter_eq_nil_iff];intro w hw;obtain⟨i,hi,rfl⟩:=at' (k:=dA l s) (fun i hi=>by rw[zA,zA,List.getElem?_drop]) w hw;rw[List.length_drop] at hi;rw[sI hr (by omega)];omega
 have f2:(((l.drop (aV l s)).take (dA l s-aV l s)).filter fun w=>preB w.1 s)=(l.drop (aV l s)).take (dA l s-aV l s):=by
  rw[List.filter_eq_self];intro w hw;obtain⟨i,hi,rfl⟩:=at' (k:=aV l s) (fun i hi=>by rw[zP] at hi;rw[zA,zA,List.getElem?_take_of_lt (by omega),List.getElem?_drop]) w hw;rw[zP,List.length_drop] at hi;exact(sI hr (by omega)).2 ⟨by omega,by omega⟩
 conv=>lhs;rw[h]
 rw[List.filter_append,List.filter_append,f1,f2,f3,List.nil_append,List.append_nil]
theorem ZC {l:List Wd}(hr:nk l) (s:List UInt8) (k:Int):cmE l s k=cmR l s k:=by
 obtain⟨q1,q2,q3,q4⟩:=jR l s;unfold cmE cmR cmF cmN;rw[MB hr,List.take_take,show min k.toNat (dA l s-aV l s)=min (dA l s) (aV l s+k.toNat)-aV l s by omega]
theorem EE {W:Rst}{all:List RSt}(hS:Sts W all):∀(rs:List Int) (i:Nat) (m n:Int),i<all.length->(n∈enL (all.map stD) rs i m↔∃k:Nat,k<=rs.length/\n=m+k/\rs.take k∈(rAt all i).1)
 | [],i,m,n,hi=>by
   have g:=hS.g _ (hS.mem hi);have e:enL (all.map stD) [] (i:Int) m=if (stA (all.map stD) (i:Int).toNat).2.1=true then [m] else []:=rfl
   rw[e,Int.toNat_natCast,dL hi];show n∈(if (rAt all i).2.1=true then [m] else [])↔_;rw[g.ends];constructor
   .intro h;split at h
    .rename_i he;exact⟨0,zJ _,by have:=List.mem_singleton.1 h;omega,eP.1 he⟩
    .cases h
   .rintro⟨k,h1,h2,h3⟩;have hk:k=0:=by simpa using h1
    subst hk;rw[if_pos (eP.2 h3)];exact List.mem_singleton.2 (by omega)
 | r::rs,i,m,n,hi=>by
   have g:=hS.g _ (hS.mem hi);have e:enL (all.map stD) (r::rs) (i:Int) m=(if (stA (all.map stD) (i:Int).toNat).2.1=true then [m] else [])++(if dD (stA (all.map stD) (i:Int).toNat).1 r=true then enL (all.map stD) rs (gM (stA (all.map stD) (i:Int).toNat).1 r) (m+1) else []):=rfl;rw[e,Int.toNat_natCast,dL hi];show n∈(if (rAt all i).2.1=true then [m] else [])++(if dD (rAt all i).2.2 r=true then enL (all.map stD) rs (gM (rAt all i).2.2 r) (m+1) else [])↔_;rw[g.ends,zX];constructor
   .rintro(h | h)
    .split at h
     .rename_i he;exact⟨0,Nat.zero_le _,by have:=List.mem_singleton.1 h;omega,eP.1 he⟩
     .cases h
    .split at h
     .rename_i hn;obtain⟨q,h1,h2,h3⟩:=g.to _ (pq hn);dsimp only at h1 h3;rw[h1] at h;obtain⟨k,k1,k2,k3⟩:=(EE hS rs q (m+1) n h2).1 h;rw[h3] at k3;exact⟨k+1,by simp;omega,by push_cast;omega,dN.1 k3⟩
     .cases h
   .rintro⟨k,h1,h2,h3⟩;cases k with
    | zero=>
      left
      rw[if_pos (eP.2 h3)];exact List.mem_singleton.2 (by omega)
    | succ k=>
      right
      have h3:r::rs.take k∈(rAt all i).1:=h3;have hn:dD (rAt all i).2.2 r=true:=Ao.2 (by rw[g.hd];exact fI h3);obtain⟨q,g1,g2,g3⟩:=g.to _ (pq hn);dsimp only at g1 g3;rw[if_pos hn,g1];exact(EE hS rs q (m+1) n g2).2 ⟨k,by simpa using h1,by push_cast at h2;omega,by rw[g3];exact dN.2 h3⟩
theorem Lr (S:List StD):∀(l:List Int) (i n:Int),(enL S l i n).Pairwise (·<·)
 | [],i,n=>by
   unfold enL;split
   .exact List.pairwise_singleton ..
   .exact .nil
 | r::rs,i,n=>by
   unfold enL;refine List.pairwise_append.2 ⟨?_,?_,fun a ha b hb=>?_⟩
   .split
    .exact List.pairwise_singleton ..
    .exact .nil
   .split
    .exact Lr S rs _ _
    .exact .nil
   .split at ha
    .have:=List.mem_singleton.1 ha;split at hb
     .have:=(sQ S rs _ _ b hb).1;omega
     .cases hb
    .cases ha
theorem QP {s a b:List UInt8}(ha:preB s a=true) (hb:preB s b=true) (h:a.length=b.length):a=b:=by
 have ha:=(of_decide_eq_true ha).2;have hb:=(of_decide_eq_true hb).2;rw[<- ha,<- hb,h]
theorem QG {l:List Wd}(h:isE l=0) {s:List UInt8}(hs:bG s=0) (n:Int):n∈enL (List.map stD (bM l)) (aJ s) 0 0↔0<=n/\n.toNat<=(aJ s).length/\∃w∈l,w.1=bz ((aJ s).take n.toNat)/\preB s w.1=true:=by
 have hS:=sts h;have hN:=nml h;have e:=EE hS (aJ s) 0 0 n hS.pos;rw[hS.root] at e;have e:n∈enL (List.map stD (bM l)) (aJ s) 0 0↔∃k:Nat,k<=(aJ s).length/\n=0+(k:Int)/\(aJ s).take k∈wdR l:=e;rw[e];constructor
 .rintro⟨k,h1,h2,h3⟩;obtain⟨w,hw,e⟩:=xI.1 h3;have hk:n.toNat=k:=by omega
  rw[hk];refine⟨by omega,h1,w,hw,by rw[<- e,kz (hN.dec w hw)],(yu hs (hN.dec w hw)).2 ⟨(aJ s).drop k,by rw[e,List.take_append_drop]⟩⟩
 .rintro⟨h0,h1,w,hw,e,hp⟩;refine⟨n.toNat,h1,by omega,xI.2 ⟨w,hw,?_⟩⟩;obtain⟨z,hz⟩:=(yu hs (hN.dec w hw)).1 hp;have e2:bz (aJ w.1)=bz ((aJ s).take n.toNat):=by rw[kz (hN.dec w hw),e]
  have hv:∀t:List Int,(∀r∈t,Utf8.valid r=true)->(runes (bz t)).map (·.1)=t:=fun t ht=>by
   rw[kD t (List.all_eq_true.2 ht),List.map_map]
   conv=>rhs;rw[<- List.map_id t]
   rfl
  rw[<- hv (aJ w.1) (lc (hN.dec w hw)),<- hv ((aJ s).take n.toNat) (fun r hr=>lc hs r (List.mem_of_mem_take hr)),e2]
end Go.EA
end
section
namespace Go.EA
structure LoF (l:List Wd) (s:List UInt8) (X:List UInt8×Int):Prop where
 a:X.2=0->aba l X.1=0/\preB s X.1=true
 b:(X.2=0\/X.2=10)->∀w∈l,preB s w.1=true->w.1.length<=X.1.length
 c:X.2≠0->X.1=[]
end Go.EA
end
section
namespace Go.EA
abbrev TX:=List (List UInt8)
def btL:TX->TX->Bool
 |x::a,y::b=>if x.length≠y.length then decide (y.length<x.length) else btL a b
 |_,_=>false
def kI (a b:TX):Bool:=if a.length≠b.length then decide (a.length<b.length) else btL a b
def bsS (tb:List (Option TX)) (t:List UInt8) (o:Option TX) (w:Wd):Option TX:=
 if preB t w.1=true then match tb.getD (w.1.length-1) none with
  |some r=>match o with
   |none=>some (w.1::r)
   |some q=>if kI (w.1::r) q=true then some (w.1::r) else some q
  |none=>o
 else o
def bsT (l:List Wd):List UInt8->List (Option TX)
 |[]=>[some []]
 |c::t=>l.foldl (bsS (bsT l t) (c::t)) none::bsT l t
def biE (l:List Wd) (s:List UInt8):TX×Int:=if tkE s=0 then (match (bsT l s).getD 0 none with
 |some r=>(r,0)
 |none=>([],10)) else ([],tkE s)
def sM (o:Option TX):Bool:=o.isSome
def sW (o:Option TX):TX:=o.getD []
theorem AU (l:List Wd):∀(t:List UInt8) (j:Nat),j<=t.length->(bsT l t).drop j=bsT l (t.drop j)
 |t,0,_=>rfl
 |[],j+1,h=>by simp at h
 | c::t,j+1,h=>by
   simp only[zM] at h;show (bsT l (c::t)).drop (j+1)=bsT l (t.drop j);have e:bsT l (c::t)=l.foldl (bsS (bsT l t) (c::t)) none::bsT l t:=rfl;rw[e,List.drop_succ_cons,AU l t j (by omega)]
theorem lD (l:List Wd) (t:List UInt8) {j k:Nat}(h:j<=t.length):(bsT l (t.drop j)).getD k none=(bsT l t).getD (j+k) none:=by
 rw[<- AU l t j h,zA,zA,List.getElem?_drop]
theorem Ow (l:List Wd) {t:List UInt8}{j:Nat}(h:j<t.length):(bsT l t).getD j none=l.foldl (bsS (bsT l (t.drop (j+1))) (t.drop j)) none:=by
 have h1:=lD l t (j:=j) (k:=0) (by omega);rw[Nat.add_zero] at h1;rw[<- h1,List.drop_eq_getElem_cons h];rfl
theorem Su (l:List Wd) (t:List UInt8):(bsT l t).getD t.length none=some []:=by
 have h1:=lD l t (j:=t.length) (k:=0) (zJ _);rw[Nat.add_zero] at h1;rw[<- h1,List.drop_length];rfl
structure BiI (l:List Wd) (s:List UInt8) (x:Nat×List Bool×List TX):Prop where
 le:x.1<=s.length
 lm:x.2.1.length=s.length+1
 lw:x.2.2.length=s.length+1
 at':∀j,x.1<=j->j<=s.length->x.2.1.getD j false=sM ((bsT l s).getD j none)/\x.2.2.getD j []=sW ((bsT l s).getD j none)
 zr:∀j,j<x.1->x.2.1.getD j false=false/\x.2.2.getD j []=[]
def BiJ (l:List Wd) (s:List UInt8) (a:Nat) (k:Nat):Option TX:=(l.take k).foldl (bsS (bsT l (s.drop (a+1))) (s.drop a)) none
theorem pO {α:Type}{l:List α}{a:Nat}{p d:α}(h:a<l.length):(l.set a p).getD a d=p:=by
 rw[zA,List.getElem?_set_self h];rfl
theorem kv {α:Type}{l:List α}{a j:Nat}{p d:α}(h:a≠j):(l.set a p).getD j d=l.getD j d:=by
 rw[zA,zA,List.getElem?_set_ne h]
theorem KS {α:Type}{l:List α}{a:Nat}{d:α}:l.set a (l.getD a d)=l:=by
 refine List.ext_getElem? fun j=>?_
 by_cases h:a=j
 .subst h;by_cases hl:a<l.length
  .rw[List.getElem?_set_self hl,zA,zB hl];rfl
  .rw[List.getElem?_eq_none (by rw[List.length_set];omega),List.getElem?_eq_none (by omega)]
 .rw[List.getElem?_set_ne h]
theorem XZ {tb:List (Option TX)}{t:List UInt8}(ht:∀i r,tb.getD i none=some r->r.length+1<=t.length) {o:Option TX}(ho:∀r,o=some r->r.length<=t.length) (w:Wd):∀r,bsS tb t o w=some r->r.length<=t.length:=by
 intro r h;unfold bsS at h;split at h
 .split at h
  .rename_i r' h';have h1:=ht _ _ h';split at h
   .cases h;simpa using h1
   .split at h
    .cases h;simpa using h1
    .cases h;exact ho _ rfl
  .exact ho r h
 .exact ho r h
theorem MW {tb:List (Option TX)}{t:List UInt8}(ht:∀i r,tb.getD i none=some r->r.length+1<=t.length):∀(l:List Wd) {o:Option TX},(∀r,o=some r->r.length<=t.length)->∀r,l.foldl (bsS tb t) o=some r->r.length<=t.length
 |[],o,ho=>ho
 |w::l,o,ho=>MW ht l (XZ ht ho w)
theorem xM (l:List Wd):∀(t:List UInt8) (i:Nat) (r:TX),(bsT l t).getD i none=some r->r.length<=t.length
 |[],0,r,h=>by cases h;exact zJ _
 |[],i+1,r,h=>by cases h
 |c::t,0,r,h=>MW (tb:=bsT l t) (t:=c::t) (fun i r h=>Nat.succ_le_succ (xM l t i r h)) l (fun r h=>by cases h) r h
 |c::t,i+1,r,h=>Nat.le_succ_of_le (xM l t i r h)
theorem OM {l:List Wd}{s:List UInt8}{a k:Nat}(h:k<l.length):BiJ l s a (k+1)=bsS (bsT l (s.drop (a+1))) (s.drop a) (BiJ l s a k) (l.getD k ([],0)):=by
 unfold BiJ;rw[bg ([],0) h,List.foldl_append];rfl
theorem RJ (l:List Wd) {s:List UInt8}{a:Nat}(h:a<s.length):BiJ l s a l.length=(bsT l s).getD a none:=by
 unfold BiJ;rw[List.take_length,Ow l h]
theorem BiI.start (l:List Wd) (s:List UInt8):BiI l s (s.length,(List.replicate (s.length+1) false).set s.length true,List.replicate (s.length+1) []):=by
 have hr:∀j,(List.replicate (s.length+1) ([]:TX)).getD j []=[]:=fun j=>by
  rw[zA,List.getElem?_replicate];split <;> rfl
 have hm:∀j,(List.replicate (s.length+1) false).getD j false=false:=fun j=>by
  rw[zA,List.getElem?_replicate];split <;> rfl
 refine⟨zJ _,by simp,by simp,fun j h1 h2=>?_,fun j h1=>?_⟩
 .have:j=s.length:=by dsimp only at h1;omega
  subst this;dsimp only;rw[Su,pO (by simp),hr];exact⟨rfl,rfl⟩
 .dsimp only at h1 ⊢;rw[kv (by omega),hr,hm];exact⟨rfl,rfl⟩
theorem BiI.out {l:List Wd}{s:List UInt8}{a:Nat}{M:List Bool}{W:List TX}(h:BiI l s (a+1,M,W)):BiI l s (a,M.set a (sM (BiJ l s a l.length)),W.set a (sW (BiJ l s a l.length))):=by
 have hle:=h.le;have hlm:=h.lm;have hlw:=h.lw;dsimp only at hle hlm hlw;rw[RJ l (by omega)];refine⟨by dsimp only;omega,by rw[List.length_set];exact hlm,by rw[List.length_set];exact hlw,fun j h1 h2=>?_,fun j h1=>?_⟩
 .dsimp only at h1 ⊢;by_cases h3:a=j
  .subst h3;rw[pO (by omega),pO (by omega)];exact⟨rfl,rfl⟩
  .rw[kv h3,kv h3];exact h.at' j (by dsimp only;omega) h2
 .dsimp only at h1 ⊢;rw[kv (by omega),kv (by omega)];exact h.zr j (by dsimp only;omega)
theorem BiI.behind {l:List Wd}{s:List UInt8}{a:Nat}{M:List Bool}{W:List TX}(h:BiI l s (a+1,M,W)) {n:Nat}(h1:1<=n) (h2:a+n<=s.length) (p:Bool) (q:TX) :
 (M.set a p).getD (a+n) false=sM ((bsT l (s.drop (a+1))).getD (n-1) none)/\(W.set a q).getD (a+n) []=sW ((bsT l (s.drop (a+1))).getD (n-1) none):=by
 have h3:=h.at' (a+n) (by dsimp only;omega) h2;dsimp only at h3;rw[kv (by omega),kv (by omega),h3.1,h3.2,lD l s (by omega),show a+1+(n-1)=a+n by omega];exact⟨rfl,rfl⟩
theorem YF {tb:List (Option TX)}{t:List UInt8}{o:Option TX}{w:Wd}(h:¬ preB t w.1=true):bsS tb t o w=o:=by unfold bsS;rw[if_neg h]
theorem NH {tb:List (Option TX)}{t:List UInt8}{o:Option TX}{w:Wd}(h:sM (tb.getD (w.1.length-1) none)=false):bsS tb t o w=o:=by
 unfold bsS;cases hq:tb.getD (w.1.length-1) none with
 |none=>split <;> rfl
 |some r=>rw[hq] at h;cases h
theorem TP {tb:List (Option TX)}{t:List UInt8}{o:Option TX}{w:Wd}(h:preB t w.1=true) (hm:¬ sM (tb.getD (w.1.length-1) none)=false) :
 (sM o=false->bsS tb t o w=some (w.1::sW (tb.getD (w.1.length-1) none)))/\(¬ sM o=false->(kI (w.1::sW (tb.getD (w.1.length-1) none)) (sW o)=true->bsS tb t o w=some (w.1::sW (tb.getD (w.1.length-1) none)))/\(¬ kI (w.1::sW (tb.getD (w.1.length-1) none)) (sW o)=true->bsS tb t o w=o)):=by
 unfold bsS;rw[if_pos h];cases hq:tb.getD (w.1.length-1) none with
 |none=>rw[hq] at hm;exact absurd rfl hm
 | some r=>
   cases o with
   |none=>exact⟨fun _=>rfl,fun h=>absurd rfl h⟩
   |some q=>exact⟨fun h=>(by cases h),fun _=>⟨fun h2=>if_pos h2,fun h2=>if_neg h2⟩⟩
theorem Bq {a b:TX}{i:Nat}(ha:i<a.length) (hb:i<b.length):btL (a.drop i) (b.drop i)=if (a.getD i []).length≠(b.getD i []).length then decide ((b.getD i []).length<(a.getD i []).length) else btL (a.drop (i+1)) (b.drop (i+1)):=by
 rw[List.drop_eq_getElem_cons ha,List.drop_eq_getElem_cons hb,zA,zA,zB ha,zB hb]
 rfl
end Go.EA
end
section
namespace Go.EA
def hdQ (q:TX):Nat:=(q.headD []).length
def LeQ (q p:TX):Prop:=q.length<p.length\/(q.length=p.length/\hdQ p<=hdQ q)
theorem LeQ.refl (q:TX):LeQ q q:=.inr ⟨rfl,zJ _⟩
theorem LeQ.trans {a b c:TX}(h1:LeQ a b) (h2:LeQ b c):LeQ a c:=by unfold LeQ at *;omega
theorem LeQ.tot (a b:TX):LeQ a b\/LeQ b a:=by unfold LeQ;omega
theorem LG {x y:List UInt8}{a b:TX}(h:x.length≠y.length):kI (x::a) (y::b)=true↔¬ LeQ (y::b) (x::a):=by
 have e:btL (x::a) (y::b)=decide (y.length<x.length):=by
  show (if x.length≠y.length then decide (y.length<x.length) else btL a b)=_;rw[if_pos h]
 unfold kI LeQ;rw[e];show _↔¬ ((b.length+1<a.length+1)\/(b.length+1=a.length+1/\x.length<=y.length));simp only[zM];by_cases hl:a.length+1≠b.length+1
 .rw[if_pos hl,decide_eq_true_iff];omega
 .rw[if_neg hl,decide_eq_true_iff];omega
def OkQ (tb:List (Option TX)) (t:List UInt8) (q:TX):Prop:=∃x r,q=x::r/\preB t x=true/\tb.getD (x.length-1) none=some r
theorem OkQ.same {tb:List (Option TX)}{t:List UInt8}{q p:TX}(hq:OkQ tb t q) (hp:OkQ tb t p) (h:hdQ q=hdQ p):q=p:=by
 obtain⟨x,r,rfl,h1,h2⟩:=hq;obtain⟨y,r',rfl,h3,h4⟩:=hp;have h:x.length=y.length:=h;have e:=QP h1 h3 h;subst e;rw[h2] at h4;cases h4;rfl
theorem OkQ.bet {tb:List (Option TX)}{t:List UInt8}{q p:TX}(hq:OkQ tb t q) (hp:OkQ tb t p):(kI q p=true->LeQ q p)/\(¬ kI q p=true->LeQ p q):=by
 by_cases h:hdQ q=hdQ p
 .rw[hq.same hp h];exact⟨fun _=>LeQ.refl _,fun _=>LeQ.refl _⟩
 .obtain⟨x,r,rfl,h1,h2⟩:=hq;obtain⟨y,r',rfl,h3,h4⟩:=hp;have h:x.length≠y.length:=h;rw[LG h];exact⟨fun h5=>(LeQ.tot _ _).resolve_right h5,fun h5=>Classical.byContradiction h5⟩
def cdW (tb:List (Option TX)) (t:List UInt8) (w:Wd):Option TX:=if preB t w.1=true then (tb.getD (w.1.length-1) none).map (w.1::·) else none
theorem Ps {tb:List (Option TX)}{t:List UInt8}{w:Wd}{q:TX}(h:cdW tb t w=some q):OkQ tb t q/\hdQ q=w.1.length:=by
 unfold cdW at h;split at h
 .rename_i hp;obtain⟨r,h1,rfl⟩:=zD.1 h;exact⟨⟨w.1,r,rfl,hp,h1⟩,rfl⟩
 .cases h
theorem XB (tb:List (Option TX)) (t:List UInt8) (o:Option TX) (w:Wd):bsS tb t o w=(cdW tb t w).elim o fun q=>o.elim (some q) fun p=>if kI q p=true then some q else some p:=by
 unfold bsS cdW;by_cases h:preB t w.1=true
 .rw[if_pos h,if_pos h];cases tb.getD (w.1.length-1) none with
  |none=>rfl
  |some r=>cases o <;> rfl
 .rw[if_neg h,if_neg h];rfl
theorem vk {tb:List (Option TX)}{t:List UInt8}:∀(ws:List Wd) (o:Option TX),(∀q,o=some q->OkQ tb t q)->
 (∀q',ws.foldl (bsS tb t) o=some q'->OkQ tb t q'/\(o=some q'\/∃w∈ws,cdW tb t w=some q')/\(∀q,o=some q->LeQ q' q)/\∀w∈ws,∀q,cdW tb t w=some q->LeQ q' q)/\(ws.foldl (bsS tb t) o=none->o=none/\∀w∈ws,cdW tb t w=none)
 |[],o,ho=>⟨fun q' h=>⟨ho q' h,.inl h,fun q hq=>by rw[show o=some q' from h] at hq;cases hq;exact LeQ.refl _,fun w hw=>by cases hw⟩,fun h=>⟨h,fun w hw=>by cases hw⟩⟩
 | w::ws,o,ho=>by
   rw[List.foldl_cons];have hs:=XB tb t o w;cases hc:cdW tb t w with
   | none=>
     rw[hc] at hs;have hs:bsS tb t o w=o:=hs;rw[hs];obtain⟨i1,i2⟩:=vk ws o ho;refine⟨fun q' h=>?_,fun h=>⟨(i2 h).1,fun v hv=>?_⟩⟩
     .obtain⟨a1,a2,a3,a4⟩:=i1 q' h;refine⟨a1,a2.imp id fun⟨v,v1,v2⟩=>⟨v,by simp[v1],v2⟩,a3,fun v hv q hq=>?_⟩;rcases List.mem_cons.1 hv with rfl | hv
      .rw[hc] at hq;cases hq
      .exact a4 v hv q hq
     .rcases List.mem_cons.1 hv with rfl | hv
      .exact hc
      .exact(i2 h).2 v hv
   | some p=>
     have hpk:=(Ps hc).1;rw[hc] at hs;have main:∀o1,bsS tb t o w=some o1->OkQ tb t o1->(o=some o1\/o1=p)->(∀q,o=some q->LeQ o1 q)->LeQ o1 p->
      (∀q',ws.foldl (bsS tb t) (bsS tb t o w)=some q'->OkQ tb t q'/\(o=some q'\/∃v∈w::ws,cdW tb t v=some q')/\(∀q,o=some q->LeQ q' q)/\∀v∈w::ws,∀q,cdW tb t v=some q->LeQ q' q)/\(ws.foldl (bsS tb t) (bsS tb t o w)=none->o=none/\∀v∈w::ws,cdW tb t v=none):=fun o1 e hk hor hle hp=>by
      rw[e];obtain⟨i1,i2⟩:=vk ws (some o1) (fun q hq=>by cases hq;exact hk);refine⟨fun q' h=>?_,fun h=>(by have:=(i2 h).1;cases this)⟩;obtain⟨a1,a2,a3,a4⟩:=i1 q' h;have h1:=a3 o1 rfl;refine⟨a1,?_,fun q hq=>h1.trans (hle q hq),fun v hv q hq=>?_⟩
      .rcases a2 with a2 | ⟨v,v1,v2⟩
       .cases a2;rcases hor with hor | rfl
        .exact .inl hor
        .exact .inr ⟨w,by simp,hc⟩
       .exact .inr ⟨v,by simp[v1],v2⟩
      .rcases List.mem_cons.1 hv with rfl | hv
       .rw[hc] at hq;cases hq;exact h1.trans hp
       .exact a4 v hv q hq
     cases o with
     |none=>exact main p hs hpk (.inr rfl) (fun q hq=>by cases hq) (LeQ.refl _)
     | some q0=>
       have hk0:=ho q0 rfl;obtain⟨b1,b2⟩:=hpk.bet hk0;have hs:bsS tb t (some q0) w=if kI p q0=true then some p else some q0:=hs
       by_cases hb:kI p q0=true
       .rw[if_pos hb] at hs;exact main p hs hpk (.inr rfl) (fun q hq=>by cases hq;exact b1 hb) (LeQ.refl _)
       .rw[if_neg hb] at hs;exact main q0 hs hk0 (.inl rfl) (fun q hq=>by cases hq;exact LeQ.refl _) (b2 hb)
def kW (t:FF) (n:Int):Int:=(t.getD (n.toNat-1) (0,0)).1+1
theorem uj (t:FF):∀(ns:List Int) (p:Int×Int),ns.Pairwise (· > ·)->
 (spB t ns p=p/\∀m∈ns,p.1<=kW t m)\/(∃n∈ns,spB t ns p=(kW t n,n)/\kW t n<p.1/\∀m∈ns,kW t n<=kW t m/\(kW t m=kW t n->m<=n))
 |[],p,_=>.inl ⟨rfl,fun m hm=>by cases hm⟩
 | n::ns,p,h=>by
   have h':=List.pairwise_cons.1 h;have e:spB t (n::ns) p=spB t ns (if kW t n<p.1 then (kW t n,n) else p):=rfl;rw[e];by_cases hk:kW t n<p.1
   .rw[if_pos hk];rcases uj t ns (kW t n,n) h'.2 with ⟨i1,i2⟩ | ⟨n',i1,i2,i3,i4⟩
    .refine .inr ⟨n,by simp,i1,hk,fun m hm=>?_⟩;rcases List.mem_cons.1 hm with rfl | hm
     .exact⟨Int.le_refl _,fun _=>Int.le_refl _⟩
     .exact⟨i2 m hm,fun _=>by have:=h'.1 m hm;omega⟩
    .dsimp only at i3;refine .inr ⟨n',by simp[i1],i2,by omega,fun m hm=>?_⟩;rcases List.mem_cons.1 hm with rfl | hm
     .exact⟨by omega,fun h=>by omega⟩
     .exact i4 m hm
   .rw[if_neg hk];rcases uj t ns p h'.2 with ⟨i1,i2⟩ | ⟨n',i1,i2,i3,i4⟩
    .refine .inl ⟨i1,fun m hm=>?_⟩;rcases List.mem_cons.1 hm with rfl | hm
     .omega
     .exact i2 m hm
    .refine .inr ⟨n',by simp[i1],i2,i3,fun m hm=>?_⟩;rcases List.mem_cons.1 hm with rfl | hm
     .exact⟨by omega,fun h=>by omega⟩
     .exact i4 m hm
theorem wG (S:List StD) (rs:List Int) {a:Nat}(ha:a<=rs.length):∀(k b:Nat),spW (spT S rs) rs k (a+b)=spW (spT S (rs.drop a)) (rs.drop a) k b
 |0,_=>rfl
 | k+1,b=>by
   have e1:spW (spT S rs) rs (k+1) (a+b)=if a+b<rs.length then iQ ((rs.drop (a+b)).take ((spT S rs).getD (a+b) (0,0)).2.toNat)::spW (spT S rs) rs k (a+b+((spT S rs).getD (a+b) (0,0)).2.toNat) else []:=rfl
   have e2:spW (spT S (rs.drop a)) (rs.drop a) (k+1) b=if b<(rs.drop a).length then iQ (((rs.drop a).drop b).take ((spT S (rs.drop a)).getD b (0,0)).2.toNat)::spW (spT S (rs.drop a)) (rs.drop a) k (b+((spT S (rs.drop a)).getD b (0,0)).2.toNat) else []:=rfl
   rw[e1,e2,jP S rs ha,List.length_drop,List.drop_drop,Nat.add_assoc,wG S rs ha k];by_cases h:a+b<rs.length
   .rw[if_pos h,if_pos (by omega)]
   .rw[if_neg h,if_neg (by omega)]
def SpR (l:List Wd) (rs:List Int):Prop:=match (bsT l (bz rs)).getD 0 none with
 |none=>((spT (List.map stD (bM l)) rs).getD 0 (0,0)).1=65
 |some r=>((spT (List.map stD (bM l)) rs).getD 0 (0,0)).1=r.length/\r.length<=rs.length/\∀k,rs.length+1<=k->spW (spT (List.map stD (bM l)) rs) rs k 0=r
theorem Le {rs:List Int}(h:∀r∈rs,Utf8.valid r=true):iQ rs=bz rs:=(Fw (List.all_eq_true.2 h)).1
theorem xB (rs:List Int) (n:Nat):bz rs=bz (rs.take n)++bz (rs.drop n):=by rw[<- rF,List.take_append_drop]
theorem YJ {l:List Wd}(h:isE l=0):∀(m:Nat) (rs:List Int),rs.length<=m->rs.length<=64->(∀r∈rs,Utf8.valid r=true)->SpR l rs
 | m,[],_,_,_=>by
   unfold SpR;show ((spT (List.map stD (bM l)) []).getD 0 (0,0)).1=0/\_/\_;exact⟨rfl,zJ _,fun k hk=>by
    cases k with
    |zero=>rfl
    |succ k=>rfl⟩
 |0,r::rs,hm,_,_=>by simp at hm
 | m+1,r::rs,hm,h64,hv=>by
   have hN:=nml h;have hS:=sts h;have hw:NwP (tY l).1 (tY l).2.2:=(NwD.new h).p;have hd:bG (bz (r::rs))=0/\aJ (bz (r::rs))=r::rs:=by
    have e:=kD (r::rs) (List.all_eq_true.2 hv);have hok:dH (bz (r::rs))=true:=by unfold dH;rw[e];simp
    refine⟨fJ.2 hok,?_⟩;unfold aJ;rw[if_pos hok,e,List.map_map]
    conv=>rhs;rw[<- List.map_id (r::rs)]
    rfl
   obtain⟨d1,d2⟩:=hd;have hen:=fun n=>QG h d1 n
   rw[d2] at hen;have hne:=hw.en (r::rs);have hne:∀n∈enL (List.map stD (bM l)) (r::rs) 0 0,1<=n/\n<=((r::rs).length:Int):=hne;have hsr:=Lr (List.map stD (bM l)) (r::rs) 0 0;have hlen:0<(bz (r::rs)).length:=by
    rcases Nat.eq_zero_or_pos (bz (r::rs)).length with h0 | h0
    .rw[zT h0] at d2;cases d2
    .exact h0
   have hvd:∀n,∀x∈(r::rs).drop n,Utf8.valid x=true:=fun n x hx=>hv x (List.mem_of_mem_drop hx)
   have hvt:∀n,∀x∈(r::rs).take n,Utf8.valid x=true:=fun n x hx=>hv x (List.mem_of_mem_take hx)
   have hih:∀n:Nat,1<=n->SpR l ((r::rs).drop n):=fun n hn=>YJ h m _ (by rw[List.length_drop];simp only[zM] at hm ⊢;omega) (by rw[List.length_drop];omega) (hvd n)
   have htab:∀n:Nat,1<=n->n<=(r::rs).length->(bsT l ((bz (r::rs)).drop 1)).getD ((bz ((r::rs).take n)).length-1) none=(bsT l (bz ((r::rs).drop n))).getD 0 none:=fun n h1 h2=>by
    have e:=xB (r::rs) n;have hpos:1<=(bz ((r::rs).take n)).length:=by
     rcases Nat.eq_zero_or_pos (bz ((r::rs).take n)).length with h0 | h0
     .have e0:=zT h0;have e1:=kD ((r::rs).take n) (List.all_eq_true.2 (hvt n));rw[e0] at e1;have e2:=congrArg List.length e1;rw[zR,zP] at e2;have e3:(runes []).length=0:=rfl;rw[e3] at e2;simp only[zM] at h2 e2;omega
     .exact h0
    have hle:(bz ((r::rs).take n)).length<=(bz (r::rs)).length:=by
     have:=congrArg List.length e;rw[zL] at this;omega
    have h3:=lD l (bz (r::rs)) (j:=1) (k:=(bz ((r::rs).take n)).length-1) (by omega);have h4:=lD l (bz (r::rs)) (j:=(bz ((r::rs).take n)).length) (k:=0) hle;rw[show 1+((bz ((r::rs).take n)).length-1)=(bz ((r::rs).take n)).length by omega] at h3;rw[Nat.add_zero] at h4;have h5:(bz (r::rs)).drop (bz ((r::rs).take n)).length=bz ((r::rs).drop n):=by
     conv=>lhs;rw[e]
     exact List.drop_left
    rw[h3,<- h4,h5]
   have hK:∀n:Int,1<=n->n<=((r::rs).length:Int)->kW (spT (List.map stD (bM l)) rs) n=((spT (List.map stD (bM l)) ((r::rs).drop n.toNat)).getD 0 (0,0)).1+1:=fun n h1 h2=>by
    unfold kW;have h3:=jP (List.map stD (bM l)) (r::rs) (j:=n.toNat) (k:=0) (by omega);rw[h3,Nat.add_zero];obtain⟨q,hq⟩:∃q,n.toNat=q+1:=⟨n.toNat-1,by omega⟩;rw[hq];rfl
   have hT:(spT (List.map stD (bM l)) (r::rs)).getD 0 (0,0)=spB (spT (List.map stD (bM l)) rs) (enL (List.map stD (bM l)) (r::rs) 0 0).reverse (65,0):=rfl;have hB:(bsT l (bz (r::rs))).getD 0 none=l.foldl (bsS (bsT l ((bz (r::rs)).drop 1)) (bz (r::rs))) none:=Ow l hlen;obtain⟨f1,f2⟩:=vk (tb:=bsT l ((bz (r::rs)).drop 1)) (t:=bz (r::rs)) l none (fun q hq=>by cases hq);have hcd:∀w∈l,∀q,cdW (bsT l ((bz (r::rs)).drop 1)) (bz (r::rs)) w=some q->∃n:Int,n∈enL (List.map stD (bM l)) (r::rs) 0 0/\∃x,(bsT l (bz ((r::rs).drop n.toNat))).getD 0 none=some x/\q=bz ((r::rs).take n.toNat)::x:=fun w hw q hq=>by
    unfold cdW at hq;split at hq
    .rename_i hp;obtain⟨x,hx,rfl⟩:=zD.1 hq;obtain⟨z,hz⟩:=(yu d1 (hN.dec w hw)).1 hp;rw[d2] at hz;have hl1:(aJ w.1).length<=(r::rs).length:=by rw[hz,zL];omega
     have ht:(r::rs).take (aJ w.1).length=aJ w.1:=by rw[hz,List.take_left]
     have hwe:w.1=bz ((r::rs).take (aJ w.1).length):=by rw[ht,kz (hN.dec w hw)]
     refine⟨((aJ w.1).length:Int),(hen _).2 ⟨by omega,by rw[Int.toNat_natCast];exact hl1,w,hw,by rw[Int.toNat_natCast];exact hwe,hp⟩,x,?_,?_⟩
     .rw[Int.toNat_natCast,<- htab _ (hN.one w hw) hl1,<- hwe];exact hx
     .rw[Int.toNat_natCast,<- hwe]
    .cases hq
   have hdc:∀n∈enL (List.map stD (bM l)) (r::rs) 0 0,∀x,(bsT l (bz ((r::rs).drop n.toNat))).getD 0 none=some x->∃w∈l,cdW (bsT l ((bz (r::rs)).drop 1)) (bz (r::rs)) w=some (bz ((r::rs).take n.toNat)::x):=fun n hn x hx=>by
    obtain⟨h0,h1,w,hw,e,hp⟩:=(hen n).1 hn;have hb:=hne n hn;refine⟨w,hw,?_⟩;unfold cdW;rw[if_pos hp,e,htab n.toNat (by omega) (by omega),hx];rfl
   have hval:∀n∈enL (List.map stD (bM l)) (r::rs) 0 0,(∀x,(bsT l (bz ((r::rs).drop n.toNat))).getD 0 none=some x->kW (spT (List.map stD (bM l)) rs) n=(x.length:Int)+1/\x.length+n.toNat<=(r::rs).length)/\((bsT l (bz ((r::rs).drop n.toNat))).getD 0 none=none->kW (spT (List.map stD (bM l)) rs) n=66):=fun n hn=>by
    have hb:=hne n hn;have hi:=hih n.toNat (by omega);unfold SpR at hi;rw[hK n hb.1 hb.2];refine⟨fun x hx=>?_,fun hx=>?_⟩
    .rw[hx] at hi;obtain⟨i1,i2,_⟩:=hi;rw[List.length_drop] at i2;exact⟨by rw[i1],by omega⟩
    .rw[hx] at hi;have hi:((spT (List.map stD (bM l)) ((r::rs).drop n.toNat)).getD 0 (0,0)).1=65:=hi;rw[hi];rfl
   rcases uj (spT (List.map stD (bM l)) rs) (enL (List.map stD (bM l)) (r::rs) 0 0).reverse (65,0) (List.pairwise_reverse.2 hsr) with ⟨g1,g2⟩ | ⟨n,g1,g2,g3,g4⟩
   .
    have hno:(bsT l (bz (r::rs))).getD 0 none=none:=by
     rw[hB];cases hf:l.foldl (bsS (bsT l ((bz (r::rs)).drop 1)) (bz (r::rs))) none with
     |none=>rfl
     | some q'=>
       exfalso;obtain⟨_,a2,_,_⟩:=f1 q' hf;rcases a2 with a2 | ⟨w,w1,w2⟩
       .cases a2
       .obtain⟨n,n1,x,x1,x2⟩:=hcd w w1 q' w2;have h1:=g2 n (List.mem_reverse.2 n1);obtain⟨v1,v2⟩:=(hval n n1).1 x x1;have hb:=hne n n1;dsimp only at h1;omega
    unfold SpR;rw[hno];show ((spT (List.map stD (bM l)) (r::rs)).getD 0 (0,0)).1=65;rw[hT,g1]
   .have hn:=List.mem_reverse.1 g1;have hb:=hne n hn;dsimp only at g3;obtain⟨v1,v2⟩:=hval n hn;cases hx:(bsT l (bz ((r::rs).drop n.toNat))).getD 0 none with
    |none=>have:=v2 hx;omega
    | some x=>
      obtain⟨k1,k2⟩:=v1 x hx;obtain⟨w,hw1,hw2⟩:=hdc n hn x hx;have hres:(bsT l (bz (r::rs))).getD 0 none=some (bz ((r::rs).take n.toNat)::x):=by
       rw[hB];cases hf:l.foldl (bsS (bsT l ((bz (r::rs)).drop 1)) (bz (r::rs))) none with
       |none=>have:=(f2 hf).2 w hw1;rw[hw2] at this;cases this
       | some q'=>
         obtain⟨a1,a2,_,a4⟩:=f1 q' hf;have hle:=a4 w hw1 _ hw2;rcases a2 with a2 | ⟨u,u1,u2⟩
         .cases a2
         .obtain⟨n',n1,y,y1,y2⟩:=hcd u u1 q' u2;have hb':=hne n' n1;obtain⟨w1',w2'⟩:=(hval n' n1).1 y y1;have g5:=g4 n' (List.mem_reverse.2 n1);have hcmp:(bz ((r::rs).take n'.toNat)).length<=(bz ((r::rs).take n.toNat)).length\/n<n':=by
           rcases Int.lt_or_le n n' with h1 | h1
           .exact .inr h1
           .left
            have e:=xB ((r::rs).take n.toNat) n'.toNat;rw[List.take_take,Nat.min_eq_left (by omega)] at e;rw[e,zL];omega
          congr 1
          refine a1.same (Ps hw2).1 ?_;subst y2;have hle:(y.length+1<x.length+1)\/(y.length+1=x.length+1/\(bz ((r::rs).take n.toNat)).length<=(bz ((r::rs).take n'.toNat)).length):=hle;show (bz ((r::rs).take n'.toNat)).length=(bz ((r::rs).take n.toNat)).length;omega
      unfold SpR;rw[hres];show ((spT (List.map stD (bM l)) (r::rs)).getD 0 (0,0)).1=((x.length+1:Nat):Int)/\x.length+1<=(r::rs).length/\_;rw[hT,g2];refine⟨by show kW _ n=_;rw[k1];push_cast;rfl,by omega,fun k hk=>?_⟩;obtain⟨k',rfl⟩:∃k',k=k'+1:=⟨k-1,by omega⟩;have hgd:((spT (List.map stD (bM l)) (r::rs)).getD 0 (0,0)).2=n:=by rw[hT,g2]
      have e1:spW (spT (List.map stD (bM l)) (r::rs)) (r::rs) (k'+1) 0=if 0<(r::rs).length then iQ (((r::rs).drop 0).take ((spT (List.map stD (bM l)) (r::rs)).getD 0 (0,0)).2.toNat)::spW (spT (List.map stD (bM l)) (r::rs)) (r::rs) k' (0+((spT (List.map stD (bM l)) (r::rs)).getD 0 (0,0)).2.toNat) else []:=rfl
      rw[e1,hgd,if_pos (by simp),List.drop_zero,Le (hvt _),Nat.zero_add];have hi:=hih n.toNat (by omega);unfold SpR at hi;rw[hx] at hi;have hsh:=wG (List.map stD (bM l)) (r::rs) (a:=n.toNat) (by omega) k' 0;rw[Nat.add_zero] at hsh;rw[hsh,hi.2.2 k' (by rw[List.length_drop];omega)]
theorem aaA {l:List Wd}(h:isE l=0) (s:List UInt8):spE (List.map stD (bM l)) s=biE l s:=by
 unfold spE biE;by_cases ht:tkE s=0
 .rw[if_pos ht,if_pos ht];obtain⟨t1,t2,t3⟩:=En ht;rw[t3];have hr:=YJ h _ (aJ s) (zJ _) t2 (lc t1);unfold SpR at hr;rw[kz t1] at hr;cases hx:(bsT l s).getD 0 none with
  | none=>
    rw[hx] at hr;have hr:((spT (List.map stD (bM l)) (aJ s)).getD 0 (0,0)).1=65:=hr;rw[hr,if_pos (by decide)]
  | some r=>
    rw[hx] at hr;obtain⟨r1,r2,r3⟩:=hr;rw[r1,if_neg (by omega),r3 _ (zJ _)]
 .rw[if_neg ht,if_neg ht]
end Go.EA
end
