/- Texts. Conditions: none. -/
import Derived.Test.YtgkhohpekfjlmaaDoorEK33
import Derived.Test.YtgkhohpekfjlmaaDoorELx1
set_option linter.unusedVariables false
set_option linter.unusedSimpArgs false
section
namespace Go.EA
def wdA (d0:List StD) (d2:List Int):List Wd:=(List.range d2.length).map fun(i:Nat)=>(uN d0 (i:Int),d2.getD i 0)
def NwD (d0:List StD) (d2:List Int):Prop:=∃l,isE l=0/\d0=List.map stD (dE l)/\d2=l.map (·.2)
theorem Rv {α β:Type}(f:α->β) {l:List α}{i:Nat}{d:α}{d':β}(h:i<l.length):(l.map f).getD i d'=f (l.getD i d):=by
 rw[zA,zA,List.getElem?_map,zB h];rfl
theorem oK {l:List Wd}(h:isE l=0):wdA (List.map stD (dE l)) (l.map (·.2))=l:=by
 unfold wdA;refine List.ext_getElem (by simp) fun i h1 h2=>?_
 rw[List.getElem_map,List.getElem_range,Tq h h2,Rv (d:=([],0)) _ h2,zA,zB h2]
 rfl
theorem NwD.new {l:List Wd}(h:isE l=0):NwD (xM l).1 (xM l).2.2:=⟨l,h,rfl,rfl⟩
structure NwP (d0:List StD) (d2:List Int):Prop where
 e:isE (wdA d0 d2)=0
 st:d0=List.map stD (dE (wdA d0 d2))
 fr:d2=(wdA d0 d2).map (·.2)
 ok:mU d0
 s:DwS d0
 ct:(d2.length:Int)=(stA d0 0).2.2
 len:(wdA d0 d2).length=d2.length
 few:d2.length<=65536
theorem NwD.p {d0:List StD}{d2:List Int}(h:NwD d0 d2):NwP d0 d2:=by
 obtain⟨l,h1,rfl,rfl⟩:=h;have hS:=sts h1;have hT:=(nml h1).tot;have hl:=(nml h1).len;refine⟨by rw[oK h1];exact h1,by rw[oK h1],by rw[oK h1],hS.ok hT,⟨_,_,hS,hT,rfl⟩,?_,by rw[oK h1,zR],by rw[zR];exact hl⟩;rw[zR,dR hS.pos];show _=((rAt (dE l) 0).1.length:Int);rw[hS.root,yF]
theorem XZ {d0:List StD}{d2:List Int}{i:Nat}(h:i<d2.length):(wdA d0 d2).getD i ([],0)=(uN d0 (i:Int),d2.getD i 0):=by
 unfold wdA;rw[zA,zB (by simpa using h),Option.getD_some,List.getElem_map,List.getElem_range]
def tkE (s:List UInt8):Int:=if bG s=0 then (if 64<(aL s).length then 5 else 0) else bG s
def tkL (s:List UInt8):List Int:=if tkE s=0 then aL s else []
theorem KE (s:List UInt8):bG s=0\/bG s=3/\aL s=[]:=by
 unfold bG aL;split
 .exact .inl rfl
 .exact .inr ⟨rfl,rfl⟩
theorem xh {s:List UInt8}(h:tkE s=0):bG s=0/\(aL s).length<=64/\tkL s=aL s:=by
 have e:tkL s=aL s:=by unfold tkL;rw[if_pos h]
 unfold tkE at h;split at h
 .rename_i h0;split at h
  .cases h
  .rename_i h1;exact⟨h0,by omega,e⟩
 .rename_i h0;exact absurd h h0
theorem Qz {s:List UInt8}(h0:bG s=0) (h:¬ 64<((aL s).length:Int)):aL s=tkL s/\bG s=tkE s:=by
 have e:tkE s=0:=by unfold tkE;rw[if_pos h0,if_neg (by omega)]
 exact⟨by unfold tkL;rw[if_pos e],by rw[e,h0]⟩
theorem Ch {s:List UInt8}(h0:bG s=0) (h:64<((aL s).length:Int)):([]:List Int)=tkL s/\5=tkE s:=by
 have e:tkE s=5:=by unfold tkE;rw[if_pos h0,if_pos (by omega)]
 exact⟨by unfold tkL;rw[e];rfl,e.symm⟩
theorem TP {s:List UInt8}(h0:¬ bG s=0):aL s=tkL s/\bG s=tkE s:=by
 have e:tkE s=bG s:=by unfold tkE;rw[if_neg h0]
 refine⟨?_,e.symm⟩;unfold tkL;rw[e,if_neg h0];rcases KE s with h | h
 .exact absurd h h0
 .exact h.2
def enL (S:List StD):List Int->Int->Int->List Int
 |[],i,n=>if (stA S i.toNat).2.1=true then [n] else []
 |r::rs,i,n=>(if (stA S i.toNat).2.1=true then [n] else [])++(if cB (stA S i.toNat).1 r=true then enL S rs (fK (stA S i.toNat).1 r) (n+1) else [])
theorem xz (S:List StD):∀(l:List Int) (i n:Int),∀m∈enL S l i n,n<=m/\m<=n+l.length
 | [],i,n,m,h=>by
   unfold enL at h;split at h
   .have:=List.mem_singleton.1 h;subst this;simp
   .cases h
 | r::rs,i,n,m,h=>by
   unfold enL at h;rcases zX.1 h with h | h
   .split at h
    .have:=List.mem_singleton.1 h;subst this;simp;omega
    .cases h
   .split at h
    .have:=xz S rs _ _ m h;simp only[zM];push_cast;omega
    .cases h
theorem xB (S:List StD):∀(l:List Int) (i n:Int),(enL S l i n).length<=l.length+1
 | [],i,n=>by
   unfold enL;split <;> simp
 | r::rs,i,n=>by
   unfold enL;rw[zL];have h1:(if (stA S i.toNat).2.1=true then [n] else []).length<=1:=by split <;> simp
   have h2:(if cB (stA S i.toNat).1 r=true then enL S rs (fK (stA S i.toNat).1 r) (n+1) else []).length<=rs.length+1:=by
    split
    .exact xB S rs _ _
    .simp
   simp only[zM];omega
def stE (S:List StD) (s:List UInt8):Int×Int:=if tkE s=0 then (if (wlk S (tkL s) 0).2=true then ((wlk S (tkL s) 0).1,0) else (0,10)) else (0,tkE s)
def QP (l:List Wd) (s:List UInt8):Int:=(bV l s:Int)-(aO l s:Int)
def coE (l:List Wd) (s:List UInt8):Int×Int:=if tkE s=0 then (QP l s,0) else (0,tkE s)
def loE (S:List StD) (s:List UInt8):List UInt8×Int:=if tkE s=0 then (if (enL S (tkL s) 0 0).length=0 then ([],10) else (kw ((tkL s).take ((enL S (tkL s) 0 0).getD ((enL S (tkL s) 0 0).length-1) 0).toNat),0)) else ([],tkE s)
def cmN (l:List Wd) (s:List UInt8) (k:Int):Nat:=min (bV l s) (aO l s+k.toNat)-aO l s
def cmE (l:List Wd) (s:List UInt8) (k:Int):List Wd×Int:=if tkE s=0 then (if 0<=k/\k<=1000 then ((l.drop (aO l s)).take (cmN l s k),0) else ([],2)) else ([],tkE s)
end Go.EA
end
section
namespace Go.EA
abbrev FF:=List (Int×Int)
def spB (t:FF):List Int->Int×Int->Int×Int
 |[],p=>p
 |n::ns,p=>spB t ns (if (t.getD (n.toNat-1) (0,0)).1+1<p.1 then ((t.getD (n.toNat-1) (0,0)).1+1,n) else p)
def spT (S:List StD):List Int->FF
 |[]=>[(0,0)]
 |r::rs=>spB (spT S rs) (enL S (r::rs) 0 0).reverse (65,0)::spT S rs
def spW (Z:FF) (l:List Int):Nat->Nat->List (List UInt8)
 |0,_=>[]
 |k+1,a=>if a<l.length then kw ((l.drop a).take (Z.getD a (0,0)).2.toNat)::spW Z l k (a+(Z.getD a (0,0)).2.toNat) else []
def spE (S:List StD) (s:List UInt8):List (List UInt8)×Int:=if tkE s=0 then (if 64<((spT S (tkL s)).getD 0 (0,0)).1 then ([],10) else (spW (spT S (tkL s)) (tkL s) ((tkL s).length+1) 0,0)) else ([],tkE s)
theorem Bi (S:List StD):∀(l:List Int) (j:Nat),j<=l.length->(spT S l).drop j=spT S (l.drop j)
 |l,0,_=>rfl
 |[],j+1,h=>by simp at h
 | r::rs,j+1,h=>by
   simp only[zM] at h;show (spT S (r::rs)).drop (j+1)=spT S (rs.drop j);have e:spT S (r::rs)=spB (spT S rs) (enL S (r::rs) 0 0).reverse (65,0)::spT S rs:=rfl;rw[e,List.drop_succ_cons,Bi S rs j (by omega)]
theorem pE (S:List StD) (l:List Int) {j k:Nat}(h:j<=l.length):(spT S (l.drop j)).getD k (0,0)=(spT S l).getD (j+k) (0,0):=by
 rw[<- Bi S l j h,zA,zA,List.getElem?_drop]
theorem OL (S:List StD) {l:List Int}{j:Nat}(h:j<l.length):(spT S l).getD j (0,0)=spB (spT S (l.drop (j+1))) (enL S (l.drop j) 0 0).reverse (65,0):=by
 have h1:=pE S l (j:=j) (k:=0) (by omega);rw[Nat.add_zero] at h1;rw[<- h1,fF h];rfl
theorem Sl (S:List StD) (l:List Int):(spT S l).getD l.length (0,0)=(0,0):=by
 have h1:=pE S l (j:=l.length) (k:=0) (zJ _);rw[Nat.add_zero] at h1;rw[<- h1,List.drop_length];rfl
theorem Dy {t:FF}(ht:∀i,0<=(t.getD i (0,0)).1):∀(ns:List Int) (p:Int×Int),0<=p.1->0<=(spB t ns p).1/\(spB t ns p).1<=p.1
 |[],p,h=>⟨h,Int.le_refl _⟩
 | n::ns,p,h=>by
   unfold spB;have h1:=ht (n.toNat-1);split
   .have:=Dy ht ns ((t.getD (n.toNat-1) (0,0)).1+1,n) (by dsimp only;omega);dsimp only at this;omega
   .exact Dy ht ns p h
theorem yc (S:List StD):∀(l:List Int) (i:Nat),0<=((spT S l).getD i (0,0)).1/\((spT S l).getD i (0,0)).1<=65
 |[],0=>by show 0<=(0:Int)/\(0:Int)<=65;decide
 |[],i+1=>by show 0<=(0:Int)/\(0:Int)<=65;decide
 | r::rs,0=>by
   have:=Dy (t:=spT S rs) (fun i=>(yc S rs i).1) (enL S (r::rs) 0 0).reverse (65,0) (by decide);exact this
 |r::rs,i+1=>yc S rs i
theorem Eu {t:FF}:∀(ns:List Int) (p:Int×Int),spB t ns p=p\/∃n∈ns,spB t ns p=((t.getD (n.toNat-1) (0,0)).1+1,n)
 |[],p=>.inl rfl
 | n::ns,p=>by
   unfold spB;split
   .rcases Eu ns ((t.getD (n.toNat-1) (0,0)).1+1,n) with h | ⟨m,h1,h2⟩
    .exact .inr ⟨n,by simp,h⟩
    .exact .inr ⟨m,by simp[h1],h2⟩
   .rcases Eu ns p with h | ⟨m,h1,h2⟩
    .exact .inl h
    .exact .inr ⟨m,by simp[h1],h2⟩
theorem NwP.root {d0:List StD}{d2:List Int}(h:NwP d0 d2):(stA d0 0).2.1=false:=by
 have hS:=sts h.e;have hN:=nml h.e;rw[h.st,dR hS.pos];show (rAt (dE (wdA d0 d2)) 0).2.1=false;rw[(hS.g _ (hS.mem hS.pos)).ends,hS.root];cases he:aH (wdR (wdA d0 d2)) with
 |false=>rfl
 | true=>
   obtain⟨w,hw,e⟩:=yL.1 (mo.1 he);have:=hN.one w hw;rw[e] at this;cases this
theorem NwP.en {d0:List StD}{d2:List Int}(h:NwP d0 d2) (l:List Int):∀n∈enL d0 l 0 0,1<=n/\n<=l.length:=by
 intro n hn;have h1:=xz d0 l 0 0 n hn;refine⟨?_,by omega⟩;have hr:(stA d0 ((0:Int)).toNat).2.1=false:=h.root;cases l with
 | nil=>
   unfold enL at hn;rw[hr,if_neg (by decide)] at hn;cases hn
 | cons r rs=>
   unfold enL at hn;rw[hr,if_neg (by decide),List.nil_append] at hn;split at hn
   .exact(xz d0 rs _ _ n hn).1
   .cases hn
theorem NwP.first {d0:List StD}{d2:List Int}(h:NwP d0 d2) {l:List Int}{j:Nat}(hj:j<l.length) (hf:((spT d0 l).getD j (0,0)).1<=64) :
 1<=((spT d0 l).getD j (0,0)).2/\j+((spT d0 l).getD j (0,0)).2.toNat<=l.length/\((spT d0 l).getD j (0,0)).2∈enL d0 (l.drop j) 0 0/\((spT d0 l).getD j (0,0)).1=((spT d0 l).getD (j+((spT d0 l).getD j (0,0)).2.toNat) (0,0)).1+1:=by
 have e:=OL d0 hj;rcases Eu (t:=spT d0 (l.drop (j+1))) (enL d0 (l.drop j) 0 0).reverse (65,0) with h1 | ⟨n,h1,h2⟩
 .rw[e,h1] at hf;exact absurd hf (by decide)
 .have hn:=h.en _ n (List.mem_reverse.1 h1);rw[List.length_drop] at hn;rw[pE d0 l (by omega),show j+1+(n.toNat-1)=j+n.toNat by omega] at h2;rw[e,h2];exact⟨hn.1,by dsimp only;omega,List.mem_reverse.1 h1,rfl⟩
structure SpI (S:List StD) (l:List Int) (x:Nat×List Int×List Int):Prop where
 le:x.1<=l.length
 lf:x.2.1.length=l.length+1
 lg:x.2.2.length=l.length+1
 at':∀j,x.1<=j->j<=l.length->x.2.1.getD j 0=((spT S l).getD j (0,0)).1/\x.2.2.getD j 0=((spT S l).getD j (0,0)).2
 zr:∀j,j<x.1->x.2.2.getD j 0=0
def SpJ (S:List StD) (l:List Int) (a:Int) (E:List Int) (x:Nat×Int×Int):Prop:=x.1<=E.length/\0<=x.2.1/\x.2.1<=65/\spB (spT S (l.drop (a.toNat+1))) E.reverse (65,0)=spB (spT S (l.drop (a.toNat+1))) (E.take x.1).reverse x.2
def SpO (S:List StD) (l:List Int) (x:Nat×Nat×List (List UInt8)):Prop:=x.2.1<=l.length/\l.length+1<=x.1+x.2.1/\x.2.2.length<=x.2.1/\((spT S l).getD x.2.1 (0,0)).1<=64/\spW (spT S l) l (l.length+1) 0=x.2.2++spW (spT S l) l x.1 x.2.1
theorem jo {l:List Int}{a:Nat}{p:Int}(h:a<l.length):(l.set a p).getD a 0=p:=by
 rw[zA,List.getElem?_set_self h];rfl
theorem fM {l:List Int}{a j:Nat}{p:Int}(h:a≠j):(l.set a p).getD j 0=l.getD j 0:=by
 rw[zA,zA,List.getElem?_set_ne h]
theorem vC {l:List Int}{a:Nat}:l.set a (l.getD a 0)=l:=by
 refine List.ext_getElem? fun j=>?_
 by_cases h:a=j
 .subst h;by_cases hl:a<l.length
  .rw[List.getElem?_set_self hl,zA,zB hl];rfl
  .rw[List.getElem?_eq_none (by rw[List.length_set];omega),List.getElem?_eq_none (by omega)]
 .rw[List.getElem?_set_ne h]
theorem SpI.start (S:List StD) (l:List Int):SpI S l (l.length,List.replicate (l.length+1) 0,List.replicate (l.length+1) 0):=by
 have hr:∀j,(List.replicate (l.length+1) (0:Int)).getD j 0=0:=fun j=>by
  rw[zA,List.getElem?_replicate];split <;> rfl
 refine⟨zJ _,List.length_replicate,List.length_replicate,fun j h1 h2=>?_,fun j _=>hr j⟩;have:j=l.length:=by dsimp only at h1;omega
 subst this;rw[Sl];exact⟨hr _,hr _⟩
theorem SpJ.val {S:List StD}{l:List Int}{a:Nat}{F G:List Int}(h:SpI S l (a+1,F,G)) {n p:Int}(h1:1<=n) (h2:a+n.toNat<=l.length):(F.set a p).getD (a+n.toNat) 0=((spT S (l.drop (a+1))).getD (n.toNat-1) (0,0)).1:=by
 have h3:=(h.at' (a+n.toNat) (by dsimp only;omega) h2).1;dsimp only at h3;rw[fM (by omega),h3,pE S l (by omega),show a+1+(n.toNat-1)=a+n.toNat by omega]
theorem SpJ.step {S:List StD}{l:List Int}{a b:Nat}{E:List Int}{p q:Int}(h:SpJ S l (a:Int) E (b+1,p,q)):SpJ S l (a:Int) E (b,if ((spT S (l.drop (a+1))).getD ((E.getD b 0).toNat-1) (0,0)).1+1<p then (((spT S (l.drop (a+1))).getD ((E.getD b 0).toNat-1) (0,0)).1+1,E.getD b 0) else (p,q)):=by
 obtain⟨h1,h2,h3,h4⟩:=h;dsimp only at h1 h2 h3 h4;rw[Int.toNat_natCast] at h4;have hv:=(yc S (l.drop (a+1)) ((E.getD b 0).toNat-1)).1;refine⟨by dsimp only;omega,?_,?_,?_⟩
 .dsimp only; split <;> (dsimp only; omega)
 .dsimp only; split <;> (dsimp only; omega)
 .dsimp only;rw[Int.toNat_natCast,h4,bz 0 (by omega),List.reverse_append]
  rfl
theorem SpJ.out {S:List StD}{l:List Int}{a:Nat}{F G:List Int}{p q:Int}(h:SpI S l (a+1,F,G)) (hj:SpJ S l (a:Int) (enL S (l.drop a) 0 0) (0,p,q)):SpI S l (a,F.set a p,G.set a q):=by
 have hle:=h.le;dsimp only at hle;have hlf:=h.lf;have hlg:=h.lg;dsimp only at hlf hlg;have e:(spT S l).getD a (0,0)=(p,q):=by
  rw[OL S (by omega)];have:=hj.2.2.2;rw[Int.toNat_natCast] at this;exact this
 refine⟨by dsimp only;omega,by rw[List.length_set];exact hlf,by rw[List.length_set];exact hlg,fun j h1 h2=>?_,fun j h1=>?_⟩
 .dsimp only at h1 ⊢;by_cases h3:a=j
  .subst h3;rw[jo (by omega),jo (by omega),e];exact⟨rfl,rfl⟩
  .rw[fM h3,fM h3];exact h.at' j (by dsimp only;omega) h2
 .dsimp only at h1 ⊢;rw[fM (by omega)];exact h.zr j (by dsimp only;omega)
theorem SpO.next {d0:List StD}{d2:List Int}(hw:NwP d0 d2) {l:List Int}{F G:List Int}(h:SpI d0 l (0,F,G)) {k a:Nat}{o:List (List UInt8)}(hO:SpO d0 l (k+1,a,o)) (ha:a<l.length) :
 1<=G.getD a 0/\a+(G.getD a 0).toNat<=l.length/\SpO d0 l (k,a+(G.getD a 0).toNat,o++[kw ((l.drop a).take (G.getD a 0).toNat)]):=by
 obtain⟨o1,o2,o3,o4,o5⟩:=hO;dsimp only at o1 o2 o3 o4 o5;have hg:=(h.at' a (Nat.zero_le _) (by omega)).2;dsimp only at hg;obtain⟨f1,f2,f3,f4⟩:=hw.first ha o4
 rw[hg];refine⟨f1,f2,f2,by dsimp only;omega,by dsimp only;rw[zL,zN];omega,by dsimp only;omega,?_⟩;dsimp only;rw[o5,zO]
 congr 1
 show (if a<l.length then kw ((l.drop a).take ((spT d0 l).getD a (0,0)).2.toNat)::spW (spT d0 l) l k (a+((spT d0 l).getD a (0,0)).2.toNat) else [])=_;rw[if_pos ha];rfl
theorem SpO.end {S:List StD}{l:List Int}{k a:Nat}{o:List (List UInt8)}(h:SpO S l (k,a,o)) (ha:¬ a<l.length):spW (spT S l) l (l.length+1) 0=o:=by
 have h5:=h.2.2.2.2;dsimp only at h5;have e:spW (spT S l) l k a=[]:=by
  cases k with
  |zero=>rfl
  |succ k=>unfold spW;rw[if_neg ha]
 rw[h5,e,List.append_nil]
end Go.EA
end
section
namespace Go.EA
end Go.EA
end
section
namespace Go.EA
end Go.EA
end
section
namespace Go.EA
structure LoF (l:List Wd) (s:List UInt8) (X:List UInt8×Int):Prop where
 a:X.2=0->abe l X.1=0/\preB s X.1=true
 b:(X.2=0\/X.2=10)->∀w∈l,preB s w.1=true->w.1.length<=X.1.length
 c:X.2≠0->X.1=[]
theorem QO {l:List Wd}(h:isE l=0) {s:List UInt8}(ht:tkE s=0):(stE (List.map stD (dE l)) s).2=0↔aO l s<bV l s\/s=[]:=by
 obtain⟨t1,t2,t3⟩:=xh ht;unfold stE;rw[if_pos ht,t3,<- Pg h t1];constructor
 .intro h2;by_cases hg:(wlk (List.map stD (dE l)) (aL s) 0).2=true
  .exact hg
  .rw[if_neg hg] at h2;cases h2
 .intro hg;rw[if_pos hg]
theorem ZX {l:List Wd}{s:List UInt8}{k:Int}(ht:tkE s=0) (hk:0<=k/\k<=1000):cmE l s k=((l.drop (aO l s)).take (min (bV l s-aO l s) k.toNat),0):=by
 obtain⟨q1,q2,_,_⟩:=gy l s;unfold cmE cmN;rw[if_pos ht,if_pos hk,show min (bV l s) (aO l s+k.toNat)-aO l s=min (bV l s-aO l s) k.toNat by omega]
theorem UN {l:List Wd}{s:List UInt8}(ht:tkE s=0):coE l s=(QP l s,0):=by unfold coE;rw[if_pos ht]
theorem JD {l:List Wd}{s:List UInt8}(ht:tkE s≠0):coE l s=(0,tkE s):=by unfold coE;rw[if_neg ht]
end Go.EA
end
