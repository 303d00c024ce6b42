/- Texts. Conditions: none. -/
import Derived.Test.YtgkhohpekfjlmaaDoorEK33
import Derived.Test.YtgkhohpekfjlmaaDoorELx1
import Derived.Lib.Join
set_option linter.unusedVariables false
set_option linter.unusedSimpArgs false
section
namespace Go.EA
def wdA (d0:List StD) (d2:List Int):List Wd:=(List.range d2.length).map fun(i:Nat)=>(WE d0 (i:Int),d2.getD i 0)
def NwD (d0:List StD) (d2:List Int):Prop:=∃l,isE l=0/\d0=List.map stD (aM l)/\d2=l.map (·.2)
theorem Tj {α β:Type}(f:α->β) {l:List α}{i:Nat}{d:α}{d':β}(h:i<l.length):(l.map f).getD i d'=f (l.getD i d):=by
 rw[zA,zA,List.getElem?_map,zB h];rfl
theorem ol {l:List Wd}(h:isE l=0):wdA (List.map stD (aM l)) (l.map (·.2))=l:=by
 unfold wdA;refine List.ext_getElem (by simp) fun i h1 h2=>?_
 rw[List.getElem_map,List.getElem_range,TW h h2,Tj (d:=([],0)) _ h2,zA,zB h2]
 rfl
theorem NwD.new {l:List Wd}(h:isE l=0):NwD (iG l).1 (iG l).2.2:=⟨l,h,rfl,rfl⟩
structure NwP (d0:List StD) (d2:List Int):Prop where
 e:isE (wdA d0 d2)=0
 st:d0=List.map stD (aM (wdA d0 d2))
 fr:d2=(wdA d0 d2).map (·.2)
 ok:rA d0
 s:DwS d0
 ct:(d2.length:Int)=(stA d0 0).2.2
 len:(wdA d0 d2).length=d2.length
 few:d2.length<=65536
theorem NwD.p {d0:List StD}{d2:List Int}(h:NwD d0 d2):NwP d0 d2:=by
 obtain⟨l,h1,rfl,rfl⟩:=h;have hS:=sts h1;have hT:=(nml h1).tot;have hl:=(nml h1).len;refine⟨by rw[ol h1];exact h1,by rw[ol h1],by rw[ol h1],hS.ok hT,⟨_,_,hS,hT,rfl⟩,?_,by rw[ol h1,zR],by rw[zR];exact hl⟩;rw[zR,eP hS.pos];show _=((rAt (aM l) 0).1.length:Int);rw[hS.root,yV]
def tkE (s:List UInt8):Int:=if bH s=0 then (if 64<(aK s).length then 5 else 0) else bH s
def tkL (s:List UInt8):List Int:=if tkE s=0 then aK s else []
theorem OT (s:List UInt8):bH s=0\/bH s=3/\aK s=[]:=by
 unfold bH aK;split
 .exact .inl rfl
 .exact .inr ⟨rfl,rfl⟩
theorem tu {s:List UInt8}(h:tkE s=0):bH s=0/\(aK s).length<=64/\tkL s=aK s:=by
 have e:tkL s=aK s:=by unfold tkL;rw[if_pos h]
 unfold tkE at h;split at h
 .rename_i h0;split at h
  .cases h
  .rename_i h1;exact⟨h0,by omega,e⟩
 .rename_i h0;exact absurd h h0
theorem RX {s:List UInt8}(h0:bH s=0) (h:¬ 64<((aK s).length:Int)):aK s=tkL s/\bH s=tkE s:=by
 have e:tkE s=0:=by unfold tkE;rw[if_pos h0,if_neg (by omega)]
 exact⟨by unfold tkL;rw[if_pos e],by rw[e,h0]⟩
theorem Dc {s:List UInt8}(h0:bH s=0) (h:64<((aK s).length:Int)):([]:List Int)=tkL s/\5=tkE s:=by
 have e:tkE s=5:=by unfold tkE;rw[if_pos h0,if_pos (by omega)]
 exact⟨by unfold tkL;rw[e];rfl,e.symm⟩
theorem Qf {s:List UInt8}(h0:¬ bH s=0):aK s=tkL s/\bH s=tkE s:=by
 have e:tkE s=bH s:=by unfold tkE;rw[if_neg h0]
 refine⟨?_,e.symm⟩;unfold tkL;rw[e,if_neg h0];rcases OT s with h | h
 .exact absurd h h0
 .exact h.2
def enL (S:List StD):List Int->Int->Int->List Int
 |[],i,n=>if (stA S i.toNat).2.1=true then [n] else []
 |r::rs,i,n=>(if (stA S i.toNat).2.1=true then [n] else [])++(if dz (stA S i.toNat).1 r=true then enL S rs (gM (stA S i.toNat).1 r) (n+1) else [])
theorem sH (S:List StD):∀(l:List Int) (i n:Int),∀m∈enL S l i n,n<=m/\m<=n+l.length
 | [],i,n,m,h=>by
   unfold enL at h;split at h
   .have:=List.mem_singleton.1 h;subst this;simp
   .cases h
 | r::rs,i,n,m,h=>by
   unfold enL at h;rcases zX.1 h with h | h
   .split at h
    .have:=List.mem_singleton.1 h;subst this;simp;omega
    .cases h
   .split at h
    .have:=sH S rs _ _ m h;simp only[zM];push_cast;omega
    .cases h
theorem xA (S:List StD):∀(l:List Int) (i n:Int),(enL S l i n).length<=l.length+1
 | [],i,n=>by
   unfold enL;split <;> simp
 | r::rs,i,n=>by
   unfold enL;rw[zL];have h1:(if (stA S i.toNat).2.1=true then [n] else []).length<=1:=by split <;> simp
   have h2:(if dz (stA S i.toNat).1 r=true then enL S rs (gM (stA S i.toNat).1 r) (n+1) else []).length<=rs.length+1:=by
    split
    .exact xA S rs _ _
    .simp
   simp only[zM];omega
def loE (S:List StD) (s:List UInt8):List UInt8×Int:=if tkE s=0 then (if (enL S (tkL s) 0 0).length=0 then ([],10) else (iJ ((tkL s).take ((enL S (tkL s) 0 0).getD ((enL S (tkL s) 0 0).length-1) 0).toNat),0)) else ([],tkE s)
end Go.EA
end
section
namespace Go.EA
abbrev FF:=List (Int×Int)
def spB (t:FF):List Int->Int×Int->Int×Int
 |[],p=>p
 |n::ns,p=>spB t ns (if (t.getD (n.toNat-1) (0,0)).1+1<p.1 then ((t.getD (n.toNat-1) (0,0)).1+1,n) else p)
def spT (S:List StD):List Int->FF
 |[]=>[(0,0)]
 |r::rs=>spB (spT S rs) (enL S (r::rs) 0 0).reverse (65,0)::spT S rs
def spW (Z:FF) (l:List Int):Nat->Nat->List (List UInt8)
 |0,_=>[]
 |k+1,a=>if a<l.length then iJ ((l.drop a).take (Z.getD a (0,0)).2.toNat)::spW Z l k (a+(Z.getD a (0,0)).2.toNat) else []
def spE (S:List StD) (s:List UInt8):List (List UInt8)×Int:=if tkE s=0 then (if 64<((spT S (tkL s)).getD 0 (0,0)).1 then ([],10) else (spW (spT S (tkL s)) (tkL s) ((tkL s).length+1) 0,0)) else ([],tkE s)
theorem Bi (S:List StD):∀(l:List Int) (j:Nat),j<=l.length->(spT S l).drop j=spT S (l.drop j)
 |l,0,_=>rfl
 |[],j+1,h=>by simp at h
 | r::rs,j+1,h=>by
   simp only[zM] at h;show (spT S (r::rs)).drop (j+1)=spT S (rs.drop j);have e:spT S (r::rs)=spB (spT S rs) (enL S (r::rs) 0 0).reverse (65,0)::spT S rs:=rfl;rw[e,List.drop_succ_cons,Bi S rs j (by omega)]
theorem kg (S:List StD) (l:List Int) {j k:Nat}(h:j<=l.length):(spT S (l.drop j)).getD k (0,0)=(spT S l).getD (j+k) (0,0):=by
 rw[<- Bi S l j h,zA,zA,List.getElem?_drop]
theorem KO (S:List StD) {l:List Int}{j:Nat}(h:j<l.length):(spT S l).getD j (0,0)=spB (spT S (l.drop (j+1))) (enL S (l.drop j) 0 0).reverse (65,0):=by
 have h1:=kg S l (j:=j) (k:=0) (by omega);rw[Nat.add_zero] at h1;rw[<- h1,gu h];rfl
theorem Sm (S:List StD) (l:List Int):(spT S l).getD l.length (0,0)=(0,0):=by
 have h1:=kg S l (j:=l.length) (k:=0) (zJ _);rw[Nat.add_zero] at h1;rw[<- h1,List.drop_length];rfl
theorem EX {t:FF}(ht:∀i,0<=(t.getD i (0,0)).1):∀(ns:List Int) (p:Int×Int),0<=p.1->0<=(spB t ns p).1/\(spB t ns p).1<=p.1
 |[],p,h=>⟨h,Int.le_refl _⟩
 | n::ns,p,h=>by
   unfold spB;have h1:=ht (n.toNat-1);split
   .have:=EX ht ns ((t.getD (n.toNat-1) (0,0)).1+1,n) (by dsimp only;omega);dsimp only at this;omega
   .exact EX ht ns p h
theorem xP (S:List StD):∀(l:List Int) (i:Nat),0<=((spT S l).getD i (0,0)).1/\((spT S l).getD i (0,0)).1<=65
 |[],0=>by show 0<=(0:Int)/\(0:Int)<=65;decide
 |[],i+1=>by show 0<=(0:Int)/\(0:Int)<=65;decide
 | r::rs,0=>by
   have:=EX (t:=spT S rs) (fun i=>(xP S rs i).1) (enL S (r::rs) 0 0).reverse (65,0) (by decide);exact this
 |r::rs,i+1=>xP S rs i
theorem Ef {t:FF}:∀(ns:List Int) (p:Int×Int),spB t ns p=p\/∃n∈ns,spB t ns p=((t.getD (n.toNat-1) (0,0)).1+1,n)
 |[],p=>.inl rfl
 | n::ns,p=>by
   unfold spB;split
   .rcases Ef ns ((t.getD (n.toNat-1) (0,0)).1+1,n) with h | ⟨m,h1,h2⟩
    .exact .inr ⟨n,by simp,h⟩
    .exact .inr ⟨m,by simp[h1],h2⟩
   .rcases Ef ns p with h | ⟨m,h1,h2⟩
    .exact .inl h
    .exact .inr ⟨m,by simp[h1],h2⟩
theorem NwP.root {d0:List StD}{d2:List Int}(h:NwP d0 d2):(stA d0 0).2.1=false:=by
 have hS:=sts h.e;have hN:=nml h.e;rw[h.st,eP hS.pos];show (rAt (aM (wdA d0 d2)) 0).2.1=false;rw[(hS.g _ (hS.mem hS.pos)).ends,hS.root];cases he:aH (wdR (wdA d0 d2)) with
 |false=>rfl
 | true=>
   obtain⟨w,hw,e⟩:=xY.1 (eH.1 he);have:=hN.one w hw;rw[e] at this;cases this
theorem NwP.en {d0:List StD}{d2:List Int}(h:NwP d0 d2) (l:List Int):∀n∈enL d0 l 0 0,1<=n/\n<=l.length:=by
 intro n hn;have h1:=sH d0 l 0 0 n hn;refine⟨?_,by omega⟩;have hr:(stA d0 ((0:Int)).toNat).2.1=false:=h.root;cases l with
 | nil=>
   unfold enL at hn;rw[hr,if_neg (by decide)] at hn;cases hn
 | cons r rs=>
   unfold enL at hn;rw[hr,if_neg (by decide),List.nil_append] at hn;split at hn
   .exact(sH d0 rs _ _ n hn).1
   .cases hn
theorem NwP.first {d0:List StD}{d2:List Int}(h:NwP d0 d2) {l:List Int}{j:Nat}(hj:j<l.length) (hf:((spT d0 l).getD j (0,0)).1<=64) :
 1<=((spT d0 l).getD j (0,0)).2/\j+((spT d0 l).getD j (0,0)).2.toNat<=l.length/\((spT d0 l).getD j (0,0)).2∈enL d0 (l.drop j) 0 0/\((spT d0 l).getD j (0,0)).1=((spT d0 l).getD (j+((spT d0 l).getD j (0,0)).2.toNat) (0,0)).1+1:=by
 have e:=KO d0 hj;rcases Ef (t:=spT d0 (l.drop (j+1))) (enL d0 (l.drop j) 0 0).reverse (65,0) with h1 | ⟨n,h1,h2⟩
 .rw[e,h1] at hf;exact absurd hf (by decide)
 .have hn:=h.en _ n (List.mem_reverse.1 h1);rw[List.length_drop] at hn;rw[kg d0 l (by omega),show j+1+(n.toNat-1)=j+n.toNat by omega] at h2;rw[e,h2];exact⟨hn.1,by dsimp only;omega,List.mem_reverse.1 h1,rfl⟩
structure SpI (S:List StD) (l:List Int) (x:Nat×List Int×List Int):Prop where
 le:x.1<=l.length
 lf:x.2.1.length=l.length+1
 lg:x.2.2.length=l.length+1
 at':∀j,x.1<=j->j<=l.length->x.2.1.getD j 0=((spT S l).getD j (0,0)).1/\x.2.2.getD j 0=((spT S l).getD j (0,0)).2
 zr:∀j,j<x.1->x.2.2.getD j 0=0
def SpJ (S:List StD) (l:List Int) (a:Int) (E:List Int) (x:Nat×Int×Int):Prop:=x.1<=E.length/\0<=x.2.1/\x.2.1<=65/\spB (spT S (l.drop (a.toNat+1))) E.reverse (65,0)=spB (spT S (l.drop (a.toNat+1))) (E.take x.1).reverse x.2
def SpO (S:List StD) (l:List Int) (x:Nat×Nat×List (List UInt8)):Prop:=x.2.1<=l.length/\l.length+1<=x.1+x.2.1/\x.2.2.length<=x.2.1/\((spT S l).getD x.2.1 (0,0)).1<=64/\spW (spT S l) l (l.length+1) 0=x.2.2++spW (spT S l) l x.1 x.2.1
theorem jw {l:List Int}{a:Nat}{p:Int}(h:a<l.length):(l.set a p).getD a 0=p:=by
 rw[zA,List.getElem?_set_self h];rfl
theorem fU {l:List Int}{a j:Nat}{p:Int}(h:a≠j):(l.set a p).getD j 0=l.getD j 0:=by
 rw[zA,zA,List.getElem?_set_ne h]
theorem vI {l:List Int}{a:Nat}:l.set a (l.getD a 0)=l:=by
 refine List.ext_getElem? fun j=>?_
 by_cases h:a=j
 .subst h;by_cases hl:a<l.length
  .rw[List.getElem?_set_self hl,zA,zB hl];rfl
  .rw[List.getElem?_eq_none (by rw[List.length_set];omega),List.getElem?_eq_none (by omega)]
 .rw[List.getElem?_set_ne h]
theorem SpI.start (S:List StD) (l:List Int):SpI S l (l.length,List.replicate (l.length+1) 0,List.replicate (l.length+1) 0):=by
 have hr:∀j,(List.replicate (l.length+1) (0:Int)).getD j 0=0:=fun j=>by
  rw[zA,List.getElem?_replicate];split <;> rfl
 refine⟨zJ _,List.length_replicate,List.length_replicate,fun j h1 h2=>?_,fun j _=>hr j⟩;have:j=l.length:=by dsimp only at h1;omega
 subst this;rw[Sm];exact⟨hr _,hr _⟩
theorem SpJ.val {S:List StD}{l:List Int}{a:Nat}{F G:List Int}(h:SpI S l (a+1,F,G)) {n p:Int}(h1:1<=n) (h2:a+n.toNat<=l.length):(F.set a p).getD (a+n.toNat) 0=((spT S (l.drop (a+1))).getD (n.toNat-1) (0,0)).1:=by
 have h3:=(h.at' (a+n.toNat) (by dsimp only;omega) h2).1;dsimp only at h3;rw[fU (by omega),h3,kg S l (by omega),show a+1+(n.toNat-1)=a+n.toNat by omega]
theorem SpJ.step {S:List StD}{l:List Int}{a b:Nat}{E:List Int}{p q:Int}(h:SpJ S l (a:Int) E (b+1,p,q)):SpJ S l (a:Int) E (b,if ((spT S (l.drop (a+1))).getD ((E.getD b 0).toNat-1) (0,0)).1+1<p then (((spT S (l.drop (a+1))).getD ((E.getD b 0).toNat-1) (0,0)).1+1,E.getD b 0) else (p,q)):=by
 obtain⟨h1,h2,h3,h4⟩:=h;dsimp only at h1 h2 h3 h4;rw[Int.toNat_natCast] at h4;have hv:=(xP S (l.drop (a+1)) ((E.getD b 0).toNat-1)).1;refine⟨by dsimp only;omega,?_,?_,?_⟩
 .dsimp only; split <;> (dsimp only; omega)
 .dsimp only; split <;> (dsimp only; omega)
 .dsimp only;rw[Int.toNat_natCast,h4,bF 0 (by omega),List.reverse_append]
  rfl
theorem SpJ.out {S:List StD}{l:List Int}{a:Nat}{F G:List Int}{p q:Int}(h:SpI S l (a+1,F,G)) (hj:SpJ S l (a:Int) (enL S (l.drop a) 0 0) (0,p,q)):SpI S l (a,F.set a p,G.set a q):=by
 have hle:=h.le;dsimp only at hle;have hlf:=h.lf;have hlg:=h.lg;dsimp only at hlf hlg;have e:(spT S l).getD a (0,0)=(p,q):=by
  rw[KO S (by omega)];have:=hj.2.2.2;rw[Int.toNat_natCast] at this;exact this
 refine⟨by dsimp only;omega,by rw[List.length_set];exact hlf,by rw[List.length_set];exact hlg,fun j h1 h2=>?_,fun j h1=>?_⟩
 .dsimp only at h1 ⊢;by_cases h3:a=j
  .subst h3;rw[jw (by omega),jw (by omega),e];exact⟨rfl,rfl⟩
  .rw[fU h3,fU h3];exact h.at' j (by dsimp only;omega) h2
 .dsimp only at h1 ⊢;rw[fU (by omega)];exact h.zr j (by dsimp only;omega)
theorem SpO.next {d0:List StD}{d2:List Int}(hw:NwP d0 d2) {l:List Int}{F G:List Int}(h:SpI d0 l (0,F,G)) {k a:Nat}{o:List (List UInt8)}(hO:SpO d0 l (k+1,a,o)) (ha:a<l.length) :
 1<=G.getD a 0/\a+(G.getD a 0).toNat<=l.length/\SpO d0 l (k,a+(G.getD a 0).toNat,o++[iJ ((l.drop a).take (G.getD a 0).toNat)]):=by
 obtain⟨o1,o2,o3,o4,o5⟩:=hO;dsimp only at o1 o2 o3 o4 o5;have hg:=(h.at' a (Nat.zero_le _) (by omega)).2;dsimp only at hg;obtain⟨f1,f2,f3,f4⟩:=hw.first ha o4
 rw[hg];refine⟨f1,f2,f2,by dsimp only;omega,by dsimp only;rw[zL,zN];omega,by dsimp only;omega,?_⟩;dsimp only;rw[o5,zO]
 congr 1
 show (if a<l.length then iJ ((l.drop a).take ((spT d0 l).getD a (0,0)).2.toNat)::spW (spT d0 l) l k (a+((spT d0 l).getD a (0,0)).2.toNat) else [])=_;rw[if_pos ha];rfl
theorem SpO.end {S:List StD}{l:List Int}{k a:Nat}{o:List (List UInt8)}(h:SpO S l (k,a,o)) (ha:¬ a<l.length):spW (spT S l) l (l.length+1) 0=o:=by
 have h5:=h.2.2.2.2;dsimp only at h5;have e:spW (spT S l) l k a=[]:=by
  cases k with
  |zero=>rfl
  |succ k=>unfold spW;rw[if_neg ha]
 rw[h5,e,List.append_nil]
end Go.EA
end
section
namespace Go.EA
end Go.EA
end
section
namespace Go.EA
theorem Ep {W:Rst}{all:List RSt}(hS:Sts W all):∀(rs:List Int) (i:Nat) (m n:Int),i<all.length->(n∈enL (all.map stD) rs i m↔∃k:Nat,k<=rs.length/\n=m+k/\rs.take k∈(rAt all i).1)
 | [],i,m,n,hi=>by
   have g:=hS.g _ (hS.mem hi);have e:enL (all.map stD) [] (i:Int) m=if (stA (all.map stD) (i:Int).toNat).2.1=true then [m] else []:=rfl
   rw[e,Int.toNat_natCast,eP hi];show n∈(if (rAt all i).2.1=true then [m] else [])↔_;rw[g.ends];constructor
   .intro h;split at h
    .rename_i he;exact⟨0,zJ _,by have:=List.mem_singleton.1 h;omega,eH.1 he⟩
    .cases h
   .rintro⟨k,h1,h2,h3⟩;have hk:k=0:=by simpa using h1
    subst hk;rw[if_pos (eH.2 h3)];exact List.mem_singleton.2 (by omega)
 | r::rs,i,m,n,hi=>by
   have g:=hS.g _ (hS.mem hi);have e:enL (all.map stD) (r::rs) (i:Int) m=(if (stA (all.map stD) (i:Int).toNat).2.1=true then [m] else [])++(if dz (stA (all.map stD) (i:Int).toNat).1 r=true then enL (all.map stD) rs (gM (stA (all.map stD) (i:Int).toNat).1 r) (m+1) else []):=rfl;rw[e,Int.toNat_natCast,eP hi];show n∈(if (rAt all i).2.1=true then [m] else [])++(if dz (rAt all i).2.2 r=true then enL (all.map stD) rs (gM (rAt all i).2.2 r) (m+1) else [])↔_;rw[g.ends,zX];constructor
   .rintro(h | h)
    .split at h
     .rename_i he;exact⟨0,Nat.zero_le _,by have:=List.mem_singleton.1 h;omega,eH.1 he⟩
     .cases h
    .split at h
     .rename_i hn;obtain⟨q,h1,h2,h3⟩:=g.to _ (pu hn);dsimp only at h1 h3;rw[h1] at h;obtain⟨k,k1,k2,k3⟩:=(Ep hS rs q (m+1) n h2).1 h;rw[h3] at k3;exact⟨k+1,by simp;omega,by push_cast;omega,dK.1 k3⟩
     .cases h
   .rintro⟨k,h1,h2,h3⟩;cases k with
    | zero=>
      left
      rw[if_pos (eH.2 h3)];exact List.mem_singleton.2 (by omega)
    | succ k=>
      right
      have h3:r::rs.take k∈(rAt all i).1:=h3;have hn:dz (rAt all i).2.2 r=true:=Bh.2 (by rw[g.hd];exact fD h3);obtain⟨q,g1,g2,g3⟩:=g.to _ (pu hn);dsimp only at g1 g3;rw[if_pos hn,g1];exact(Ep hS rs q (m+1) n g2).2 ⟨k,by simpa using h1,by push_cast at h2;omega,by rw[g3];exact dK.2 h3⟩
theorem JR (S:List StD):∀(l:List Int) (i n:Int),(enL S l i n).Pairwise (·<·)
 | [],i,n=>by
   unfold enL;split
   .exact List.pairwise_singleton ..
   .exact .nil
 | r::rs,i,n=>by
   unfold enL;refine List.pairwise_append.2 ⟨?_,?_,fun a ha b hb=>?_⟩
   .split
    .exact List.pairwise_singleton ..
    .exact .nil
   .split
    .exact JR S rs _ _
    .exact .nil
   .split at ha
    .have:=List.mem_singleton.1 ha;split at hb
     .have:=(sH S rs _ _ b hb).1;omega
     .cases hb
    .cases ha
theorem PG {s a b:List UInt8}(ha:preB s a=true) (hb:preB s b=true) (h:a.length=b.length):a=b:=by
 have ha:=(of_decide_eq_true ha).2;have hb:=(of_decide_eq_true hb).2;rw[<- ha,<- hb,h]
theorem Qn {l:List Wd}(h:isE l=0) {s:List UInt8}(hs:bH s=0) (n:Int):n∈enL (List.map stD (aM l)) (aK s) 0 0↔0<=n/\n.toNat<=(aK s).length/\∃w∈l,w.1=bv ((aK s).take n.toNat)/\preB s w.1=true:=by
 have hS:=sts h;have hN:=nml h;have e:=Ep hS (aK s) 0 0 n hS.pos;rw[hS.root] at e;have e:n∈enL (List.map stD (aM l)) (aK s) 0 0↔∃k:Nat,k<=(aK s).length/\n=0+(k:Int)/\(aK s).take k∈wdR l:=e;rw[e];constructor
 .rintro⟨k,h1,h2,h3⟩;obtain⟨w,hw,e⟩:=xY.1 h3;have hk:n.toNat=k:=by omega
  rw[hk];refine⟨by omega,h1,w,hw,by rw[<- e,ku (hN.dec w hw)],(yI hs (hN.dec w hw)).2 ⟨(aK s).drop k,by rw[e,List.take_append_drop]⟩⟩
 .rintro⟨h0,h1,w,hw,e,hp⟩;refine⟨n.toNat,h1,by omega,xY.2 ⟨w,hw,?_⟩⟩;obtain⟨z,hz⟩:=(yI hs (hN.dec w hw)).1 hp;have e2:bv (aK w.1)=bv ((aK s).take n.toNat):=by rw[ku (hN.dec w hw),e]
  have hv:∀t:List Int,(∀r∈t,Utf8.valid r=true)->(runes (bv t)).map (·.1)=t:=fun t ht=>by
   rw[kU t (List.all_eq_true.2 ht),List.map_map]
   conv=>rhs;rw[<- List.map_id t]
   rfl
  rw[<- hv (aK w.1) (kD (hN.dec w hw)),<- hv ((aK s).take n.toNat) (fun r hr=>kD hs r (List.mem_of_mem_take hr)),e2]
end Go.EA
end
section
namespace Go.EA
theorem Sa {l:List Wd}(h:isE l=0) {w:Wd}(hw:w∈l):tkE w.1=0:=by
 have hN:=nml h;have:=hN.few w hw;unfold tkE;rw[if_pos (hN.dec w hw),if_neg (by omega)]
structure LoF (l:List Wd) (s:List UInt8) (X:List UInt8×Int):Prop where
 a:X.2=0->mf l X.1=0/\preB s X.1=true
 b:(X.2=0\/X.2=10)->∀w∈l,preB s w.1=true->w.1.length<=X.1.length
 c:X.2≠0->X.1=[]
end Go.EA
end
section
namespace Go.EA
abbrev TX:=List (List UInt8)
def btL:TX->TX->Bool
 |x::a,y::b=>if x.length≠y.length then decide (y.length<x.length) else btL a b
 |_,_=>false
def Dl (a b:TX):Bool:=if a.length≠b.length then decide (a.length<b.length) else btL a b
def bsS (tb:List (Option TX)) (t:List UInt8) (o:Option TX) (w:Wd):Option TX:=
 if preB t w.1=true then match tb.getD (w.1.length-1) none with
  |some r=>match o with
   |none=>some (w.1::r)
   |some q=>if Dl (w.1::r) q=true then some (w.1::r) else some q
  |none=>o
 else o
def bsT (l:List Wd):List UInt8->List (Option TX)
 |[]=>[some []]
 |c::t=>l.foldl (bsS (bsT l t) (c::t)) none::bsT l t
def biE (l:List Wd) (s:List UInt8):TX×Int:=if tkE s=0 then (match (bsT l s).getD 0 none with
 |some r=>(r,0)
 |none=>([],10)) else ([],tkE s)
def sM (o:Option TX):Bool:=o.isSome
def sW (o:Option TX):TX:=o.getD []
theorem CP (l:List Wd):∀(t:List UInt8) (j:Nat),j<=t.length->(bsT l t).drop j=bsT l (t.drop j)
 |t,0,_=>rfl
 |[],j+1,h=>by simp at h
 | c::t,j+1,h=>by
   simp only[zM] at h;show (bsT l (c::t)).drop (j+1)=bsT l (t.drop j);have e:bsT l (c::t)=l.foldl (bsS (bsT l t) (c::t)) none::bsT l t:=rfl;rw[e,List.drop_succ_cons,CP l t j (by omega)]
theorem iI (l:List Wd) (t:List UInt8) {j k:Nat}(h:j<=t.length):(bsT l (t.drop j)).getD k none=(bsT l t).getD (j+k) none:=by
 rw[<- CP l t j h,zA,zA,List.getElem?_drop]
theorem Dt (l:List Wd) {t:List UInt8}{j:Nat}(h:j<t.length):(bsT l t).getD j none=l.foldl (bsS (bsT l (t.drop (j+1))) (t.drop j)) none:=by
 have h1:=iI l t (j:=j) (k:=0) (by omega);rw[Nat.add_zero] at h1;rw[<- h1,List.drop_eq_getElem_cons h];rfl
theorem TG (l:List Wd) (t:List UInt8):(bsT l t).getD t.length none=some []:=by
 have h1:=iI l t (j:=t.length) (k:=0) (zJ _);rw[Nat.add_zero] at h1;rw[<- h1,List.drop_length];rfl
structure BiI (l:List Wd) (s:List UInt8) (x:Nat×List Bool×List TX):Prop where
 le:x.1<=s.length
 lm:x.2.1.length=s.length+1
 lw:x.2.2.length=s.length+1
 at':∀j,x.1<=j->j<=s.length->x.2.1.getD j false=sM ((bsT l s).getD j none)/\x.2.2.getD j []=sW ((bsT l s).getD j none)
 zr:∀j,j<x.1->x.2.1.getD j false=false/\x.2.2.getD j []=[]
def BiJ (l:List Wd) (s:List UInt8) (a:Nat) (k:Nat):Option TX:=(l.take k).foldl (bsS (bsT l (s.drop (a+1))) (s.drop a)) none
theorem yg {α:Type}{l:List α}{a:Nat}{p d:α}(h:a<l.length):(l.set a p).getD a d=p:=by
 rw[zA,List.getElem?_set_self h];rfl
theorem kE {α:Type}{l:List α}{a j:Nat}{p d:α}(h:a≠j):(l.set a p).getD j d=l.getD j d:=by
 rw[zA,zA,List.getElem?_set_ne h]
theorem UX {tb:List (Option TX)}{t:List UInt8}(ht:∀i r,tb.getD i none=some r->r.length+1<=t.length) {o:Option TX}(ho:∀r,o=some r->r.length<=t.length) (w:Wd):∀r,bsS tb t o w=some r->r.length<=t.length:=by
 intro r h;unfold bsS at h;split at h
 .split at h
  .rename_i r' h';have h1:=ht _ _ h';split at h
   .cases h;simpa using h1
   .split at h
    .cases h;simpa using h1
    .cases h;exact ho _ rfl
  .exact ho r h
 .exact ho r h
theorem JI {tb:List (Option TX)}{t:List UInt8}(ht:∀i r,tb.getD i none=some r->r.length+1<=t.length):∀(l:List Wd) {o:Option TX},(∀r,o=some r->r.length<=t.length)->∀r,l.foldl (bsS tb t) o=some r->r.length<=t.length
 |[],o,ho=>ho
 |w::l,o,ho=>JI ht l (UX ht ho w)
theorem EJ (l:List Wd):∀(t:List UInt8) (i:Nat) (r:TX),(bsT l t).getD i none=some r->r.length<=t.length
 |[],0,r,h=>by cases h;exact zJ _
 |[],i+1,r,h=>by cases h
 |c::t,0,r,h=>JI (tb:=bsT l t) (t:=c::t) (fun i r h=>Nat.succ_le_succ (EJ l t i r h)) l (fun r h=>by cases h) r h
 |c::t,i+1,r,h=>Nat.le_succ_of_le (EJ l t i r h)
theorem QY (l:List Wd) {s:List UInt8}{a:Nat}(h:a<s.length):BiJ l s a l.length=(bsT l s).getD a none:=by
 unfold BiJ;rw[List.take_length,Dt l h]
theorem BiI.start (l:List Wd) (s:List UInt8):BiI l s (s.length,(List.replicate (s.length+1) false).set s.length true,List.replicate (s.length+1) []):=by
 have hr:∀j,(List.replicate (s.length+1) ([]:TX)).getD j []=[]:=fun j=>by
  rw[zA,List.getElem?_replicate];split <;> rfl
 have hm:∀j,(List.replicate (s.length+1) false).getD j false=false:=fun j=>by
  rw[zA,List.getElem?_replicate];split <;> rfl
 refine⟨zJ _,by simp,by simp,fun j h1 h2=>?_,fun j h1=>?_⟩
 .have:j=s.length:=by dsimp only at h1;omega
  subst this;dsimp only;rw[TG,yg (by simp),hr];exact⟨rfl,rfl⟩
 .dsimp only at h1 ⊢;rw[kE (by omega),hr,hm];exact⟨rfl,rfl⟩
theorem BiI.out {l:List Wd}{s:List UInt8}{a:Nat}{M:List Bool}{W:List TX}(h:BiI l s (a+1,M,W)):BiI l s (a,M.set a (sM (BiJ l s a l.length)),W.set a (sW (BiJ l s a l.length))):=by
 have hle:=h.le;have hlm:=h.lm;have hlw:=h.lw;dsimp only at hle hlm hlw;rw[QY l (by omega)];refine⟨by dsimp only;omega,by rw[List.length_set];exact hlm,by rw[List.length_set];exact hlw,fun j h1 h2=>?_,fun j h1=>?_⟩
 .dsimp only at h1 ⊢;by_cases h3:a=j
  .subst h3;rw[yg (by omega),yg (by omega)];exact⟨rfl,rfl⟩
  .rw[kE h3,kE h3];exact h.at' j (by dsimp only;omega) h2
 .dsimp only at h1 ⊢;rw[kE (by omega),kE (by omega)];exact h.zr j (by dsimp only;omega)
theorem BiI.behind {l:List Wd}{s:List UInt8}{a:Nat}{M:List Bool}{W:List TX}(h:BiI l s (a+1,M,W)) {n:Nat}(h1:1<=n) (h2:a+n<=s.length) (p:Bool) (q:TX) :
 (M.set a p).getD (a+n) false=sM ((bsT l (s.drop (a+1))).getD (n-1) none)/\(W.set a q).getD (a+n) []=sW ((bsT l (s.drop (a+1))).getD (n-1) none):=by
 have h3:=h.at' (a+n) (by dsimp only;omega) h2;dsimp only at h3;rw[kE (by omega),kE (by omega),h3.1,h3.2,iI l s (by omega),show a+1+(n-1)=a+n by omega];exact⟨rfl,rfl⟩
end Go.EA
end
section
namespace Go.EA
def hdQ (q:TX):Nat:=(q.headD []).length
def LeQ (q p:TX):Prop:=q.length<p.length\/(q.length=p.length/\hdQ p<=hdQ q)
theorem LeQ.refl (q:TX):LeQ q q:=.inr ⟨rfl,zJ _⟩
theorem LeQ.trans {a b c:TX}(h1:LeQ a b) (h2:LeQ b c):LeQ a c:=by unfold LeQ at *;omega
theorem LeQ.tot (a b:TX):LeQ a b\/LeQ b a:=by unfold LeQ;omega
theorem OC {x y:List UInt8}{a b:TX}(h:x.length≠y.length):Dl (x::a) (y::b)=true↔¬ LeQ (y::b) (x::a):=by
 have e:btL (x::a) (y::b)=decide (y.length<x.length):=by
  show (if x.length≠y.length then decide (y.length<x.length) else btL a b)=_;rw[if_pos h]
 unfold Dl LeQ;rw[e];show _↔¬ ((b.length+1<a.length+1)\/(b.length+1=a.length+1/\x.length<=y.length));simp only[zM];by_cases hl:a.length+1≠b.length+1
 .rw[if_pos hl,decide_eq_true_iff];omega
 .rw[if_neg hl,decide_eq_true_iff];omega
def OkQ (tb:List (Option TX)) (t:List UInt8) (q:TX):Prop:=∃x r,q=x::r/\preB t x=true/\tb.getD (x.length-1) none=some r
theorem OkQ.same {tb:List (Option TX)}{t:List UInt8}{q p:TX}(hq:OkQ tb t q) (hp:OkQ tb t p) (h:hdQ q=hdQ p):q=p:=by
 obtain⟨x,r,rfl,h1,h2⟩:=hq;obtain⟨y,r',rfl,h3,h4⟩:=hp;have h:x.length=y.length:=h;have e:=PG h1 h3 h;subst e;rw[h2] at h4;cases h4;rfl
theorem OkQ.bet {tb:List (Option TX)}{t:List UInt8}{q p:TX}(hq:OkQ tb t q) (hp:OkQ tb t p):(Dl q p=true->LeQ q p)/\(¬ Dl q p=true->LeQ p q):=by
 by_cases h:hdQ q=hdQ p
 .rw[hq.same hp h];exact⟨fun _=>LeQ.refl _,fun _=>LeQ.refl _⟩
 .obtain⟨x,r,rfl,h1,h2⟩:=hq;obtain⟨y,r',rfl,h3,h4⟩:=hp;have h:x.length≠y.length:=h;rw[OC h];exact⟨fun h5=>(LeQ.tot _ _).resolve_right h5,fun h5=>Classical.byContradiction h5⟩
def cdW (tb:List (Option TX)) (t:List UInt8) (w:Wd):Option TX:=if preB t w.1=true then (tb.getD (w.1.length-1) none).map (w.1::·) else none
theorem Ns {tb:List (Option TX)}{t:List UInt8}{w:Wd}{q:TX}(h:cdW tb t w=some q):OkQ tb t q/\hdQ q=w.1.length:=by
 unfold cdW at h;split at h
 .rename_i hp;obtain⟨r,h1,rfl⟩:=zD.1 h;exact⟨⟨w.1,r,rfl,hp,h1⟩,rfl⟩
 .cases h
theorem WG (tb:List (Option TX)) (t:List UInt8) (o:Option TX) (w:Wd):bsS tb t o w=(cdW tb t w).elim o fun q=>o.elim (some q) fun p=>if Dl q p=true then some q else some p:=by
 unfold bsS cdW;by_cases h:preB t w.1=true
 .rw[if_pos h,if_pos h];cases tb.getD (w.1.length-1) none with
  |none=>rfl
  |some r=>cases o <;> rfl
 .rw[if_neg h,if_neg h];rfl
theorem oh {tb:List (Option TX)}{t:List UInt8}:∀(ws:List Wd) (o:Option TX),(∀q,o=some q->OkQ tb t q)->
 (∀q',ws.foldl (bsS tb t) o=some q'->OkQ tb t q'/\(o=some q'\/∃w∈ws,cdW tb t w=some q')/\(∀q,o=some q->LeQ q' q)/\∀w∈ws,∀q,cdW tb t w=some q->LeQ q' q)/\(ws.foldl (bsS tb t) o=none->o=none/\∀w∈ws,cdW tb t w=none)
 |[],o,ho=>⟨fun q' h=>⟨ho q' h,.inl h,fun q hq=>by rw[show o=some q' from h] at hq;cases hq;exact LeQ.refl _,fun w hw=>by cases hw⟩,fun h=>⟨h,fun w hw=>by cases hw⟩⟩
 | w::ws,o,ho=>by
   rw[List.foldl_cons];have hs:=WG tb t o w;cases hc:cdW tb t w with
   | none=>
     rw[hc] at hs;have hs:bsS tb t o w=o:=hs;rw[hs];obtain⟨i1,i2⟩:=oh ws o ho;refine⟨fun q' h=>?_,fun h=>⟨(i2 h).1,fun v hv=>?_⟩⟩
     .obtain⟨a1,a2,a3,a4⟩:=i1 q' h;refine⟨a1,a2.imp id fun⟨v,v1,v2⟩=>⟨v,by simp[v1],v2⟩,a3,fun v hv q hq=>?_⟩;rcases List.mem_cons.1 hv with rfl | hv
      .rw[hc] at hq;cases hq
      .exact a4 v hv q hq
     .rcases List.mem_cons.1 hv with rfl | hv
      .exact hc
      .exact(i2 h).2 v hv
   | some p=>
     have hpk:=(Ns hc).1;rw[hc] at hs;have main:∀o1,bsS tb t o w=some o1->OkQ tb t o1->(o=some o1\/o1=p)->(∀q,o=some q->LeQ o1 q)->LeQ o1 p->
      (∀q',ws.foldl (bsS tb t) (bsS tb t o w)=some q'->OkQ tb t q'/\(o=some q'\/∃v∈w::ws,cdW tb t v=some q')/\(∀q,o=some q->LeQ q' q)/\∀v∈w::ws,∀q,cdW tb t v=some q->LeQ q' q)/\(ws.foldl (bsS tb t) (bsS tb t o w)=none->o=none/\∀v∈w::ws,cdW tb t v=none):=fun o1 e hk hor hle hp=>by
      rw[e];obtain⟨i1,i2⟩:=oh ws (some o1) (fun q hq=>by cases hq;exact hk);refine⟨fun q' h=>?_,fun h=>(by have:=(i2 h).1;cases this)⟩;obtain⟨a1,a2,a3,a4⟩:=i1 q' h;have h1:=a3 o1 rfl;refine⟨a1,?_,fun q hq=>h1.trans (hle q hq),fun v hv q hq=>?_⟩
      .rcases a2 with a2 | ⟨v,v1,v2⟩
       .cases a2;rcases hor with hor | rfl
        .exact .inl hor
        .exact .inr ⟨w,by simp,hc⟩
       .exact .inr ⟨v,by simp[v1],v2⟩
      .rcases List.mem_cons.1 hv with rfl | hv
       .rw[hc] at hq;cases hq;exact h1.trans hp
       .exact a4 v hv q hq
     cases o with
     |none=>exact main p hs hpk (.inr rfl) (fun q hq=>by cases hq) (LeQ.refl _)
     | some q0=>
       have hk0:=ho q0 rfl;obtain⟨b1,b2⟩:=hpk.bet hk0;have hs:bsS tb t (some q0) w=if Dl p q0=true then some p else some q0:=hs
       by_cases hb:Dl p q0=true
       .rw[if_pos hb] at hs;exact main p hs hpk (.inr rfl) (fun q hq=>by cases hq;exact b1 hb) (LeQ.refl _)
       .rw[if_neg hb] at hs;exact main q0 hs hk0 (.inl rfl) (fun q hq=>by cases hq;exact LeQ.refl _) (b2 hb)
def kW (t:FF) (n:Int):Int:=(t.getD (n.toNat-1) (0,0)).1+1
theorem sQ (t:FF):∀(ns:List Int) (p:Int×Int),ns.Pairwise (· > ·)->
 (spB t ns p=p/\∀m∈ns,p.1<=kW t m)\/(∃n∈ns,spB t ns p=(kW t n,n)/\kW t n<p.1/\∀m∈ns,kW t n<=kW t m/\(kW t m=kW t n->m<=n))
 |[],p,_=>.inl ⟨rfl,fun m hm=>by cases hm⟩
 | n::ns,p,h=>by
   have h':=List.pairwise_cons.1 h;have e:spB t (n::ns) p=spB t ns (if kW t n<p.1 then (kW t n,n) else p):=rfl;rw[e];by_cases hk:kW t n<p.1
   .rw[if_pos hk];rcases sQ t ns (kW t n,n) h'.2 with ⟨i1,i2⟩ | ⟨n',i1,i2,i3,i4⟩
    .refine .inr ⟨n,by simp,i1,hk,fun m hm=>?_⟩;rcases List.mem_cons.1 hm with rfl | hm
     .exact⟨Int.le_refl _,fun _=>Int.le_refl _⟩
     .exact⟨i2 m hm,fun _=>by have:=h'.1 m hm;omega⟩
    .dsimp only at i3;refine .inr ⟨n',by simp[i1],i2,by omega,fun m hm=>?_⟩;rcases List.mem_cons.1 hm with rfl | hm
     .exact⟨by omega,fun h=>by omega⟩
     .exact i4 m hm
   .rw[if_neg hk];rcases sQ t ns p h'.2 with ⟨i1,i2⟩ | ⟨n',i1,i2,i3,i4⟩
    .refine .inl ⟨i1,fun m hm=>?_⟩;rcases List.mem_cons.1 hm with rfl | hm
     .omega
     .exact i2 m hm
    .refine .inr ⟨n',by simp[i1],i2,i3,fun m hm=>?_⟩;rcases List.mem_cons.1 hm with rfl | hm
     .exact⟨by omega,fun h=>by omega⟩
     .exact i4 m hm
theorem vR (S:List StD) (rs:List Int) {a:Nat}(ha:a<=rs.length):∀(k b:Nat),spW (spT S rs) rs k (a+b)=spW (spT S (rs.drop a)) (rs.drop a) k b
 |0,_=>rfl
 | k+1,b=>by
   have e1:spW (spT S rs) rs (k+1) (a+b)=if a+b<rs.length then iJ ((rs.drop (a+b)).take ((spT S rs).getD (a+b) (0,0)).2.toNat)::spW (spT S rs) rs k (a+b+((spT S rs).getD (a+b) (0,0)).2.toNat) else []:=rfl
   have e2:spW (spT S (rs.drop a)) (rs.drop a) (k+1) b=if b<(rs.drop a).length then iJ (((rs.drop a).drop b).take ((spT S (rs.drop a)).getD b (0,0)).2.toNat)::spW (spT S (rs.drop a)) (rs.drop a) k (b+((spT S (rs.drop a)).getD b (0,0)).2.toNat) else []:=rfl
   rw[e1,e2,kg S rs ha,List.length_drop,List.drop_drop,Nat.add_assoc,vR S rs ha k];by_cases h:a+b<rs.length
   .rw[if_pos h,if_pos (by omega)]
   .rw[if_neg h,if_neg (by omega)]
def SpR (l:List Wd) (rs:List Int):Prop:=match (bsT l (bv rs)).getD 0 none with
 |none=>((spT (List.map stD (aM l)) rs).getD 0 (0,0)).1=65
 |some r=>((spT (List.map stD (aM l)) rs).getD 0 (0,0)).1=r.length/\r.length<=rs.length/\∀k,rs.length+1<=k->spW (spT (List.map stD (aM l)) rs) rs k 0=r
theorem JZ {rs:List Int}(h:∀r∈rs,Utf8.valid r=true):iJ rs=bv rs:=(GZ (List.all_eq_true.2 h)).1
theorem wS (rs:List Int) (n:Nat):bv rs=bv (rs.take n)++bv (rs.drop n):=by rw[<- qM,List.take_append_drop]
theorem Ye {l:List Wd}(h:isE l=0):∀(m:Nat) (rs:List Int),rs.length<=m->rs.length<=64->(∀r∈rs,Utf8.valid r=true)->SpR l rs
 | m,[],_,_,_=>by
   unfold SpR;show ((spT (List.map stD (aM l)) []).getD 0 (0,0)).1=0/\_/\_;exact⟨rfl,zJ _,fun k hk=>by
    cases k with
    |zero=>rfl
    |succ k=>rfl⟩
 |0,r::rs,hm,_,_=>by simp at hm
 | m+1,r::rs,hm,h64,hv=>by
   have hN:=nml h;have hS:=sts h;have hw:NwP (iG l).1 (iG l).2.2:=(NwD.new h).p;have hd:bH (bv (r::rs))=0/\aK (bv (r::rs))=r::rs:=by
    have e:=kU (r::rs) (List.all_eq_true.2 hv);have hok:dD (bv (r::rs))=true:=by unfold dD;rw[e];simp
    refine⟨fH.2 hok,?_⟩;unfold aK;rw[if_pos hok,e,List.map_map]
    conv=>rhs;rw[<- List.map_id (r::rs)]
    rfl
   obtain⟨d1,d2⟩:=hd;have hen:=fun n=>Qn h d1 n
   rw[d2] at hen;have hne:=hw.en (r::rs);have hne:∀n∈enL (List.map stD (aM l)) (r::rs) 0 0,1<=n/\n<=((r::rs).length:Int):=hne;have hsr:=JR (List.map stD (aM l)) (r::rs) 0 0;have hlen:0<(bv (r::rs)).length:=by
    rcases Nat.eq_zero_or_pos (bv (r::rs)).length with h0 | h0
    .rw[zT h0] at d2;cases d2
    .exact h0
   have hvd:∀n,∀x∈(r::rs).drop n,Utf8.valid x=true:=fun n x hx=>hv x (List.mem_of_mem_drop hx)
   have hvt:∀n,∀x∈(r::rs).take n,Utf8.valid x=true:=fun n x hx=>hv x (List.mem_of_mem_take hx)
   have hih:∀n:Nat,1<=n->SpR l ((r::rs).drop n):=fun n hn=>Ye h m _ (by rw[List.length_drop];simp only[zM] at hm ⊢;omega) (by rw[List.length_drop];omega) (hvd n)
   have htab:∀n:Nat,1<=n->n<=(r::rs).length->(bsT l ((bv (r::rs)).drop 1)).getD ((bv ((r::rs).take n)).length-1) none=(bsT l (bv ((r::rs).drop n))).getD 0 none:=fun n h1 h2=>by
    have e:=wS (r::rs) n;have hpos:1<=(bv ((r::rs).take n)).length:=by
     rcases Nat.eq_zero_or_pos (bv ((r::rs).take n)).length with h0 | h0
     .have e0:=zT h0;have e1:=kU ((r::rs).take n) (List.all_eq_true.2 (hvt n));rw[e0] at e1;have e2:=congrArg List.length e1;rw[zR,zP] at e2;have e3:(runes []).length=0:=rfl;rw[e3] at e2;simp only[zM] at h2 e2;omega
     .exact h0
    have hle:(bv ((r::rs).take n)).length<=(bv (r::rs)).length:=by
     have:=congrArg List.length e;rw[zL] at this;omega
    have h3:=iI l (bv (r::rs)) (j:=1) (k:=(bv ((r::rs).take n)).length-1) (by omega);have h4:=iI l (bv (r::rs)) (j:=(bv ((r::rs).take n)).length) (k:=0) hle;rw[show 1+((bv ((r::rs).take n)).length-1)=(bv ((r::rs).take n)).length by omega] at h3;rw[Nat.add_zero] at h4;have h5:(bv (r::rs)).drop (bv ((r::rs).take n)).length=bv ((r::rs).drop n):=by
     conv=>lhs;rw[e]
     exact List.drop_left
    rw[h3,<- h4,h5]
   have hK:∀n:Int,1<=n->n<=((r::rs).length:Int)->kW (spT (List.map stD (aM l)) rs) n=((spT (List.map stD (aM l)) ((r::rs).drop n.toNat)).getD 0 (0,0)).1+1:=fun n h1 h2=>by
    unfold kW;have h3:=kg (List.map stD (aM l)) (r::rs) (j:=n.toNat) (k:=0) (by omega);rw[h3,Nat.add_zero];obtain⟨q,hq⟩:∃q,n.toNat=q+1:=⟨n.toNat-1,by omega⟩;rw[hq];rfl
   have hT:(spT (List.map stD (aM l)) (r::rs)).getD 0 (0,0)=spB (spT (List.map stD (aM l)) rs) (enL (List.map stD (aM l)) (r::rs) 0 0).reverse (65,0):=rfl;have hB:(bsT l (bv (r::rs))).getD 0 none=l.foldl (bsS (bsT l ((bv (r::rs)).drop 1)) (bv (r::rs))) none:=Dt l hlen;obtain⟨f1,f2⟩:=oh (tb:=bsT l ((bv (r::rs)).drop 1)) (t:=bv (r::rs)) l none (fun q hq=>by cases hq);have hcd:∀w∈l,∀q,cdW (bsT l ((bv (r::rs)).drop 1)) (bv (r::rs)) w=some q->∃n:Int,n∈enL (List.map stD (aM l)) (r::rs) 0 0/\∃x,(bsT l (bv ((r::rs).drop n.toNat))).getD 0 none=some x/\q=bv ((r::rs).take n.toNat)::x:=fun w hw q hq=>by
    unfold cdW at hq;split at hq
    .rename_i hp;obtain⟨x,hx,rfl⟩:=zD.1 hq;obtain⟨z,hz⟩:=(yI d1 (hN.dec w hw)).1 hp;rw[d2] at hz;have hl1:(aK w.1).length<=(r::rs).length:=by rw[hz,zL];omega
     have ht:(r::rs).take (aK w.1).length=aK w.1:=by rw[hz,List.take_left]
     have hwe:w.1=bv ((r::rs).take (aK w.1).length):=by rw[ht,ku (hN.dec w hw)]
     refine⟨((aK w.1).length:Int),(hen _).2 ⟨by omega,by rw[Int.toNat_natCast];exact hl1,w,hw,by rw[Int.toNat_natCast];exact hwe,hp⟩,x,?_,?_⟩
     .rw[Int.toNat_natCast,<- htab _ (hN.one w hw) hl1,<- hwe];exact hx
     .rw[Int.toNat_natCast,<- hwe]
    .cases hq
   have hdc:∀n∈enL (List.map stD (aM l)) (r::rs) 0 0,∀x,(bsT l (bv ((r::rs).drop n.toNat))).getD 0 none=some x->∃w∈l,cdW (bsT l ((bv (r::rs)).drop 1)) (bv (r::rs)) w=some (bv ((r::rs).take n.toNat)::x):=fun n hn x hx=>by
    obtain⟨h0,h1,w,hw,e,hp⟩:=(hen n).1 hn;have hb:=hne n hn;refine⟨w,hw,?_⟩;unfold cdW;rw[if_pos hp,e,htab n.toNat (by omega) (by omega),hx];rfl
   have hval:∀n∈enL (List.map stD (aM l)) (r::rs) 0 0,(∀x,(bsT l (bv ((r::rs).drop n.toNat))).getD 0 none=some x->kW (spT (List.map stD (aM l)) rs) n=(x.length:Int)+1/\x.length+n.toNat<=(r::rs).length)/\((bsT l (bv ((r::rs).drop n.toNat))).getD 0 none=none->kW (spT (List.map stD (aM l)) rs) n=66):=fun n hn=>by
    have hb:=hne n hn;have hi:=hih n.toNat (by omega);unfold SpR at hi;rw[hK n hb.1 hb.2];refine⟨fun x hx=>?_,fun hx=>?_⟩
    .rw[hx] at hi;obtain⟨i1,i2,_⟩:=hi;rw[List.length_drop] at i2;exact⟨by rw[i1],by omega⟩
    .rw[hx] at hi;have hi:((spT (List.map stD (aM l)) ((r::rs).drop n.toNat)).getD 0 (0,0)).1=65:=hi;rw[hi];rfl
   rcases sQ (spT (List.map stD (aM l)) rs) (enL (List.map stD (aM l)) (r::rs) 0 0).reverse (65,0) (List.pairwise_reverse.2 hsr) with ⟨g1,g2⟩ | ⟨n,g1,g2,g3,g4⟩
   .
    have hno:(bsT l (bv (r::rs))).getD 0 none=none:=by
     rw[hB];cases hf:l.foldl (bsS (bsT l ((bv (r::rs)).drop 1)) (bv (r::rs))) none with
     |none=>rfl
     | some q'=>
       exfalso;obtain⟨_,a2,_,_⟩:=f1 q' hf;rcases a2 with a2 | ⟨w,w1,w2⟩
       .cases a2
       .obtain⟨n,n1,x,x1,x2⟩:=hcd w w1 q' w2;have h1:=g2 n (List.mem_reverse.2 n1);obtain⟨v1,v2⟩:=(hval n n1).1 x x1;have hb:=hne n n1;dsimp only at h1;omega
    unfold SpR;rw[hno];show ((spT (List.map stD (aM l)) (r::rs)).getD 0 (0,0)).1=65;rw[hT,g1]
   .have hn:=List.mem_reverse.1 g1;have hb:=hne n hn;dsimp only at g3;obtain⟨v1,v2⟩:=hval n hn;cases hx:(bsT l (bv ((r::rs).drop n.toNat))).getD 0 none with
    |none=>have:=v2 hx;omega
    | some x=>
      obtain⟨k1,k2⟩:=v1 x hx;obtain⟨w,hw1,hw2⟩:=hdc n hn x hx;have hres:(bsT l (bv (r::rs))).getD 0 none=some (bv ((r::rs).take n.toNat)::x):=by
       rw[hB];cases hf:l.foldl (bsS (bsT l ((bv (r::rs)).drop 1)) (bv (r::rs))) none with
       |none=>have:=(f2 hf).2 w hw1;rw[hw2] at this;cases this
       | some q'=>
         obtain⟨a1,a2,_,a4⟩:=f1 q' hf;have hle:=a4 w hw1 _ hw2;rcases a2 with a2 | ⟨u,u1,u2⟩
         .cases a2
         .obtain⟨n',n1,y,y1,y2⟩:=hcd u u1 q' u2;have hb':=hne n' n1;obtain⟨w1',w2'⟩:=(hval n' n1).1 y y1;have g5:=g4 n' (List.mem_reverse.2 n1);have hcmp:(bv ((r::rs).take n'.toNat)).length<=(bv ((r::rs).take n.toNat)).length\/n<n':=by
           rcases Int.lt_or_le n n' with h1 | h1
           .exact .inr h1
           .left
            have e:=wS ((r::rs).take n.toNat) n'.toNat;rw[List.take_take,Nat.min_eq_left (by omega)] at e;rw[e,zL];omega
          congr 1
          refine a1.same (Ns hw2).1 ?_;subst y2;have hle:(y.length+1<x.length+1)\/(y.length+1=x.length+1/\(bv ((r::rs).take n.toNat)).length<=(bv ((r::rs).take n'.toNat)).length):=hle;show (bv ((r::rs).take n'.toNat)).length=(bv ((r::rs).take n.toNat)).length;omega
      unfold SpR;rw[hres];show ((spT (List.map stD (aM l)) (r::rs)).getD 0 (0,0)).1=((x.length+1:Nat):Int)/\x.length+1<=(r::rs).length/\_;rw[hT,g2];refine⟨by show kW _ n=_;rw[k1];push_cast;rfl,by omega,fun k hk=>?_⟩;obtain⟨k',rfl⟩:∃k',k=k'+1:=⟨k-1,by omega⟩;have hgd:((spT (List.map stD (aM l)) (r::rs)).getD 0 (0,0)).2=n:=by rw[hT,g2]
      have e1:spW (spT (List.map stD (aM l)) (r::rs)) (r::rs) (k'+1) 0=if 0<(r::rs).length then iJ (((r::rs).drop 0).take ((spT (List.map stD (aM l)) (r::rs)).getD 0 (0,0)).2.toNat)::spW (spT (List.map stD (aM l)) (r::rs)) (r::rs) k' (0+((spT (List.map stD (aM l)) (r::rs)).getD 0 (0,0)).2.toNat) else []:=rfl
      rw[e1,hgd,if_pos (by simp),List.drop_zero,JZ (hvt _),Nat.zero_add];have hi:=hih n.toNat (by omega);unfold SpR at hi;rw[hx] at hi;have hsh:=vR (List.map stD (aM l)) (r::rs) (a:=n.toNat) (by omega) k' 0;rw[Nat.add_zero] at hsh;rw[hsh,hi.2.2 k' (by rw[List.length_drop];omega)]
theorem Zd {l:List Wd}(h:isE l=0) (s:List UInt8):spE (List.map stD (aM l)) s=biE l s:=by
 unfold spE biE;by_cases ht:tkE s=0
 .rw[if_pos ht,if_pos ht];obtain⟨t1,t2,t3⟩:=tu ht;rw[t3];have hr:=Ye h _ (aK s) (zJ _) t2 (kD t1);unfold SpR at hr;rw[ku t1] at hr;cases hx:(bsT l s).getD 0 none with
  | none=>
    rw[hx] at hr;have hr:((spT (List.map stD (aM l)) (aK s)).getD 0 (0,0)).1=65:=hr;rw[hr,if_pos (by decide)]
  | some r=>
    rw[hx] at hr;obtain⟨r1,r2,r3⟩:=hr;rw[r1,if_neg (by omega),r3 _ (zJ _)]
 .rw[if_neg ht,if_neg ht]
end Go.EA
end
section
namespace Go.EA
def yT (l:List Wd) (t:List UInt8):Option TX:=(bsT l t).getD 0 none
theorem Mw (l:List Wd) {t:List UInt8}{n:Nat}(h1:1<=n) (h2:n<=t.length):(bsT l (t.drop 1)).getD (n-1) none=yT l (t.drop n):=by
 have h3:=iI l t (j:=1) (k:=n-1) (by omega);have h4:=iI l t (j:=n) (k:=0) h2;rw[show 1+(n-1)=n by omega] at h3;rw[Nat.add_zero] at h4;rw[h3,<- h4];rfl
theorem Fu {l:List Wd}{t:List UInt8}(h:t≠[]) :
 (∀q',yT l t=some q'->(∃w∈l,cdW (bsT l (t.drop 1)) t w=some q')/\∀w∈l,∀q,cdW (bsT l (t.drop 1)) t w=some q->LeQ q' q)/\(yT l t=none->∀w∈l,cdW (bsT l (t.drop 1)) t w=none):=by
 have hB:yT l t=l.foldl (bsS (bsT l (t.drop 1)) t) none:=Dt l (List.length_pos_iff.2 h);obtain⟨f1,f2⟩:=oh (tb:=bsT l (t.drop 1)) (t:=t) l none (fun q hq=>by cases hq);rw[hB];refine⟨fun q' hq=>?_,fun hq=>(f2 hq).2⟩;obtain⟨a1,a2,a3,a4⟩:=f1 q' hq;rcases a2 with a2 | a2
 .cases a2
 .exact⟨a2,a4⟩
theorem Kr {t x:List UInt8}(h:preB t x=true):t=x++t.drop x.length:=by
 have h:=of_decide_eq_true h
 conv=>lhs;rw[<- List.take_append_drop x.length t,h.2]
theorem jP {l:List Wd}(hne:∀w∈l,w.1≠[]):∀(m:Nat) (t:List UInt8),t.length<=m->∀r,yT l t=some r->r.flatten=t/\∀x∈r,∃w∈l,w.1=x
 |m,[],_,r,h=>by cases h;exact⟨rfl,fun x hx=>by cases hx⟩
 |0,c::t,hm,_,_=>by simp at hm
 | m+1,c::t,hm,r,h=>by
   obtain⟨⟨w,hw,hc⟩,_⟩:=(Fu (by simp)).1 r h;unfold cdW at hc;split at hc
   .rename_i hp;obtain⟨r',h1,rfl⟩:=zD.1 hc;have hpos:1<=w.1.length:=List.length_pos_iff.2 (hne w hw);have hle:=(of_decide_eq_true hp).1;rw[Mw l hpos hle] at h1;obtain⟨i1,i2⟩:=jP hne m ((c::t).drop w.1.length) (by rw[List.length_drop];simp only[zM] at hm ⊢;omega) r' h1;refine⟨?_,fun x hx=>?_⟩
    .rw[List.flatten_cons,i1];exact(Kr hp).symm
    .rcases List.mem_cons.1 hx with rfl | hx
     .exact⟨w,hw,rfl⟩
     .exact i2 x hx
   .cases hc
theorem DX {l:List Wd}(hne:∀w∈l,w.1≠[]):∀(q:TX),(∀x∈q,∃w∈l,w.1=x)->∃r,yT l q.flatten=some r/\r.length<=q.length
 |[],_=>⟨[],rfl,zJ _⟩
 | x::q,h=>by
   obtain⟨w,hw,rfl⟩:=h x (by simp);obtain⟨r,h1,h2⟩:=DX hne q fun y hy=>h y (by simp[hy])
   have hpos:1<=w.1.length:=List.length_pos_iff.2 (hne w hw);have hfl:(w.1::q).flatten=w.1++q.flatten:=List.flatten_cons;rw[hfl];have htne:w.1++q.flatten≠[]:=by
    intro e;exact hne w hw (List.append_eq_nil_iff.1 e).1
   have hc:cdW (bsT l ((w.1++q.flatten).drop 1)) (w.1++q.flatten) w=some (w.1::r):=by
    unfold cdW;rw[if_pos (show preB (w.1++q.flatten) w.1=true from decide_eq_true ⟨by rw[zL];omega,List.take_left⟩),Mw l hpos (by rw[zL];omega),List.drop_left,h1];rfl
   obtain⟨b1,b2⟩:=Fu (l:=l) htne;cases hy:yT l (w.1++q.flatten) with
   |none=>have:=b2 hy w hw;rw[hc] at this;cases this
   | some q'=>
     have:=(b1 q' hy).2 w hw _ hc;refine⟨q',rfl,?_⟩;unfold LeQ at this;simp only[zM] at this ⊢;omega
theorem Gq {l:List Wd}(h:isE l=0):∀w∈l,w.1≠[]:=fun w hw e=>by
 have:=(nml h).one w hw;rw[e] at this;cases this
theorem FL {l:List Wd}{s:List UInt8}(h:(biE l s).2=0):tkE s=0/\yT l s=some (biE l s).1:=by
 unfold biE at h ⊢;by_cases ht:tkE s=0
 .rw[if_pos ht] at h ⊢;refine⟨ht,?_⟩;unfold yT;cases hq:(bsT l s).getD 0 none with
  |none=>rw[hq] at h;cases h
  |some r=>rfl
 .rw[if_neg ht] at h;exact absurd h ht
theorem Uy {l:List Wd}{s:List UInt8}(ht:tkE s=0) {r:TX}(h:yT l s=some r):biE l s=(r,0):=by
 unfold biE;rw[if_pos ht];unfold yT at h;rw[h]
theorem Iz (r:TX):Lib.join r []=r.flatten:=by
 unfold Lib.join
 induction r with
 |nil=>rfl
 | cons x r ih=>
   cases r with
   |nil=>simp[List.intercalate]
   | cons y r=>
     rw[List.flatten_cons,<- ih];simp[List.intercalate,List.intersperse]
theorem Rz {l:List Wd}(h:isE l=0) {w:Wd}(hw:w∈l):biE l w.1=([w.1],0):=by
 refine Uy (Sa h hw) ?_;have hne:=Gq h;obtain⟨r,h1,h2⟩:=DX hne [w.1] fun x hx=>⟨w,hw,(List.mem_singleton.1 hx).symm⟩
 rw[show [w.1].flatten=w.1 by simp] at h1;obtain⟨p1,p2⟩:=jP hne _ w.1 (zJ _) r h1;rw[h1];cases r with
 |nil=>exact absurd p1.symm (hne w hw)
 | cons x r=>
   cases r with
   |nil=>rw[show [x].flatten=x by simp] at p1;rw[p1]
   |cons y r=>simp at h2
structure aad (l:List Wd) (s:List UInt8):Prop where
 j:(biE l s).2=0->Lib.join (biE l s).1 []=s
 w:(biE l s).2=0->∀x∈(biE l s).1,mf l x=0
 n:(biE l s).1.length<=s.length
theorem Hl {l:List Wd}(h:isE l=0) (s:List UInt8):aad l s:=by
 refine⟨fun h0=>?_,fun h0 x hx=>?_,?_⟩
 .obtain⟨_,h1⟩:=FL h0;rw[Iz];exact(jP (Gq h) _ s (zJ _) _ h1).1
 .obtain⟨_,h1⟩:=FL h0;exact(Nu h).2 ((jP (Gq h) _ s (zJ _) _ h1).2 x hx)
 .unfold biE;split
  .cases hq:(bsT l s).getD 0 none with
   |none=>exact Nat.zero_le _
   |some r=>exact EJ _ _ _ _ hq
  .exact Nat.zero_le _
theorem Qx {l:List Wd}(h:isE l=0) {s t:List UInt8}(hs:(biE l s).2=0) (ht:(biE l t).2=0) (hg:¬ (biE l (s++t)).2=5):(biE l (s++t)).2=0/\(biE l (s++t)).1.length<=(biE l s).1.length+(biE l t).1.length:=by
 obtain⟨s1,s2⟩:=FL hs;obtain⟨t1,t2⟩:=FL ht;have hne:=Gq h;obtain⟨p1,p2⟩:=jP hne _ s (zJ _) _ s2;obtain⟨q1,q2⟩:=jP hne _ t (zJ _) _ t2;obtain⟨r,h1,h2⟩:=DX hne ((biE l s).1++(biE l t).1) fun x hx=>(zX.1 hx).elim (p2 x) (q2 x)
 rw[List.flatten_append,p1,q1] at h1;rw[zL] at h2;have hd:=(BQ s t (tu s1).1 (tu t1).1).1;have htk:tkE (s++t)=0:=by
  by_cases h64:64<(aK (s++t)).length
  .exfalso;have e:tkE (s++t)=5:=by unfold tkE;rw[if_pos hd,if_pos h64]
   apply hg
   unfold biE;rw[if_neg (by rw[e];decide)];exact e
  .unfold tkE;rw[if_pos hd,if_neg h64]
 rw[Uy htk h1];exact⟨rfl,h2⟩
end Go.EA
end
