/- Texts. Conditions: none. -/
import Derived.Test.YtgkhohpekfjlmaaDoorEK33
import Derived.Test.YtgkhohpekfjlmaaDoorELx1
set_option linter.unusedVariables false
set_option linter.unusedSimpArgs false
section
namespace Go.EA
def wdA (d0:List StD) (d2:List Int):List Wd:=(List.range d2.length).map fun(i:Nat)=>(VS d0 (i:Int),d2.getD i 0)
def NwD (d0:List StD) (d2:List Int):Prop:=∃l,isE l=0/\d0=List.map stD (aY l)/\d2=l.map (·.2)
theorem Rn {α β:Type}(f:α->β) {l:List α}{i:Nat}{d:α}{d':β}(h:i<l.length):(l.map f).getD i d'=f (l.getD i d):=by
 rw[zA,zA,List.getElem?_map,zB h];rfl
theorem oD {l:List Wd}(h:isE l=0):wdA (List.map stD (aY l)) (l.map (·.2))=l:=by
 unfold wdA;refine List.ext_getElem (by simp) fun i h1 h2=>?_
 rw[List.getElem_map,List.getElem_range,SA h h2,Rn (d:=([],0)) _ h2,zA,zB h2]
 rfl
theorem NwD.new {l:List Wd}(h:isE l=0):NwD (fH l).1 (fH l).2.2:=⟨l,h,rfl,rfl⟩
structure NwP (d0:List StD) (d2:List Int):Prop where
 e:isE (wdA d0 d2)=0
 st:d0=List.map stD (aY (wdA d0 d2))
 fr:d2=(wdA d0 d2).map (·.2)
 ok:kz d0
 s:DwS d0
 ct:(d2.length:Int)=(stA d0 0).2.2
 len:(wdA d0 d2).length=d2.length
 few:d2.length<=65536
theorem NwD.p {d0:List StD}{d2:List Int}(h:NwD d0 d2):NwP d0 d2:=by
 obtain⟨l,h1,rfl,rfl⟩:=h;have hS:=sts h1;have hT:=(nml h1).tot;have hl:=(nml h1).len;refine⟨by rw[oD h1];exact h1,by rw[oD h1],by rw[oD h1],hS.ok hT,⟨_,_,hS,hT,rfl⟩,?_,by rw[oD h1,zR],by rw[zR];exact hl⟩;rw[zR,eP hS.pos];show _=((rAt (aY l) 0).1.length:Int);rw[hS.root,wY]
def tkE (s:List UInt8):Int:=if bG s=0 then (if 64<(aJ s).length then 5 else 0) else bG s
def tkL (s:List UInt8):List Int:=if tkE s=0 then aJ s else []
theorem Ba (s:List UInt8):bG s=0\/bG s=3/\aJ s=[]:=by
 unfold bG aJ;split
 .exact .inl rfl
 .exact .inr ⟨rfl,rfl⟩
theorem EI {s:List UInt8}(h:tkE s=0):bG s=0/\(aJ s).length<=64/\tkL s=aJ s:=by
 have e:tkL s=aJ s:=by unfold tkL;rw[if_pos h]
 unfold tkE at h;split at h
 .rename_i h0;split at h
  .cases h
  .rename_i h1;exact⟨h0,by omega,e⟩
 .rename_i h0;exact absurd h h0
theorem Qw {s:List UInt8}(h0:bG s=0) (h:¬ 64<((aJ s).length:Int)):aJ s=tkL s/\bG s=tkE s:=by
 have e:tkE s=0:=by unfold tkE;rw[if_pos h0,if_neg (by omega)]
 exact⟨by unfold tkL;rw[if_pos e],by rw[e,h0]⟩
theorem Ae {s:List UInt8}(h0:bG s=0) (h:64<((aJ s).length:Int)):([]:List Int)=tkL s/\5=tkE s:=by
 have e:tkE s=5:=by unfold tkE;rw[if_pos h0,if_pos (by omega)]
 exact⟨by unfold tkL;rw[e];rfl,e.symm⟩
theorem Re {s:List UInt8}(h0:¬ bG s=0):aJ s=tkL s/\bG s=tkE s:=by
 have e:tkE s=bG s:=by unfold tkE;rw[if_neg h0]
 refine⟨?_,e.symm⟩;unfold tkL;rw[e,if_neg h0];rcases Ba s with h | h
 .exact absurd h h0
 .exact h.2
def enL (S:List StD):List Int->Int->Int->List Int
 |[],i,n=>if (stA S i.toNat).2.1=true then [n] else []
 |r::rs,i,n=>(if (stA S i.toNat).2.1=true then [n] else [])++(if dz (stA S i.toNat).1 r=true then enL S rs (gJ (stA S i.toNat).1 r) (n+1) else [])
theorem tQ (S:List StD):∀(l:List Int) (i n:Int),∀m∈enL S l i n,n<=m/\m<=n+l.length
 | [],i,n,m,h=>by
   unfold enL at h;split at h
   .have:=List.mem_singleton.1 h;subst this;simp
   .cases h
 | r::rs,i,n,m,h=>by
   unfold enL at h;rcases zX.1 h with h | h
   .split at h
    .have:=List.mem_singleton.1 h;subst this;simp;omega
    .cases h
   .split at h
    .have:=tQ S rs _ _ m h;simp only[zM];push_cast;omega
    .cases h
theorem xW (S:List StD):∀(l:List Int) (i n:Int),(enL S l i n).length<=l.length+1
 | [],i,n=>by
   unfold enL;split <;> simp
 | r::rs,i,n=>by
   unfold enL;rw[zL];have h1:(if (stA S i.toNat).2.1=true then [n] else []).length<=1:=by split <;> simp
   have h2:(if dz (stA S i.toNat).1 r=true then enL S rs (gJ (stA S i.toNat).1 r) (n+1) else []).length<=rs.length+1:=by
    split
    .exact xW S rs _ _
    .simp
   simp only[zM];omega
def loE (S:List StD) (s:List UInt8):List UInt8×Int:=if tkE s=0 then (if (enL S (tkL s) 0 0).length=0 then ([],10) else (jQ ((tkL s).take ((enL S (tkL s) 0 0).getD ((enL S (tkL s) 0 0).length-1) 0).toNat),0)) else ([],tkE s)
end Go.EA
end
section
namespace Go.EA
abbrev FF:=List (Int×Int)
def spB (t:FF):List Int->Int×Int->Int×Int
 |[],p=>p
 |n::ns,p=>spB t ns (if (t.getD (n.toNat-1) (0,0)).1+1<p.1 then ((t.getD (n.toNat-1) (0,0)).1+1,n) else p)
def spT (S:List StD):List Int->FF
 |[]=>[(0,0)]
 |r::rs=>spB (spT S rs) (enL S (r::rs) 0 0).reverse (65,0)::spT S rs
def spW (Z:FF) (l:List Int):Nat->Nat->List (List UInt8)
 |0,_=>[]
 |k+1,a=>if a<l.length then jQ ((l.drop a).take (Z.getD a (0,0)).2.toNat)::spW Z l k (a+(Z.getD a (0,0)).2.toNat) else []
def spE (S:List StD) (s:List UInt8):List (List UInt8)×Int:=if tkE s=0 then (if 64<((spT S (tkL s)).getD 0 (0,0)).1 then ([],10) else (spW (spT S (tkL s)) (tkL s) ((tkL s).length+1) 0,0)) else ([],tkE s)
theorem Ad (S:List StD):∀(l:List Int) (j:Nat),j<=l.length->(spT S l).drop j=spT S (l.drop j)
 |l,0,_=>rfl
 |[],j+1,h=>by simp at h
 | r::rs,j+1,h=>by
   simp only[zM] at h;show (spT S (r::rs)).drop (j+1)=spT S (rs.drop j);have e:spT S (r::rs)=spB (spT S rs) (enL S (r::rs) 0 0).reverse (65,0)::spT S rs:=rfl;rw[e,List.drop_succ_cons,Ad S rs j (by omega)]
theorem oQ (S:List StD) (l:List Int) {j k:Nat}(h:j<=l.length):(spT S (l.drop j)).getD k (0,0)=(spT S l).getD (j+k) (0,0):=by
 rw[<- Ad S l j h,zA,zA,List.getElem?_drop]
theorem NQ (S:List StD) {l:List Int}{j:Nat}(h:j<l.length):(spT S l).getD j (0,0)=spB (spT S (l.drop (j+1))) (enL S (l.drop j) 0 0).reverse (65,0):=by
 have h1:=oQ S l (j:=j) (k:=0) (by omega);rw[Nat.add_zero] at h1;rw[<- h1,gq h];rfl
theorem QG (S:List StD) (l:List Int):(spT S l).getD l.length (0,0)=(0,0):=by
 have h1:=oQ S l (j:=l.length) (k:=0) (zJ _);rw[Nat.add_zero] at h1;rw[<- h1,List.drop_length];rfl
theorem ED {t:FF}(ht:∀i,0<=(t.getD i (0,0)).1):∀(ns:List Int) (p:Int×Int),0<=p.1->0<=(spB t ns p).1/\(spB t ns p).1<=p.1
 |[],p,h=>⟨h,Int.le_refl _⟩
 | n::ns,p,h=>by
   unfold spB;have h1:=ht (n.toNat-1);split
   .have:=ED ht ns ((t.getD (n.toNat-1) (0,0)).1+1,n) (by dsimp only;omega);dsimp only at this;omega
   .exact ED ht ns p h
theorem wZ (S:List StD):∀(l:List Int) (i:Nat),0<=((spT S l).getD i (0,0)).1/\((spT S l).getD i (0,0)).1<=65
 |[],0=>by show 0<=(0:Int)/\(0:Int)<=65;decide
 |[],i+1=>by show 0<=(0:Int)/\(0:Int)<=65;decide
 | r::rs,0=>by
   have:=ED (t:=spT S rs) (fun i=>(wZ S rs i).1) (enL S (r::rs) 0 0).reverse (65,0) (by decide);exact this
 |r::rs,i+1=>wZ S rs i
theorem Dk {t:FF}:∀(ns:List Int) (p:Int×Int),spB t ns p=p\/∃n∈ns,spB t ns p=((t.getD (n.toNat-1) (0,0)).1+1,n)
 |[],p=>.inl rfl
 | n::ns,p=>by
   unfold spB;split
   .rcases Dk ns ((t.getD (n.toNat-1) (0,0)).1+1,n) with h | ⟨m,h1,h2⟩
    .exact .inr ⟨n,by simp,h⟩
    .exact .inr ⟨m,by simp[h1],h2⟩
   .rcases Dk ns p with h | ⟨m,h1,h2⟩
    .exact .inl h
    .exact .inr ⟨m,by simp[h1],h2⟩
theorem NwP.root {d0:List StD}{d2:List Int}(h:NwP d0 d2):(stA d0 0).2.1=false:=by
 have hS:=sts h.e;have hN:=nml h.e;rw[h.st,eP hS.pos];show (rAt (aY (wdA d0 d2)) 0).2.1=false;rw[(hS.g _ (hS.mem hS.pos)).ends,hS.root];cases he:aH (wdR (wdA d0 d2)) with
 |false=>rfl
 | true=>
   obtain⟨w,hw,e⟩:=wW.1 (eO.1 he);have:=hN.one w hw;rw[e] at this;cases this
theorem NwP.en {d0:List StD}{d2:List Int}(h:NwP d0 d2) (l:List Int):∀n∈enL d0 l 0 0,1<=n/\n<=l.length:=by
 intro n hn;have h1:=tQ d0 l 0 0 n hn;refine⟨?_,by omega⟩;have hr:(stA d0 ((0:Int)).toNat).2.1=false:=h.root;cases l with
 | nil=>
   unfold enL at hn;rw[hr,if_neg (by decide)] at hn;cases hn
 | cons r rs=>
   unfold enL at hn;rw[hr,if_neg (by decide),List.nil_append] at hn;split at hn
   .exact(tQ d0 rs _ _ n hn).1
   .cases hn
theorem NwP.first {d0:List StD}{d2:List Int}(h:NwP d0 d2) {l:List Int}{j:Nat}(hj:j<l.length) (hf:((spT d0 l).getD j (0,0)).1<=64) :
 1<=((spT d0 l).getD j (0,0)).2/\j+((spT d0 l).getD j (0,0)).2.toNat<=l.length/\((spT d0 l).getD j (0,0)).2∈enL d0 (l.drop j) 0 0/\((spT d0 l).getD j (0,0)).1=((spT d0 l).getD (j+((spT d0 l).getD j (0,0)).2.toNat) (0,0)).1+1:=by
 have e:=NQ d0 hj;rcases Dk (t:=spT d0 (l.drop (j+1))) (enL d0 (l.drop j) 0 0).reverse (65,0) with h1 | ⟨n,h1,h2⟩
 .rw[e,h1] at hf;exact absurd hf (by decide)
 .have hn:=h.en _ n (List.mem_reverse.1 h1);rw[List.length_drop] at hn;rw[oQ d0 l (by omega),show j+1+(n.toNat-1)=j+n.toNat by omega] at h2;rw[e,h2];exact⟨hn.1,by dsimp only;omega,List.mem_reverse.1 h1,rfl⟩
structure SpI (S:List StD) (l:List Int) (x:Nat×List Int×List Int):Prop where
 le:x.1<=l.length
 lf:x.2.1.length=l.length+1
 lg:x.2.2.length=l.length+1
 at':∀j,x.1<=j->j<=l.length->x.2.1.getD j 0=((spT S l).getD j (0,0)).1/\x.2.2.getD j 0=((spT S l).getD j (0,0)).2
 zr:∀j,j<x.1->x.2.2.getD j 0=0
def SpJ (S:List StD) (l:List Int) (a:Int) (E:List Int) (x:Nat×Int×Int):Prop:=x.1<=E.length/\0<=x.2.1/\x.2.1<=65/\spB (spT S (l.drop (a.toNat+1))) E.reverse (65,0)=spB (spT S (l.drop (a.toNat+1))) (E.take x.1).reverse x.2
def SpO (S:List StD) (l:List Int) (x:Nat×Nat×List (List UInt8)):Prop:=x.2.1<=l.length/\l.length+1<=x.1+x.2.1/\x.2.2.length<=x.2.1/\((spT S l).getD x.2.1 (0,0)).1<=64/\spW (spT S l) l (l.length+1) 0=x.2.2++spW (spT S l) l x.1 x.2.1
theorem jg {l:List Int}{a:Nat}{p:Int}(h:a<l.length):(l.set a p).getD a 0=p:=by
 rw[zA,List.getElem?_set_self h];rfl
theorem fT {l:List Int}{a j:Nat}{p:Int}(h:a≠j):(l.set a p).getD j 0=l.getD j 0:=by
 rw[zA,zA,List.getElem?_set_ne h]
theorem vk {l:List Int}{a:Nat}:l.set a (l.getD a 0)=l:=by
 refine List.ext_getElem? fun j=>?_
 by_cases h:a=j
 .subst h;by_cases hl:a<l.length
  .rw[List.getElem?_set_self hl,zA,zB hl];rfl
  .rw[List.getElem?_eq_none (by rw[List.length_set];omega),List.getElem?_eq_none (by omega)]
 .rw[List.getElem?_set_ne h]
theorem SpI.start (S:List StD) (l:List Int):SpI S l (l.length,List.replicate (l.length+1) 0,List.replicate (l.length+1) 0):=by
 have hr:∀j,(List.replicate (l.length+1) (0:Int)).getD j 0=0:=fun j=>by
  rw[zA,List.getElem?_replicate];split <;> rfl
 refine⟨zJ _,List.length_replicate,List.length_replicate,fun j h1 h2=>?_,fun j _=>hr j⟩;have:j=l.length:=by dsimp only at h1;omega
 subst this;rw[QG];exact⟨hr _,hr _⟩
theorem SpJ.val {S:List StD}{l:List Int}{a:Nat}{F G:List Int}(h:SpI S l (a+1,F,G)) {n p:Int}(h1:1<=n) (h2:a+n.toNat<=l.length):(F.set a p).getD (a+n.toNat) 0=((spT S (l.drop (a+1))).getD (n.toNat-1) (0,0)).1:=by
 have h3:=(h.at' (a+n.toNat) (by dsimp only;omega) h2).1;dsimp only at h3;rw[fT (by omega),h3,oQ S l (by omega),show a+1+(n.toNat-1)=a+n.toNat by omega]
theorem SpJ.step {S:List StD}{l:List Int}{a b:Nat}{E:List Int}{p q:Int}(h:SpJ S l (a:Int) E (b+1,p,q)):SpJ S l (a:Int) E (b,if ((spT S (l.drop (a+1))).getD ((E.getD b 0).toNat-1) (0,0)).1+1<p then (((spT S (l.drop (a+1))).getD ((E.getD b 0).toNat-1) (0,0)).1+1,E.getD b 0) else (p,q)):=by
 obtain⟨h1,h2,h3,h4⟩:=h;dsimp only at h1 h2 h3 h4;rw[Int.toNat_natCast] at h4;have hv:=(wZ S (l.drop (a+1)) ((E.getD b 0).toNat-1)).1;refine⟨by dsimp only;omega,?_,?_,?_⟩
 .dsimp only; split <;> (dsimp only; omega)
 .dsimp only; split <;> (dsimp only; omega)
 .dsimp only;rw[Int.toNat_natCast,h4,bD 0 (by omega),List.reverse_append]
  rfl
theorem SpJ.out {S:List StD}{l:List Int}{a:Nat}{F G:List Int}{p q:Int}(h:SpI S l (a+1,F,G)) (hj:SpJ S l (a:Int) (enL S (l.drop a) 0 0) (0,p,q)):SpI S l (a,F.set a p,G.set a q):=by
 have hle:=h.le;dsimp only at hle;have hlf:=h.lf;have hlg:=h.lg;dsimp only at hlf hlg;have e:(spT S l).getD a (0,0)=(p,q):=by
  rw[NQ S (by omega)];have:=hj.2.2.2;rw[Int.toNat_natCast] at this;exact this
 refine⟨by dsimp only;omega,by rw[List.length_set];exact hlf,by rw[List.length_set];exact hlg,fun j h1 h2=>?_,fun j h1=>?_⟩
 .dsimp only at h1 ⊢;by_cases h3:a=j
  .subst h3;rw[jg (by omega),jg (by omega),e];exact⟨rfl,rfl⟩
  .rw[fT h3,fT h3];exact h.at' j (by dsimp only;omega) h2
 .dsimp only at h1 ⊢;rw[fT (by omega)];exact h.zr j (by dsimp only;omega)
theorem SpO.next {d0:List StD}{d2:List Int}(hw:NwP d0 d2) {l:List Int}{F G:List Int}(h:SpI d0 l (0,F,G)) {k a:Nat}{o:List (List UInt8)}(hO:SpO d0 l (k+1,a,o)) (ha:a<l.length) :
 1<=G.getD a 0/\a+(G.getD a 0).toNat<=l.length/\SpO d0 l (k,a+(G.getD a 0).toNat,o++[jQ ((l.drop a).take (G.getD a 0).toNat)]):=by
 obtain⟨o1,o2,o3,o4,o5⟩:=hO;dsimp only at o1 o2 o3 o4 o5;have hg:=(h.at' a (Nat.zero_le _) (by omega)).2;dsimp only at hg;obtain⟨f1,f2,f3,f4⟩:=hw.first ha o4
 rw[hg];refine⟨f1,f2,f2,by dsimp only;omega,by dsimp only;rw[zL,zN];omega,by dsimp only;omega,?_⟩;dsimp only;rw[o5,zO]
 congr 1
 show (if a<l.length then jQ ((l.drop a).take ((spT d0 l).getD a (0,0)).2.toNat)::spW (spT d0 l) l k (a+((spT d0 l).getD a (0,0)).2.toNat) else [])=_;rw[if_pos ha];rfl
theorem SpO.end {S:List StD}{l:List Int}{k a:Nat}{o:List (List UInt8)}(h:SpO S l (k,a,o)) (ha:¬ a<l.length):spW (spT S l) l (l.length+1) 0=o:=by
 have h5:=h.2.2.2.2;dsimp only at h5;have e:spW (spT S l) l k a=[]:=by
  cases k with
  |zero=>rfl
  |succ k=>unfold spW;rw[if_neg ha]
 rw[h5,e,List.append_nil]
end Go.EA
end
section
namespace Go.EA
def CW (l:List Wd) (s:List UInt8):List UInt8:=l.foldl (fun o w=>if preB s w.1=true then (if o.length<w.1.length then w.1 else o) else o) []
def loR (l:List Wd) (s:List UInt8):List UInt8×Int:=if tkE s=0 then (if CW l s=[] then ([],10) else (CW l s,0)) else ([],tkE s)
end Go.EA
end
section
namespace Go.EA
theorem Dv {W:Rst}{all:List RSt}(hS:Sts W all):∀(rs:List Int) (i:Nat) (m n:Int),i<all.length->(n∈enL (all.map stD) rs i m↔∃k:Nat,k<=rs.length/\n=m+k/\rs.take k∈(rAt all i).1)
 | [],i,m,n,hi=>by
   have g:=hS.g _ (hS.mem hi);have e:enL (all.map stD) [] (i:Int) m=if (stA (all.map stD) (i:Int).toNat).2.1=true then [m] else []:=rfl
   rw[e,Int.toNat_natCast,eP hi];show n∈(if (rAt all i).2.1=true then [m] else [])↔_;rw[g.ends];constructor
   .intro h;split at h
    .rename_i he;exact⟨0,zJ _,by have:=List.mem_singleton.1 h;omega,eO.1 he⟩
    .cases h
   .rintro⟨k,h1,h2,h3⟩;have hk:k=0:=by simpa using h1
    subst hk;rw[if_pos (eO.2 h3)];exact List.mem_singleton.2 (by omega)
 | r::rs,i,m,n,hi=>by
   have g:=hS.g _ (hS.mem hi);have e:enL (all.map stD) (r::rs) (i:Int) m=(if (stA (all.map stD) (i:Int).toNat).2.1=true then [m] else [])++(if dz (stA (all.map stD) (i:Int).toNat).1 r=true then enL (all.map stD) rs (gJ (stA (all.map stD) (i:Int).toNat).1 r) (m+1) else []):=rfl;rw[e,Int.toNat_natCast,eP hi];show n∈(if (rAt all i).2.1=true then [m] else [])++(if dz (rAt all i).2.2 r=true then enL (all.map stD) rs (gJ (rAt all i).2.2 r) (m+1) else [])↔_;rw[g.ends,zX];constructor
   .rintro(h | h)
    .split at h
     .rename_i he;exact⟨0,Nat.zero_le _,by have:=List.mem_singleton.1 h;omega,eO.1 he⟩
     .cases h
    .split at h
     .rename_i hn;obtain⟨q,h1,h2,h3⟩:=g.to _ (og hn);dsimp only at h1 h3;rw[h1] at h;obtain⟨k,k1,k2,k3⟩:=(Dv hS rs q (m+1) n h2).1 h;rw[h3] at k3;exact⟨k+1,by simp;omega,by push_cast;omega,dJ.1 k3⟩
     .cases h
   .rintro⟨k,h1,h2,h3⟩;cases k with
    | zero=>
      left
      rw[if_pos (eO.2 h3)];exact List.mem_singleton.2 (by omega)
    | succ k=>
      right
      have h3:r::rs.take k∈(rAt all i).1:=h3;have hn:dz (rAt all i).2.2 r=true:=yJ.2 (by rw[g.hd];exact fB h3);obtain⟨q,g1,g2,g3⟩:=g.to _ (og hn);dsimp only at g1 g3;rw[if_pos hn,g1];exact(Dv hS rs q (m+1) n g2).2 ⟨k,by simpa using h1,by push_cast at h2;omega,by rw[g3];exact dJ.2 h3⟩
theorem Na (S:List StD):∀(l:List Int) (i n:Int),(enL S l i n).Pairwise (·<·)
 | [],i,n=>by
   unfold enL;split
   .exact List.pairwise_singleton ..
   .exact .nil
 | r::rs,i,n=>by
   unfold enL;refine List.pairwise_append.2 ⟨?_,?_,fun a ha b hb=>?_⟩
   .split
    .exact List.pairwise_singleton ..
    .exact .nil
   .split
    .exact Na S rs _ _
    .exact .nil
   .split at ha
    .have:=List.mem_singleton.1 ha;split at hb
     .have:=(tQ S rs _ _ b hb).1;omega
     .cases hb
    .cases ha
theorem oq (s:List UInt8):∀(l:List Wd) (o:List UInt8),(l.foldl (fun o w=>if preB s w.1=true then (if o.length<w.1.length then w.1 else o) else o) o=o\/∃w∈l,preB s w.1=true/\l.foldl (fun o w=>if preB s w.1=true then (if o.length<w.1.length then w.1 else o) else o) o=w.1)/\o.length<=(l.foldl (fun o w=>if preB s w.1=true then (if o.length<w.1.length then w.1 else o) else o) o).length/\∀w∈l,preB s w.1=true->w.1.length<=(l.foldl (fun o w=>if preB s w.1=true then (if o.length<w.1.length then w.1 else o) else o) o).length
 |[],o=>⟨.inl rfl,zJ _,fun w hw=>by cases hw⟩
 | x::l,o=>by
   rw[List.foldl_cons];by_cases h1:preB s x.1=true
   .rw[if_pos h1];by_cases h2:o.length<x.1.length
    .rw[if_pos h2];obtain⟨a1,a2,a3⟩:=oq s l x.1;refine⟨.inr ?_,by omega,fun w hw hp=>?_⟩
     .rcases a1 with a1 | ⟨w,w1,w2,w3⟩
      .exact⟨x,by simp,h1,a1⟩
      .exact⟨w,by simp[w1],w2,w3⟩
     .rcases List.mem_cons.1 hw with rfl | hw
      .exact a2
      .exact a3 w hw hp
    .rw[if_neg h2];obtain⟨a1,a2,a3⟩:=oq s l o;refine⟨?_,a2,fun w hw hp=>?_⟩
     .rcases a1 with a1 | ⟨w,w1,w2,w3⟩
      .exact .inl a1
      .exact .inr ⟨w,by simp[w1],w2,w3⟩
     .rcases List.mem_cons.1 hw with rfl | hw
      .omega
      .exact a3 w hw hp
   .rw[if_neg h1];obtain⟨a1,a2,a3⟩:=oq s l o;refine⟨?_,a2,fun w hw hp=>?_⟩
    .rcases a1 with a1 | ⟨w,w1,w2,w3⟩
     .exact .inl a1
     .exact .inr ⟨w,by simp[w1],w2,w3⟩
    .rcases List.mem_cons.1 hw with rfl | hw
     .exact absurd hp h1
     .exact a3 w hw hp
theorem pF (l:List Wd) (s:List UInt8):(CW l s=[]\/∃w∈l,preB s w.1=true/\CW l s=w.1)/\∀w∈l,preB s w.1=true->w.1.length<=(CW l s).length:=by
 obtain⟨a1,a2,a3⟩:=oq s l [];exact⟨a1,a3⟩
theorem ES {s a b:List UInt8}(ha:preB s a=true) (hb:preB s b=true) (h:a.length=b.length):a=b:=by
 have ha:=(of_decide_eq_true ha).2;have hb:=(of_decide_eq_true hb).2;rw[<- ha,<- hb,h]
theorem Bo {l:List Int}(h:l.Pairwise (·<·)) (hn:l.length≠0):l.getD (l.length-1) 0∈l/\∀x∈l,x<=l.getD (l.length-1) 0:=by
 refine⟨eH (by omega),fun x hx=>?_⟩;obtain⟨i,hi,e⟩:=List.getElem_of_mem hx;have e2:l.getD (l.length-1) 0=l[l.length-1]'(by omega):=by rw[zA,zB (by omega)];rfl
 rw[e2,<- e];by_cases h3:i=l.length-1
 .subst h3;exact Int.le_refl _
 .have:=List.pairwise_iff_getElem.1 h i (l.length-1) hi (by omega) (by omega);omega
theorem Ko {s:List UInt8}(h:bG s=0) (n:Nat):jQ ((aJ s).take n)=iD ((aJ s).take n):=
 (Fa (by
  rw[List.all_eq_true];intro r hr;exact kr h r (List.mem_of_mem_take hr))).1
theorem xh {l:List Wd}(h:isE l=0) {s:List UInt8}(hs:bG s=0) (n:Int):n∈enL (List.map stD (aY l)) (aJ s) 0 0↔0<=n/\n.toNat<=(aJ s).length/\∃w∈l,w.1=iD ((aJ s).take n.toNat)/\preB s w.1=true:=by
 have hS:=sts h;have hN:=nml h;have e:=Dv hS (aJ s) 0 0 n hS.pos;rw[hS.root] at e;have e:n∈enL (List.map stD (aY l)) (aJ s) 0 0↔∃k:Nat,k<=(aJ s).length/\n=0+(k:Int)/\(aJ s).take k∈wdR l:=e;rw[e];constructor
 .rintro⟨k,h1,h2,h3⟩;obtain⟨w,hw,e⟩:=wW.1 h3;have hk:n.toNat=k:=by omega
  rw[hk];refine⟨by omega,h1,w,hw,by rw[<- e,iV (hN.dec w hw)],(rE hs (hN.dec w hw)).2 ⟨(aJ s).drop k,by rw[e,List.take_append_drop]⟩⟩
 .rintro⟨h0,h1,w,hw,e,hp⟩;refine⟨n.toNat,h1,by omega,wW.2 ⟨w,hw,?_⟩⟩;obtain⟨z,hz⟩:=(rE hs (hN.dec w hw)).1 hp;have e2:iD (aJ w.1)=iD ((aJ s).take n.toNat):=by rw[iV (hN.dec w hw),e]
  have hv:∀t:List Int,(∀r∈t,Utf8.valid r=true)->(runes (iD t)).map (·.1)=t:=fun t ht=>by
   rw[uu t (List.all_eq_true.2 ht),List.map_map]
   conv=>rhs;rw[<- List.map_id t]
   rfl
  rw[<- hv (aJ w.1) (kr (hN.dec w hw)),<- hv ((aJ s).take n.toNat) (fun r hr=>kr hs r (List.mem_of_mem_take hr)),e2]
theorem TQ {l:List Wd}(h:isE l=0) (s:List UInt8):loE (List.map stD (aY l)) s=loR l s:=by
 unfold loE loR;by_cases ht:tkE s=0
 .rw[if_pos ht,if_pos ht];obtain⟨t1,t2,t3⟩:=EI ht;rw[t3];obtain⟨a1,a3⟩:=pF l s;have hN:=nml h;have hnw:∀w∈l,w.1≠[]:=fun w hw e=>by
   have:=hN.one w hw;rw[e] at this;cases this
  by_cases hn:(enL (List.map stD (aY l)) (aJ s) 0 0).length=0
  .rw[if_pos hn];have hz:enL (List.map stD (aY l)) (aJ s) 0 0=[]:=zT hn;rcases a1 with a1 | ⟨w,w1,w2,w3⟩
   .rw[if_pos a1]
   .exfalso;obtain⟨z,hz2⟩:=(rE t1 (hN.dec w w1)).1 w2;have hm:(((aJ w.1).length:Nat):Int)∈enL (List.map stD (aY l)) (aJ s) 0 0:=(xh h t1 _).2 ⟨by omega,by rw[Int.toNat_natCast,hz2,zL];omega,w,w1,by rw[Int.toNat_natCast,hz2,List.take_left,iV (hN.dec w w1)],w2⟩;rw[hz] at hm;cases hm
  .rw[if_neg hn];obtain⟨m1,m2⟩:=Bo (Na (List.map stD (aY l)) (aJ s) 0 0) hn;generalize (enL (List.map stD (aY l)) (aJ s) 0 0).getD ((enL (List.map stD (aY l)) (aJ s) 0 0).length-1) 0=n at m1 m2;obtain⟨n0,n1,w,hw,e,hp⟩:=(xh h t1 n).1 m1;rw[Ko t1,<- e];have hge:=a3 w hw hp;rcases a1 with a1 | ⟨x,x1,x2,x3⟩
   .exfalso;rw[a1] at hge;exact hnw w hw (zT (by simpa using hge))
   .rw[x3,if_neg (hnw x x1)];rw[x3] at hge;have hxw:w.1=x.1:=by
     obtain⟨z,hz2⟩:=(rE t1 (hN.dec x x1)).1 x2;have hm:(((aJ x.1).length:Nat):Int)∈enL (List.map stD (aY l)) (aJ s) 0 0:=(xh h t1 _).2 ⟨by omega,by rw[Int.toNat_natCast,hz2,zL];omega,x,x1,by rw[Int.toNat_natCast,hz2,List.take_left,iV (hN.dec x x1)],x2⟩;have hle:=m2 _ hm;have hx:x.1=iD ((aJ s).take (aJ x.1).length):=by
      rw[hz2,List.take_left,iV (hN.dec x x1)]
     refine ES hp x2 (Nat.le_antisymm hge ?_);rw[hx,e,show (aJ s).take (aJ x.1).length=((aJ s).take n.toNat).take (aJ x.1).length by rw[List.take_take];congr 1;omega]
     conv=>rhs;rw[<- List.take_append_drop (aJ x.1).length ((aJ s).take n.toNat),qV,zL]
     omega
    rw[hxw]
 .rw[if_neg ht,if_neg ht]
end Go.EA
end
section
namespace Go.EA
theorem GI {s:List UInt8}(h:tkE s≠0):tkE s=3\/tkE s=5:=by
 unfold tkE at h ⊢;rcases Ba s with h0 | ⟨h0,_⟩
 .rw[if_pos h0] at h ⊢;split at h
  .rename_i h1;rw[if_pos h1];exact .inr rfl
  .exact absurd rfl h
 .rw[if_neg (by rw[h0];decide)];exact .inl h0
theorem Bd (s:List UInt8):preB s s=true:=decide_eq_true ⟨zJ _,List.take_length⟩
theorem Te {l:List Wd}(h:isE l=0) {w:Wd}(hw:w∈l):tkE w.1=0:=by
 have hN:=nml h;have:=hN.few w hw;unfold tkE;rw[if_pos (hN.dec w hw),if_neg (by omega)]
theorem Fj {l:List Wd}(h:isE l=0) {w:Wd}(hw:w∈l):loE (List.map stD (aY l)) w.1=(w.1,0):=by
 rw[TQ h];unfold loR;rw[if_pos (Te h hw)];obtain⟨a1,a3⟩:=pF l w.1;have hN:=nml h;have h1:=a3 w hw (Bd _);have hne:w.1≠[]:=fun e=>by
  have:=hN.one w hw;rw[e] at this;cases this
 have hlen:0<w.1.length:=List.length_pos_iff.2 hne;rcases a1 with a1 | ⟨x,x1,x2,x3⟩
 .rw[a1] at h1;simp at h1;exact absurd h1 hne
 .have hx:=(of_decide_eq_true x2).1;have e:CW l w.1=w.1:=by
   rw[x3] at h1 ⊢;exact ES x2 (Bd _) (by omega)
  rw[e,if_neg hne]
structure LoF (l:List Wd) (s:List UInt8) (X:List UInt8×Int):Prop where
 a:X.2=0->nO l X.1=0/\preB s X.1=true
 b:(X.2=0\/X.2=10)->∀w∈l,preB s w.1=true->w.1.length<=X.1.length
 c:X.2≠0->X.1=[]
theorem ZF {l:List Wd}(h:isE l=0) (s:List UInt8):LoF l s (loE (List.map stD (aY l)) s):=by
 rw[TQ h];unfold loR;obtain⟨a1,a3⟩:=pF l s;by_cases ht:tkE s=0
 .rw[if_pos ht];by_cases he:CW l s=[]
  .rw[if_pos he];exact⟨fun h=>(by cases h),fun _ w hw hp=>(by have:=a3 w hw hp;rwa [he] at this),fun _=>rfl⟩
  .rw[if_neg he];refine⟨fun _=>?_,fun _=>a3,fun h=>absurd rfl h⟩;rcases a1 with a1 | ⟨x,x1,x2,x3⟩
   .exact absurd a1 he
   .dsimp only;rw[x3];exact⟨(Ni h).2 ⟨x,x1,rfl⟩,x2⟩
 .rw[if_neg ht];refine⟨fun h=>absurd h ht,fun h=>?_,fun _=>rfl⟩;dsimp only at h;rcases GI ht with h2 | h2 <;> rw[h2] at h <;> rcases h with h | h <;> cases h
end Go.EA
end
