/- Texts. Conditions: none. -/
import Derived.Test.YtgkhohpekfjlmaaDoorEK33
set_option linter.unusedVariables false
set_option linter.unusedSimpArgs false
section
namespace Go.EA
def wdA (d0:List StD) (d2:List Int):List Wd:=(List.range d2.length).map fun(i:Nat)=>(vk d0 (i:Int),d2.getD i 0)
def NwD (d0:List StD) (d2:List Int):Prop:=∃l,isE l=0/\d0=List.map stD (bg l)/\d2=l.map (·.2)
theorem Rs {α β:Type}(f:α->β) {l:List α}{i:Nat}{d:α}{d':β}(h:i<l.length):(l.map f).getD i d'=f (l.getD i d):=by
 rw[zA,zA,List.getElem?_map,zB h];rfl
theorem pG {l:List Wd}(h:isE l=0):wdA (List.map stD (bg l)) (l.map (·.2))=l:=by
 unfold wdA;refine List.ext_getElem (by simp) fun i h1 h2=>?_
 rw[List.getElem_map,List.getElem_range,SI h h2,Rs (d:=([],0)) _ h2,zA,zB h2]
 rfl
theorem NwD.new {l:List Wd}(h:isE l=0):NwD (yx l).1 (yx l).2.2:=⟨l,h,rfl,rfl⟩
structure NwP (d0:List StD) (d2:List Int):Prop where
 e:isE (wdA d0 d2)=0
 st:d0=List.map stD (bg (wdA d0 d2))
 fr:d2=(wdA d0 d2).map (·.2)
 ok:lK d0
 s:DwS d0
 ct:(d2.length:Int)=(stA d0 0).2.2
 len:(wdA d0 d2).length=d2.length
 few:d2.length<=65536
theorem NwD.p {d0:List StD}{d2:List Int}(h:NwD d0 d2):NwP d0 d2:=by
 obtain⟨l,h1,rfl,rfl⟩:=h;have hS:=sts h1;have hT:=(nml h1).tot;have hl:=(nml h1).len;refine⟨by rw[pG h1];exact h1,by rw[pG h1],by rw[pG h1],hS.ok hT,⟨_,_,hS,hT,rfl⟩,?_,by rw[pG h1,zR],by rw[zR];exact hl⟩;rw[zR,dD hS.pos];show _=((rAt (bg l) 0).1.length:Int);rw[hS.root,sD]
theorem VS {d0:List StD}{d2:List Int}{i:Nat}(h:i<d2.length):(wdA d0 d2).getD i ([],0)=(vk d0 (i:Int),d2.getD i 0):=by
 unfold wdA;rw[zA,zB (by simpa using h),Option.getD_some,List.getElem_map,List.getElem_range]
def tkE (s:List UInt8):Int:=if bI s=0 then (if 64<(aF s).length then 5 else 0) else bI s
def tkL (s:List UInt8):List Int:=if tkE s=0 then aF s else []
theorem LQ (s:List UInt8):bI s=0\/bI s=3/\aF s=[]:=by
 unfold bI aF;split
 .exact .inl rfl
 .exact .inr ⟨rfl,rfl⟩
theorem uG {s:List UInt8}(h:tkE s=0):bI s=0/\(aF s).length<=64/\tkL s=aF s:=by
 have e:tkL s=aF s:=by unfold tkL;rw[if_pos h]
 unfold tkE at h;split at h
 .rename_i h0;split at h
  .cases h
  .rename_i h1;exact⟨h0,by omega,e⟩
 .rename_i h0;exact absurd h h0
theorem GU {s:List UInt8}(h0:bI s=0) (h:¬ 64<((aF s).length:Int)):aF s=tkL s/\bI s=tkE s:=by
 have e:tkE s=0:=by unfold tkE;rw[if_pos h0,if_neg (by omega)]
 exact⟨by unfold tkL;rw[if_pos e],by rw[e,h0]⟩
theorem vw {s:List UInt8}(h0:bI s=0) (h:64<((aF s).length:Int)):([]:List Int)=tkL s/\5=tkE s:=by
 have e:tkE s=5:=by unfold tkE;rw[if_pos h0,if_pos (by omega)]
 exact⟨by unfold tkL;rw[e];rfl,e.symm⟩
theorem FO {s:List UInt8}(h0:¬ bI s=0):aF s=tkL s/\bI s=tkE s:=by
 have e:tkE s=bI s:=by unfold tkE;rw[if_neg h0]
 refine⟨?_,e.symm⟩;unfold tkL;rw[e,if_neg h0];rcases LQ s with h | h
 .exact absurd h h0
 .exact h.2
def enL (S:List StD):List Int->Int->Int->List Int
 |[],i,n=>if (stA S i.toNat).2.1=true then [n] else []
 |r::rs,i,n=>(if (stA S i.toNat).2.1=true then [n] else [])++(if bQ (stA S i.toNat).1 r=true then enL S rs (dW (stA S i.toNat).1 r) (n+1) else [])
theorem sQ (S:List StD):∀(l:List Int) (i n:Int),∀m∈enL S l i n,n<=m/\m<=n+l.length
 | [],i,n,m,h=>by
   unfold enL at h;split at h
   .have:=List.mem_singleton.1 h;subst this;simp
   .cases h
 | r::rs,i,n,m,h=>by
   unfold enL at h;rcases zX.1 h with h | h
   .split at h
    .have:=List.mem_singleton.1 h;subst this;simp;omega
    .cases h
   .split at h
    .have:=sQ S rs _ _ m h;simp only[zM];push_cast;omega
    .cases h
theorem xK (S:List StD):∀(l:List Int) (i n:Int),(enL S l i n).length<=l.length+1
 | [],i,n=>by
   unfold enL;split <;> simp
 | r::rs,i,n=>by
   unfold enL;rw[zL];have h1:(if (stA S i.toNat).2.1=true then [n] else []).length<=1:=by split <;> simp
   have h2:(if bQ (stA S i.toNat).1 r=true then enL S rs (dW (stA S i.toNat).1 r) (n+1) else []).length<=rs.length+1:=by
    split
    .exact xK S rs _ _
    .simp
   simp only[zM];omega
def stE (S:List StD) (s:List UInt8):Int×Int:=if tkE s=0 then (if (wlk S (tkL s) 0).2=true then ((wlk S (tkL s) 0).1,0) else (0,10)) else (0,tkE s)
def ab2 (l:List Wd) (s:List UInt8):Int:=(dY l s:Int)-(bG l s:Int)
def coE (l:List Wd) (s:List UInt8):Int×Int:=if tkE s=0 then (ab2 l s,0) else (0,tkE s)
def loE (S:List StD) (s:List UInt8):List UInt8×Int:=if tkE s=0 then (if (enL S (tkL s) 0 0).length=0 then ([],10) else (kC ((tkL s).take ((enL S (tkL s) 0 0).getD ((enL S (tkL s) 0 0).length-1) 0).toNat),0)) else ([],tkE s)
end Go.EA
end
section
namespace Go.EA
def coR (l:List Wd) (s:List UInt8):Int×Int:=if tkE s=0 then (((l.filter fun w=>preB w.1 s).length:Int),0) else (0,tkE s)
def iU (l:List Wd) (s:List UInt8):List UInt8:=l.foldl (fun o w=>if preB s w.1=true then (if o.length<w.1.length then w.1 else o) else o) []
def loR (l:List Wd) (s:List UInt8):List UInt8×Int:=if tkE s=0 then (if iU l s=[] then ([],10) else (iU l s,0)) else ([],tkE s)
theorem vZ (p:Wd->Bool) {l:List Wd}{i:Nat}(h:i<l.length):(l.take (i+1)).filter p=(l.take i).filter p++if p (l.getD i ([],0))=true then [l.getD i ([],0)] else []:=by
 rw[aU ([],0) h,List.filter_append,List.filter_cons];rfl
theorem qw (s:List UInt8) {l:List Wd}{i:Nat}(h:i<l.length):iU (l.take (i+1)) s=if preB s (l.getD i ([],0)).1=true then (if (iU (l.take i) s).length<(l.getD i ([],0)).1.length then (l.getD i ([],0)).1 else iU (l.take i) s) else iU (l.take i) s:=by
 unfold iU;rw[aU ([],0) h,List.foldl_append];rfl
end Go.EA
end
section
namespace Go.EA
abbrev FF:=List (Int×Int)
def spB (t:FF):List Int->Int×Int->Int×Int
 |[],p=>p
 |n::ns,p=>spB t ns (if (t.getD (n.toNat-1) (0,0)).1+1<p.1 then ((t.getD (n.toNat-1) (0,0)).1+1,n) else p)
def spT (S:List StD):List Int->FF
 |[]=>[(0,0)]
 |r::rs=>spB (spT S rs) (enL S (r::rs) 0 0).reverse (65,0)::spT S rs
def spW (Z:FF) (l:List Int):Nat->Nat->List (List UInt8)
 |0,_=>[]
 |k+1,a=>if a<l.length then kC ((l.drop a).take (Z.getD a (0,0)).2.toNat)::spW Z l k (a+(Z.getD a (0,0)).2.toNat) else []
def spE (S:List StD) (s:List UInt8):List (List UInt8)×Int:=if tkE s=0 then (if 64<((spT S (tkL s)).getD 0 (0,0)).1 then ([],10) else (spW (spT S (tkL s)) (tkL s) ((tkL s).length+1) 0,0)) else ([],tkE s)
theorem Ag (S:List StD):∀(l:List Int) (j:Nat),j<=l.length->(spT S l).drop j=spT S (l.drop j)
 |l,0,_=>rfl
 |[],j+1,h=>by simp at h
 | r::rs,j+1,h=>by
   simp only[zM] at h;show (spT S (r::rs)).drop (j+1)=spT S (rs.drop j);have e:spT S (r::rs)=spB (spT S rs) (enL S (r::rs) 0 0).reverse (65,0)::spT S rs:=rfl;rw[e,List.drop_succ_cons,Ag S rs j (by omega)]
theorem oH (S:List StD) (l:List Int) {j k:Nat}(h:j<=l.length):(spT S (l.drop j)).getD k (0,0)=(spT S l).getD (j+k) (0,0):=by
 rw[<- Ag S l j h,zA,zA,List.getElem?_drop]
theorem Nc (S:List StD) {l:List Int}{j:Nat}(h:j<l.length):(spT S l).getD j (0,0)=spB (spT S (l.drop (j+1))) (enL S (l.drop j) 0 0).reverse (65,0):=by
 have h1:=oH S l (j:=j) (k:=0) (by omega);rw[Nat.add_zero] at h1;rw[<- h1,fe h];rfl
theorem Un (S:List StD) (l:List Int):(spT S l).getD l.length (0,0)=(0,0):=by
 have h1:=oH S l (j:=l.length) (k:=0) (zJ _);rw[Nat.add_zero] at h1;rw[<- h1,List.drop_length];rfl
theorem Ec {t:FF}(ht:∀i,0<=(t.getD i (0,0)).1):∀(ns:List Int) (p:Int×Int),0<=p.1->0<=(spB t ns p).1/\(spB t ns p).1<=p.1
 |[],p,h=>⟨h,Int.le_refl _⟩
 | n::ns,p,h=>by
   unfold spB;have h1:=ht (n.toNat-1);split
   .have:=Ec ht ns ((t.getD (n.toNat-1) (0,0)).1+1,n) (by dsimp only;omega);dsimp only at this;omega
   .exact Ec ht ns p h
theorem xU (S:List StD):∀(l:List Int) (i:Nat),0<=((spT S l).getD i (0,0)).1/\((spT S l).getD i (0,0)).1<=65
 |[],0=>by show 0<=(0:Int)/\(0:Int)<=65;decide
 |[],i+1=>by show 0<=(0:Int)/\(0:Int)<=65;decide
 | r::rs,0=>by
   have:=Ec (t:=spT S rs) (fun i=>(xU S rs i).1) (enL S (r::rs) 0 0).reverse (65,0) (by decide);exact this
 |r::rs,i+1=>xU S rs i
theorem Ep {t:FF}:∀(ns:List Int) (p:Int×Int),spB t ns p=p\/∃n∈ns,spB t ns p=((t.getD (n.toNat-1) (0,0)).1+1,n)
 |[],p=>.inl rfl
 | n::ns,p=>by
   unfold spB;split
   .rcases Ep ns ((t.getD (n.toNat-1) (0,0)).1+1,n) with h | ⟨m,h1,h2⟩
    .exact .inr ⟨n,by simp,h⟩
    .exact .inr ⟨m,by simp[h1],h2⟩
   .rcases Ep ns p with h | ⟨m,h1,h2⟩
    .exact .inl h
    .exact .inr ⟨m,by simp[h1],h2⟩
theorem NwP.root {d0:List StD}{d2:List Int}(h:NwP d0 d2):(stA d0 0).2.1=false:=by
 have hS:=sts h.e;have hN:=nml h.e;rw[h.st,dD hS.pos];show (rAt (bg (wdA d0 d2)) 0).2.1=false;rw[(hS.g _ (hS.mem hS.pos)).ends,hS.root];cases he:aD (wdR (wdA d0 d2)) with
 |false=>rfl
 | true=>
   obtain⟨w,hw,e⟩:=yN.1 (eU.1 he);have:=hN.one w hw;rw[e] at this;cases this
theorem NwP.en {d0:List StD}{d2:List Int}(h:NwP d0 d2) (l:List Int):∀n∈enL d0 l 0 0,1<=n/\n<=l.length:=by
 intro n hn;have h1:=sQ d0 l 0 0 n hn;refine⟨?_,by omega⟩;have hr:(stA d0 ((0:Int)).toNat).2.1=false:=h.root;cases l with
 | nil=>
   unfold enL at hn;rw[hr,if_neg (by decide)] at hn;cases hn
 | cons r rs=>
   unfold enL at hn;rw[hr,if_neg (by decide),List.nil_append] at hn;split at hn
   .exact(sQ d0 rs _ _ n hn).1
   .cases hn
theorem NwP.first {d0:List StD}{d2:List Int}(h:NwP d0 d2) {l:List Int}{j:Nat}(hj:j<l.length) (hf:((spT d0 l).getD j (0,0)).1<=64) :
 1<=((spT d0 l).getD j (0,0)).2/\j+((spT d0 l).getD j (0,0)).2.toNat<=l.length/\((spT d0 l).getD j (0,0)).2∈enL d0 (l.drop j) 0 0/\((spT d0 l).getD j (0,0)).1=((spT d0 l).getD (j+((spT d0 l).getD j (0,0)).2.toNat) (0,0)).1+1:=by
 have e:=Nc d0 hj;rcases Ep (t:=spT d0 (l.drop (j+1))) (enL d0 (l.drop j) 0 0).reverse (65,0) with h1 | ⟨n,h1,h2⟩
 .rw[e,h1] at hf;exact absurd hf (by decide)
 .have hn:=h.en _ n (List.mem_reverse.1 h1);rw[List.length_drop] at hn;rw[oH d0 l (by omega),show j+1+(n.toNat-1)=j+n.toNat by omega] at h2;rw[e,h2];exact⟨hn.1,by dsimp only;omega,List.mem_reverse.1 h1,rfl⟩
structure SpI (S:List StD) (l:List Int) (x:Nat×List Int×List Int):Prop where
 le:x.1<=l.length
 lf:x.2.1.length=l.length+1
 lg:x.2.2.length=l.length+1
 at':∀j,x.1<=j->j<=l.length->x.2.1.getD j 0=((spT S l).getD j (0,0)).1/\x.2.2.getD j 0=((spT S l).getD j (0,0)).2
 zr:∀j,j<x.1->x.2.2.getD j 0=0
def SpJ (S:List StD) (l:List Int) (a:Int) (E:List Int) (x:Nat×Int×Int):Prop:=x.1<=E.length/\0<=x.2.1/\x.2.1<=65/\spB (spT S (l.drop (a.toNat+1))) E.reverse (65,0)=spB (spT S (l.drop (a.toNat+1))) (E.take x.1).reverse x.2
def SpO (S:List StD) (l:List Int) (x:Nat×Nat×List (List UInt8)):Prop:=x.2.1<=l.length/\l.length+1<=x.1+x.2.1/\x.2.2.length<=x.2.1/\((spT S l).getD x.2.1 (0,0)).1<=64/\spW (spT S l) l (l.length+1) 0=x.2.2++spW (spT S l) l x.1 x.2.1
theorem jo {l:List Int}{a:Nat}{p:Int}(h:a<l.length):(l.set a p).getD a 0=p:=by
 rw[zA,List.getElem?_set_self h];rfl
theorem fZ {l:List Int}{a j:Nat}{p:Int}(h:a≠j):(l.set a p).getD j 0=l.getD j 0:=by
 rw[zA,zA,List.getElem?_set_ne h]
theorem vK {l:List Int}{a:Nat}:l.set a (l.getD a 0)=l:=by
 refine List.ext_getElem? fun j=>?_
 by_cases h:a=j
 .subst h;by_cases hl:a<l.length
  .rw[List.getElem?_set_self hl,zA,zB hl];rfl
  .rw[List.getElem?_eq_none (by rw[List.length_set];omega),List.getElem?_eq_none (by omega)]
 .rw[List.getElem?_set_ne h]
theorem SpI.start (S:List StD) (l:List Int):SpI S l (l.length,List.replicate (l.length+1) 0,List.replicate (l.length+1) 0):=by
 have hr:∀j,(List.replicate (l.length+1) (0:Int)).getD j 0=0:=fun j=>by
  rw[zA,List.getElem?_replicate];split <;> rfl
 refine⟨zJ _,List.length_replicate,List.length_replicate,fun j h1 h2=>?_,fun j _=>hr j⟩;have:j=l.length:=by dsimp only at h1;omega
 subst this;rw[Un];exact⟨hr _,hr _⟩
theorem SpJ.val {S:List StD}{l:List Int}{a:Nat}{F G:List Int}(h:SpI S l (a+1,F,G)) {n p:Int}(h1:1<=n) (h2:a+n.toNat<=l.length):(F.set a p).getD (a+n.toNat) 0=((spT S (l.drop (a+1))).getD (n.toNat-1) (0,0)).1:=by
 have h3:=(h.at' (a+n.toNat) (by dsimp only;omega) h2).1;dsimp only at h3;rw[fZ (by omega),h3,oH S l (by omega),show a+1+(n.toNat-1)=a+n.toNat by omega]
theorem SpJ.step {S:List StD}{l:List Int}{a b:Nat}{E:List Int}{p q:Int}(h:SpJ S l (a:Int) E (b+1,p,q)):SpJ S l (a:Int) E (b,if ((spT S (l.drop (a+1))).getD ((E.getD b 0).toNat-1) (0,0)).1+1<p then (((spT S (l.drop (a+1))).getD ((E.getD b 0).toNat-1) (0,0)).1+1,E.getD b 0) else (p,q)):=by
 obtain⟨h1,h2,h3,h4⟩:=h;dsimp only at h1 h2 h3 h4;rw[Int.toNat_natCast] at h4;have hv:=(xU S (l.drop (a+1)) ((E.getD b 0).toNat-1)).1;refine⟨by dsimp only;omega,?_,?_,?_⟩
 .dsimp only; split <;> (dsimp only; omega)
 .dsimp only; split <;> (dsimp only; omega)
 .dsimp only;rw[Int.toNat_natCast,h4,aU 0 (by omega),List.reverse_append]
  rfl
theorem SpJ.out {S:List StD}{l:List Int}{a:Nat}{F G:List Int}{p q:Int}(h:SpI S l (a+1,F,G)) (hj:SpJ S l (a:Int) (enL S (l.drop a) 0 0) (0,p,q)):SpI S l (a,F.set a p,G.set a q):=by
 have hle:=h.le;dsimp only at hle;have hlf:=h.lf;have hlg:=h.lg;dsimp only at hlf hlg;have e:(spT S l).getD a (0,0)=(p,q):=by
  rw[Nc S (by omega)];have:=hj.2.2.2;rw[Int.toNat_natCast] at this;exact this
 refine⟨by dsimp only;omega,by rw[List.length_set];exact hlf,by rw[List.length_set];exact hlg,fun j h1 h2=>?_,fun j h1=>?_⟩
 .dsimp only at h1 ⊢;by_cases h3:a=j
  .subst h3;rw[jo (by omega),jo (by omega),e];exact⟨rfl,rfl⟩
  .rw[fZ h3,fZ h3];exact h.at' j (by dsimp only;omega) h2
 .dsimp only at h1 ⊢;rw[fZ (by omega)];exact h.zr j (by dsimp only;omega)
theorem SpO.next {d0:List StD}{d2:List Int}(hw:NwP d0 d2) {l:List Int}{F G:List Int}(h:SpI d0 l (0,F,G)) {k a:Nat}{o:List (List UInt8)}(hO:SpO d0 l (k+1,a,o)) (ha:a<l.length) :
 1<=G.getD a 0/\a+(G.getD a 0).toNat<=l.length/\SpO d0 l (k,a+(G.getD a 0).toNat,o++[kC ((l.drop a).take (G.getD a 0).toNat)]):=by
 obtain⟨o1,o2,o3,o4,o5⟩:=hO;dsimp only at o1 o2 o3 o4 o5;have hg:=(h.at' a (Nat.zero_le _) (by omega)).2;dsimp only at hg;obtain⟨f1,f2,f3,f4⟩:=hw.first ha o4
 rw[hg];refine⟨f1,f2,f2,by dsimp only;omega,by dsimp only;rw[zL,zN];omega,by dsimp only;omega,?_⟩;dsimp only;rw[o5,zO]
 congr 1
 show (if a<l.length then kC ((l.drop a).take ((spT d0 l).getD a (0,0)).2.toNat)::spW (spT d0 l) l k (a+((spT d0 l).getD a (0,0)).2.toNat) else [])=_;rw[if_pos ha];rfl
theorem SpO.end {S:List StD}{l:List Int}{k a:Nat}{o:List (List UInt8)}(h:SpO S l (k,a,o)) (ha:¬ a<l.length):spW (spT S l) l (l.length+1) 0=o:=by
 have h5:=h.2.2.2.2;dsimp only at h5;have e:spW (spT S l) l k a=[]:=by
  cases k with
  |zero=>rfl
  |succ k=>unfold spW;rw[if_neg ha]
 rw[h5,e,List.append_nil]
end Go.EA
end
section
namespace Go.EA
theorem Mk {l:List Wd}(hr:mX l) (s:List UInt8):(l.filter fun w=>preB w.1 s)=(l.drop (bG l s)).take (dY l s-bG l s):=by
 obtain⟨q1,q2,q3,q4⟩:=jH l s;have hd:(l.drop (bG l s)).drop (dY l s-bG l s)=l.drop (dY l s):=by rw[List.drop_drop];congr 1;omega
 have h:l=l.take (bG l s)++((l.drop (bG l s)).take (dY l s-bG l s)++l.drop (dY l s)):=by
  rw[<- hd,List.take_append_drop,List.take_append_drop]
 have at':∀{m:List Wd} {k:Nat},(∀i,i<m.length->m.getD i ([],0)=l.getD (k+i) ([],0))->∀w∈m,∃i,i<m.length/\w=l.getD (k+i) ([],0):=fun {m k} hm w hw=>by
  obtain⟨i,hi,e⟩:=List.getElem_of_mem hw;refine⟨i,hi,?_⟩;rw[<- hm i hi,zA,zB hi];exact e.symm
 have f1:((l.take (bG l s)).filter fun w=>preB w.1 s)=[]:=by
  rw[List.filter_eq_nil_iff];intro w hw;obtain⟨i,hi,rfl⟩:=at' (k:=0) (fun i hi=>by rw[zP] at hi;rw[Nat.zero_add,zA,zA,List.getElem?_take_of_lt (by omega)]) w hw;rw[zP] at hi;rw[Nat.zero_add,rW hr (by omega)];omega
 have f3:((l.drop (dY l s)).filter fun w=>preB w.1 s)=[]:=by
  rw[List.filter_eq_nil_iff];intro w hw;obtain⟨i,hi,rfl⟩:=at' (k:=dY l s) (fun i hi=>by rw[zA,zA,List.getElem?_drop]) w hw;rw[List.length_drop] at hi;rw[rW hr (by omega)];omega
 have f2:(((l.drop (bG l s)).take (dY l s-bG l s)).filter fun w=>preB w.1 s)=(l.drop (bG l s)).take (dY l s-bG l s):=by
  rw[List.filter_eq_self];intro w hw;obtain⟨i,hi,rfl⟩:=at' (k:=bG l s) (fun i hi=>by rw[zP] at hi;rw[zA,zA,List.getElem?_take_of_lt (by omega),List.getElem?_drop]) w hw;rw[zP,List.length_drop] at hi;exact(rW hr (by omega)).2 ⟨by omega,by omega⟩
 conv=>lhs;rw[h]
 rw[List.filter_append,List.filter_append,f1,f2,f3,List.nil_append,List.append_nil]
theorem ZK {l:List Wd}(hr:mX l) (s:List UInt8):coE l s=coR l s:=by
 obtain⟨q1,q2,q3,q4⟩:=jH l s;unfold coE coR;rw[Mk hr,zP,List.length_drop];by_cases h:tkE s=0
 .rw[if_pos h,if_pos h];refine Prod.ext ?_ rfl;show (dY l s:Int)-(bG l s:Int)=_;omega
 .rw[if_neg h,if_neg h]
theorem DF {W:Rst}{all:List RSt}(hS:Sts W all):∀(rs:List Int) (i:Nat) (m n:Int),i<all.length->(n∈enL (all.map stD) rs i m↔∃k:Nat,k<=rs.length/\n=m+k/\rs.take k∈(rAt all i).1)
 | [],i,m,n,hi=>by
   have g:=hS.g _ (hS.mem hi);have e:enL (all.map stD) [] (i:Int) m=if (stA (all.map stD) (i:Int).toNat).2.1=true then [m] else []:=rfl
   rw[e,Int.toNat_natCast,dD hi];show n∈(if (rAt all i).2.1=true then [m] else [])↔_;rw[g.ends];constructor
   .intro h;split at h
    .rename_i he;exact⟨0,zJ _,by have:=List.mem_singleton.1 h;omega,eU.1 he⟩
    .cases h
   .rintro⟨k,h1,h2,h3⟩;have hk:k=0:=by simpa using h1
    subst hk;rw[if_pos (eU.2 h3)];exact List.mem_singleton.2 (by omega)
 | r::rs,i,m,n,hi=>by
   have g:=hS.g _ (hS.mem hi);have e:enL (all.map stD) (r::rs) (i:Int) m=(if (stA (all.map stD) (i:Int).toNat).2.1=true then [m] else [])++(if bQ (stA (all.map stD) (i:Int).toNat).1 r=true then enL (all.map stD) rs (dW (stA (all.map stD) (i:Int).toNat).1 r) (m+1) else []):=rfl;rw[e,Int.toNat_natCast,dD hi];show n∈(if (rAt all i).2.1=true then [m] else [])++(if bQ (rAt all i).2.2 r=true then enL (all.map stD) rs (dW (rAt all i).2.2 r) (m+1) else [])↔_;rw[g.ends,zX];constructor
   .rintro(h | h)
    .split at h
     .rename_i he;exact⟨0,Nat.zero_le _,by have:=List.mem_singleton.1 h;omega,eU.1 he⟩
     .cases h
    .split at h
     .rename_i hn;obtain⟨q,h1,h2,h3⟩:=g.to _ (kE hn);dsimp only at h1 h3;rw[h1] at h;obtain⟨k,k1,k2,k3⟩:=(DF hS rs q (m+1) n h2).1 h;rw[h3] at k3;exact⟨k+1,by simp;omega,by push_cast;omega,dP.1 k3⟩
     .cases h
   .rintro⟨k,h1,h2,h3⟩;cases k with
    | zero=>
      left
      rw[if_pos (eU.2 h3)];exact List.mem_singleton.2 (by omega)
    | succ k=>
      right
      have h3:r::rs.take k∈(rAt all i).1:=h3;have hn:bQ (rAt all i).2.2 r=true:=CB.2 (by rw[g.hd];exact fT h3);obtain⟨q,g1,g2,g3⟩:=g.to _ (kE hn);dsimp only at g1 g3;rw[if_pos hn,g1];exact(DF hS rs q (m+1) n g2).2 ⟨k,by simpa using h1,by push_cast at h2;omega,by rw[g3];exact dP.2 h3⟩
theorem LZ (S:List StD):∀(l:List Int) (i n:Int),(enL S l i n).Pairwise (·<·)
 | [],i,n=>by
   unfold enL;split
   .exact List.pairwise_singleton ..
   .exact .nil
 | r::rs,i,n=>by
   unfold enL;refine List.pairwise_append.2 ⟨?_,?_,fun a ha b hb=>?_⟩
   .split
    .exact List.pairwise_singleton ..
    .exact .nil
   .split
    .exact LZ S rs _ _
    .exact .nil
   .split at ha
    .have:=List.mem_singleton.1 ha;split at hb
     .have:=(sQ S rs _ _ b hb).1;omega
     .cases hb
    .cases ha
theorem oW (s:List UInt8):∀(l:List Wd) (o:List UInt8),(l.foldl (fun o w=>if preB s w.1=true then (if o.length<w.1.length then w.1 else o) else o) o=o\/∃w∈l,preB s w.1=true/\l.foldl (fun o w=>if preB s w.1=true then (if o.length<w.1.length then w.1 else o) else o) o=w.1)/\o.length<=(l.foldl (fun o w=>if preB s w.1=true then (if o.length<w.1.length then w.1 else o) else o) o).length/\∀w∈l,preB s w.1=true->w.1.length<=(l.foldl (fun o w=>if preB s w.1=true then (if o.length<w.1.length then w.1 else o) else o) o).length
 |[],o=>⟨.inl rfl,zJ _,fun w hw=>by cases hw⟩
 | x::l,o=>by
   rw[List.foldl_cons];by_cases h1:preB s x.1=true
   .rw[if_pos h1];by_cases h2:o.length<x.1.length
    .rw[if_pos h2];obtain⟨a1,a2,a3⟩:=oW s l x.1;refine⟨.inr ?_,by omega,fun w hw hp=>?_⟩
     .rcases a1 with a1 | ⟨w,w1,w2,w3⟩
      .exact⟨x,by simp,h1,a1⟩
      .exact⟨w,by simp[w1],w2,w3⟩
     .rcases List.mem_cons.1 hw with rfl | hw
      .exact a2
      .exact a3 w hw hp
    .rw[if_neg h2];obtain⟨a1,a2,a3⟩:=oW s l o;refine⟨?_,a2,fun w hw hp=>?_⟩
     .rcases a1 with a1 | ⟨w,w1,w2,w3⟩
      .exact .inl a1
      .exact .inr ⟨w,by simp[w1],w2,w3⟩
     .rcases List.mem_cons.1 hw with rfl | hw
      .omega
      .exact a3 w hw hp
   .rw[if_neg h1];obtain⟨a1,a2,a3⟩:=oW s l o;refine⟨?_,a2,fun w hw hp=>?_⟩
    .rcases a1 with a1 | ⟨w,w1,w2,w3⟩
     .exact .inl a1
     .exact .inr ⟨w,by simp[w1],w2,w3⟩
    .rcases List.mem_cons.1 hw with rfl | hw
     .exact absurd hp h1
     .exact a3 w hw hp
theorem Js (l:List Wd) (s:List UInt8):(iU l s=[]\/∃w∈l,preB s w.1=true/\iU l s=w.1)/\∀w∈l,preB s w.1=true->w.1.length<=(iU l s).length:=by
 obtain⟨a1,a2,a3⟩:=oW s l [];exact⟨a1,a3⟩
theorem QE {s a b:List UInt8}(ha:preB s a=true) (hb:preB s b=true) (h:a.length=b.length):a=b:=by
 have ha:=(of_decide_eq_true ha).2;have hb:=(of_decide_eq_true hb).2;rw[<- ha,<- hb,h]
theorem BC {l:List Int}(h:l.Pairwise (·<·)) (hn:l.length≠0):l.getD (l.length-1) 0∈l/\∀x∈l,x<=l.getD (l.length-1) 0:=by
 refine⟨dX (by omega),fun x hx=>?_⟩;obtain⟨i,hi,e⟩:=List.getElem_of_mem hx;have e2:l.getD (l.length-1) 0=l[l.length-1]'(by omega):=by rw[zA,zB (by omega)];rfl
 rw[e2,<- e];by_cases h3:i=l.length-1
 .subst h3;exact Int.le_refl _
 .have:=List.pairwise_iff_getElem.1 h i (l.length-1) hi (by omega) (by omega);omega
theorem Pv {s:List UInt8}(h:bI s=0) (n:Nat):kC ((aF s).take n)=iR ((aF s).take n):=
 (FH (by
  rw[List.all_eq_true];intro r hr;exact jh h r (List.mem_of_mem_take hr))).1
theorem xO {l:List Wd}(h:isE l=0) {s:List UInt8}(hs:bI s=0) (n:Int):n∈enL (List.map stD (bg l)) (aF s) 0 0↔0<=n/\n.toNat<=(aF s).length/\∃w∈l,w.1=iR ((aF s).take n.toNat)/\preB s w.1=true:=by
 have hS:=sts h;have hN:=nml h;have e:=DF hS (aF s) 0 0 n hS.pos;rw[hS.root] at e;have e:n∈enL (List.map stD (bg l)) (aF s) 0 0↔∃k:Nat,k<=(aF s).length/\n=0+(k:Int)/\(aF s).take k∈wdR l:=e;rw[e];constructor
 .rintro⟨k,h1,h2,h3⟩;obtain⟨w,hw,e⟩:=yN.1 h3;have hk:n.toNat=k:=by omega
  rw[hk];refine⟨by omega,h1,w,hw,by rw[<- e,iY (hN.dec w hw)],(rT hs (hN.dec w hw)).2 ⟨(aF s).drop k,by rw[e,List.take_append_drop]⟩⟩
 .rintro⟨h0,h1,w,hw,e,hp⟩;refine⟨n.toNat,h1,by omega,yN.2 ⟨w,hw,?_⟩⟩;obtain⟨z,hz⟩:=(rT hs (hN.dec w hw)).1 hp;have e2:iR (aF w.1)=iR ((aF s).take n.toNat):=by rw[iY (hN.dec w hw),e]
  have hv:∀t:List Int,(∀r∈t,Utf8.valid r=true)->(runes (iR t)).map (·.1)=t:=fun t ht=>by
   rw[sV t (List.all_eq_true.2 ht),List.map_map]
   conv=>rhs;rw[<- List.map_id t]
   rfl
  rw[<- hv (aF w.1) (jh (hN.dec w hw)),<- hv ((aF s).take n.toNat) (fun r hr=>jh hs r (List.mem_of_mem_take hr)),e2]
theorem ZF {l:List Wd}(h:isE l=0) (s:List UInt8):loE (List.map stD (bg l)) s=loR l s:=by
 unfold loE loR;by_cases ht:tkE s=0
 .rw[if_pos ht,if_pos ht];obtain⟨t1,t2,t3⟩:=uG ht;rw[t3];obtain⟨a1,a3⟩:=Js l s;have hN:=nml h;have hnw:∀w∈l,w.1≠[]:=fun w hw e=>by
   have:=hN.one w hw;rw[e] at this;cases this
  by_cases hn:(enL (List.map stD (bg l)) (aF s) 0 0).length=0
  .rw[if_pos hn];have hz:enL (List.map stD (bg l)) (aF s) 0 0=[]:=zT hn;rcases a1 with a1 | ⟨w,w1,w2,w3⟩
   .rw[if_pos a1]
   .exfalso;obtain⟨z,hz2⟩:=(rT t1 (hN.dec w w1)).1 w2;have hm:(((aF w.1).length:Nat):Int)∈enL (List.map stD (bg l)) (aF s) 0 0:=(xO h t1 _).2 ⟨by omega,by rw[Int.toNat_natCast,hz2,zL];omega,w,w1,by rw[Int.toNat_natCast,hz2,List.take_left,iY (hN.dec w w1)],w2⟩;rw[hz] at hm;cases hm
  .rw[if_neg hn];obtain⟨m1,m2⟩:=BC (LZ (List.map stD (bg l)) (aF s) 0 0) hn;generalize (enL (List.map stD (bg l)) (aF s) 0 0).getD ((enL (List.map stD (bg l)) (aF s) 0 0).length-1) 0=n at m1 m2;obtain⟨n0,n1,w,hw,e,hp⟩:=(xO h t1 n).1 m1;rw[Pv t1,<- e];have hge:=a3 w hw hp;rcases a1 with a1 | ⟨x,x1,x2,x3⟩
   .exfalso;rw[a1] at hge;exact hnw w hw (zT (by simpa using hge))
   .rw[x3,if_neg (hnw x x1)];rw[x3] at hge;have hxw:w.1=x.1:=by
     obtain⟨z,hz2⟩:=(rT t1 (hN.dec x x1)).1 x2;have hm:(((aF x.1).length:Nat):Int)∈enL (List.map stD (bg l)) (aF s) 0 0:=(xO h t1 _).2 ⟨by omega,by rw[Int.toNat_natCast,hz2,zL];omega,x,x1,by rw[Int.toNat_natCast,hz2,List.take_left,iY (hN.dec x x1)],x2⟩;have hle:=m2 _ hm;have hx:x.1=iR ((aF s).take (aF x.1).length):=by
      rw[hz2,List.take_left,iY (hN.dec x x1)]
     refine QE hp x2 (Nat.le_antisymm hge ?_);rw[hx,e,show (aF s).take (aF x.1).length=((aF s).take n.toNat).take (aF x.1).length by rw[List.take_take];congr 1;omega]
     conv=>rhs;rw[<- List.take_append_drop (aF x.1).length ((aF s).take n.toNat),qZ,zL]
     omega
    rw[hxw]
 .rw[if_neg ht,if_neg ht]
end Go.EA
end
