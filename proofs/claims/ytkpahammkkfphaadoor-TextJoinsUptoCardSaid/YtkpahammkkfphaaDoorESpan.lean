/- A text's pieces: the plain law of layer 2. Conditions: none. -/
import Derived.Test.YtkpahammkkfphaaDoorEBack
import Derived.Test.YtkpahammkkfphaaDoorEMean3
import Derived.Test.YtkpahammkkfphaaDoorEPrim2
import Derived.Test.YtkpahammkkfphaaDoorERu
set_option linter.unusedVariables false
set_option linter.unusedSimpArgs false
namespace Go.EA
def grp:List Int->List (Bool×List Int)
 |[]=>[]
 |r::q=>match grp q with
  |[]=>[(aj r,[r])]
  |(b,g)::t=>if b=aj r then (b,r::g)::t else (aj r,[r])::(b,g)::t
def spans:Int->List (Bool×List Int)->List (Int×Int×Bool)
 |_,[]=>[]
 |at',(b,g)::t=>(at',at'+(bf g).length,b)::spans (at'+(bf g).length) t
def rn (s:List UInt8):List Int:=(runes s).map (·.1)
def spL (s:List UInt8):List (Int×Int×Bool):=if s.length<=1048576/\aR s=true then spans 0 (grp (rn s)) else []
def spE (s:List UInt8):Int:=if 1048576<s.length then 5 else if aR s then 0 else 3
theorem Jd:∀{q:List Int},q≠[]->grp q≠[]
 |[],h=>absurd rfl h
 | r::q,_=>by
   unfold grp;split
   .simp
   .split <;> simp
theorem Dv:∀(r:Int) (q:List Int),∃g t,grp (r::q)=(aj r,r::g)::t:=by
 intro r q;unfold grp;split
 .exact⟨_,_,rfl⟩
 .split
  .next h=>exact⟨_,_,by rw[<- h]⟩
  .exact⟨_,_,rfl⟩
theorem tV (b:Bool):∀(q:List Int),(q.takeWhile fun r=>aj r == b)≠[]->grp q=(b,q.takeWhile fun r=>aj r == b)::grp (q.dropWhile fun r=>aj r == b)
 |[],h=>absurd rfl h
 | r::q,h=>by
   by_cases hb:aj r=b
   .have e1:((r::q).takeWhile fun r=>aj r == b)=r::q.takeWhile fun r=>aj r == b:=by simp[List.takeWhile_cons,hb]
    have e2:((r::q).dropWhile fun r=>aj r == b)=q.dropWhile fun r=>aj r == b:=by simp[List.dropWhile_cons,hb]
    rw[e1,e2];cases q with
    |nil=>simp[grp,hb]
    | cons r' q'=>
      by_cases hb':aj r'=b
      .have h':((r'::q').takeWhile fun r=>aj r == b)≠[]:=by simp[List.takeWhile_cons,hb']
       rw[grp,tV b (r'::q') h'];simp[hb]
      .have e3:((r'::q').takeWhile fun r=>aj r == b)=[]:=by simp[List.takeWhile_cons,hb']
       have e4:((r'::q').dropWhile fun r=>aj r == b)=r'::q':=by simp[List.dropWhile_cons,hb']
       rw[e3,e4];obtain⟨g,t,e⟩:=Dv r' q';rw[grp,e];simp only[hb];rw[if_neg hb']
   .exact absurd (by simp[List.takeWhile_cons,hb]) h
theorem ib (a b:List Int):bf (a++b)=bf a++bf b:=by simp[bf]
theorem nK {s:List UInt8}(h:aR s=true):bf (rn s)=s:=(mG _ s (zJ _) h).1
theorem oQ {s:List UInt8}(h:aR s=true):(rn s).all Utf8.valid=true:=(mG _ s (zJ _) h).2
theorem yQ {l:List Int}(h:l.all Utf8.valid=true):rn (bf l)=l:=by
 unfold rn;rw[iI l h,List.map_map];exact(List.map_congr_left fun _ _=>rfl).trans (List.map_id l)
theorem yN {l:List Int}(h:l.all Utf8.valid=true):aR (bf l)=true:=(Fa h).2.2
def bZ (s:List UInt8) (b:Bool):Int:=(bf ((rn s).takeWhile fun r=>aj r == b)).length
theorem DY (b:Bool):bZ [] b=0:=rfl
theorem xV {s:List UInt8}(h:s≠[]):rn s=((dec s).1:Int)::rn (s.drop (dec s).2):=by
 unfold rn;rw[cK h];rfl
theorem sj {s:List UInt8}(h:s≠[]) (hk:aR s=true):isR s=true/\aR (s.drop (dec s).2)=true/\Utf8.valid ((dec s).1:Int)=true/\(bC ((dec s).1:Int)).length=(dec s).2/\1<=(dec s).2/\(dec s).2<=s.length:=by
 rw[fT h,zH] at hk;have hw:=bH h;obtain⟨e1,e2⟩:=kM h hk.1;refine⟨hk.1,hk.2,e1,?_,hw⟩;rw[e2,zP];omega
theorem Ij {s:List UInt8}{b:Bool}(h:s≠[]) (hl:aj ((dec s).1:Int)≠b):bZ s b=0:=by
 unfold bZ;rw[xV h,List.takeWhile_cons];simp[hl,bf]
theorem tT {s:List UInt8}{b:Bool}(h:s≠[]) (hk:aR s=true) (hl:aj ((dec s).1:Int)=b):bZ s b=(dec s).2+bZ (s.drop (dec s).2) b:=by
 obtain⟨_,_,_,e,_⟩:=sj h hk;unfold bZ;rw[xV h,List.takeWhile_cons];simp only[hl,beq_self_eq_true,if_true];rw[eY,zL,e];push_cast;rfl
theorem si {s:List UInt8}{b:Bool}(hk:aR s=true):0<=bZ s b/\bZ s b<=s.length:=by
 refine⟨by unfold bZ;omega,?_⟩;have h1:=nK hk;have h2:bf (rn s)=bf ((rn s).takeWhile fun r=>aj r == b)++bf ((rn s).dropWhile fun r=>aj r == b):=by rw[<- ib,List.takeWhile_append_dropWhile]
 unfold bZ;have h3:=congrArg List.length h2;rw[h1,zL] at h3;omega
theorem Hg {l m:List Int}(h:(l++m).all Utf8.valid=true):l.all Utf8.valid=true/\m.all Utf8.valid=true:=by simpa [List.all_append] using h
theorem qB {s:List UInt8}{b:Bool}(hk:aR s=true):rn (s.drop (bZ s b).toNat)=(rn s).dropWhile (fun r=>aj r == b)/\aR (s.drop (bZ s b).toNat)=true:=by
 have h0:(rn s).takeWhile (fun r=>aj r == b)++(rn s).dropWhile (fun r=>aj r == b)=rn s:=List.takeWhile_append_dropWhile;have hv:=oQ hk;rw[<- h0] at hv;have hv2:=(Hg hv).2;have h1:s=bf ((rn s).takeWhile fun r=>aj r == b)++bf ((rn s).dropWhile fun r=>aj r == b):=by rw[<- ib,h0,nK hk]
 have h2:s.drop (bZ s b).toNat=bf ((rn s).dropWhile fun r=>aj r == b):=by
  have h3:(bZ s b).toNat=(bf ((rn s).takeWhile fun r=>aj r == b)).length:=by unfold bZ;omega
  rw[h3];exact(congrArg (List.drop _) h1).trans List.drop_left
 rw[h2];exact⟨yQ hv2,yN hv2⟩
theorem Jw {s:List UInt8}{b:Bool}(h:s≠[]) (hk:aR s=true) (hz:¬ 0<bZ s b):aj ((dec s).1:Int)=!b:=by
 by_cases hl:aj ((dec s).1:Int)=b
 .exfalso;have:=tT h hk hl;obtain⟨_,hk2,_,_,h1,_⟩:=sj h hk;have:=(si (b:=b) hk2).1;omega
 .cases b <;> simpa using hl
theorem xN {s:List UInt8}{b:Bool}{at':Int}(hk:aR s=true) (hz:0<bZ s b):spans at' (grp (rn s))=(at',at'+bZ s b,b)::spans (at'+bZ s b) (grp (rn (s.drop (bZ s b).toNat))):=by
 have hne:((rn s).takeWhile fun r=>aj r == b)≠[]:=by
  intro h0;unfold bZ at hz;rw[h0] at hz;simp[bf] at hz
 rw[(qB hk).1,tV b (rn s) hne]
 rfl
def spM (s:List UInt8) (b:Bool):Nat:=2*s.length+(if s≠[]/\aj ((dec s).1:Int)≠b then 1 else 0)
theorem IJ {s:List UInt8}{b:Bool}(h:s≠[]) (hk:aR s=true) (hz:¬ 0<bZ s b):spM s (!b)<spM s b:=by
 have:=Jw h hk hz;unfold spM;rw[this];cases b <;> simp[h]
theorem Hw {s:List UInt8}{b c:Bool}(hk:aR s=true) (hz:0<bZ s b):spM (s.drop (bZ s b).toNat) c<spM s b:=by
 have h1:=(si (b:=b) hk);unfold spM;rw[List.length_drop];split <;> split <;> omega
def iA (out:List (Int×Int×Bool)) (at':Int) (r:Int):List (Int×Int×Bool):=
 if out≠[]/\(out.getD (out.length-1) (0,0,false)).2.2=aj r then out.set (out.length-1) ((out.getD (out.length-1) (0,0,false)).1,at'+(bC r).length,aj r)
 else out++[(at',at'+(bC r).length,aj r)]
def iP:List (Int×Int×Bool)->Int->List Int->List (Int×Int×Bool)
 |out,_,[]=>out
 |out,at',r::q=>iP (iA out at' r) (at'+(bC r).length) q
theorem Dj (o:List (Int×Int×Bool)) (x y:Int×Int×Bool):(o++[x]).set ((o++[x]).length-1) y=o++[y]:=by
 simp[List.set_append]
theorem tq (o:List (Int×Int×Bool)) (x d:Int×Int×Bool):(o++[x]).getD ((o++[x]).length-1) d=x:=by
 simp[List.getD]
theorem Ao (o:List (Int×Int×Bool)) (f at' r:Int):iA (o++[(f,at',aj r)]) at' r=o++[(f,at'+(bC r).length,aj r)]:=by
 unfold iA;rw[tq,Dj];simp
theorem wG (o:List (Int×Int×Bool)) (f at' r:Int) (b:Bool) (h:b≠aj r):iA (o++[(f,at',b)]) at' r=o++[(f,at',b)]++[(at',at'+(bC r).length,aj r)]:=by
 unfold iA;rw[tq];simp[h]
theorem lZ:∀(q:List Int) (o:List (Int×Int×Bool)) (f at':Int) (b:Bool),
 iP (o++[(f,at',b)]) at' q=match grp q with
  |[]=>o++[(f,at',b)]
  |(b',g)::t=>if b=b' then o++(f,at'+(bf g).length,b)::spans (at'+(bf g).length) t else o++(f,at',b)::spans at' ((b',g)::t)
 |[],o,f,at',b=>rfl
 | r::q,o,f,at',b=>by
   rw[iP];by_cases hb:b=aj r
   .subst hb;rw[Ao,lZ q];rw[grp];cases hg:grp q with
    |nil=>simp[bf,spans]
    | cons x t=>
      obtain⟨b',g⟩:=x;by_cases h1:b'=aj r
      .subst h1;simp only[if_true];have:((bf (r::g)).length:Int)=(bC r).length+(bf g).length:=by rw[eY,zL];push_cast;rfl
       rw[this,Int.add_assoc]
      .have h2:¬ aj r=b':=fun h=>h1 h.symm
       simp only[h1,h2,if_false,if_true,spans];have:bf [r]=bC r:=by simp[bf]
       rw[this]
   .rw[wG _ _ _ _ _ hb,lZ q,grp];cases hg:grp q with
    |nil=>simp[bf,spans,hb]
    | cons x t=>
      obtain⟨b',g⟩:=x;by_cases h1:b'=aj r
      .subst h1;simp only[hb,if_true,if_false];have:((bf (r::g)).length:Int)=(bC r).length+(bf g).length:=by rw[eY,zL];push_cast;rfl
       simp only[spans,this,Int.add_assoc];simp
      .have h2:¬ aj r=b':=fun h=>h1 h.symm
       simp only[h1,h2,hb,if_false,spans];have:bf [r]=bC r:=by simp[bf]
       rw[this];simp
theorem xu (q:List Int):iP [] 0 q=spans 0 (grp q):=by
 cases q with
 |nil=>rfl
 | cons r q=>
   rw[iP];have h0:iA [] 0 r=[]++[(0,0+((bC r).length:Int),aj r)]:=by simp[iA]
   rw[h0,lZ q [],grp];have h1:bf [r]=bC r:=by simp[bf]
   cases hg:grp q with
   |nil=>simp[spans,h1]
   | cons x t=>
     obtain⟨b',g⟩:=x;by_cases hb:b'=aj r
     .subst hb;have:((bf (r::g)).length:Int)=(bC r).length+(bf g).length:=by rw[eY,zL];push_cast;rfl
      simp[spans,this]
     .have h2:¬ aj r=b':=fun h=>hb h.symm
      simp[hb,h2,spans,h1]
end Go.EA
