/- Texts. Conditions: none. -/
import Derived.Test.YtpgjilomblpcpaaDoorEAf9
import Derived.Test.YtpgjilomblpcpaaDoorECs
import Derived.Test.YtpgjilomblpcpaaDoorESrt
import Derived.Test.YtpgjilomblpcpaaDoorEK9
import Derived.KernelRfl
set_option linter.unusedVariables false
set_option linter.unusedSimpArgs false
section
set_option maxRecDepth 100000
set_option maxHeartbeats 0
namespace Go.EA
open F
theorem gq:∀(a:List UInt8),bu a a=false
 |[]=>rfl
 | x::a=>by
   show (decide (x<x)||(x == x&&bu a a))=false;rw[gq a];simp
theorem Dp (a:List UInt8):bu a []=false:=by cases a <;> rfl
theorem rC (x y:UInt8) (a b:List UInt8):bu (x::a) (y::b)=true↔x<y\/x=y/\bu a b=true:=by
 show (decide (x<y)||(x == y&&Op.bytesLess a b))=true↔_;simp
theorem iM:∀{a b c:List UInt8},bu a b=true->bu b c=true->bu a c=true
 |_,_,[],_,h=>by rw[Dp] at h;cases h
 |[],_,_::_,_,_=>rfl
 |_::_,[],_::_,h,_=>by rw[Dp] at h;cases h
 | x::a,y::b,z::c,h,h'=>by
   rw[rC] at *;rcases h with h | ⟨rfl,h⟩
   .rcases h' with h' | ⟨rfl,h'⟩
    .exact .inl (UInt8.lt_trans h h')
    .exact .inl h
   .rcases h' with h' | ⟨rfl,h'⟩
    .exact .inl h'
    .exact .inr ⟨rfl,iM h h'⟩
theorem jk:∀(a b:List UInt8),bu a b=true\/a=b\/bu b a=true
 |[],[]=>.inr (.inl rfl)
 |[],_::_=>.inl rfl
 |_::_,[]=>.inr (.inr rfl)
 | x::a,y::b=>by
   rw[rC,rC];rcases Nat.lt_trichotomy x.toNat y.toNat with h | h | h
   .exact .inl (.inl h)
   .have:=UInt8.toNat_inj.1 h;subst this;rcases jk a b with h | rfl | h
    .exact .inl (.inr ⟨rfl,h⟩)
    .exact .inr (.inl rfl)
    .exact .inr (.inr (.inr ⟨rfl,h⟩))
   .exact .inr (.inr (.inl h))
theorem fK {a b:List UInt8}(h:bu a b=true):bu b a=false:=by
 cases h1:bu b a
 .rfl
 .have:=iM h h1;rw[gq] at this;cases this
abbrev Wd:Type:=List UInt8×Int
abbrev WdT:Ty:=.pair .str (.int .i64)
def ltW (a b:Wd):Bool:=bu a.1 b.1
theorem Sr (a b:List UInt8):iL a b<0↔bu a b=true:=by
 unfold iL;split
 .rename_i h;exact⟨fun _=>h,fun _=>by decide⟩
 .rename_i h;split
  .exact⟨fun h=>absurd h (by decide),fun h'=>absurd h' h⟩
  .exact⟨fun h=>absurd h (by decide),fun h'=>absurd h' h⟩
theorem TY (x y z:List UInt8) (h1:bu x y=false) (h2:bu y z=false):bu x z=false:=by
 cases h:bu x z with
 |false=>rfl
 | true=>
   exfalso;rcases jk x y with h3 | h3 | h3
   .rw[h3] at h1;cases h1
   .subst h3;rw[h2] at h;cases h
   .have:=iM h3 h;rw[this] at h2;cases h2
theorem bX:SWo ltW:=⟨fun x=>gq x.1,fun x y z=>TY x.1 y.1 z.1,fun x y h=>fK h⟩
theorem oF (a b:Wd):iL a.1 b.1<0↔ltW a b=true:=Sr _ _
theorem oO (a b:Wd):¬ iL a.1 b.1<0↔ltW a b=false:=by rw[oF];simp
def OP:List UInt8×Int×List UInt8×Int->List SV:=fun(a0,a1,b0,b1)=>[.agg [.str a0,.int .i64 a1],.agg [.str b0,.int .i64 b1]]
def Vw:List UInt8×Int×List UInt8×Int->SV×List Prop:=fun(a0,a1,b0,b1)=>(.one (.int .i64 (iL a0 b0)),[])
def NT:Con:=⟨true,[none,none],fun xs=>match xs with | [.agg [.str a0,.int .i64 a1],.agg [.str b0,.int .i64 b1]]=>some (Vw (a0,a1,b0,b1)) | _=>none⟩
noncomputable def Bl:GP:=fH OP Vw
theorem Jn:∀a b,(OP a).map aH=(OP b).map aH->a=b:=by
 rintro⟨a0,a1,a2,a3⟩ ⟨b0,b1,b2,b3⟩ h;simp only[OP,zK,List.map_nil,aH,bi,zG,AV.one.injEq,AV.agg.injEq,Lf.int.injEq,Lf.str.injEq,Lf.bool.injEq,Lf.vrow.injEq,and_true,true_and,and_assoc] at h;obtain⟨h0,h1,h2,h3⟩:=h;subst h0 h1 h2 h3
 rfl
theorem FC:gH Bl NT:=bP Jn (fun⟨_,_,_,_⟩ ⟨_,_,_,_⟩=>rfl) (fun⟨_,_,_,_⟩=>rfl) fun xs r h=>by
 simp only[NT] at h;split at h
 .cases h;rename_i a0 a1 b0 b1;exact⟨(a0,a1,b0,b1),rfl,rfl⟩
 .cases h
theorem We {S:SC}(hB:SB S) (Vq:aX S 252 (aI Nf)) (h321:S.has 321 f321):aX S 321 (aI Bl):=by
 refine prM hB [] [⟨252,Nf,Sj⟩] trivial ⟨⟨Vq,PU⟩,trivial⟩ h321 (fun⟨a0,a1,b0,b1⟩=>⟨rfl,rfl,rfl⟩) (fun(a0,a1,b0,b1)=>fun _ _ _ _=>none) 400 ?_;rintro⟨a0,a1,b0,b1⟩ hc;refine VC.use (p:=
  (iL a0 b0=iL a0 b0)) (by kernel_rfl) ?_
 rfl
def RG:oW:=⟨(List (List UInt8×Int))×Int×Int×Int,(.pair .str (.int .i64)),fun(l,a,b,n) o=>[.one (.osl o),.one (.int .i64 a),.one (.int .i64 b),.one (.int .i64 n),.one (.fn 321 [])],fun(l,a,b,n)=>l,fun(l,a,b,n)=>[0<=a,0<=n,a+n<=b,b+n<=l.length,l.length<=1099511627776],fun(l,a,b,n)=>List (List UInt8×Int),fun(l,a,b,n) y=>[y=bU l ([],0) a.toNat b.toNat n.toNat],fun(l,a,b,n) y=>.tup [],fun(l,a,b,n) y=>y⟩
def Hq:fu:=⟨fun xs L=>match xs.map kU with | [.one (.osl o),.one (.int .i64 a),.one (.int .i64 b),.one (.int .i64 n),.one (.fn 321 [])]=>(match ae L o with | .row (.pair .str (.int .i64)) l=>some ((RG).res (l,a,b,n) o L) | _=>none) | _=>none⟩
theorem Hz:(RG).Fits (Hq):=by
 intro xs L r h;simp only[Hq] at h;split at h
 .rename_i o a b n he;split at h
  .rename_i l hl;cases h;exact⟨⟨l,a,b,n⟩,o,he,hl,rfl⟩
  .cases h
 .cases h
theorem Qv:(RG).Ok f368.np:=⟨fun⟨_,_,_,_⟩ _=>aa.cons (.inr (.inl ⟨rfl,rfl⟩)) (aa.cons (.inl ⟨rfl,rfl⟩) (aa.cons (.inl ⟨rfl,rfl⟩) (aa.cons (.inl ⟨rfl,rfl⟩) (aa.cons (.inl ⟨rfl,rfl⟩) aa.nil)))),fun⟨_,_,_,_⟩=>rfl,fun⟨_,_,_,_⟩ _=>rfl⟩
theorem Xe {S:SC}(hB:SB S)  (h368:S.has 368 f368):bJ S 368 Hq:=by
 refine muM hB [] [] [] trivial trivial trivial h368 Hz Qv (fun(l,a,b,n)=>fun f id T L=>match f,id with
  |368,0=>some (.inv { i:Nat // i<=n.toNat } (fun x=>([(10,.one (.int .i64 x.1))],[(0,.row WdT (bU l ([],0) a.toNat b.toNat x.1))])) (fun x=>n.toNat-x.1))
  |_,_=>none) 400 ?_
 rintro⟨l,a,b,n⟩ hc;have hc1:0<=a:=hc.1;have hc2:0<=n:=hc.2.1;have hc3:a+n<=b:=hc.2.2.1;have hc4:b+n<=l.length:=hc.2.2.2.1;have hc5:l.length<=1099511627776:=hc.2.2.2.2.1;refine VC.use (p:=
  ((∃ x1:{ i:Nat // i≤n.toNat },
    ((a=a)/\
    ((b=b)/\
    ((n=n)/\
    ((0=(x1.1:Int))/\
    (l=bU l ([],0) a.toNat b.toNat x1.1))))))/\
  (∀ x1 : { i : Nat // i ≤ n.toNat },
   (((↑x1.val:Int) < n →
     ((ak (a+(x1.1:Int)))/\
     ((ak (b+(x1.1:Int)))/\
     ((ak (b+(x1.1:Int)))/\
     ((0<=b+(x1.1:Int)/\b+(x1.1:Int)<(↑(bU l ([],0) a.toNat b.toNat x1.1).length:Int))/\
     (((b+(x1.1:Int)).toNat<(bU l ([],0) a.toNat b.toNat x1.1).length)/\
     ((ak (a+(x1.1:Int)))/\
     ((0<=a+(x1.1:Int)/\a+(x1.1:Int)<(↑(bU l ([],0) a.toNat b.toNat x1.1).length:Int))/\
     (((a+(x1.1:Int)).toNat<(bU l ([],0) a.toNat b.toNat x1.1).length)/\
     ((0<=a+(x1.1:Int)/\a+(x1.1:Int)<(↑(bU l ([],0) a.toNat b.toNat x1.1).length:Int))/\
     (((a+(x1.1:Int)).toNat<(bU l ([],0) a.toNat b.toNat x1.1).length)/\
     ((0<=b+(x1.1:Int)/\b+(x1.1:Int)<(↑((bU l ([],0) a.toNat b.toNat x1.1).set (a+(x1.1:Int)).toNat (((bU l ([],0) a.toNat b.toNat x1.1).getD (b+(x1.1:Int)).toNat ([],0)).1,((bU l ([],0) a.toNat b.toNat x1.1).getD (b+(x1.1:Int)).toNat ([],0)).2)).length:Int))/\
     (((b+(x1.1:Int)).toNat<((bU l ([],0) a.toNat b.toNat x1.1).set (a+(x1.1:Int)).toNat (((bU l ([],0) a.toNat b.toNat x1.1).getD (b+(x1.1:Int)).toNat ([],0)).1,((bU l ([],0) a.toNat b.toNat x1.1).getD (b+(x1.1:Int)).toNat ([],0)).2)).length)/\
     ((ak ((x1.1:Int)+1))/\
     (∃ x2 : { i : Nat // i ≤ n.toNat },
      ((n.toNat-x2.1<n.toNat-x1.1)/\
      ((a=a)/\
      ((b=b)/\
      ((n=n)/\
      (((x1.1:Int)+1=(x2.1:Int))/\
      (((bU l ([],0) a.toNat b.toNat x1.1).set (a+(x1.1:Int)).toNat (((bU l ([],0) a.toNat b.toNat x1.1).getD (b+(x1.1:Int)).toNat ([],0)).1,((bU l ([],0) a.toNat b.toNat x1.1).getD (b+(x1.1:Int)).toNat ([],0)).2)).set (b+(x1.1:Int)).toNat (((bU l ([],0) a.toNat b.toNat x1.1).getD (a+(x1.1:Int)).toNat ([],0)).1,((bU l ([],0) a.toNat b.toNat x1.1).getD (a+(x1.1:Int)).toNat ([],0)).2)=bU l ([],0) a.toNat b.toNat x2.1)))))))))))))))))))))/\
   (¬(↑x1.val : Int) < n →
    (∃ x2 : List (List UInt8 × Int),
     ((x2=bU l ([],0) a.toNat b.toNat n.toNat)/\
     (bU l ([],0) a.toNat b.toNat x1.1=x2)))))))) (by kernel_rfl) ?_
 have ea:∀i:Nat,(a+(i:Int)).toNat=a.toNat+i:=fun i=>by omega
 have eb:∀i:Nat,(b+(i:Int)).toNat=b.toNat+i:=fun i=>by omega
 refine⟨⟨⟨0,by omega⟩,rfl,rfl,rfl,rfl,rfl⟩,?_⟩;rintro⟨i,hi⟩;dsimp only at hi ⊢;simp only[ea,eb,List.length_set,dw];refine⟨fun h=>?_,fun h=>?_⟩
 .repeat' apply And.intro
  all_goals first | omega | (unfold ak;omega) | skip
  exact⟨⟨i+1,by omega⟩,by dsimp only;omega,trivial,trivial,trivial,by push_cast;rfl,rfl⟩
 .obtain rfl:i=n.toNat:=by omega
  exact⟨_,rfl,rfl⟩
structure Mh (l:List Wd) (a m b i j:Nat) (r:List Wd):Prop where
 i0:0<i
 j0:0<j
 im:i<=m-a
 jb:m+j<=b
 len:r.length=l.length
 eq:aV r (m-i) m (m+j)=aV l a m b
def Ud:oW:=⟨(List (List UInt8×Int))×Int×Int×Int,(.pair .str (.int .i64)),fun(l,a,m,b) o=>[.one (.osl o),.one (.int .i64 a),.one (.int .i64 m),.one (.int .i64 b),.one (.fn 321 [])],fun(l,a,m,b)=>l,fun(l,a,m,b)=>[0<=a,a<m,m<b,b<=l.length,l.length<=1099511627776],fun(l,a,m,b)=>List (List UInt8×Int),fun(l,a,m,b) y=>[y=aV l a.toNat m.toNat b.toNat],fun(l,a,m,b) y=>.tup [],fun(l,a,m,b) y=>y⟩
def DU:fu:=⟨fun xs L=>match xs.map kU with | [.one (.osl o),.one (.int .i64 a),.one (.int .i64 m),.one (.int .i64 b),.one (.fn 321 [])]=>(match ae L o with | .row (.pair .str (.int .i64)) l=>some ((Ud).res (l,a,m,b) o L) | _=>none) | _=>none⟩
theorem Io:(Ud).Fits (DU):=by
 intro xs L r h;simp only[DU] at h;split at h
 .rename_i o a m b he;split at h
  .rename_i l hl;cases h;exact⟨⟨l,a,m,b⟩,o,he,hl,rfl⟩
  .cases h
 .cases h
theorem Qy:(Ud).Ok f362.np:=⟨fun⟨_,_,_,_⟩ _=>aa.cons (.inr (.inl ⟨rfl,rfl⟩)) (aa.cons (.inl ⟨rfl,rfl⟩) (aa.cons (.inl ⟨rfl,rfl⟩) (aa.cons (.inl ⟨rfl,rfl⟩) (aa.cons (.inl ⟨rfl,rfl⟩) aa.nil)))),fun⟨_,_,_,_⟩=>rfl,fun⟨_,_,_,_⟩ _=>rfl⟩
theorem WN {S:SC}(hB:SB S) (Su:bJ S 368 Hq)  (h362:S.has 362 f362):bJ S 362 DU:=by
 refine muM hB [] [] [(368,Hq)] trivial trivial ⟨Su,trivial⟩ h362 Io Qy (fun(l,a,m,b)=>fun f id T L=>match f,id with
  |362,0=>some (.inv { x:Nat×Nat×List Wd // Mh l a.toNat m.toNat b.toNat x.1 x.2.1 x.2.2 } (fun x=>([(10,.one (.int .i64 x.1.1)),(11,.one (.int .i64 x.1.2.1))],[(0,.row WdT x.1.2.2)])) (fun x=>x.1.1+x.1.2.1))
  |_,_=>none) 400 ?_
 rintro⟨l,a,m,b⟩ hc;have hc1:0<=a:=hc.1;have hc2:a<m:=hc.2.1;have hc3:m<b:=hc.2.2.1;have hc4:b<=l.length:=hc.2.2.2.1;have hc5:l.length<=1099511627776:=hc.2.2.2.2.1;refine VC.use (p:=
  ((ak (m-a))/\
  ((ak (b-m))/\
  ((∃ x1:{ x:Nat×Nat×List Wd // Mh   l a.toNat m.toNat b.toNat x.fst x.snd.fst x.snd.snd },
    ((m=m)/\
    ((m-a=(x1.1.1:Int))/\
    ((b-m=(x1.1.2.1:Int))/\
    (l=x1.1.2.2)))))/\
  (∀ x1 : { x : Nat × Nat × List Wd // Mh   l a.toNat m.toNat b.toNat x.fst x.snd.fst x.snd.snd },
   (((↑x1.val.fst:Int)=(↑x1.val.snd.fst:Int) →
     ((ak (m-(x1.1.1:Int)))/\
     ((0<=m-(x1.1.1:Int))/\
     ((0<=(x1.1.1:Int))/\
     ((m-(x1.1.1:Int)+(x1.1.1:Int)<=m)/\
     ((m+(x1.1.1:Int)<=(x1.1.2.2.length:Int))/\
     ((x1.1.2.2.length<=1099511627776)/\
     (∀ x2 : (List (List UInt8 × Int)),
      (x2 = bU    x1.val.snd.snd ([], 0) (m - (↑x1.val.fst : Int)).toNat m.toNat x1.val.fst →
       (∃ x3 : List (List UInt8 × Int),
        ((x3=aV l a.toNat m.toNat b.toNat)/\
        (x2=x3))))))))))))/\
   (¬(↑x1.val.fst : Int) = (↑x1.val.snd.fst : Int) →
    (((↑x1.val.snd.fst:Int) < (↑x1.val.fst:Int) →
      ((ak (m-(x1.1.1:Int)))/\
      ((0<=m-(x1.1.1:Int))/\
      ((0<=(x1.1.2.1:Int))/\
      ((m-(x1.1.1:Int)+(x1.1.2.1:Int)<=m)/\
      ((m+(x1.1.2.1:Int)<=(x1.1.2.2.length:Int))/\
      ((x1.1.2.2.length<=1099511627776)/\
      (∀ x2 : (List (List UInt8 × Int)),
       (x2 = bU    x1.val.snd.snd ([], 0) (m - (↑x1.val.fst : Int)).toNat m.toNat x1.val.snd.fst →
        ((ak ((x1.1.1:Int)-(x1.1.2.1:Int)))/\
        (∃ x3 : { x : Nat × Nat × List Wd // Mh   l a.toNat m.toNat b.toNat x.fst x.snd.fst x.snd.snd },
         ((x3.1.1+x3.1.2.1<x1.1.1+x1.1.2.1)/\
         ((m=m)/\
         (((x1.1.1:Int)-(x1.1.2.1:Int)=(x3.1.1:Int))/\
         (((x1.1.2.1:Int)=(x3.1.2.1:Int))/\
         (x2=x3.1.2.2))))))))))))))))/\
    (¬(↑x1.val.snd.fst : Int) < (↑x1.val.fst : Int) →
     ((ak (m-(x1.1.1:Int)))/\
     ((ak (m+(x1.1.2.1:Int)))/\
     ((ak (m+(x1.1.2.1:Int)-(x1.1.1:Int)))/\
     ((0<=m-(x1.1.1:Int))/\
     ((0<=(x1.1.1:Int))/\
     ((m-(x1.1.1:Int)+(x1.1.1:Int)<=m+(x1.1.2.1:Int)-(x1.1.1:Int))/\
     ((m+(x1.1.2.1:Int)-(x1.1.1:Int)+(x1.1.1:Int)<=(x1.1.2.2.length:Int))/\
     ((x1.1.2.2.length<=1099511627776)/\
     (∀ x2 : (List (List UInt8 × Int)),
      (x2 = bU    x1.val.snd.snd ([], 0) (m - (↑x1.val.fst : Int)).toNat (m + (↑x1.val.snd.fst : Int) - (↑x1.val.fst : Int)).toNat x1.val.fst →
       ((ak ((x1.1.2.1:Int)-(x1.1.1:Int)))/\
       (∃ x3 : { x : Nat × Nat × List Wd // Mh   l a.toNat m.toNat b.toNat x.fst x.snd.fst x.snd.snd },
        ((x3.1.1+x3.1.2.1<x1.1.1+x1.1.2.1)/\
        ((m=m)/\
        (((x1.1.1:Int)=(x3.1.1:Int))/\
        (((x1.1.2.1:Int)-(x1.1.1:Int)=(x3.1.2.1:Int))/\
        (x2=x3.1.2.2)))))))))))))))))))))))))) (by kernel_rfl) ?_
 refine⟨by unfold ak;omega,by unfold ak;omega,⟨⟨((m-a).toNat,(b-m).toNat,l),by dsimp only;omega,by dsimp only;omega,by dsimp only;omega,by dsimp only;omega,rfl,by dsimp only;rw[show m.toNat-(m-a).toNat=a.toNat by omega,show m.toNat+(b-m).toNat=b.toNat by omega]⟩,rfl,by dsimp only;omega,by dsimp only;omega,rfl⟩,?_⟩;rintro⟨⟨i,j,r⟩,⟨i0,j0,im,jb,hl,he⟩⟩;dsimp only at i0 j0 im jb hl he ⊢;have e1:(m-(i:Int)).toNat=m.toNat-i:=by omega
 have e2:(m+(j:Int)-(i:Int)).toNat=m.toNat+j-i:=by omega
 rw[e1,e2,hl];refine⟨fun h=>?_,fun h=>⟨fun h2=>?_,fun h2=>?_⟩⟩
 .have hij:i=j:=by omega
  subst hij;refine⟨by unfold ak;omega,by omega,by omega,by omega,by omega,by omega,?_⟩;rintro y rfl;exact⟨_,rfl,by rw[TN (by omega) (by omega)];exact he⟩
 .refine⟨by unfold ak;omega,by omega,by omega,by omega,by omega,by omega,?_⟩;rintro y rfl;refine⟨by unfold ak;omega,⟨⟨(i-j,j,bU r ([],0) (m.toNat-i) m.toNat j),by dsimp only;omega,j0,by dsimp only;omega,jb,by dsimp only;rw[dw,hl],by dsimp only;rw[TS j0 (by omega) (by omega) (by omega)];exact he⟩,by dsimp only;omega,rfl,by dsimp only;omega,rfl,rfl⟩⟩
 .refine⟨by unfold ak;omega,by unfold ak;omega,by unfold ak;omega,by omega,by omega,by omega,by omega,by omega,?_⟩;rintro y rfl;refine⟨by unfold ak;omega,⟨⟨(i,j-i,bU r ([],0) (m.toNat-i) (m.toNat+j-i) i),i0,by dsimp only;omega,im,by dsimp only;omega,by dsimp only;rw[dw,hl],by dsimp only;rw[TU i0 (by omega) (by omega) (by omega)];exact he⟩,by dsimp only;omega,rfl,rfl,by dsimp only;omega,rfl⟩⟩
structure xG (l:List Wd) (a b i j:Nat) (r:List Wd):Prop where
 aj:a<=j
 ji:j<=i
 pi:PI l r a b
 srt:∀p q,a<=p->p<q->q<=i->q≠j->ltW (r.getD q ([],0)) (r.getD p ([],0))=false
theorem xG.done {l r:List Wd}{a b i j:Nat}(h:xG l a b i j r) (hi:i<b) (hj:j=a\/ltW (r.getD j ([],0)) (r.getD (j-1) ([],0))=false):PI l r a b/\aW ltW ([],0) r a (i+1):=by
 refine⟨h.pi,fun p q h1 h2 h3=>?_⟩;by_cases e:q=j
 .subst e;rcases hj with hj | hj
  .omega
  .rcases Nat.lt_or_ge p (q-1) with c | c
   .exact bX.ntr _ _ _ hj (h.srt p (q-1) h1 c (by have:=h.ji;omega) (by omega))
   .rw[show p=q-1 by omega];exact hj
 .exact h.srt p q h1 h2 (by omega) e
theorem xG.step {l r:List Wd}{a b i j:Nat}(h:xG l a b i j r) (hi:i<b) (hb:b<=l.length) (hj:a<j) (hlt:ltW (r.getD j ([],0)) (r.getD (j-1) ([],0))=true):xG l a b i (j-1) (jY r ([],0) j (j-1)):=by
 have hji:=h.ji;have hl:=h.pi.len;refine⟨by omega,by omega,h.pi.trans (Oc (by omega) (by omega) (by omega)),fun p q h1 h2 h3 h4=>?_⟩;have g:=fun p=>oZ (l:=r) (d:=(([],0):Wd)) (i:=j) (j:=j-1) (p:=p) (by omega) (by omega)
 rw[g,g,if_neg h4];by_cases e:q=j
 .rw[if_pos e];by_cases e1:p=j-1
  .rw[if_pos e1];exact bX.asy _ _ hlt
  .rw[if_neg e1,if_neg (by omega)];exact h.srt p (j-1) h1 (by omega) (by omega) (by omega)
 .rw[if_neg e];by_cases e1:p=j-1
  .rw[if_pos e1];exact h.srt j q (by omega) (by omega) h3 e
  .rw[if_neg e1];by_cases e2:p=j
   .rw[if_pos e2];exact h.srt (j-1) q (by omega) (by omega) h3 e
   .rw[if_neg e2];exact h.srt p q h1 h2 h3 e
def Ut:oW:=⟨(List (List UInt8×Int))×Int×Int,(.pair .str (.int .i64)),fun(l,a,b) o=>[.one (.osl o),.one (.int .i64 a),.one (.int .i64 b),.one (.fn 321 [])],fun(l,a,b)=>l,fun(l,a,b)=>[0<=a,a<=b,b<=l.length,l.length<=1099511627776],fun(l,a,b)=>List (List UInt8×Int),fun(l,a,b) y=>[PI l y a.toNat b.toNat,aW ltW ([],0) y a.toNat b.toNat],fun(l,a,b) y=>.tup [],fun(l,a,b) y=>y⟩
def Gw:fu:=⟨fun xs L=>match xs.map kU with | [.one (.osl o),.one (.int .i64 a),.one (.int .i64 b),.one (.fn 321 [])]=>(match ae L o with | .row (.pair .str (.int .i64)) l=>some ((Ut).res (l,a,b) o L) | _=>none) | _=>none⟩
theorem Ib:(Ut).Fits (Gw):=by
 intro xs L r h;simp only[Gw] at h;split at h
 .rename_i o a b he;split at h
  .rename_i l hl;cases h;exact⟨⟨l,a,b⟩,o,he,hl,rfl⟩
  .cases h
 .cases h
theorem NF:(Ut).Ok f351.np:=⟨fun⟨_,_,_⟩ _=>aa.cons (.inr (.inl ⟨rfl,rfl⟩)) (aa.cons (.inl ⟨rfl,rfl⟩) (aa.cons (.inl ⟨rfl,rfl⟩) (aa.cons (.inl ⟨rfl,rfl⟩) aa.nil))),fun⟨_,_,_⟩=>rfl,fun⟨_,_,_⟩ _=>rfl⟩
theorem WP {S:SC}(hB:SB S) (wV:aX S 321 (aI Bl)) (h351:S.has 351 f351):bJ S 351 Gw:=by
 refine muM hB [] [⟨321,Bl,NT⟩] [] trivial ⟨⟨wV,FC⟩,trivial⟩ trivial h351 Ib NF (fun(l,a,b)=>fun f id T L=>match f,id with
  |351,0=>some (.inv { x:Nat×List Wd // a.toNat<x.1/\PI l x.2 a.toNat b.toNat/\aW ltW ([],0) x.2 a.toNat x.1/\(x.1<=b.toNat\/x.1=a.toNat+1) } (fun x=>([(8,.one (.int .i64 x.1.1))],[(0,.row WdT x.1.2)])) (fun x=>b.toNat-x.1.1))
  |351,2=>match T.getD 8 .junk with | .one (.int .i64 i)=>some (.inv { x:Nat×List Wd // xG l a.toNat b.toNat i.toNat x.1 x.2 } (fun x=>([(9,.one (.int .i64 x.1.1))],[(0,.row WdT x.1.2)])) (fun x=>x.1.1)) | _=>none
  |_,_=>none) 400 ?_
 rintro⟨l,a,b⟩ hc;have hc1:0<=a:=hc.1;have hc2:a<=b:=hc.2.1;have hc3:b<=l.length:=hc.2.2.1;have hc4:l.length<=1099511627776:=hc.2.2.2.1;refine VC.use (p:=
  ((ak (a+1))/\
  ((∃ x1:{ x:Nat×List Wd // a.toNat < x.fst∧PI l x.snd a.toNat b.toNat∧aW   ltW ([],0) x.snd a.toNat x.fst∧(x.fst≤b.toNat∨x.fst=a.toNat+1) },
    ((a=a)/\
    ((b=b)/\
    ((a+1=(x1.1.1:Int))/\
    (l=x1.1.2)))))/\
  (∀ x1 : { x : Nat × List Wd // a.toNat < x.fst ∧ PI l x.snd a.toNat b.toNat ∧ aW   ltW ([], 0) x.snd a.toNat x.fst ∧ (x.fst ≤ b.toNat ∨ x.fst = a.toNat + 1) },
   (((↑x1.val.fst:Int) < b →
     ((∃ x2:{ x:Nat×List Wd // xG   l a.toNat b.toNat x1.val.fst x.fst x.snd },
       ((a=a)/\
       ((b=b)/\
       (((x1.1.1:Int)=(x1.1.1:Int))/\
       (((x1.1.1:Int)=(x2.1.1:Int))/\
       (x1.1.2=x2.1.2))))))/\
     (∀ x2 : { x : Nat × List Wd // xG   l a.toNat b.toNat x1.val.fst x.fst x.snd },
      ((a < (↑x2.val.fst:Int) →
        ((0<=(x2.1.1:Int)/\(x2.1.1:Int)<(x2.1.2.length:Int))/\
        ((x2.1.1<x2.1.2.length)/\
        ((ak ((x2.1.1:Int)-1))/\
        ((0<=(x2.1.1:Int)-1/\(x2.1.1:Int)-1<(x2.1.2.length:Int))/\
        ((((x2.1.1:Int)-1).toNat<x2.1.2.length)/\
        ((iL   (x2.val.snd.getD x2.val.fst ([],0)).fst (x2.val.snd.getD ((↑x2.val.fst:Int) - 1).toNat ([],0)).fst < 0 →
          ((ak ((x2.1.1:Int)-1))/\
          ((ak ((x2.1.1:Int)-1))/\
          ((0<=(x2.1.1:Int)-1/\(x2.1.1:Int)-1<(x2.1.2.length:Int))/\
          ((((x2.1.1:Int)-1).toNat<x2.1.2.length)/\
          ((0<=(x2.1.1:Int)/\(x2.1.1:Int)<(x2.1.2.length:Int))/\
          ((x2.1.1<x2.1.2.length)/\
          ((0<=(x2.1.1:Int)/\(x2.1.1:Int)<(x2.1.2.length:Int))/\
          ((x2.1.1<x2.1.2.length)/\
          ((0<=(x2.1.1:Int)-1/\(x2.1.1:Int)-1<(↑(x2.1.2.set x2.1.1 ((x2.1.2.getD ((x2.1.1:Int)-1).toNat ([],0)).1,(x2.1.2.getD ((x2.1.1:Int)-1).toNat ([],0)).2)).length:Int))/\
          ((((x2.1.1:Int)-1).toNat<(x2.1.2.set x2.1.1 ((x2.1.2.getD ((x2.1.1:Int)-1).toNat ([],0)).1,(x2.1.2.getD ((x2.1.1:Int)-1).toNat ([],0)).2)).length)/\
          ((ak ((x2.1.1:Int)-1))/\
          (∃ x3 : { x : Nat × List Wd // xG   l a.toNat b.toNat x1.val.fst x.fst x.snd },
           ((x3.1.1<x2.1.1)/\
           ((a=a)/\
           ((b=b)/\
           (((x1.1.1:Int)=(x1.1.1:Int))/\
           (((x2.1.1:Int)-1=(x3.1.1:Int))/\
           ((x2.1.2.set x2.1.1 ((x2.1.2.getD ((x2.1.1:Int)-1).toNat ([],0)).1,(x2.1.2.getD ((x2.1.1:Int)-1).toNat ([],0)).2)).set ((x2.1.1:Int)-1).toNat ((x2.1.2.getD x2.1.1 ([],0)).1,(x2.1.2.getD x2.1.1 ([],0)).2)=x3.1.2)))))))))))))))))))/\
        (¬iL   (x2.val.snd.getD x2.val.fst ([], 0)).fst (x2.val.snd.getD ((↑x2.val.fst : Int) - 1).toNat ([], 0)).fst < 0 →
         ((ak ((x1.1.1:Int)+1))/\
         (∃ x3 : { x : Nat × List Wd // a.toNat < x.fst ∧ PI l x.snd a.toNat b.toNat ∧ aW   ltW ([], 0) x.snd a.toNat x.fst ∧ (x.fst ≤ b.toNat ∨ x.fst = a.toNat + 1) },
          ((b.toNat-x3.1.1<b.toNat-x1.1.1)/\
          ((a=a)/\
          ((b=b)/\
          (((x1.1.1:Int)+1=(x3.1.1:Int))/\
          (x2.1.2=x3.1.2)))))))))))))))/\
      (¬a < (↑x2.val.fst : Int) →
       ((ak ((x1.1.1:Int)+1))/\
       (∃ x3 : { x : Nat × List Wd // a.toNat < x.fst ∧ PI l x.snd a.toNat b.toNat ∧ aW   ltW ([], 0) x.snd a.toNat x.fst ∧ (x.fst ≤ b.toNat ∨ x.fst = a.toNat + 1) },
        ((b.toNat-x3.1.1<b.toNat-x1.1.1)/\
        ((a=a)/\
        ((b=b)/\
        (((x1.1.1:Int)+1=(x3.1.1:Int))/\
        (x2.1.2=x3.1.2))))))))))))/\
   (¬(↑x1.val.fst : Int) < b →
    (∃ x2 : List (List UInt8 × Int),
     ((PI l x2 a.toNat b.toNat)/\
     ((aW ltW ([],0) x2 a.toNat b.toNat)/\
     (x1.1.2=x2)))))))))) (by kernel_rfl) ?_
 refine⟨by unfold ak;omega,⟨⟨(a.toNat+1,l),by dsimp only;omega,PI.refl,fun p q h1 h2 h3=>by dsimp only at h3;omega,.inr rfl⟩,rfl,rfl,by dsimp only;omega,rfl⟩,?_⟩;rintro⟨⟨i,r⟩,hai,hpi,hs,hib⟩;dsimp only at hai hpi hs hib ⊢;have hl:=hpi.len;refine⟨fun h=>?_,fun h=>?_⟩
 .refine⟨⟨⟨(i,r),by dsimp only;omega,zJ _,hpi,fun p q h1 h2 h3 h4=>hs p q h1 h2 (by dsimp only at h4;omega)⟩,rfl,rfl,rfl,rfl,rfl⟩,?_⟩;rintro⟨⟨j,r2⟩,hI⟩;dsimp only at hI ⊢;have hl2:=hI.pi.len;have hji:=hI.ji;have haj:=hI.aj;have tj:((j:Int)-1).toNat=j-1:=by omega
  simp only[tj,List.length_set,hl2];have fin:(j=a.toNat\/ltW (r2.getD j ([],0)) (r2.getD (j-1) ([],0))=false)->∃x3:{ x:Nat×List Wd // a.toNat<x.1/\PI l x.2 a.toNat b.toNat/\aW ltW ([],0) x.2 a.toNat x.1/\(x.1<=b.toNat\/x.1=a.toNat+1) },((b.toNat-x3.1.1<b.toNat-i)/\((a=a)/\((b=b)/\(((i:Int)+1=(x3.1.1:Int))/\(r2=x3.1.2))))):=fun hj=>by
   obtain⟨g1,g2⟩:=hI.done (by omega) hj;exact⟨⟨(i+1,r2),by dsimp only;omega,g1,g2,by dsimp only;omega⟩,by dsimp only;omega,rfl,rfl,by dsimp only;omega,rfl⟩
  refine⟨fun h1=>?_,fun h1=>?_⟩
  .refine⟨by omega,by omega,by unfold ak;omega,by omega,by omega,fun h2=>?_,fun h2=>?_⟩
   .clear fin;refine⟨by unfold ak;omega,by unfold ak;omega,by omega,by omega,by omega,by omega,by omega,by omega,by omega,by omega,by unfold ak;omega,?_⟩;exact⟨⟨(j-1,jY r2 ([],0) j (j-1)),hI.step (by omega) (by omega) (by omega) ((oF _ _).1 h2)⟩,by dsimp only;omega,trivial,trivial,trivial,by dsimp only;omega,rfl⟩
   .refine⟨by unfold ak;omega,?_⟩;obtain⟨x,q1,q2,q3,q4,q5⟩:=fin (.inr ((oO _ _).1 h2));exact⟨x,q1,trivial,trivial,q4,q5⟩
  .refine⟨by unfold ak;omega,?_⟩;have hja:j=a.toNat:=by omega
   obtain⟨x,q1,q2,q3,q4,q5⟩:=fin (.inl hja);exact⟨x,q1,trivial,trivial,q4,q5⟩
 .exact⟨r,hpi,hs.mono (zJ _) (by omega),rfl⟩
end Go.EA
end
section
set_option maxRecDepth 100000
set_option maxHeartbeats 0
namespace Go.EA
open F
theorem Jy {α:Type}{l:List α}{m b:Nat}(h:m<=b) (hb:b<=l.length):aV l m m b=l:=by
 refine List.ext_getElem? fun p=>?_
 rw[pG (zJ _) h hb]
 repeat' split
 all_goals first | rfl | (congr 1;omega)
theorem KE {α:Type}{l:List α}{a m:Nat}(h:a<=m) (hb:m<=l.length):aV l a m m=l:=by
 refine List.ext_getElem? fun p=>?_
 rw[pG h (zJ _) hb]
 repeat' split
 all_goals first | rfl | (congr 1;omega)
structure SeA (l:List Wd) (a m b i j:Nat):Prop where
 mi:m<=i
 ij:i<=j
 jb:j<=b
 lo:∀h,m<=h->h<i->ltW (l.getD h ([],0)) (l.getD a ([],0))=true
 hi:∀h,j<=h->h<b->ltW (l.getD h ([],0)) (l.getD a ([],0))=false
structure SeB (l:List Wd) (a m i j:Nat):Prop where
 mi:a<=i
 ij:i<=j
 jb:j<=m
 lo:∀h,a<=h->h<i->ltW (l.getD m ([],0)) (l.getD h ([],0))=false
 hi:∀h,j<=h->h<m->ltW (l.getD m ([],0)) (l.getD h ([],0))=true
structure SeC (l:List Wd) (lo hi p i j:Nat):Prop where
 mi:lo<=i
 ij:i<=j
 jb:j<=hi
 lo:∀c,lo<=c->c<i->ltW (l.getD (p-c) ([],0)) (l.getD c ([],0))=false
 hi:∀c,j<=c->c<hi->ltW (l.getD (p-c) ([],0)) (l.getD c ([],0))=true
theorem lW (i j:Nat) (h:i+j<=4611686018427387904):(IntKind.u64.wrap ((i:Int)+j)).fdiv 2=(((i+j) / 2:Nat):Int):=by
 have e:IntKind.u64.wrap ((i:Int)+j)=(i:Int)+j:=by
  simp only[IntKind.wrap,IntKind.bits,IntKind.signed];simp;omega
 rw[e,Int.fdiv_eq_ediv_of_nonneg _ (by decide)];omega
theorem SWo.lel {α:Type}{lt:α->α->Bool}(hw:SWo lt) {x y z:α}(h:lt y x=false) (h':lt y z=true):lt x z=true:=by
 cases e:lt x z with
 |true=>rfl
 |false=>have:=hw.ntr _ _ _ h e;rw[this] at h';cases h'
theorem SWo.ltl {α:Type}{lt:α->α->Bool}(hw:SWo lt) {x y z:α}(h:lt x y=true) (h':lt z y=false):lt x z=true:=by
 cases e:lt x z with
 |true=>rfl
 |false=>have:=hw.ntr _ _ _ e h';rw[this] at h;cases h
theorem SeA.init (l:List Wd) {a m b:Nat}(h:m<=b):SeA l a m b m b:=⟨zJ _,h,zJ _,fun _ _ _=>by omega,fun _ _ _=>by omega⟩
theorem SeA.up {l:List Wd}{a m b i j h:Nat}(hs:aW ltW ([],0) l m b) (s:SeA l a m b i j) (h1:i<=h) (h2:h<j) (hl:ltW (l.getD h ([],0)) (l.getD a ([],0))=true):SeA l a m b (h+1) j:=by
 have s1:=s.mi;have s3:=s.jb;exact⟨by omega,by omega,s.jb,fun q q1 q2=>bX.lel (hs.le bX q1 (show q<=h by omega) (by omega)) hl,s.hi⟩
theorem SeA.dn {l:List Wd}{a m b i j h:Nat}(hs:aW ltW ([],0) l m b) (s:SeA l a m b i j) (h1:i<=h) (h2:h<j) (hl:ltW (l.getD h ([],0)) (l.getD a ([],0))=false):SeA l a m b i h:=by
 have s1:=s.mi;have s3:=s.jb;exact⟨s.mi,h1,by omega,s.lo,fun q q1 q2=>bX.ntr _ _ _ (hs.le bX (by omega) q1 q2) hl⟩
theorem SeB.init (l:List Wd) {a m:Nat}(h:a<=m):SeB l a m a m:=⟨zJ _,h,zJ _,fun _ _ _=>by omega,fun _ _ _=>by omega⟩
theorem SeB.up {l:List Wd}{a m i j h:Nat}(hs:aW ltW ([],0) l a m) (s:SeB l a m i j) (h1:i<=h) (h2:h<j) (hl:ltW (l.getD m ([],0)) (l.getD h ([],0))=false):SeB l a m (h+1) j:=by
 have s1:=s.mi;have s3:=s.jb;exact⟨by omega,by omega,s.jb,fun q q1 q2=>bX.ntr _ _ _ hl (hs.le bX q1 (show q<=h by omega) (by omega)),s.hi⟩
theorem SeB.dn {l:List Wd}{a m i j h:Nat}(hs:aW ltW ([],0) l a m) (s:SeB l a m i j) (h1:i<=h) (h2:h<j) (hl:ltW (l.getD m ([],0)) (l.getD h ([],0))=true):SeB l a m i h:=by
 have s1:=s.mi;have s3:=s.jb;exact⟨s.mi,h1,by omega,s.lo,fun q q1 q2=>bX.ltl hl (hs.le bX (by omega) q1 q2)⟩
theorem SeC.init (l:List Wd) {lo hi p:Nat}(h:lo<=hi):SeC l lo hi p lo hi:=⟨zJ _,h,zJ _,fun _ _ _=>by omega,fun _ _ _=>by omega⟩
theorem SeC.up {l:List Wd}{lo hi p a m b i j h:Nat}(hs1:aW ltW ([],0) l a m) (hs2:aW ltW ([],0) l m b) (hr:∀c,lo<=c->c<hi->a<=c/\c<m/\m<=p-c/\p-c<b/\c<=p) (s:SeC l lo hi p i j) (h1:i<=h) (h2:h<j) (hl:ltW (l.getD (p-h) ([],0)) (l.getD h ([],0))=false):SeC l lo hi p (h+1) j:=by
 have s1:=s.mi;have s3:=s.jb;refine⟨by omega,by omega,s.jb,fun q q1 q2=>?_,s.hi⟩;have r1:=hr h (by omega) (by omega);have r2:=hr q q1 (by omega);exact bX.ntr _ _ _ (hs2.le bX r1.2.2.1 (show p-h<=p-q by omega) r2.2.2.2.1) (bX.ntr _ _ _ hl (hs1.le bX r2.1 (show q<=h by omega) r1.2.1))
theorem SeC.dn {l:List Wd}{lo hi p a m b i j h:Nat}(hs1:aW ltW ([],0) l a m) (hs2:aW ltW ([],0) l m b) (hr:∀c,lo<=c->c<hi->a<=c/\c<m/\m<=p-c/\p-c<b/\c<=p) (s:SeC l lo hi p i j) (h1:i<=h) (h2:h<j) (hl:ltW (l.getD (p-h) ([],0)) (l.getD h ([],0))=true):SeC l lo hi p i h:=by
 have s1:=s.mi;have s3:=s.jb;refine⟨s.mi,h1,by omega,s.lo,fun q q1 q2=>?_⟩;have r1:=hr h (by omega) (by omega);have r2:=hr q (by omega) q2;exact bX.lel (hs2.le bX r2.2.2.1 (show p-q<=p-h by omega) r1.2.2.2.1) (bX.ltl hl (hs1.le bX r1.1 q1 r2.2.1))
def Gd (k:Nat):oW:=⟨(List (List UInt8×Int))×Int×Int×Int,(.pair .str (.int .i64)),fun(l,a,m,b) o=>[.one (.osl o),.one (.int .i64 a),.one (.int .i64 m),.one (.int .i64 b),.one (.fn 321 [])],fun(l,a,m,b)=>l,fun(l,a,m,b)=>[(b-a).toNat<k,0<=a,a<m,m<b,b<=l.length,l.length<=1099511627776,aW ltW ([],0) l a.toNat m.toNat,aW ltW ([],0) l m.toNat b.toNat],fun(l,a,m,b)=>List (List UInt8×Int),fun(l,a,m,b) y=>[PI l y a.toNat b.toNat,aW ltW ([],0) y a.toNat b.toNat],fun(l,a,m,b) y=>.tup [],fun(l,a,m,b) y=>y⟩
def Ko (k:Nat):fu:=⟨fun xs L=>match xs.map kU with | [.one (.osl o),.one (.int .i64 a),.one (.int .i64 m),.one (.int .i64 b),.one (.fn 321 [])]=>(match ae L o with | .row (.pair .str (.int .i64)) l=>some ((Gd k).res (l,a,m,b) o L) | _=>none) | _=>none⟩
theorem wh (k:Nat):(Gd k).Fits (Ko k):=by
 intro xs L r h;simp only[Ko] at h;split at h
 .rename_i o a m b he;split at h
  .rename_i l hl;cases h;exact⟨⟨l,a,m,b⟩,o,he,hl,rfl⟩
  .cases h
 .cases h
theorem Om (k:Nat):(Gd k).Ok f352.np:=⟨fun⟨_,_,_,_⟩ _=>aa.cons (.inr (.inl ⟨rfl,rfl⟩)) (aa.cons (.inl ⟨rfl,rfl⟩) (aa.cons (.inl ⟨rfl,rfl⟩) (aa.cons (.inl ⟨rfl,rfl⟩) (aa.cons (.inl ⟨rfl,rfl⟩) aa.nil)))),fun⟨_,_,_,_⟩=>rfl,fun⟨_,_,_,_⟩ _=>rfl⟩
theorem KU {S:SC}(hB:SB S) (Ia:bJ S 362 DU) (wV:aX S 321 (aI Bl)) (h352:S.has 352 f352):∀k,bJ S 352 (Ko k)
 | 0=>fun c L H xs ys r hr hp=>by
   obtain⟨_,_,_,_,rfl⟩:=wh 0 xs L r hr;exact absurd hp.1 (zS _)
 | k+1=>by
   have LB:=KU hB Ia wV h352 k;refine muM hB [] [⟨321,Bl,NT⟩] [(362,DU),(352,Ko k)] trivial ⟨⟨wV,FC⟩,trivial⟩ ⟨Ia,LB,trivial⟩ h352 (wh (k+1)) (Om (k+1)) (fun(l,a,m,b)=>fun f id T L=>match f,id with
    |352,0=>some (.inv { x:Nat×Nat // SeA l a.toNat m.toNat b.toNat x.1 x.2 } (fun x=>([(10,.one (.int .i64 x.1.1)),(11,.one (.int .i64 x.1.2))],[])) (fun x=>x.1.2-x.1.1))
    |352,2=>match T.getD 10 .junk with | .one (.int .i64 i)=>some (.inv { k:Nat // a.toNat<=k/\k+1<=i.toNat } (fun x=>([(13,.one (.int .i64 x.1))],[(0,.row WdT (aV l a.toNat (a.toNat+1) (x.1+1)))])) (fun x=>i.toNat-x.1)) | _=>none
    |352,4=>some (.inv { x:Nat×Nat // SeB l a.toNat m.toNat x.1 x.2 } (fun x=>([(14,.one (.int .i64 x.1.1)),(15,.one (.int .i64 x.1.2))],[])) (fun x=>x.1.2-x.1.1))
    |352,6=>match T.getD 14 .junk with | .one (.int .i64 i)=>some (.inv { k:Nat // i.toNat<=k/\k<=m.toNat } (fun x=>([(17,.one (.int .i64 x.1))],[(0,.row WdT (aV l x.1 m.toNat (m.toNat+1)))])) (fun x=>x.1)) | _=>none
    |352,8=>match T.getD 20 .junk,T.getD 21 .junk,T.getD 22 .junk with | .one (.int .i64 lo),.one (.int .i64 hi),.one (.int .i64 p)=>some (.inv { x:Nat×Nat // SeC l lo.toNat hi.toNat p.toNat x.1 x.2 } (fun x=>([(20,.one (.int .i64 x.1.1)),(21,.one (.int .i64 x.1.2))],[])) (fun x=>x.1.2-x.1.1)) | _,_,_=>none
    |352,4040=>match T.getD 10 .junk,T.getD 11 .junk with | .one (.int .i64 i),.one (.int .i64 j)=>some (.cut { h:Nat // (h:Int)=(i+j) / 2 } (fun x=>([(12,.one (.int .i64 x.1))],[]))) | _,_=>none
    |352,4092=>match T.getD 14 .junk,T.getD 15 .junk with | .one (.int .i64 i),.one (.int .i64 j)=>some (.cut { h:Nat // (h:Int)=(i+j) / 2 } (fun x=>([(16,.one (.int .i64 x.1))],[]))) | _,_=>none
    |352,4158=>match T.getD 20 .junk,T.getD 21 .junk with | .one (.int .i64 i),.one (.int .i64 j)=>some (.cut { h:Nat // (h:Int)=(i+j) / 2 } (fun x=>([(23,.one (.int .i64 x.1))],[]))) | _,_=>none
    |352,4135=>match T.getD 1 .junk,T.getD 3 .junk with | .one (.int .i64 i),.one (.int .i64 j)=>some (.cut { h:Nat // (h:Int)=(i+j) / 2 } (fun x=>([(18,.one (.int .i64 x.1))],[]))) | _,_=>none
    |352,4147=>match T.getD 18 .junk,T.getD 19 .junk with | .one (.int .i64 mid),.one (.int .i64 n)=>some (.cut { x:Int×Int // x.1=(if mid<m then n-b else a)/\x.2=(if mid<m then mid else m) } (fun x=>([(20,.one (.int .i64 x.1.1)),(21,.one (.int .i64 x.1.2))],[]))) | _,_=>none
    |352,4192=>match T.getD 20 .junk,T.getD 24 .junk with | .one (.int .i64 st),.one (.int .i64 en)=>some (.cut { r:List Wd // r=aV l st.toNat m.toNat en.toNat } (fun x=>([],[(0,.row WdT x.1)]))) | _,_=>none
    |352,4206=>match T.getD 20 .junk,T.getD 24 .junk,T.getD 18 .junk with | .one (.int .i64 st),.one (.int .i64 en),.one (.int .i64 mid)=>some (.cut { r:List Wd // PI (aV l st.toNat m.toNat en.toNat) r a.toNat mid.toNat/\aW ltW ([],0) r a.toNat mid.toNat } (fun x=>([],[(0,.row WdT x.1)]))) | _,_,_=>none
    |_,_=>none) 2000 ?_
   rintro⟨l,a,m,b⟩ hc;have hc0:(b-a).toNat<k+1:=hc.1;have hc1:0<=a:=hc.2.1;have hc2:a<m:=hc.2.2.1;have hc3:m<b:=hc.2.2.2.1;have hc4:b<=l.length:=hc.2.2.2.2.1;have hc5:l.length<=1099511627776:=hc.2.2.2.2.2.1;have hc6:aW ltW ([],0) l a.toNat m.toNat:=hc.2.2.2.2.2.2.1;have hc7:aW ltW ([],0) l m.toNat b.toNat:=hc.2.2.2.2.2.2.2.1;refine VC.use (p:=
   ((ak (m-a))/\
   ((m - a=1 →
     ((∃ x1:{ x:Nat×Nat // SeA l a.toNat m.toNat b.toNat x.fst x.snd },
       ((a=a)/\
       ((m=(x1.1.1:Int))/\
       ((b=(x1.1.2:Int))/\
       (l=l)))))/\
     (∀ x1 : { x : Nat × Nat // SeA l a.toNat m.toNat b.toNat x.fst x.snd },
      (((↑x1.val.fst:Int) < (↑x1.val.snd:Int) →
        (((ak   ((↑x1.val.fst : Int) + (↑x1.val.snd : Int))) ∧
         ((ak ((IntKind.u64.wrap ((x1.1.1:Int)+(x1.1.2:Int))).fdiv 2))/\
         (∃ x2 : { h : Nat // (↑h : Int) = ((↑x1.val.fst : Int) + (↑x1.val.snd : Int)) / 2 },
          ((a=a)/\
          (((x1.1.1:Int)=(x1.1.1:Int))/\
          (((x1.1.2:Int)=(x1.1.2:Int))/\
          (((IntKind.u64.wrap ((x1.1.1:Int)+(x1.1.2:Int))).fdiv 2=(x2.1:Int))/\
          (l=l))))))))/\
        (∀ x2 : { h : Nat // (↑h : Int) = ((↑x1.val.fst : Int) + (↑x1.val.snd : Int)) / 2 },
         ((0<=(x2.1:Int)/\(x2.1:Int)<(l.length:Int))/\
         ((x2.1<l.length)/\
         ((0<=a/\a<(l.length:Int))/\
         ((a.toNat<l.length)/\
         ((iL   (l.getD x2.val ([],0)).fst (l.getD a.toNat ([],0)).fst < 0 →
           ((ak ((x2.1:Int)+1))/\
           (∃ x3 : { x : Nat × Nat // SeA l a.toNat m.toNat b.toNat x.fst x.snd },
            ((x3.1.2-x3.1.1<x1.1.2-x1.1.1)/\
            ((a=a)/\
            (((x2.1:Int)+1=(x3.1.1:Int))/\
            (((x1.1.2:Int)=(x3.1.2:Int))/\
            (l=l))))))))/\
         (¬iL   (l.getD x2.val ([], 0)).fst (l.getD a.toNat ([], 0)).fst < 0 →
          (∃ x3 : { x : Nat × Nat // SeA l a.toNat m.toNat b.toNat x.fst x.snd },
           ((x3.1.2-x3.1.1<x1.1.2-x1.1.1)/\
           ((a=a)/\
           (((x1.1.1:Int)=(x3.1.1:Int))/\
           (((x2.1:Int)=(x3.1.2:Int))/\
           (l=l)))))))))))))))/\
      (¬(↑x1.val.fst : Int) < (↑x1.val.snd : Int) →
       ((∃ x2:{ k:Nat // a.toNat≤k∧k+1≤x1.val.fst },
         (((x1.1.1:Int)=(x1.1.1:Int))/\
         ((a=(x2.1:Int))/\
         (l=aV l a.toNat (a.toNat+1) (x2.1+1)))))/\
       (∀ x2 : { k : Nat // a.toNat ≤ k ∧ k + 1 ≤ x1.val.fst },
        ((ak ((x1.1.1:Int)-1))/\
        (((↑x2.val:Int) < (↑x1.val.fst:Int) - 1 →
          ((ak ((x2.1:Int)+1))/\
          ((ak ((x2.1:Int)+1))/\
          ((0<=(x2.1:Int)+1/\(x2.1:Int)+1<(↑(aV l a.toNat (a.toNat+1) (x2.1+1)).length:Int))/\
          ((((x2.1:Int)+1).toNat<(aV l a.toNat (a.toNat+1) (x2.1+1)).length)/\
          ((0<=(x2.1:Int)/\(x2.1:Int)<(↑(aV l a.toNat (a.toNat+1) (x2.1+1)).length:Int))/\
          ((x2.1<(aV l a.toNat (a.toNat+1) (x2.1+1)).length)/\
          ((0<=(x2.1:Int)/\(x2.1:Int)<(↑(aV l a.toNat (a.toNat+1) (x2.1+1)).length:Int))/\
          ((x2.1<(aV l a.toNat (a.toNat+1) (x2.1+1)).length)/\
          ((0<=(x2.1:Int)+1/\(x2.1:Int)+1<(↑((aV l a.toNat (a.toNat+1) (x2.1+1)).set x2.1 (((aV l a.toNat (a.toNat+1) (x2.1+1)).getD ((x2.1:Int)+1).toNat ([],0)).1,((aV l a.toNat (a.toNat+1) (x2.1+1)).getD ((x2.1:Int)+1).toNat ([],0)).2)).length:Int))/\
          ((((x2.1:Int)+1).toNat<((aV l a.toNat (a.toNat+1) (x2.1+1)).set x2.1 (((aV l a.toNat (a.toNat+1) (x2.1+1)).getD ((x2.1:Int)+1).toNat ([],0)).1,((aV l a.toNat (a.toNat+1) (x2.1+1)).getD ((x2.1:Int)+1).toNat ([],0)).2)).length)/\
          ((ak ((x2.1:Int)+1))/\
          (∃ x3 : { k : Nat // a.toNat ≤ k ∧ k + 1 ≤ x1.val.fst },
           ((x1.1.1-x3.1<x1.1.1-x2.1)/\
           (((x1.1.1:Int)=(x1.1.1:Int))/\
           (((x2.1:Int)+1=(x3.1:Int))/\
           (((aV l a.toNat (a.toNat+1) (x2.1+1)).set x2.1 (((aV l a.toNat (a.toNat+1) (x2.1+1)).getD ((x2.1:Int)+1).toNat ([],0)).1,((aV l a.toNat (a.toNat+1) (x2.1+1)).getD ((x2.1:Int)+1).toNat ([],0)).2)).set ((x2.1:Int)+1).toNat (((aV l a.toNat (a.toNat+1) (x2.1+1)).getD x2.1 ([],0)).1,((aV l a.toNat (a.toNat+1) (x2.1+1)).getD x2.1 ([],0)).2)=aV l a.toNat (a.toNat+1) (x3.1+1))))))))))))))))))/\
        (¬(↑x2.val : Int) < (↑x1.val.fst : Int) - 1 →
         (∃ x3 : List (List UInt8 × Int),
          ((PI l x3 a.toNat b.toNat)/\
          ((aW ltW ([],0) x3 a.toNat b.toNat)/\
          (aV l a.toNat (a.toNat+1) (x2.1+1)=x3))))))))))))))/\
   (¬m - a = 1 →
    ((ak (b-m))/\
    ((b - m=1 →
      ((∃ x1:{ x:Nat×Nat // SeB l a.toNat m.toNat x.fst x.snd },
        ((m=m)/\
        ((a=(x1.1.1:Int))/\
        ((m=(x1.1.2:Int))/\
        (l=l)))))/\
      (∀ x1 : { x : Nat × Nat // SeB l a.toNat m.toNat x.fst x.snd },
       (((↑x1.val.fst:Int) < (↑x1.val.snd:Int) →
         (((ak   ((↑x1.val.fst : Int) + (↑x1.val.snd : Int))) ∧
          ((ak ((IntKind.u64.wrap ((x1.1.1:Int)+(x1.1.2:Int))).fdiv 2))/\
          (∃ x2 : { h : Nat // (↑h : Int) = ((↑x1.val.fst : Int) + (↑x1.val.snd : Int)) / 2 },
           ((m=m)/\
           (((x1.1.1:Int)=(x1.1.1:Int))/\
           (((x1.1.2:Int)=(x1.1.2:Int))/\
           (((IntKind.u64.wrap ((x1.1.1:Int)+(x1.1.2:Int))).fdiv 2=(x2.1:Int))/\
           (l=l))))))))/\
         (∀ x2 : { h : Nat // (↑h : Int) = ((↑x1.val.fst : Int) + (↑x1.val.snd : Int)) / 2 },
          ((0<=m/\m<(l.length:Int))/\
          ((m.toNat<l.length)/\
          ((0<=(x2.1:Int)/\(x2.1:Int)<(l.length:Int))/\
          ((x2.1<l.length)/\
          ((iL   (l.getD m.toNat ([],0)).fst (l.getD x2.val ([],0)).fst < 0 →
            (∃ x3 : { x : Nat × Nat // SeB l a.toNat m.toNat x.fst x.snd },
             ((x3.1.2-x3.1.1<x1.1.2-x1.1.1)/\
             ((m=m)/\
             (((x1.1.1:Int)=(x3.1.1:Int))/\
             (((x2.1:Int)=(x3.1.2:Int))/\
             (l=l)))))))/\
          (¬iL   (l.getD m.toNat ([], 0)).fst (l.getD x2.val ([], 0)).fst < 0 →
           ((ak ((x2.1:Int)+1))/\
           (∃ x3 : { x : Nat × Nat // SeB l a.toNat m.toNat x.fst x.snd },
            ((x3.1.2-x3.1.1<x1.1.2-x1.1.1)/\
            ((m=m)/\
            (((x2.1:Int)+1=(x3.1.1:Int))/\
            (((x1.1.2:Int)=(x3.1.2:Int))/\
            (l=l))))))))))))))))/\
       (¬(↑x1.val.fst : Int) < (↑x1.val.snd : Int) →
        ((∃ x2:{ k:Nat // x1.val.fst≤k∧k≤m.toNat },
          (((x1.1.1:Int)=(x1.1.1:Int))/\
          ((m=(x2.1:Int))/\
          (l=aV l x2.1 m.toNat (m.toNat+1)))))/\
        (∀ x2 : { k : Nat // x1.val.fst ≤ k ∧ k ≤ m.toNat },
         (((↑x1.val.fst:Int) < (↑x2.val:Int) →
           ((ak ((x2.1:Int)-1))/\
           ((ak ((x2.1:Int)-1))/\
           ((0<=(x2.1:Int)-1/\(x2.1:Int)-1<(↑(aV l x2.1 m.toNat (m.toNat+1)).length:Int))/\
           ((((x2.1:Int)-1).toNat<(aV l x2.1 m.toNat (m.toNat+1)).length)/\
           ((0<=(x2.1:Int)/\(x2.1:Int)<(↑(aV l x2.1 m.toNat (m.toNat+1)).length:Int))/\
           ((x2.1<(aV l x2.1 m.toNat (m.toNat+1)).length)/\
           ((0<=(x2.1:Int)/\(x2.1:Int)<(↑(aV l x2.1 m.toNat (m.toNat+1)).length:Int))/\
           ((x2.1<(aV l x2.1 m.toNat (m.toNat+1)).length)/\
           ((0<=(x2.1:Int)-1/\(x2.1:Int)-1<(↑((aV l x2.1 m.toNat (m.toNat+1)).set x2.1 (((aV l x2.1 m.toNat (m.toNat+1)).getD ((x2.1:Int)-1).toNat ([],0)).1,((aV l x2.1 m.toNat (m.toNat+1)).getD ((x2.1:Int)-1).toNat ([],0)).2)).length:Int))/\
           ((((x2.1:Int)-1).toNat<((aV l x2.1 m.toNat (m.toNat+1)).set x2.1 (((aV l x2.1 m.toNat (m.toNat+1)).getD ((x2.1:Int)-1).toNat ([],0)).1,((aV l x2.1 m.toNat (m.toNat+1)).getD ((x2.1:Int)-1).toNat ([],0)).2)).length)/\
           ((ak ((x2.1:Int)-1))/\
           (∃ x3 : { k : Nat // x1.val.fst ≤ k ∧ k ≤ m.toNat },
            ((x3.1<x2.1)/\
            (((x1.1.1:Int)=(x1.1.1:Int))/\
            (((x2.1:Int)-1=(x3.1:Int))/\
            (((aV l x2.1 m.toNat (m.toNat+1)).set x2.1 (((aV l x2.1 m.toNat (m.toNat+1)).getD ((x2.1:Int)-1).toNat ([],0)).1,((aV l x2.1 m.toNat (m.toNat+1)).getD ((x2.1:Int)-1).toNat ([],0)).2)).set ((x2.1:Int)-1).toNat (((aV l x2.1 m.toNat (m.toNat+1)).getD x2.1 ([],0)).1,((aV l x2.1 m.toNat (m.toNat+1)).getD x2.1 ([],0)).2)=aV l x3.1 m.toNat (m.toNat+1))))))))))))))))))/\
         (¬(↑x1.val.fst : Int) < (↑x2.val : Int) →
          (∃ x3 : List (List UInt8 × Int),
           ((PI l x3 a.toNat b.toNat)/\
           ((aW ltW ([],0) x3 a.toNat b.toNat)/\
           (aV l x2.1 m.toNat (m.toNat+1)=x3)))))))))))))/\
    (¬b - m = 1 →
     (((ak   (a + b)) ∧
      ((ak ((IntKind.u64.wrap (a+b)).fdiv 2))/\
      (∃ x1 : { h : Nat // (↑h : Int) = (a + b) / 2 },
       ((a=a)/\
       ((m=m)/\
       ((b=b)/\
       (((IntKind.u64.wrap (a+b)).fdiv 2=(x1.1:Int))/\
       (l=l))))))))/\
     (∀ x1 : { h : Nat // (↑h : Int) = (a + b) / 2 },
      ((ak ((x1.1:Int)+m))/\
      ((((↑x1.val : Int) < m →
         ((ak ((x1.1:Int)+m-b))/\
         (∃ x2 : { x : Int × Int // (x.fst = if (↑x1.val : Int) < m then (↑x1.val : Int) + m - b else a) ∧ x.snd = if (↑x1.val : Int) < m then (↑x1.val : Int) else m },
          ((a=a)/\
          ((m=m)/\
          ((b=b)/\
          (((x1.1:Int)=(x1.1:Int))/\
          (((x1.1:Int)+m=(x1.1:Int)+m)/\
          (((x1.1:Int)+m-b=x2.1.1)/\
          (((x1.1:Int)=x2.1.2)/\
          (l=l)))))))))))/\
       (¬(↑x1.val : Int) < m →
        (∃ x2 : { x : Int × Int // (x.fst = if (↑x1.val : Int) < m then (↑x1.val : Int) + m - b else a) ∧ x.snd = if (↑x1.val : Int) < m then (↑x1.val : Int) else m },
         ((a=a)/\
         ((m=m)/\
         ((b=b)/\
         (((x1.1:Int)=(x1.1:Int))/\
         (((x1.1:Int)+m=(x1.1:Int)+m)/\
         ((a=x2.1.1)/\
         ((m=x2.1.2)/\
         (l=l)))))))))))/\
      (∀ x2 : { x : Int × Int // (x.fst = if (↑x1.val : Int) < m then (↑x1.val : Int) + m - b else a) ∧ x.snd = if (↑x1.val : Int) < m then (↑x1.val : Int) else m },
       ((ak ((x1.1:Int)+m-1))/\
       ((∃ x3:{ x:Nat×Nat // SeC l x2.val.fst.toNat x2.val.snd.toNat ((↑x1.val:Int)+m - 1).toNat x.fst x.snd },
         ((a=a)/\
         ((m=m)/\
         ((b=b)/\
         (((x1.1:Int)=(x1.1:Int))/\
         (((x1.1:Int)+m=(x1.1:Int)+m)/\
         ((x2.1.1=(x3.1.1:Int))/\
         ((x2.1.2=(x3.1.2:Int))/\
         (((x1.1:Int)+m-1=(x1.1:Int)+m-1)/\
         (l=l))))))))))/\
       (∀ x3 : { x : Nat × Nat // SeC l x2.val.fst.toNat x2.val.snd.toNat ((↑x1.val : Int) + m - 1).toNat x.fst x.snd },
        (((↑x3.val.fst:Int) < (↑x3.val.snd:Int) →
          (((ak   ((↑x3.val.fst : Int) + (↑x3.val.snd : Int))) ∧
           ((ak ((IntKind.u64.wrap ((x3.1.1:Int)+(x3.1.2:Int))).fdiv 2))/\
           (∃ x4 : { h : Nat // (↑h : Int) = ((↑x3.val.fst : Int) + (↑x3.val.snd : Int)) / 2 },
            ((a=a)/\
            ((m=m)/\
            ((b=b)/\
            (((x1.1:Int)=(x1.1:Int))/\
            (((x1.1:Int)+m=(x1.1:Int)+m)/\
            (((x3.1.1:Int)=(x3.1.1:Int))/\
            (((x3.1.2:Int)=(x3.1.2:Int))/\
            (((x1.1:Int)+m-1=(x1.1:Int)+m-1)/\
            (((IntKind.u64.wrap ((x3.1.1:Int)+(x3.1.2:Int))).fdiv 2=(x4.1:Int))/\
            (l=l)))))))))))))/\
          (∀ x4 : { h : Nat // (↑h : Int) = ((↑x3.val.fst : Int) + (↑x3.val.snd : Int)) / 2 },
           ((ak ((x1.1:Int)+m-1-(x4.1:Int)))/\
           ((0<=(x1.1:Int)+m-1-(x4.1:Int)/\(x1.1:Int)+m-1-(x4.1:Int)<(l.length:Int))/\
           ((((x1.1:Int)+m-1-(x4.1:Int)).toNat<l.length)/\
           ((0<=(x4.1:Int)/\(x4.1:Int)<(l.length:Int))/\
           ((x4.1<l.length)/\
           ((iL   (l.getD ((↑x1.val:Int)+m - 1 - (↑x4.val:Int)).toNat ([],0)).fst (l.getD x4.val ([],0)).fst < 0 →
             (∃ x5 : { x : Nat × Nat // SeC l x2.val.fst.toNat x2.val.snd.toNat ((↑x1.val : Int) + m - 1).toNat x.fst x.snd },
              ((x5.1.2-x5.1.1<x3.1.2-x3.1.1)/\
              ((a=a)/\
              ((m=m)/\
              ((b=b)/\
              (((x1.1:Int)=(x1.1:Int))/\
              (((x1.1:Int)+m=(x1.1:Int)+m)/\
              (((x3.1.1:Int)=(x5.1.1:Int))/\
              (((x4.1:Int)=(x5.1.2:Int))/\
              (((x1.1:Int)+m-1=(x1.1:Int)+m-1)/\
              (l=l))))))))))))/\
           (¬iL   (l.getD ((↑x1.val : Int) + m - 1 - (↑x4.val : Int)).toNat ([], 0)).fst (l.getD x4.val ([], 0)).fst < 0 →
            ((ak ((x4.1:Int)+1))/\
            (∃ x5 : { x : Nat × Nat // SeC l x2.val.fst.toNat x2.val.snd.toNat ((↑x1.val : Int) + m - 1).toNat x.fst x.snd },
             ((x5.1.2-x5.1.1<x3.1.2-x3.1.1)/\
             ((a=a)/\
             ((m=m)/\
             ((b=b)/\
             (((x1.1:Int)=(x1.1:Int))/\
             (((x1.1:Int)+m=(x1.1:Int)+m)/\
             (((x4.1:Int)+1=(x5.1.1:Int))/\
             (((x3.1.2:Int)=(x5.1.2:Int))/\
             (((x1.1:Int)+m-1=(x1.1:Int)+m-1)/\
             (l=l))))))))))))))))))))))/\
        (¬(↑x3.val.fst : Int) < (↑x3.val.snd : Int) →
         ((ak ((x1.1:Int)+m-(x3.1.1:Int)))/\
         ((((↑x3.val.fst : Int) < m →
            ((m < (↑x1.val:Int)+m - (↑x3.val.fst:Int) →
              ((0<=(x3.1.1:Int))/\
              (((x3.1.1:Int)<m)/\
              ((m<(x1.1:Int)+m-(x3.1.1:Int))/\
              (((x1.1:Int)+m-(x3.1.1:Int)<=(l.length:Int))/\
              ((l.length<=1099511627776)/\
              (∀ x4 : (List (List UInt8 × Int)),
               (x4 = aV   l x3.val.fst m.toNat ((↑x1.val : Int) + m - (↑x3.val.fst : Int)).toNat →
                (∃ x5 : { r : List Wd // r = aV   l x3.val.fst m.toNat ((↑x1.val : Int) + m - (↑x3.val.fst : Int)).toNat },
                 ((a=a)/\
                 ((b=b)/\
                 (((x1.1:Int)=(x1.1:Int))/\
                 (((x3.1.1:Int)=(x3.1.1:Int))/\
                 (((x1.1:Int)+m-(x3.1.1:Int)=(x1.1:Int)+m-(x3.1.1:Int))/\
                 (x4=x5.1)))))))))))))))/\
            (¬m < (↑x1.val : Int) + m - (↑x3.val.fst : Int) →
             (∃ x4 : { r : List Wd // r = aV   l x3.val.fst m.toNat ((↑x1.val : Int) + m - (↑x3.val.fst : Int)).toNat },
              ((a=a)/\
              ((b=b)/\
              (((x1.1:Int)=(x1.1:Int))/\
              (((x3.1.1:Int)=(x3.1.1:Int))/\
              (((x1.1:Int)+m-(x3.1.1:Int)=(x1.1:Int)+m-(x3.1.1:Int))/\
              (l=x4.1))))))))))/\
          (¬(↑x3.val.fst : Int) < m →
           (∃ x4 : { r : List Wd // r = aV   l x3.val.fst m.toNat ((↑x1.val : Int) + m - (↑x3.val.fst : Int)).toNat },
            ((a=a)/\
            ((b=b)/\
            (((x1.1:Int)=(x1.1:Int))/\
            (((x3.1.1:Int)=(x3.1.1:Int))/\
            (((x1.1:Int)+m-(x3.1.1:Int)=(x1.1:Int)+m-(x3.1.1:Int))/\
            (l=x4.1)))))))))/\
         (∀ x4 : { r : List Wd // r = aV   l x3.val.fst m.toNat ((↑x1.val : Int) + m - (↑x3.val.fst : Int)).toNat },
          (((a < (↑x3.val.fst : Int) →
             (((↑x3.val.fst:Int) < (↑x1.val:Int) →
               ((((x1.1:Int)-a).toNat<k)/\
               ((0<=a)/\
               ((a<(x3.1.1:Int))/\
               (((x3.1.1:Int)<(x1.1:Int))/\
               (((x1.1:Int)<=(x4.1.length:Int))/\
               ((x4.1.length<=1099511627776)/\
               ((aW ltW ([],0) x4.1 a.toNat x3.1.1)/\
               ((aW ltW ([],0) x4.1 x3.1.1 x1.1)/\
               (∀ x5 : (List (List UInt8 × Int)),
                (PI x4.val x5 a.toNat x1.val →
                 (aW   ltW ([], 0) x5 a.toNat x1.val →
                  (∃ x6 : { r : List Wd // PI (aV   l x3.val.fst m.toNat ((↑x1.val : Int) + m - (↑x3.val.fst : Int)).toNat) r a.toNat x1.val ∧ aW   ltW ([], 0) r a.toNat x1.val },
                   ((b=b)/\
                   (((x1.1:Int)=(x1.1:Int))/\
                   (((x1.1:Int)+m-(x3.1.1:Int)=(x1.1:Int)+m-(x3.1.1:Int))/\
                   (x5=x6.1)))))))))))))))))/\
             (¬(↑x3.val.fst : Int) < (↑x1.val : Int) →
              (∃ x5 : { r : List Wd // PI (aV   l x3.val.fst m.toNat ((↑x1.val : Int) + m - (↑x3.val.fst : Int)).toNat) r a.toNat x1.val ∧ aW   ltW ([], 0) r a.toNat x1.val },
               ((b=b)/\
               (((x1.1:Int)=(x1.1:Int))/\
               (((x1.1:Int)+m-(x3.1.1:Int)=(x1.1:Int)+m-(x3.1.1:Int))/\
               (x4.1=x5.1))))))))/\
           (¬a < (↑x3.val.fst : Int) →
            (∃ x5 : { r : List Wd // PI (aV   l x3.val.fst m.toNat ((↑x1.val : Int) + m - (↑x3.val.fst : Int)).toNat) r a.toNat x1.val ∧ aW   ltW ([], 0) r a.toNat x1.val },
             ((b=b)/\
             (((x1.1:Int)=(x1.1:Int))/\
             (((x1.1:Int)+m-(x3.1.1:Int)=(x1.1:Int)+m-(x3.1.1:Int))/\
             (x4.1=x5.1)))))))/\
          (∀ x5 : { r : List Wd // PI (aV   l x3.val.fst m.toNat ((↑x1.val : Int) + m - (↑x3.val.fst : Int)).toNat) r a.toNat x1.val ∧ aW   ltW ([], 0) r a.toNat x1.val },
           (((↑x1.val:Int) < (↑x1.val:Int)+m - (↑x3.val.fst:Int) →
             (((↑x1.val:Int)+m - (↑x3.val.fst:Int) < b →
               (((b-(x1.1:Int)).toNat<k)/\
               ((0<=(x1.1:Int))/\
               (((x1.1:Int)<(x1.1:Int)+m-(x3.1.1:Int))/\
               (((x1.1:Int)+m-(x3.1.1:Int)<b)/\
               ((b<=(x5.1.length:Int))/\
               ((x5.1.length<=1099511627776)/\
               ((aW ltW ([],0) x5.1 x1.1 ((x1.1:Int)+m-(x3.1.1:Int)).toNat)/\
               ((aW ltW ([],0) x5.1 ((x1.1:Int)+m-(x3.1.1:Int)).toNat b.toNat)/\
               (∀ x6 : (List (List UInt8 × Int)),
                (PI x5.val x6 x1.val b.toNat →
                 (aW   ltW ([], 0) x6 x1.val b.toNat →
                  (∃ x7 : List (List UInt8 × Int),
                   ((PI l x7 a.toNat b.toNat)/\
                   ((aW ltW ([],0) x7 a.toNat b.toNat)/\
                   (x6=x7))))))))))))))))/\
             (¬(↑x1.val : Int) + m - (↑x3.val.fst : Int) < b →
              (∃ x6 : List (List UInt8 × Int),
               ((PI l x6 a.toNat b.toNat)/\
               ((aW ltW ([],0) x6 a.toNat b.toNat)/\
               (x5.1=x6)))))))/\
           (¬(↑x1.val : Int) < (↑x1.val : Int) + m - (↑x3.val.fst : Int) →
            (∃ x6 : List (List UInt8 × Int),
             ((PI l x6 a.toNat b.toNat)/\
             ((aW ltW ([],0) x6 a.toNat b.toNat)/\
             (x5.1=x6)))))))))))))))))))))))))))) (by kernel_rfl) ?_
   obtain⟨a,rfl⟩:=Int.eq_ofNat_of_zero_le hc1;obtain⟨m,rfl⟩:=Int.eq_ofNat_of_zero_le (show 0<=m by omega);obtain⟨b,rfl⟩:=Int.eq_ofNat_of_zero_le (show 0<=b by omega);have tk:((b:Int)-a).toNat=b-a:=by omega
   rw[tk] at hc0;clear hc tk;simp only[Int.toNat_natCast] at hc6 hc7;simp only[Int.toNat_natCast,eq_self,true_and,and_true];refine⟨by unfold ak;omega,fun h1=>⟨⟨⟨(m,b),SeA.init l (by omega)⟩,rfl,rfl⟩,?_⟩,fun h1=>⟨by unfold ak;omega,fun h2=>⟨⟨⟨(a,m),SeB.init l (by omega)⟩,rfl,rfl⟩,?_⟩,fun h2=>⟨?_,?_⟩⟩⟩
   .rintro⟨⟨i,j⟩,hs⟩;have s1:=hs.mi;have s2:=hs.ij;have s3:=hs.jb;dsimp only at s1 s2 s3 hs ⊢;obtain rfl:m=a+1:=by omega
    rw[lW i j (by omega)];refine⟨fun h=>⟨⟨by unfold ak;omega,by unfold ak;omega,⟨(i+j) / 2,by omega⟩,rfl⟩,?_⟩,fun h=>⟨⟨⟨a,by omega,by omega⟩,rfl,(PZ (by omega)).symm⟩,?_⟩⟩
    .rintro⟨h',hh⟩;dsimp only;refine⟨by omega,by omega,by omega,by omega,fun hl=>⟨by unfold ak;omega,⟨(h'+1,j),hs.up hc7 (by omega) (by omega) ((oF _ _).1 hl)⟩,by dsimp only;omega,by dsimp only;omega,rfl⟩,fun hl=>⟨⟨(i,h'),hs.dn hc7 (by omega) (by omega) ((oO _ _).1 hl)⟩,by dsimp only;omega,rfl,rfl⟩⟩
    .rintro⟨k',k1,k2⟩;dsimp only at k1 k2 ⊢;have e1:((k':Int)+1).toNat=k'+1:=by omega
     have el:(aV l a (a+1) (k'+1)).length=l.length:=dS (by omega) (by omega) (by omega);simp only[e1,List.length_set,el];refine⟨by unfold ak;omega,fun h'=>?_,fun h'=>?_⟩
     .refine⟨by unfold ak;omega,by unfold ak;omega,by omega,by omega,by omega,by omega,by omega,by omega,by omega,by omega,by unfold ak;omega,⟨k'+1,by omega,by omega⟩,by dsimp only;omega,by dsimp only;omega,?_⟩;exact Sb (by omega) (by omega)
     .obtain rfl:i=k'+1:=by omega
      have hij:j=k'+1:=by omega
      subst hij;refine⟨_,(wT (by omega) (by omega) (by omega)).mono (zJ _) (by omega),?_,rfl⟩;exact OA bX hc7 (by omega) (by omega) (by omega) hs.lo hs.hi
   .rintro⟨⟨i,j⟩,hs⟩;have s1:=hs.mi;have s2:=hs.ij;have s3:=hs.jb;dsimp only at s1 s2 s3 hs ⊢;obtain rfl:b=m+1:=by omega
    rw[lW i j (by omega)];refine⟨fun h=>⟨⟨by unfold ak;omega,by unfold ak;omega,⟨(i+j) / 2,by omega⟩,rfl⟩,?_⟩,fun h=>⟨⟨⟨m,by omega,by omega⟩,rfl,(Pm (l:=l) (m:=m) (by omega)).symm⟩,?_⟩⟩
    .rintro⟨h',hh⟩;dsimp only;refine⟨by omega,by omega,by omega,by omega,fun hl=>⟨⟨(i,h'),hs.dn hc6 (by omega) (by omega) ((oF _ _).1 hl)⟩,by dsimp only;omega,rfl,rfl⟩,fun hl=>⟨by unfold ak;omega,⟨(h'+1,j),hs.up hc6 (by omega) (by omega) ((oO _ _).1 hl)⟩,by dsimp only;omega,by dsimp only;omega,rfl⟩⟩
    .rintro⟨k',k1,k2⟩;dsimp only at k1 k2 ⊢;have e1:((k':Int)-1).toNat=k'-1:=by omega
     have el:(aV l k' m (m+1)).length=l.length:=dS (by omega) (by omega) (by omega);simp only[e1,List.length_set,el];refine⟨fun h'=>?_,fun h'=>?_⟩
     .refine⟨by unfold ak;omega,by unfold ak;omega,by omega,by omega,by omega,by omega,by omega,by omega,by omega,by omega,by unfold ak;omega,⟨k'-1,by omega,by omega⟩,by dsimp only;omega,by dsimp only;omega,?_⟩;obtain⟨q,rfl⟩:∃q,k'=q+1:=⟨k'-1,by omega⟩;exact Uf (by omega) (by omega)
     .have hik:i=k':=by omega
      have hij:j=k':=by omega
      subst hik hij;refine⟨_,(wT (by omega) (by omega) (by omega)).mono (by omega) (zJ _),?_,rfl⟩;exact Og bX hc6 (by omega) (by omega) (by omega) hs.lo hs.hi
   .rw[lW a b (by omega)];exact⟨by unfold ak;omega,by unfold ak;omega,⟨(a+b) / 2,by omega⟩,rfl⟩
   rintro⟨mid,hmid⟩;dsimp only;have hmid':mid=(a+b) / 2:=by omega
   refine⟨by unfold ak;omega,⟨fun h3=>⟨by unfold ak;omega,⟨((mid:Int)+m-b,(mid:Int)),by dsimp only;rw[if_pos h3],by dsimp only;rw[if_pos h3]⟩,rfl,rfl⟩,fun h3=>⟨⟨((a:Int),(m:Int)),by dsimp only;rw[if_neg h3],by dsimp only;rw[if_neg h3]⟩,rfl,rfl⟩⟩,?_⟩;rintro⟨⟨lo,hi⟩,hlo,hhi⟩;dsimp only at hlo hhi ⊢;obtain⟨lo,rfl⟩:=Int.eq_ofNat_of_zero_le (show 0<=lo by rw[hlo]; split <;> omega);obtain⟨hi,rfl⟩:=Int.eq_ofNat_of_zero_le (show 0<=hi by rw[hhi]; split <;> omega);have hlo':lo=if m > mid then mid+m-b else a:=by split at hlo <;> split <;> omega
   have hhi':hi=if m > mid then mid else m:=by split at hhi <;> split <;> omega
   have hlh:lo<=hi:=by rw[hlo',hhi']; split <;> omega
   have hr:∀c,lo<=c->c<hi->a<=c/\c<m/\m<=(mid+m-1)-c/\(mid+m-1)-c<b/\c<=mid+m-1:=by
    intro c c1 c2;rw[hlo'] at c1;rw[hhi'] at c2;split at c1 <;> split at c2 <;> omega
   have ep:((mid:Int)+m-1).toNat=mid+m-1:=by omega
   rw[Int.toNat_natCast,Int.toNat_natCast,ep];refine⟨by unfold ak;omega,⟨⟨(lo,hi),SeC.init l hlh⟩,rfl,rfl⟩,?_⟩;rintro⟨⟨i,j⟩,hs⟩;have s1:=hs.mi;have s2:=hs.ij;have s3:=hs.jb;dsimp only at s1 s2 s3 hs ⊢;have hhib:hi<=m:=by rw[hhi']; split <;> omega
   refine⟨fun h=>?_,fun h=>?_⟩
   .rw[lW i j (by omega)];refine⟨⟨by unfold ak;omega,by unfold ak;omega,⟨(i+j) / 2,by omega⟩,rfl⟩,?_⟩;rintro⟨c,hc'⟩;dsimp only;have rc:=hr c (by omega) (by omega);have ec:((mid:Int)+m-1-c).toNat=mid+m-1-c:=by omega
    rw[ec];exact⟨by unfold ak;omega,by omega,by omega,by omega,by omega,fun hl=>⟨⟨(i,c),hs.dn hc6 hc7 hr (by omega) (by omega) ((oF _ _).1 hl)⟩,by dsimp only;omega,rfl,rfl⟩,fun hl=>⟨by unfold ak;omega,⟨(c+1,j),hs.up hc6 hc7 hr (by omega) (by omega) ((oO _ _).1 hl)⟩,by dsimp only;omega,by dsimp only;omega,rfl⟩⟩
   have hij:j=i:=by omega
   subst hij;obtain⟨g1,g2,g3,g4,g5,g6,r1,r2,r3,r4,rx⟩:=HY (n:=mid+m) bX hc6 hc7 (by omega) (by omega) (by omega) hmid' rfl hlo' hhi' s1 s3 hs.lo hs.hi;have ee:((mid:Int)+m-j).toNat=mid+m-j:=by omega
   have el:(aV l j m (mid+m-j)).length=l.length:=dS (by omega) (by omega) (by omega);have pr:PI l (aV l j m (mid+m-j)) a b:=(wT (by omega) (by omega) (by omega)).mono (by omega) (by omega);rw[ee];refine⟨by unfold ak;omega,⟨fun h3=>⟨fun h4=>⟨by omega,by omega,by omega,by omega,by omega,?_⟩,fun h4=>⟨⟨l,?_⟩,rfl⟩⟩,fun h3=>⟨⟨l,?_⟩,rfl⟩⟩,?_⟩
   .rintro y rfl;exact⟨⟨_,rfl⟩,rfl⟩
   .rw[show mid+m-j=m by omega,KE (by omega) (by omega)]
   .rw[show j=m by omega,show mid+m-m=mid by omega,Jy (by omega) (by omega)]
   rintro⟨r,rfl⟩;dsimp only;simp only[el];refine⟨⟨fun h3=>⟨fun h4=>⟨by omega,by omega,by omega,by omega,by omega,by omega,r1,r2,fun y y1 y2=>⟨⟨y,y1,y2⟩,rfl⟩⟩,fun h4=>⟨⟨_,PI.refl,?_⟩,rfl⟩⟩,fun h3=>⟨⟨_,PI.refl,?_⟩,rfl⟩⟩,?_⟩
   .exact r1.mono (zJ _) (by omega)
   .exact r2.mono (by omega) (zJ _)
   rintro⟨r,p1,q1⟩;dsimp only at p1 q1 ⊢;have lr:r.length=l.length:=by rw[p1.len,el]
   simp only[lr];have q3:aW ltW ([],0) r mid (mid+m-j):=r3.same fun p h _=>p1.outD (.inr h)
   have q4:aW ltW ([],0) r (mid+m-j) b:=r4.same fun p h _=>p1.outD (.inr (by omega))
   have fin:∀r2,PI r r2 mid b->aW ltW ([],0) r2 mid b->∃x,PI l x a b/\aW ltW ([],0) x a b/\r2=x:=fun r2 p2 q2=>by
    obtain⟨e1,e2⟩:=Ht (l:=aV l j m (mid+m-j)) (d:=(([],0):Wd)) (by omega) (by omega) (by omega) rx p1 q1 p2 q2;exact⟨r2,pr.trans e1,e2,rfl⟩
   refine⟨fun h3=>⟨fun h4=>⟨by clear fin;omega,by clear fin;omega,by clear fin;omega,by clear fin;omega,by clear fin;omega,by clear fin;omega,q3,q4,fun y y1 y2=>fin y y1 y2⟩,fun h4=>fin r PI.refl ?_⟩,fun h3=>fin r PI.refl ?_⟩
   .exact q3.mono (zJ _) (by clear fin;omega)
   .exact q4.mono (by clear fin;omega) (zJ _)
def VA:oW:=⟨(List (List UInt8×Int))×Int×Int×Int,WdT,(Gd 0).P,(Gd 0).l,fun(l,a,m,b)=>[0<=a,a<m,m<b,b<=l.length,l.length<=1099511627776,aW ltW ([],0) l a.toNat m.toNat,aW ltW ([],0) l m.toNat b.toNat],fun _=>List Wd,fun(l,a,m,b) y=>[PI l y a.toNat b.toNat,aW ltW ([],0) y a.toNat b.toNat],fun _ _=>.tup [],fun _ y=>y⟩
def Cz:fu:=⟨fun xs L=>match xs.map kU with | [.one (.osl o),.one (.int .i64 a),.one (.int .i64 m),.one (.int .i64 b),.one (.fn 321 [])]=>(match ae L o with | .row (.pair .str (.int .i64)) l=>some (VA.res (l,a,m,b) o L) | _=>none) | _=>none⟩
theorem WF {S:SC}(hB:SB S) (Ia:bJ S 362 DU) (wV:aX S 321 (aI Bl)) (h352:S.has 352 f352):bJ S 352 Cz:=by
 intro c L H xs ys r hr hp;simp only[Cz] at hr;split at hr
 .rename_i o a m b he;split at hr
  .rename_i l hl;cases hr;refine KU hB Ia wV h352 ((b-a).toNat+1) c L H xs ys ((Gd ((b-a).toNat+1)).res (l,a,m,b) o L) ?_ ⟨Nat.lt_succ_self _,hp⟩;simp only[Ko,he,hl]
  .cases hr
 .cases hr
end Go.EA
end
section
set_option maxRecDepth 100000
set_option maxHeartbeats 0
namespace Go.EA
open F
def nV (l r:List Wd) (s a:Nat):Prop:=PI l r 0 l.length/\∀p q,p<q->q<a->p / s=q / s->ltW (r.getD q ([],0)) (r.getD p ([],0))=false
def qb (l r:List Wd) (s a:Nat):Prop:=nV l r (2*s) a/\a<=l.length/\(∃t,a=t*(2*s))/\∀p q,a<=p->p<q->q<l.length->p / s=q / s->ltW (r.getD q ([],0)) (r.getD p ([],0))=false
theorem nV.step {l r r2:List Wd}{s a b:Nat}(h:nV l r s a) (hp:PI r r2 a b) (hs:aW ltW ([],0) r2 a b) (hab:a<=b) (hb:b<=l.length) (hx:∀p q,p<a->a<=q->q<b->p / s≠q / s):nV l r2 s b:=by
 refine⟨h.1.trans (hp.mono (Nat.zero_le _) hb),fun p q h1 h2 h3=>?_⟩;rcases Nat.lt_or_ge p a with c1 | c1
 .rcases Nat.lt_or_ge q a with c2 | c2
  .rw[hp.outD (.inl c1),hp.outD (.inl c2)];exact h.2 p q h1 c2 h3
  .exact absurd h3 (hx p q c1 c2 h2)
 .exact hs p q c1 h1 h2
theorem vL {s t p q:Nat}(h0:0<s) (h1:p<t*s) (h2:t*s<=q):p / s≠q / s:=by
 have e1:p / s<t:=(Nat.div_lt_iff_lt_mul h0).2 h1;have e2:t<=q / s:=(Nat.le_div_iff_mul_le h0).2 h2;omega
theorem JM {s t p:Nat}(h0:0<s) (h1:t*(2*s)<=p) (h2:p<t*(2*s)+s):p / s=2*t:=by
 have e:t*(2*s)=2*t*s:=by rw[<- Nat.mul_assoc,Nat.mul_comm t 2]
 refine Nat.div_eq_of_lt_le (by omega) ?_;rw[Nat.succ_mul];omega
theorem KS {s t p:Nat}(h0:0<s) (h1:t*(2*s)+s<=p) (h2:p<t*(2*s)+2*s):p / s=2*t+1:=by
 have e:t*(2*s)=2*t*s:=by rw[<- Nat.mul_assoc,Nat.mul_comm t 2]
 refine Nat.div_eq_of_lt_le ?_ ?_
 .rw[Nat.add_mul];omega
 .rw[Nat.succ_mul,Nat.add_mul];omega
theorem qb.lo {l r:List Wd}{s a b:Nat}(h:qb l r s a) (h0:0<s) (hb:b<=l.length) (hab:b<=a+s):aW ltW ([],0) r a b:=by
 obtain⟨_,_,⟨t,rfl⟩,h4⟩:=h;exact fun p q h1 h2 h3=>h4 p q h1 h2 (by omega) (by rw[JM (t:=t) h0 h1 (by omega),JM (t:=t) h0 (by omega) (by omega)])
theorem qb.hi {l r:List Wd}{s a b:Nat}(h:qb l r s a) (h0:0<s) (hb:b<=l.length) (hab:b<=a+2*s):aW ltW ([],0) r (a+s) b:=by
 obtain⟨_,_,⟨t,rfl⟩,h4⟩:=h;exact fun p q h1 h2 h3=>h4 p q (by omega) h2 (by omega) (by rw[KS (t:=t) h0 h1 (by omega),KS (t:=t) h0 (by omega) (by omega)])
theorem qb.step {l r r2:List Wd}{s a:Nat}(h:qb l r s a) (h0:0<s) (hb:a+2*s<=l.length) (hp:PI r r2 a (a+2*s)) (hs:aW ltW ([],0) r2 a (a+2*s)):qb l r2 s (a+2*s):=by
 obtain⟨h1,h2,⟨t,rfl⟩,h4⟩:=h;refine⟨h1.step hp hs (by omega) hb fun p q q1 q2 _=>vL (by omega) q1 q2,hb,⟨t+1,by rw[Nat.add_mul];omega⟩,fun p q q1 q2 q3 q4=>?_⟩;rw[hp.outD (.inr q1),hp.outD (.inr (by omega))];exact h4 p q (by omega) q2 q3 q4
theorem qb.last {l r r2:List Wd}{s a:Nat}(h:qb l r s a) (h0:0<s) (hp:PI r r2 a l.length) (hs:aW ltW ([],0) r2 a l.length):nV l r2 (s*2) l.length:=by
 obtain⟨h1,h2,⟨t,rfl⟩,h4⟩:=h;rw[Nat.mul_comm s 2];exact h1.step hp hs h2 (zJ _) fun p q q1 q2 _=>vL (by omega) q1 q2
def TZ:oW:=⟨(List (List UInt8×Int))×Int,(.pair .str (.int .i64)),fun(l,n) o=>[.one (.osl o),.one (.int .i64 n),.one (.fn 321 [])],fun(l,n)=>l,fun(l,n)=>[n=l.length,l.length<=1099511627776],fun(l,n)=>List (List UInt8×Int),fun(l,n) y=>[PI l y 0 l.length,aW ltW ([],0) y 0 l.length],fun(l,n) y=>.tup [],fun(l,n) y=>y⟩
def Hr:fu:=⟨fun xs L=>match xs.map kU with | [.one (.osl o),.one (.int .i64 n),.one (.fn 321 [])]=>(match ae L o with | .row (.pair .str (.int .i64)) l=>some ((TZ).res (l,n) o L) | _=>none) | _=>none⟩
theorem Gn:(TZ).Fits (Hr):=by
 intro xs L r h;simp only[Hr] at h;split at h
 .rename_i o n he;split at h
  .rename_i l hl;cases h;exact⟨⟨l,n⟩,o,he,hl,rfl⟩
  .cases h
 .cases h
theorem PD:(TZ).Ok f348.np:=⟨fun⟨_,_⟩ _=>aa.cons (.inr (.inl ⟨rfl,rfl⟩)) (aa.cons (.inl ⟨rfl,rfl⟩) (aa.cons (.inl ⟨rfl,rfl⟩) aa.nil)),fun⟨_,_⟩=>rfl,fun⟨_,_⟩ _=>rfl⟩
theorem WG {S:SC}(hB:SB S) (UZ:bJ S 351 Gw) (LB:bJ S 352 Cz)  (h348:S.has 348 f348):bJ S 348 Hr:=by
 refine muM hB [] [] [(351,Gw),(352,Cz)] trivial trivial ⟨UZ,LB,trivial⟩ h348 Gn PD (fun(l,n)=>fun f id T L=>match f,id with
  |348,0=>some (.inv { x:Nat×List Wd // x.1<=l.length/\nV l x.2 20 x.1/\x.1 % 20=0 } (fun x=>([(7,.one (.int .i64 x.1.1)),(8,.one (.int .i64 (x.1.1+20)))],[(0,.row WdT x.1.2)])) (fun x=>l.length-x.1.1))
  |348,2=>some (.inv { x:Nat×List Wd // 20<=x.1/\x.1<=2*l.length+40/\nV l x.2 x.1 l.length } (fun x=>([(6,.one (.int .i64 x.1.1))],[(0,.row WdT x.1.2)])) (fun x=>2*l.length+40-x.1.1))
  |348,4=>match T.getD 6 .junk with | .one (.int .i64 s)=>some (.inv { x:Nat×List Wd // qb l x.2 s.toNat x.1 } (fun x=>([(7,.one (.int .i64 x.1.1)),(8,.one (.int .i64 (x.1.1+2*s)))],[(0,.row WdT x.1.2)])) (fun x=>l.length-x.1.1)) | _=>none
  |_,_=>none) 2000 ?_
 rintro⟨l,n⟩ hc;have hc1:n=l.length:=hc.1;have hc2:l.length<=1099511627776:=hc.2.1;refine VC.use (p:=
  ((∃ x1:{ x:Nat×List Wd // x.fst≤l.length∧nV   l x.snd 20 x.fst∧x.fst % 20=0 },
    ((n=n)/\
    (((20:Int)=(20:Int))/\
    ((0=(x1.1.1:Int))/\
    ((20=(x1.1.1:Int)+20)/\
    (l=x1.1.2))))))/\
  (∀ x1 : { x : Nat × List Wd // x.fst ≤ l.length ∧ nV   l x.snd 20 x.fst ∧ x.fst % 20 = 0 },
   (((↑x1.val.fst:Int)+20≤n →
     ((0<=(x1.1.1:Int))/\
     (((x1.1.1:Int)<=(x1.1.1:Int)+20)/\
     (((x1.1.1:Int)+20<=(x1.1.2.length:Int))/\
     ((x1.1.2.length<=1099511627776)/\
     (∀ x2 : (List (List UInt8 × Int)),
      (PI x1.val.snd x2 x1.val.fst ((↑x1.val.fst : Int) + 20).toNat →
       (aW   ltW ([], 0) x2 x1.val.fst ((↑x1.val.fst : Int) + 20).toNat →
        ((ak ((x1.1.1:Int)+20+20))/\
        (∃ x3 : { x : Nat × List Wd // x.fst ≤ l.length ∧ nV   l x.snd 20 x.fst ∧ x.fst % 20 = 0 },
         ((l.length-x3.1.1<l.length-x1.1.1)/\
         ((n=n)/\
         (((20:Int)=(20:Int))/\
         (((x1.1.1:Int)+20=(x3.1.1:Int))/\
         (((x1.1.1:Int)+20+20=(x3.1.1:Int)+20)/\
         (x2=x3.1.2))))))))))))))))/\
   (¬(↑x1.val.fst : Int) + 20 ≤ n →
    ((0<=(x1.1.1:Int))/\
    (((x1.1.1:Int)<=n)/\
    ((n<=(x1.1.2.length:Int))/\
    ((x1.1.2.length<=1099511627776)/\
    (∀ x2 : (List (List UInt8 × Int)),
     (PI x1.val.snd x2 x1.val.fst n.toNat →
      (aW   ltW ([], 0) x2 x1.val.fst n.toNat →
       ((∃ x3:{ x:Nat×List Wd // 20≤x.fst∧x.fst≤2*l.length+40∧nV   l x.snd x.fst l.length },
         ((n=n)/\
         ((20=(x3.1.1:Int))/\
         (x2=x3.1.2))))/\
       (∀ x3 : { x : Nat × List Wd // 20 ≤ x.fst ∧ x.fst ≤ 2 * l.length + 40 ∧ nV   l x.snd x.fst l.length },
        (((↑x3.val.fst:Int) < n →
          ((ak (2*(x3.1.1:Int)))/\
          ((∃ x4:{ x:Nat×List Wd // qb   l x.snd x3.val.fst x.fst },
            ((n=n)/\
            (((x3.1.1:Int)=(x3.1.1:Int))/\
            ((0=(x4.1.1:Int))/\
            ((2*(x3.1.1:Int)=(x4.1.1:Int)+2*(x3.1.1:Int))/\
            (x3.1.2=x4.1.2))))))/\
          (∀ x4 : { x : Nat × List Wd // qb   l x.snd x3.val.fst x.fst },
           (((↑x4.val.fst:Int)+2*(↑x3.val.fst:Int)≤n →
             ((ak ((x4.1.1:Int)+(x3.1.1:Int)))/\
             ((0<=(x4.1.1:Int))/\
             (((x4.1.1:Int)<(x4.1.1:Int)+(x3.1.1:Int))/\
             (((x4.1.1:Int)+(x3.1.1:Int)<(x4.1.1:Int)+2*(x3.1.1:Int))/\
             (((x4.1.1:Int)+2*(x3.1.1:Int)<=(x4.1.2.length:Int))/\
             ((x4.1.2.length<=1099511627776)/\
             ((aW ltW ([],0) x4.1.2 x4.1.1 ((x4.1.1:Int)+(x3.1.1:Int)).toNat)/\
             ((aW ltW ([],0) x4.1.2 ((x4.1.1:Int)+(x3.1.1:Int)).toNat ((x4.1.1:Int)+2*(x3.1.1:Int)).toNat)/\
             (∀ x5 : (List (List UInt8 × Int)),
              (PI x4.val.snd x5 x4.val.fst ((↑x4.val.fst : Int) + 2 * (↑x3.val.fst : Int)).toNat →
               (aW   ltW ([], 0) x5 x4.val.fst ((↑x4.val.fst : Int) + 2 * (↑x3.val.fst : Int)).toNat →
                ((ak (2*(x3.1.1:Int)))/\
                ((ak ((x4.1.1:Int)+2*(x3.1.1:Int)+2*(x3.1.1:Int)))/\
                (∃ x6 : { x : Nat × List Wd // qb   l x.snd x3.val.fst x.fst },
                 ((l.length-x6.1.1<l.length-x4.1.1)/\
                 ((n=n)/\
                 (((x3.1.1:Int)=(x3.1.1:Int))/\
                 (((x4.1.1:Int)+2*(x3.1.1:Int)=(x6.1.1:Int))/\
                 (((x4.1.1:Int)+2*(x3.1.1:Int)+2*(x3.1.1:Int)=(x6.1.1:Int)+2*(x3.1.1:Int))/\
                 (x5=x6.1.2)))))))))))))))))))))/\
           (¬(↑x4.val.fst : Int) + 2 * (↑x3.val.fst : Int) ≤ n →
            ((ak ((x4.1.1:Int)+(x3.1.1:Int)))/\
            (((↑x4.val.fst:Int)+(↑x3.val.fst:Int) < n →
              ((0<=(x4.1.1:Int))/\
              (((x4.1.1:Int)<(x4.1.1:Int)+(x3.1.1:Int))/\
              (((x4.1.1:Int)+(x3.1.1:Int)<n)/\
              ((n<=(x4.1.2.length:Int))/\
              ((x4.1.2.length<=1099511627776)/\
              ((aW ltW ([],0) x4.1.2 x4.1.1 ((x4.1.1:Int)+(x3.1.1:Int)).toNat)/\
              ((aW ltW ([],0) x4.1.2 ((x4.1.1:Int)+(x3.1.1:Int)).toNat n.toNat)/\
              (∀ x5 : (List (List UInt8 × Int)),
               (PI x4.val.snd x5 x4.val.fst n.toNat →
                (aW   ltW ([], 0) x5 x4.val.fst n.toNat →
                 ((ak ((x3.1.1:Int)*2))/\
                 (∃ x6 : { x : Nat × List Wd // 20 ≤ x.fst ∧ x.fst ≤ 2 * l.length + 40 ∧ nV   l x.snd x.fst l.length },
                  ((2*l.length+40-x6.1.1<2*l.length+40-x3.1.1)/\
                  ((n=n)/\
                  (((x3.1.1:Int)*2=(x6.1.1:Int))/\
                  (x5=x6.1.2)))))))))))))))))/\
            (¬(↑x4.val.fst : Int) + (↑x3.val.fst : Int) < n →
             ((ak ((x3.1.1:Int)*2))/\
             (∃ x5 : { x : Nat × List Wd // 20 ≤ x.fst ∧ x.fst ≤ 2 * l.length + 40 ∧ nV   l x.snd x.fst l.length },
              ((2*l.length+40-x5.1.1<2*l.length+40-x3.1.1)/\
              ((n=n)/\
              (((x3.1.1:Int)*2=(x5.1.1:Int))/\
              (x4.1.2=x5.1.2)))))))))))))))/\
        (¬(↑x3.val.fst : Int) < n →
         (∃ x4 : List (List UInt8 × Int),
          ((PI l x4 0 l.length)/\
          ((aW ltW ([],0) x4 0 l.length)/\
          (x3.1.2=x4)))))))))))))))))))) (by kernel_rfl) ?_
 subst hc1;clear hc;refine⟨⟨⟨(0,l),Nat.zero_le _,⟨PI.refl,fun p q _ h=>by omega⟩,by trivial⟩,by trivial,by trivial,by trivial,by trivial,by trivial⟩,?_⟩;rintro⟨⟨a,r⟩,ha,hb,hm⟩;dsimp only at ha hb hm ⊢;have hl:=hb.1.len;have e0:((a:Int)+20).toNat=a+20:=by omega
 simp only[e0,Int.toNat_natCast];refine⟨fun h=>⟨by omega,by omega,by omega,by omega,fun y y1 y2=>⟨by unfold ak;omega,⟨(a+20,y),by dsimp only;omega,hb.step y1 y2 (by omega) (by omega) fun p q _ _ _=>by omega,by dsimp only;omega⟩,by dsimp only;omega,by trivial,by trivial,by dsimp only;omega,by dsimp only;omega,by trivial⟩⟩,fun h=>⟨by omega,by omega,by omega,by omega,fun y y1 y2=>⟨⟨⟨(20,y),zJ _,by dsimp only;omega,hb.step y1 y2 (by omega) (zJ _) fun p q _ _ _=>by omega⟩,by trivial,by trivial,by trivial⟩,?_⟩⟩⟩;rintro⟨⟨s,r⟩,hs,hs2,hb⟩;dsimp only at hs hs2 hb ⊢;refine⟨fun h=>⟨by unfold ak;omega,⟨⟨(0,r),⟨⟨hb.1,fun p q _ h=>by dsimp only at h;omega⟩,Nat.zero_le _,⟨0,by simp⟩,fun p q _ h1 h2 h3=>hb.2 p q h1 h2 h3⟩⟩,by trivial,by trivial,by trivial,by dsimp only;omega,by trivial⟩,?_⟩,fun h=>?_⟩
 .rintro⟨⟨a,r⟩,hM⟩;dsimp only at hM ⊢;have hl:=hM.1.1.len;have hal:=hM.2.1;have e1:((a:Int)+s).toNat=a+s:=by omega
  have e2:((a:Int)+2*s).toNat=a+2*s:=by omega
  simp only[e1,e2,hl];refine⟨fun h1=>⟨by unfold ak;omega,by omega,by omega,by omega,by omega,by omega,hM.lo (by omega) (by omega) (by omega),hM.hi (by omega) (by omega) (by omega),fun y y1 y2=>⟨by unfold ak;omega,by unfold ak;omega,⟨(a+2*s,y),hM.step (by omega) (by omega) y1 y2⟩,by dsimp only;omega,by trivial,by trivial,by dsimp only;omega,by dsimp only;omega,by trivial⟩⟩,fun h1=>⟨by unfold ak;omega,fun h2=>⟨by omega,by omega,by omega,by omega,by omega,hM.lo (by omega) (by omega) (by omega),hM.hi (by omega) (zJ _) (by omega),fun y y1 y2=>⟨by unfold ak;omega,⟨(s*2,y),by dsimp only;omega,by dsimp only;omega,hM.last (by omega) y1 y2⟩,by dsimp only;omega,by trivial,by dsimp only;omega,by trivial⟩⟩,fun h2=>⟨by unfold ak;omega,⟨(s*2,r),by dsimp only;omega,by dsimp only;omega,hM.last (by omega) PI.refl (hM.lo (by omega) (zJ _) (by omega))⟩,by dsimp only;omega,by trivial,by dsimp only;omega,by trivial⟩⟩⟩
 .refine⟨r,hb.1,fun p q _ h1 h2=>hb.2 p q h1 h2 ?_,by trivial⟩;rw[Nat.div_eq_of_lt (by omega),Nat.div_eq_of_lt (by omega)]
end Go.EA
end
