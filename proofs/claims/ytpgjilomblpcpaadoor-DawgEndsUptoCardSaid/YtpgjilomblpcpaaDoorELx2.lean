/- Layer 9: where words stand. Conditions: none. -/
import Derived.Test.YtpgjilomblpcpaaDoorEK12
import Derived.Test.YtpgjilomblpcpaaDoorELx1
import Derived.KernelRfl
set_option linter.unusedVariables false
set_option linter.unusedSimpArgs false
set_option maxRecDepth 100000
set_option maxHeartbeats 0
namespace Go.EA
open F
def P79:List UInt8×List UInt8->List SV:=fun(a,b)=>[.one (.str a),.one (.str b)]
def R79:List UInt8×List UInt8->SV×List Prop:=fun(a,b)=>(.one (.bool (preB a b)),[])
def K79:Con:=⟨true,[none,none],fun xs=>match xs with | [.one (.str a),.one (.str b)]=>some (R79 (a,b)) | _=>none⟩
noncomputable def G79:GP:=dC P79 R79
theorem QK:∀a b,(P79 a).map aB=(P79 b).map aB->a=b:=by
 rintro⟨a0,a1⟩ ⟨b0,b1⟩ h;simp only[P79,zK,List.map_nil,aB,aW,zG,AV.one.injEq,AV.agg.injEq,Lf.int.injEq,Lf.str.injEq,Lf.bool.injEq,Lf.vrow.injEq,and_true,true_and,and_assoc] at h;obtain⟨h0,h1⟩:=h;subst h0 h1
 rfl
theorem VA:dM G79 K79:=bf QK (fun⟨_,_⟩ ⟨_,_⟩=>rfl) (fun⟨_,_⟩=>rfl) fun xs r h=>by
 simp only[K79] at h;split at h
 .cases h;rename_i a b;exact⟨(a,b),rfl,rfl⟩
 .cases h
theorem Yr {S:SC}(hB:SB S)  (h79:S.has 79 f79):aO S 79 (aA G79):=by
 refine prM hB [] [] trivial trivial h79 (fun⟨a,b⟩=>⟨rfl,rfl,rfl⟩) (fun(a,b)=>fun _ _ _ _=>none) 400 ?_;rintro⟨a,b⟩ hc;refine VC.use (p:=
  (((↑b.length:Int)≤(↑a.length:Int) →
    ((0<=(b.length:Int)/\(b.length:Int)<=(a.length:Int))/\
    (decide (aD a none (some (b.length:Int))=b)=preB a b)))/\
  (¬(↑b.length : Int) ≤ (↑a.length : Int) →
   (false=preB a b)))) (by kernel_rfl) ?_
 exact⟨fun h=>⟨by omega,OA h⟩,fun h=>UL h⟩
def P65:List UInt8×List UInt8->List SV:=fun(a,b)=>[.one (.str a),.one (.str b)]
def R65:List UInt8×List UInt8->SV×List Prop:=fun(a,b)=>(.one (.bool (preB a b)),[])
def K65:Con:=⟨true,[none,none],fun xs=>match xs with | [.one (.str a),.one (.str b)]=>some (R65 (a,b)) | _=>none⟩
noncomputable def G65:GP:=dC P65 R65
theorem Qi:∀a b,(P65 a).map aB=(P65 b).map aB->a=b:=by
 rintro⟨a0,a1⟩ ⟨b0,b1⟩ h;simp only[P65,zK,List.map_nil,aB,aW,zG,AV.one.injEq,AV.agg.injEq,Lf.int.injEq,Lf.str.injEq,Lf.bool.injEq,Lf.vrow.injEq,and_true,true_and,and_assoc] at h;obtain⟨h0,h1⟩:=h;subst h0 h1
 rfl
theorem Vq:dM G65 K65:=bf Qi (fun⟨_,_⟩ ⟨_,_⟩=>rfl) (fun⟨_,_⟩=>rfl) fun xs r h=>by
 simp only[K65] at h;split at h
 .cases h;rename_i a b;exact⟨(a,b),rfl,rfl⟩
 .cases h
theorem XX {S:SC}(hB:SB S) (q79:aO S 79 (aA G79)) (h65:S.has 65 f65):aO S 65 (aA G65):=by
 refine prM hB [] [⟨79,G79,K79⟩] trivial ⟨⟨q79,VA⟩,trivial⟩ h65 (fun⟨a,b⟩=>⟨rfl,rfl,rfl⟩) (fun(a,b)=>fun _ _ _ _=>none) 400 ?_;rintro⟨a,b⟩ hc;refine VC.use (p:=
  (preB a b=preB a b)) (by kernel_rfl) ?_
 rfl
def OO:(List (List UInt8×Int))×List UInt8×Int->List SV:=fun(l,w0,w1)=>[.one (.row (.pair .str (.int .i64)) l),.agg [.str w0,.int .i64 w1],.one (.fn 321 [])]
def VU:(List (List UInt8×Int))×List UInt8×Int->SV×List Prop:=fun(l,w0,w1)=>(.tup [.o (.int .i64 (iV l w0)),.o (.bool (isW l w0))],[l.length<=1099511627776,jP l])
def Ut:Con:=⟨true,[some (.pair .str (.int .i64)),none,none],fun xs=>match xs with | [.one (.row (.pair .str (.int .i64)) l),.agg [.str w0,.int .i64 w1],.one (.fn 321 [])]=>some (VU (l,w0,w1)) | _=>none⟩
noncomputable def Mf:GP:=dC OO VU
theorem JK:∀a b,(OO a).map aB=(OO b).map aB->a=b:=by
 rintro⟨a0,a1,a2⟩ ⟨b0,b1,b2⟩ h;simp only[OO,zK,List.map_nil,aB,aW,zG,AV.one.injEq,AV.agg.injEq,Lf.int.injEq,Lf.str.injEq,Lf.bool.injEq,Lf.vrow.injEq,and_true,true_and,and_assoc] at h;obtain⟨h0,h1,h2⟩:=h;have h0:=dK h0;subst h0 h1 h2
 rfl
theorem QS:dM Mf Ut:=bf JK (fun⟨_,_,_⟩ ⟨_,_,_⟩=>rfl) (fun⟨_,_,_⟩=>rfl) fun xs r h=>by
 simp only[Ut] at h;split at h
 .cases h;rename_i l w0 w1;exact⟨(l,w0,w1),rfl,rfl⟩
 .cases h
theorem Wv {S:SC}(hB:SB S) (Sw:aO S 321 (aA IQ)) (h342:S.has 342 f342):aO S 342 (aA Mf):=by
 refine prM hB [] [⟨321,IQ,Ve⟩] trivial ⟨⟨Sw,Oj⟩,trivial⟩ h342 (fun⟨l,w0,w1⟩=>⟨rfl,rfl,rfl⟩) (fun(l,w0,w1)=>fun f id T L=>match f,id with
  |342,0=>some (.inv { p:Nat×Nat // p.1<=p.2/\p.2<=l.length/\(∀k,k<p.1->aM (l.getD k ([],0)).1 w0=true)/\(∀k,p.2<=k->k<l.length->aM (l.getD k ([],0)).1 w0=false) } (fun x=>([(9,.one (.int .i64 x.1.1)),(10,.one (.int .i64 x.1.2))],[])) (fun x=>x.1.2-x.1.1))
  |_,_=>none) 400 ?_
 rintro⟨l,w0,w1⟩ hc;have hc1:l.length<=1099511627776:=hc.1;have hc2:jP l:=hc.2.1;refine VC.use (p:=
  ((∃ x1:{ p:Nat×Nat // p.fst≤p.snd∧p.snd≤l.length∧(∀ (k:Nat),k < p.fst→aM    (l.getD k ([],0)).fst w0=true)∧∀ (k:Nat),p.snd≤k→k < l.length→aM    (l.getD k ([],0)).fst w0=false },
    ((l=l)/\
    (((l.length:Int)=(l.length:Int))/\
    ((0=(x1.1.1:Int))/\
    (((l.length:Int)=(x1.1.2:Int))/\
    ((w0=w0)/\
    (w1=w1)))))))/\
  (∀ x1 : { p : Nat × Nat // p.fst ≤ p.snd ∧ p.snd ≤ l.length ∧ (∀ (k : Nat), k < p.fst → aM    (l.getD k ([], 0)).fst w0 = true) ∧ ∀ (k : Nat), p.snd ≤ k → k < l.length → aM    (l.getD k ([], 0)).fst w0 = false },
   (((↑x1.val.fst:Int) < (↑x1.val.snd:Int) →
     ((aL ((x1.1.1:Int)+(x1.1.2:Int)))/\
     ((aL ((IntKind.u64.wrap ((x1.1.1:Int)+(x1.1.2:Int))).fdiv 2))/\
     ((0<=(IntKind.u64.wrap ((x1.1.1:Int)+(x1.1.2:Int))).fdiv 2/\(IntKind.u64.wrap ((x1.1.1:Int)+(x1.1.2:Int))).fdiv 2<(l.length:Int))/\
     ((jT   (l.getD ((IntKind.u64.wrap ((↑x1.val.fst:Int)+(↑x1.val.snd:Int))).fdiv 2).toNat ([],0)).fst w0 < 0 →
       ((aL ((IntKind.u64.wrap ((x1.1.1:Int)+(x1.1.2:Int))).fdiv 2+1))/\
       (∃ x2 : { p : Nat × Nat // p.fst ≤ p.snd ∧ p.snd ≤ l.length ∧ (∀ (k : Nat), k < p.fst → aM    (l.getD k ([], 0)).fst w0 = true) ∧ ∀ (k : Nat), p.snd ≤ k → k < l.length → aM    (l.getD k ([], 0)).fst w0 = false },
        ((x2.1.2-x2.1.1<x1.1.2-x1.1.1)/\
        ((l=l)/\
        (((l.length:Int)=(l.length:Int))/\
        (((IntKind.u64.wrap ((x1.1.1:Int)+(x1.1.2:Int))).fdiv 2+1=(x2.1.1:Int))/\
        (((x1.1.2:Int)=(x2.1.2:Int))/\
        ((w0=w0)/\
        (w1=w1))))))))))/\
     (¬jT   (l.getD ((IntKind.u64.wrap ((↑x1.val.fst : Int) + (↑x1.val.snd : Int))).fdiv 2).toNat ([], 0)).fst w0 < 0 →
      (∃ x2 : { p : Nat × Nat // p.fst ≤ p.snd ∧ p.snd ≤ l.length ∧ (∀ (k : Nat), k < p.fst → aM    (l.getD k ([], 0)).fst w0 = true) ∧ ∀ (k : Nat), p.snd ≤ k → k < l.length → aM    (l.getD k ([], 0)).fst w0 = false },
       ((x2.1.2-x2.1.1<x1.1.2-x1.1.1)/\
       ((l=l)/\
       (((l.length:Int)=(l.length:Int))/\
       (((x1.1.1:Int)=(x2.1.1:Int))/\
       (((IntKind.u64.wrap ((x1.1.1:Int)+(x1.1.2:Int))).fdiv 2=(x2.1.2:Int))/\
       ((w0=w0)/\
       (w1=w1))))))))))))))/\
   (¬(↑x1.val.fst : Int) < (↑x1.val.snd : Int) →
    (((↑x1.val.fst:Int) < (↑l.length:Int) →
      ((0<=(x1.1.1:Int)/\(x1.1.1:Int)<(l.length:Int))/\
      (((x1.1.1:Int)=iV l w0)/\
      (decide (jT (l.getD x1.1.1 ([],0)).1 w0=0)=isW l w0))))/\
    (¬(↑x1.val.fst : Int) < (↑l.length : Int) →
     (((x1.1.1:Int)=iV l w0)/\
     (false=isW l w0))))))))) (by kernel_rfl) ?_
 refine⟨⟨⟨(0,l.length),Nat.zero_le _,zJ _,fun k h=>absurd h (zS _),fun k h1 h2=>absurd h1 (by dsimp only;omega)⟩,rfl,rfl,rfl,rfl,rfl,rfl⟩,?_⟩;rintro⟨⟨i,j⟩,hi,hj,hlo,hhi⟩;dsimp only at hi hj hlo hhi ⊢;rw[BV i j (by omega)];simp only[Int.toNat_natCast];refine⟨fun h=>⟨by unfold aL;omega,by unfold aL;omega,by omega,fun h1=>⟨by unfold aL;omega,⟨((i+j) / 2+1,j),by dsimp only;omega,hj,fun k hk=>?_,hhi⟩,by dsimp only;omega,by trivial,by trivial,by dsimp only;omega,by trivial,by trivial,by trivial⟩,fun h1=>⟨⟨(i,(i+j) / 2),by dsimp only;omega,by dsimp only;omega,hlo,fun k hk hl=>?_⟩,by dsimp only;omega,by trivial,by trivial,by trivial,by trivial,by trivial,by trivial⟩⟩,fun h=>?_⟩
 .have h2:=(Ni _ _).1 h1;rcases Nat.lt_or_eq_of_le (Nat.le_of_lt_succ hk) with h3 | h3
  .exact fI (hc2.at h3 (by omega)) h2
  .rw[h3];exact h2
 .have h2:aM (l.getD ((i+j) / 2) ([],0)).1 w0=false:=by
   cases hx:aM (l.getD ((i+j) / 2) ([],0)).1 w0 with
   |false=>rfl
   |true=>exact absurd ((Ni _ _).2 hx) h1
  dsimp only at hk;rcases Nat.lt_or_eq_of_le hk with h3 | h3
  .cases hx:aM (l.getD k ([],0)).1 w0 with
   |false=>rfl
   |true=>rw[fI (hc2.at h3 hl) hx] at h2;cases h2
  .rw[<- h3];exact h2
 .have e:i=j:=by omega
  subst e;have hp:cu l w0=i:=QQ hj hlo fun h1=>hhi i (zJ _) h1
  unfold iV isW;rw[hp];refine⟨fun h1=>⟨by omega,rfl,?_⟩,fun h1=>⟨rfl,?_⟩⟩
  .refine decide_eq_decide.2 ⟨fun h2=>⟨by omega,Jn h2⟩,fun h2=>?_⟩;unfold jT;rw[h2.2,pR];simp
  .rw[decide_eq_false];rintro⟨h2,_⟩;omega
def PS:(List (List UInt8×Int))×List UInt8->List SV:=fun(l,s)=>[.one (.row (.pair .str (.int .i64)) l),.one (.str s)]
def XL:(List (List UInt8×Int))×List UInt8->SV×List Prop:=fun(l,s)=>(.tup [.o (.int .i64 (iV l s)),.o (.bool (isW l s))],[l.length<=1099511627776,jP l])
def Ov:Con:=⟨true,[some (.pair .str (.int .i64)),none],fun xs=>match xs with | [.one (.row (.pair .str (.int .i64)) l),.one (.str s)]=>some (XL (l,s)) | _=>none⟩
noncomputable def Dw:GP:=dC PS XL
theorem Ls:∀a b,(PS a).map aB=(PS b).map aB->a=b:=by
 rintro⟨a0,a1⟩ ⟨b0,b1⟩ h;simp only[PS,zK,List.map_nil,aB,aW,zG,AV.one.injEq,AV.agg.injEq,Lf.int.injEq,Lf.str.injEq,Lf.bool.injEq,Lf.vrow.injEq,and_true,true_and,and_assoc] at h;obtain⟨h0,h1⟩:=h;have h0:=dK h0;subst h0 h1
 rfl
theorem EF:dM Dw Ov:=bf Ls (fun⟨_,_⟩ ⟨_,_⟩=>rfl) (fun⟨_,_⟩=>rfl) fun xs r h=>by
 simp only[Ov] at h;split at h
 .cases h;rename_i l s;exact⟨(l,s),rfl,rfl⟩
 .cases h
theorem Xb {S:SC}(hB:SB S) (Uh:aO S 342 (aA Mf)) (h324:S.has 324 f324):aO S 324 (aA Dw):=by
 refine prM hB [] [⟨342,Mf,Ut⟩] trivial ⟨⟨Uh,QS⟩,trivial⟩ h324 (fun⟨l,s⟩=>⟨rfl,rfl,rfl⟩) (fun(l,s)=>fun _ _ _ _=>none) 400 ?_;rintro⟨l,s⟩ hc;have hc1:l.length<=1099511627776:=hc.1;have hc2:jP l:=hc.2.1;refine VC.use (p:=
  ((l.length<=1099511627776)/\
  ((jP l)/\
  ((iV l s=iV l s)/\
  (isW l s=isW l s))))) (by kernel_rfl) ?_
 exact⟨hc1,hc2,rfl,rfl⟩
def QC:(List (List UInt8×Int))×List UInt8->List SV:=fun(l,s)=>[.one (.row (.pair .str (.int .i64)) l),.one (.str s)]
def WU:(List (List UInt8×Int))×List UInt8->SV×List Prop:=fun(l,s)=>(.tup [.o (.int .i64 (uL l s)),.o (.int .i64 (eO l s))],[l.length<=1099511627776,SmW l])
def Vs:Con:=⟨true,[some (.pair .str (.int .i64)),none],fun xs=>match xs with | [.one (.row (.pair .str (.int .i64)) l),.one (.str s)]=>some (WU (l,s)) | _=>none⟩
noncomputable def Lg:GP:=dC QC WU
theorem KE:∀a b,(QC a).map aB=(QC b).map aB->a=b:=by
 rintro⟨a0,a1⟩ ⟨b0,b1⟩ h;simp only[QC,zK,List.map_nil,aB,aW,zG,AV.one.injEq,AV.agg.injEq,Lf.int.injEq,Lf.str.injEq,Lf.bool.injEq,Lf.vrow.injEq,and_true,true_and,and_assoc] at h;obtain⟨h0,h1⟩:=h;have h0:=dK h0;subst h0 h1
 rfl
theorem Rk:dM Lg Vs:=bf KE (fun⟨_,_⟩ ⟨_,_⟩=>rfl) (fun⟨_,_⟩=>rfl) fun xs r h=>by
 simp only[Vs] at h;split at h
 .cases h;rename_i l s;exact⟨(l,s),rfl,rfl⟩
 .cases h
theorem WN {S:SC}(hB:SB S) (xN:aO S 296 (aA wU)) (FW:aO S 324 (aA Dw)) (h303:S.has 303 f303):aO S 303 (aA Lg):=by
 refine prM hB [] [⟨296,wU,NI⟩,⟨324,Dw,Ov⟩] trivial ⟨⟨xN,xg⟩,⟨FW,EF⟩,trivial⟩ h303 (fun⟨l,s⟩=>⟨rfl,rfl,rfl⟩) (fun(l,s)=>fun _ _ _ _=>none) 400 ?_;rintro⟨l,s⟩ hc;have hc1:l.length<=1099511627776:=hc.1;have hc2:SmW l:=hc.2.1;refine VC.use (p:=
  ((l.length<=1099511627776)/\
  ((SmW l)/\
  ((isE l=0 →
    ((l.length<=1099511627776)/\
    ((jP l)/\
    (((!isW l s)=true →
      ((0=uL l s)/\
      (10=eO l s)))/\
    (¬(!isW l s) = true →
     ((0<=iV l s/\iV l s<(l.length:Int))/\
     (((l.getD (iV l s).toNat ([],0)).2=uL l s)/\
     (0=eO l s))))))))/\
  (¬isE l = 0 →
   ((0=uL l s)/\
   (isE l=eO l s))))))) (by kernel_rfl) ?_
 refine⟨hc1,hc2,fun he=>⟨hc1,(lc.1 he).2.1,fun h=>Rj he h,fun h=>?_⟩,fun he=>QB he⟩;obtain⟨h1,h2⟩:=Ou (l:=l) (s:=s) (by simpa using h);exact⟨by unfold iV;omega,Tx he h2⟩
def PN:(List (List UInt8×Int))×List UInt8->List SV:=fun(l,s)=>[.one (.row (.pair .str (.int .i64)) l),.one (.str s)]
def XG:(List (List UInt8×Int))×List UInt8->SV×List Prop:=fun(l,s)=>(.tup [.o (.int .i64 (qO l s)),.o (.int .i64 (qL l s)),.o (.int .i64 (isE l))],[l.length<=1099511627776,SmW l])
def Vm:Con:=⟨true,[some (.pair .str (.int .i64)),none],fun xs=>match xs with | [.one (.row (.pair .str (.int .i64)) l),.one (.str s)]=>some (XG (l,s)) | _=>none⟩
noncomputable def Nf:GP:=dC PN XG
theorem JE:∀a b,(PN a).map aB=(PN b).map aB->a=b:=by
 rintro⟨a0,a1⟩ ⟨b0,b1⟩ h;simp only[PN,zK,List.map_nil,aB,aW,zG,AV.one.injEq,AV.agg.injEq,Lf.int.injEq,Lf.str.injEq,Lf.bool.injEq,Lf.vrow.injEq,and_true,true_and,and_assoc] at h;obtain⟨h0,h1⟩:=h;have h0:=dK h0;subst h0 h1
 rfl
theorem Om:dM Nf Vm:=bf JE (fun⟨_,_⟩ ⟨_,_⟩=>rfl) (fun⟨_,_⟩=>rfl) fun xs r h=>by
 simp only[Vm] at h;split at h
 .cases h;rename_i l s;exact⟨(l,s),rfl,rfl⟩
 .cases h
theorem Xw {S:SC}(hB:SB S) (xN:aO S 296 (aA wU)) (FW:aO S 324 (aA Dw)) (q65:aO S 65 (aA G65)) (h325:S.has 325 f325) (h343:S.has 343 f343) (h305:S.has 305 f305):aO S 305 (aA Nf):=by
 refine prM hB [(325,f325),(343,f343)] [⟨296,wU,NI⟩,⟨324,Dw,Ov⟩,⟨65,G65,K65⟩] ⟨h325,h343,trivial⟩ ⟨⟨xN,xg⟩,⟨FW,EF⟩,⟨q65,Vq⟩,trivial⟩ h305 (fun⟨l,s⟩=>⟨rfl,rfl,rfl⟩) (fun(l,s)=>fun f id T L=>match f,id with
  |343,0=>some (.inv { i:Nat // cu l s<=i/\i<=l.length/\∀j,cu l s<=j->j<i->preB (l.getD j ([],0)).1 s=true } (fun x=>([(4,.one (.int .i64 x.1))],[(1,.cell [.int .i64 x.1])])) (fun x=>l.length-x.1))
  |_,_=>none) 400 ?_
 rintro⟨l,s⟩ hc;have hc1:l.length<=1099511627776:=hc.1;have hc2:SmW l:=hc.2.1;refine VC.use (p:=
  ((l.length<=1099511627776)/\
  ((SmW l)/\
  ((isE l=0 →
    ((l.length<=1099511627776)/\
    ((jP l)/\
    ((∃ x1:{ i:Nat // cu   l s≤i∧i≤l.length∧∀ (j:Nat),cu   l s≤j→j < i→preB (l.getD j ([],0)).fst s=true },
      ((iV l s=(x1.1:Int))/\
      ((s=s)/\
      ((iV l s=(x1.1:Int))/\
      ((l=l)/\
      (iV l s=iV l s))))))/\
    (∀ x1 : { i : Nat // cu   l s ≤ i ∧ i ≤ l.length ∧ ∀ (j : Nat), cu   l s ≤ j → j < i → preB (l.getD j ([], 0)).fst s = true },
     (((↑x1.val:Int) < (↑l.length:Int) →
       ((0<=(x1.1:Int)/\(x1.1:Int)<(l.length:Int))/\
       (((!preB (l.getD x1.val ([],0)).fst s)=true →
         ((iV l s=qO l s)/\
         (((x1.1:Int)=qL l s)/\
         (0=isE l))))/\
       (¬(!preB (l.getD x1.val ([], 0)).fst s) = true →
        ((aL ((x1.1:Int)+1))/\
        ((aL ((x1.1:Int)+1))/\
        (∃ x2 : { i : Nat // cu   l s ≤ i ∧ i ≤ l.length ∧ ∀ (j : Nat), cu   l s ≤ j → j < i → preB (l.getD j ([], 0)).fst s = true },
         ((l.length-x2.1<l.length-x1.1)/\
         (((x1.1:Int)+1=(x2.1:Int))/\
         ((s=s)/\
         (((x1.1:Int)+1=(x2.1:Int))/\
         ((l=l)/\
         (iV l s=iV l s)))))))))))))/\
     (¬(↑x1.val : Int) < (↑l.length : Int) →
      ((iV l s=qO l s)/\
      (((x1.1:Int)=qL l s)/\
      (0=isE l))))))))))/\
  (¬isE l = 0 →
   ((0=qO l s)/\
   ((0=qL l s)/\
   (isE l=isE l)))))))) (by kernel_rfl) ?_
 refine⟨hc1,hc2,fun he=>⟨hc1,(lc.1 he).2.1,⟨⟨cu l s,zJ _,FM l s,fun j h1 h2=>by omega⟩,rfl,rfl,rfl,rfl,rfl⟩,?_⟩,fun he=>⟨(Fa he).1,(Fa he).2,rfl⟩⟩;rintro⟨i,h0,hi,ha⟩;dsimp only;refine⟨fun h=>⟨by omega,fun h1=>Nw he (Fe h0 hi ha fun _=>by simpa using h1),fun h1=>⟨by unfold aL;omega,by unfold aL;omega,⟨i+1,by omega,by omega,Mh ha (by simpa using h1)⟩,by show l.length-(i+1)<l.length-i;omega,rfl,rfl,rfl,rfl,rfl⟩⟩,fun h=>Nw he (Fe h0 hi ha fun h1=>by omega)⟩
end Go.EA
