/- Layer 9: where words stand. Conditions: none. -/
import Derived.Test.YtgkhohpekfjlmaaDoorEK12
import Derived.Test.YtgkhohpekfjlmaaDoorELx1
import Derived.KernelRfl
set_option linter.unusedVariables false
set_option linter.unusedSimpArgs false
set_option maxRecDepth 100000
set_option maxHeartbeats 0
namespace Go.EA
open F
def P79:List UInt8×List UInt8->List SV:=fun(a,b)=>[.one (.str a),.one (.str b)]
def R79:List UInt8×List UInt8->SV×List Prop:=fun(a,b)=>(.one (.bool (preB a b)),[])
def K79:Con:=⟨true,[none,none],fun xs=>match xs with | [.one (.str a),.one (.str b)]=>some (R79 (a,b)) | _=>none⟩
noncomputable def G79:GP:=di P79 R79
theorem Ro:∀a b,(P79 a).map aB=(P79 b).map aB->a=b:=by
 rintro⟨a0,a1⟩ ⟨b0,b1⟩ h;simp only[P79,zK,List.map_nil,aB,aW,zG,AV.one.injEq,AV.agg.injEq,Lf.int.injEq,Lf.str.injEq,Lf.bool.injEq,Lf.vrow.injEq,and_true,true_and,and_assoc] at h;obtain⟨h0,h1⟩:=h;subst h0 h1
 rfl
theorem Ul:dC G79 K79:=aX Ro (fun⟨_,_⟩ ⟨_,_⟩=>rfl) (fun⟨_,_⟩=>rfl) fun xs r h=>by
 simp only[K79] at h;split at h
 .cases h;rename_i a b;exact⟨(a,b),rfl,rfl⟩
 .cases h
theorem Zy {S:SC}(hB:SB S)  (h79:S.has 79 f79):aM S 79 (aA G79):=by
 refine prM hB [] [] trivial trivial h79 (fun⟨a,b⟩=>⟨rfl,rfl,rfl⟩) (fun(a,b)=>fun _ _ _ _=>none) 400 ?_;rintro⟨a,b⟩ hc;refine VC.use (p:=((b.length:Int)<=(a.length:Int)->(0<=(b.length:Int)/\(b.length:Int)<=(a.length:Int))/\decide (aC a none (some (b.length:Int))=b)=preB a b)/\(¬(b.length:Int)<=(a.length:Int)->false=preB a b)) (by kernel_rfl) ?_;exact⟨fun h=>⟨by omega,RP h⟩,fun h=>Wy h⟩
def P65:List UInt8×List UInt8->List SV:=fun(a,b)=>[.one (.str a),.one (.str b)]
def R65:List UInt8×List UInt8->SV×List Prop:=fun(a,b)=>(.one (.bool (preB a b)),[])
def K65:Con:=⟨true,[none,none],fun xs=>match xs with | [.one (.str a),.one (.str b)]=>some (R65 (a,b)) | _=>none⟩
noncomputable def G65:GP:=di P65 R65
theorem Qf:∀a b,(P65 a).map aB=(P65 b).map aB->a=b:=by
 rintro⟨a0,a1⟩ ⟨b0,b1⟩ h;simp only[P65,zK,List.map_nil,aB,aW,zG,AV.one.injEq,AV.agg.injEq,Lf.int.injEq,Lf.str.injEq,Lf.bool.injEq,Lf.vrow.injEq,and_true,true_and,and_assoc] at h;obtain⟨h0,h1⟩:=h;subst h0 h1
 rfl
theorem UQ:dC G65 K65:=aX Qf (fun⟨_,_⟩ ⟨_,_⟩=>rfl) (fun⟨_,_⟩=>rfl) fun xs r h=>by
 simp only[K65] at h;split at h
 .cases h;rename_i a b;exact⟨(a,b),rfl,rfl⟩
 .cases h
theorem Zx {S:SC}(hB:SB S) (q79:aM S 79 (aA G79)) (h65:S.has 65 f65):aM S 65 (aA G65):=by
 refine prM hB [] [⟨79,G79,K79⟩] trivial ⟨⟨q79,Ul⟩,trivial⟩ h65 (fun⟨a,b⟩=>⟨rfl,rfl,rfl⟩) (fun(a,b)=>fun _ _ _ _=>none) 400 ?_;rintro⟨a,b⟩ hc;refine VC.use (p:=preB a b=preB a b) (by kernel_rfl) ?_
 rfl
def Sn:(List (List UInt8×Int))×List UInt8×Int->List SV:=fun(l,w0,w1)=>[.one (.row (.pair .str (.int .i64)) l),.agg [.str w0,.int .i64 w1],.one (.fn 321 [])]
def YJ:(List (List UInt8×Int))×List UInt8×Int->SV×List Prop:=fun(l,w0,w1)=>(.tup [.o (.int .i64 (tX l w0)),.o (.bool (isW l w0))],[l.length<=1099511627776,kU l])
def UT:Con:=⟨true,[some (.pair .str (.int .i64)),none,none],fun xs=>match xs with | [.one (.row (.pair .str (.int .i64)) l),.agg [.str w0,.int .i64 w1],.one (.fn 321 [])]=>some (YJ (l,w0,w1)) | _=>none⟩
noncomputable def Lx:GP:=di Sn YJ
theorem KJ:∀a b,(Sn a).map aB=(Sn b).map aB->a=b:=by
 rintro⟨a0,a1,a2⟩ ⟨b0,b1,b2⟩ h;simp only[Sn,zK,List.map_nil,aB,aW,zG,AV.one.injEq,AV.agg.injEq,Lf.int.injEq,Lf.str.injEq,Lf.bool.injEq,Lf.vrow.injEq,and_true,true_and,and_assoc] at h;obtain⟨h0,h1,h2⟩:=h;have h0:=dw h0;subst h0 h1 h2
 rfl
theorem Pz:dC Lx UT:=aX KJ (fun⟨_,_,_⟩ ⟨_,_,_⟩=>rfl) (fun⟨_,_,_⟩=>rfl) fun xs r h=>by
 simp only[UT] at h;split at h
 .cases h;rename_i l w0 w1;exact⟨(l,w0,w1),rfl,rfl⟩
 .cases h
theorem Ym {S:SC}(hB:SB S) (WR:aM S 321 (aA Jw)) (h342:S.has 342 f342):aM S 342 (aA Lx):=by
 refine prM hB [] [⟨321,Jw,VP⟩] trivial ⟨⟨WR,Qe⟩,trivial⟩ h342 (fun⟨l,w0,w1⟩=>⟨rfl,rfl,rfl⟩) (fun(l,w0,w1)=>fun f id T L=>match f,id with
  |342,0=>some (.inv { p:Nat×Nat // p.1<=p.2/\p.2<=l.length/\(∀k,k<p.1->aO (l.getD k ([],0)).1 w0=true)/\(∀k,p.2<=k->k<l.length->aO (l.getD k ([],0)).1 w0=false) } (fun x=>([(9,.one (.int .i64 x.1.1)),(10,.one (.int .i64 x.1.2))],[])) (fun x=>x.1.2-x.1.1))
  |_,_=>none) 400 ?_
 rintro⟨l,w0,w1⟩ hc;have hc1:l.length<=1099511627776:=hc.1;have hc2:kU l:=hc.2.1;refine VC.use (p:=(∃x1:{ p:Nat×Nat // p.1<=p.2/\p.2<=l.length/\(∀(k:Nat),k<p.1->aO (l.getD k ([],0)).1 w0=true)/\∀(k:Nat),p.2<=k->k<l.length->aO (l.getD k ([],0)).1 w0=false },l=l/\(l.length:Int)=(l.length:Int)/\0=(x1.1.1:Int)/\(l.length:Int)=(x1.1.2:Int)/\w0=w0/\w1=w1)/\(∀x1:{ p:Nat×Nat // p.1<=p.2/\p.2<=l.length/\(∀(k:Nat),k<p.1->aO (l.getD k ([],0)).1 w0=true)/\∀(k:Nat),p.2<=k->k<l.length->aO (l.getD k ([],0)).1 w0=false },((x1.1.1:Int)<(x1.1.2:Int)->aF ((x1.1.1:Int)+(x1.1.2:Int))/\aF ((IntKind.u64.wrap ((x1.1.1:Int)+(x1.1.2:Int))).fdiv 2)/\(0<=(IntKind.u64.wrap ((x1.1.1:Int)+(x1.1.2:Int))).fdiv 2/\(IntKind.u64.wrap ((x1.1.1:Int)+(x1.1.2:Int))).fdiv 2<(l.length:Int))/\(kg (l.getD ((IntKind.u64.wrap ((x1.1.1:Int)+(x1.1.2:Int))).fdiv 2).toNat ([],0)).1 w0<0->aF ((IntKind.u64.wrap ((x1.1.1:Int)+(x1.1.2:Int))).fdiv 2+1)/\(∃x2:{ p:Nat×Nat // p.1<=p.2/\p.2<=l.length/\(∀(k:Nat),k<p.1->aO (l.getD k ([],0)).1 w0=true)/\∀(k:Nat),p.2<=k->k<l.length->aO (l.getD k ([],0)).1 w0=false },x2.1.2-x2.1.1<x1.1.2-x1.1.1/\l=l/\(l.length:Int)=(l.length:Int)/\(IntKind.u64.wrap ((x1.1.1:Int)+(x1.1.2:Int))).fdiv 2+1=(x2.1.1:Int)/\(x1.1.2:Int)=(x2.1.2:Int)/\w0=w0/\w1=w1))/\(¬kg (l.getD ((IntKind.u64.wrap ((x1.1.1:Int)+(x1.1.2:Int))).fdiv 2).toNat ([],0)).1 w0<0->∃x2:{ p:Nat×Nat // p.1<=p.2/\p.2<=l.length/\(∀(k:Nat),k<p.1->aO (l.getD k ([],0)).1 w0=true)/\∀(k:Nat),p.2<=k->k<l.length->aO (l.getD k ([],0)).1 w0=false },x2.1.2-x2.1.1<x1.1.2-x1.1.1/\l=l/\(l.length:Int)=(l.length:Int)/\(x1.1.1:Int)=(x2.1.1:Int)/\(IntKind.u64.wrap ((x1.1.1:Int)+(x1.1.2:Int))).fdiv 2=(x2.1.2:Int)/\w0=w0/\w1=w1))/\(¬(x1.1.1:Int)<(x1.1.2:Int)->((x1.1.1:Int)<(l.length:Int)->(0<=(x1.1.1:Int)/\(x1.1.1:Int)<(l.length:Int))/\(x1.1.1:Int)=tX l w0/\decide (kg (l.getD x1.1.1 ([],0)).1 w0=0)=isW l w0)/\(¬(x1.1.1:Int)<(l.length:Int)->(x1.1.1:Int)=tX l w0/\false=isW l w0)))) (by kernel_rfl) ?_;refine⟨⟨⟨(0,l.length),Nat.zero_le _,zJ _,fun k h=>absurd h (zS _),fun k h1 h2=>absurd h1 (by dsimp only;omega)⟩,rfl,rfl,rfl,rfl,rfl,rfl⟩,?_⟩;rintro⟨⟨i,j⟩,hi,hj,hlo,hhi⟩;dsimp only at hi hj hlo hhi ⊢;rw[AQ i j (by omega)];simp only[Int.toNat_natCast];refine⟨fun h=>⟨by unfold aF;omega,by unfold aF;omega,by omega,fun h1=>⟨by unfold aF;omega,⟨((i+j) / 2+1,j),by dsimp only;omega,hj,fun k hk=>?_,hhi⟩,by dsimp only;omega,by trivial,by trivial,by dsimp only;omega,by trivial,by trivial,by trivial⟩,fun h1=>⟨⟨(i,(i+j) / 2),by dsimp only;omega,by dsimp only;omega,hlo,fun k hk hl=>?_⟩,by dsimp only;omega,by trivial,by trivial,by trivial,by trivial,by trivial,by trivial⟩⟩,fun h=>?_⟩
 .have h2:=(KC _ _).1 h1;rcases Nat.lt_or_eq_of_le (Nat.le_of_lt_succ hk) with h3 | h3
  .exact gM (hc2.at h3 (by omega)) h2
  .rw[h3];exact h2
 .have h2:aO (l.getD ((i+j) / 2) ([],0)).1 w0=false:=by
   cases hx:aO (l.getD ((i+j) / 2) ([],0)).1 w0 with
   |false=>rfl
   |true=>exact absurd ((KC _ _).2 hx) h1
  dsimp only at hk;rcases Nat.lt_or_eq_of_le hk with h3 | h3
  .cases hx:aO (l.getD k ([],0)).1 w0 with
   |false=>rfl
   |true=>rw[gM (hc2.at h3 hl) hx] at h2;cases h2
  .rw[<- h3];exact h2
 .have e:i=j:=by omega
  subst e;have hp:mK l w0=i:=Pn hj hlo fun h1=>hhi i (zJ _) h1
  unfold tX isW;rw[hp];refine⟨fun h1=>⟨by omega,rfl,?_⟩,fun h1=>⟨rfl,?_⟩⟩
  .refine decide_eq_decide.2 ⟨fun h2=>⟨by omega,MJ h2⟩,fun h2=>?_⟩;unfold kg;rw[h2.2,qC];simp
  .rw[decide_eq_false];rintro⟨h2,_⟩;omega
def Pj:(List (List UInt8×Int))×List UInt8->List SV:=fun(l,s)=>[.one (.row (.pair .str (.int .i64)) l),.one (.str s)]
def Yb:(List (List UInt8×Int))×List UInt8->SV×List Prop:=fun(l,s)=>(.tup [.o (.int .i64 (tX l s)),.o (.bool (isW l s))],[l.length<=1099511627776,kU l])
def VY:Con:=⟨true,[some (.pair .str (.int .i64)),none],fun xs=>match xs with | [.one (.row (.pair .str (.int .i64)) l),.one (.str s)]=>some (Yb (l,s)) | _=>none⟩
noncomputable def Nq:GP:=di Pj Yb
theorem KQ:∀a b,(Pj a).map aB=(Pj b).map aB->a=b:=by
 rintro⟨a0,a1⟩ ⟨b0,b1⟩ h;simp only[Pj,zK,List.map_nil,aB,aW,zG,AV.one.injEq,AV.agg.injEq,Lf.int.injEq,Lf.str.injEq,Lf.bool.injEq,Lf.vrow.injEq,and_true,true_and,and_assoc] at h;obtain⟨h0,h1⟩:=h;have h0:=dw h0;subst h0 h1
 rfl
theorem QE:dC Nq VY:=aX KQ (fun⟨_,_⟩ ⟨_,_⟩=>rfl) (fun⟨_,_⟩=>rfl) fun xs r h=>by
 simp only[VY] at h;split at h
 .cases h;rename_i l s;exact⟨(l,s),rfl,rfl⟩
 .cases h
theorem YW {S:SC}(hB:SB S) (UC:aM S 342 (aA Lx)) (h324:S.has 324 f324):aM S 324 (aA Nq):=by
 refine prM hB [] [⟨342,Lx,UT⟩] trivial ⟨⟨UC,Pz⟩,trivial⟩ h324 (fun⟨l,s⟩=>⟨rfl,rfl,rfl⟩) (fun(l,s)=>fun _ _ _ _=>none) 400 ?_;rintro⟨l,s⟩ hc;have hc1:l.length<=1099511627776:=hc.1;have hc2:kU l:=hc.2.1;refine VC.use (p:=l.length<=1099511627776/\kU l/\tX l s=tX l s/\isW l s=isW l s) (by kernel_rfl) ?_;exact⟨hc1,hc2,rfl,rfl⟩
def RU:(List (List UInt8×Int))×List UInt8->List SV:=fun(l,s)=>[.one (.row (.pair .str (.int .i64)) l),.one (.str s)]
def Yf:(List (List UInt8×Int))×List UInt8->SV×List Prop:=fun(l,s)=>(.tup [.o (.int .i64 (uX l s)),.o (.int .i64 (nO l s))],[l.length<=1099511627776,SmW l])
def Uv:Con:=⟨true,[some (.pair .str (.int .i64)),none],fun xs=>match xs with | [.one (.row (.pair .str (.int .i64)) l),.one (.str s)]=>some (Yf (l,s)) | _=>none⟩
noncomputable def KF:GP:=di RU Yf
theorem LY:∀a b,(RU a).map aB=(RU b).map aB->a=b:=by
 rintro⟨a0,a1⟩ ⟨b0,b1⟩ h;simp only[RU,zK,List.map_nil,aB,aW,zG,AV.one.injEq,AV.agg.injEq,Lf.int.injEq,Lf.str.injEq,Lf.bool.injEq,Lf.vrow.injEq,and_true,true_and,and_assoc] at h;obtain⟨h0,h1⟩:=h;have h0:=dw h0;subst h0 h1
 rfl
theorem OU:dC KF Uv:=aX LY (fun⟨_,_⟩ ⟨_,_⟩=>rfl) (fun⟨_,_⟩=>rfl) fun xs r h=>by
 simp only[Uv] at h;split at h
 .cases h;rename_i l s;exact⟨(l,s),rfl,rfl⟩
 .cases h
theorem XC {S:SC}(hB:SB S) (GV:aM S 296 (aA DV)) (WV:aM S 324 (aA Nq)) (h303:S.has 303 f303):aM S 303 (aA KF):=by
 refine prM hB [] [⟨296,DV,QK⟩,⟨324,Nq,VY⟩] trivial ⟨⟨GV,Fh⟩,⟨WV,QE⟩,trivial⟩ h303 (fun⟨l,s⟩=>⟨rfl,rfl,rfl⟩) (fun(l,s)=>fun _ _ _ _=>none) 400 ?_;rintro⟨l,s⟩ hc;have hc1:l.length<=1099511627776:=hc.1;have hc2:SmW l:=hc.2.1;refine VC.use (p:=l.length<=1099511627776/\SmW l/\(isE l=0->l.length<=1099511627776/\kU l/\((!isW l s)=true->0=uX l s/\10=nO l s)/\(¬(!isW l s)=true->(0<=tX l s/\tX l s<(l.length:Int))/\(l.getD (tX l s).toNat ([],0)).2=uX l s/\0=nO l s))/\(¬isE l=0->0=uX l s/\isE l=nO l s)) (by kernel_rfl) ?_;refine⟨hc1,hc2,fun he=>⟨hc1,(lc.1 he).2.1,fun h=>Qp he h,fun h=>?_⟩,fun he=>PL he⟩;obtain⟨h1,h2⟩:=Ru (l:=l) (s:=s) (by simpa using h);exact⟨by unfold tX;omega,UN he h2⟩
end Go.EA
