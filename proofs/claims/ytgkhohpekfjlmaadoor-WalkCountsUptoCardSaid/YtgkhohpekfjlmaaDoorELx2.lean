/- Layer 9: where words stand. Conditions: none. -/
import Derived.Test.YtgkhohpekfjlmaaDoorEK12
import Derived.Test.YtgkhohpekfjlmaaDoorELx1
import Derived.KernelRfl
set_option linter.unusedVariables false
set_option linter.unusedSimpArgs false
set_option maxRecDepth 100000
set_option maxHeartbeats 0
namespace Go.EA
open F
def P79:List UInt8×List UInt8->List SV:=fun(a,b)=>[.one (.str a),.one (.str b)]
def R79:List UInt8×List UInt8->SV×List Prop:=fun(a,b)=>(.one (.bool (preB a b)),[])
def K79:Con:=⟨true,[none,none],fun xs=>match xs with | [.one (.str a),.one (.str b)]=>some (R79 (a,b)) | _=>none⟩
noncomputable def G79:GP:=bX P79 R79
theorem Rs:∀a b,(P79 a).map aA=(P79 b).map aA->a=b:=by
 rintro⟨a0,a1⟩ ⟨b0,b1⟩ h;simp only[P79,zK,List.map_nil,aA,aV,zG,AV.one.injEq,AV.agg.injEq,Lf.int.injEq,Lf.str.injEq,Lf.bool.injEq,Lf.vrow.injEq,and_true,true_and,and_assoc] at h;obtain⟨h0,h1⟩:=h;subst h0 h1
 rfl
theorem Yu:cK G79 K79:=aS Rs (fun⟨_,_⟩ ⟨_,_⟩=>rfl) (fun⟨_,_⟩=>rfl) fun xs r h=>by
 simp only[K79] at h;split at h
 .cases h;rename_i a b;exact⟨(a,b),rfl,rfl⟩
 .cases h
theorem aaX {S:SC}(hB:SB S)  (h79:S.has 79 f79):aF S 79 (az G79):=by
 refine prM hB [] [] trivial trivial h79 (fun⟨a,b⟩=>⟨rfl,rfl,rfl⟩) (fun(a,b)=>fun _ _ _ _=>none) 400 ?_;rintro⟨a,b⟩ hc;refine VC.use (p:=((b.length:Int)<=(a.length:Int)->(0<=(b.length:Int)/\(b.length:Int)<=(a.length:Int))/\decide (aC a none (some (b.length:Int))=b)=preB a b)/\(¬(b.length:Int)<=(a.length:Int)->false=preB a b)) (by kernel_rfl) ?_;exact⟨fun h=>⟨by omega,QT h⟩,fun h=>Va h⟩
def P65:List UInt8×List UInt8->List SV:=fun(a,b)=>[.one (.str a),.one (.str b)]
def R65:List UInt8×List UInt8->SV×List Prop:=fun(a,b)=>(.one (.bool (preB a b)),[])
def K65:Con:=⟨true,[none,none],fun xs=>match xs with | [.one (.str a),.one (.str b)]=>some (R65 (a,b)) | _=>none⟩
noncomputable def G65:GP:=bX P65 R65
theorem Qf:∀a b,(P65 a).map aA=(P65 b).map aA->a=b:=by
 rintro⟨a0,a1⟩ ⟨b0,b1⟩ h;simp only[P65,zK,List.map_nil,aA,aV,zG,AV.one.injEq,AV.agg.injEq,Lf.int.injEq,Lf.str.injEq,Lf.bool.injEq,Lf.vrow.injEq,and_true,true_and,and_assoc] at h;obtain⟨h0,h1⟩:=h;subst h0 h1
 rfl
theorem JY:cK G65 K65:=aS Qf (fun⟨_,_⟩ ⟨_,_⟩=>rfl) (fun⟨_,_⟩=>rfl) fun xs r h=>by
 simp only[K65] at h;split at h
 .cases h;rename_i a b;exact⟨(a,b),rfl,rfl⟩
 .cases h
theorem aa2 {S:SC}(hB:SB S) (q79:aF S 79 (az G79)) (h65:S.has 65 f65):aF S 65 (az G65):=by
 refine prM hB [] [⟨79,G79,K79⟩] trivial ⟨⟨q79,Yu⟩,trivial⟩ h65 (fun⟨a,b⟩=>⟨rfl,rfl,rfl⟩) (fun(a,b)=>fun _ _ _ _=>none) 400 ?_;rintro⟨a,b⟩ hc;refine VC.use (p:=preB a b=preB a b) (by kernel_rfl) ?_
 rfl
def TT:(List (List UInt8×Int))×List UInt8×Int->List SV:=fun(l,w0,w1)=>[.one (.row (.pair .str (.int .i64)) l),.agg [.str w0,.int .i64 w1],.one (.fn 321 [])]
def aak:(List (List UInt8×Int))×List UInt8×Int->SV×List Prop:=fun(l,w0,w1)=>(.tup [.o (.int .i64 (mg l w0)),.o (.bool (isW l w0))],[l.length<=1099511627776,jF l])
def VQ:Con:=⟨true,[some (.pair .str (.int .i64)),none,none],fun xs=>match xs with | [.one (.row (.pair .str (.int .i64)) l),.agg [.str w0,.int .i64 w1],.one (.fn 321 [])]=>some (aak (l,w0,w1)) | _=>none⟩
noncomputable def Mw:GP:=bX TT aak
theorem MJ:∀a b,(TT a).map aA=(TT b).map aA->a=b:=by
 rintro⟨a0,a1,a2⟩ ⟨b0,b1,b2⟩ h;simp only[TT,zK,List.map_nil,aA,aV,zG,AV.one.injEq,AV.agg.injEq,Lf.int.injEq,Lf.str.injEq,Lf.bool.injEq,Lf.vrow.injEq,and_true,true_and,and_assoc] at h;obtain⟨h0,h1,h2⟩:=h;have h0:=cZ h0;subst h0 h1 h2
 rfl
theorem Ri:cK Mw VQ:=aS MJ (fun⟨_,_,_⟩ ⟨_,_,_⟩=>rfl) (fun⟨_,_,_⟩=>rfl) fun xs r h=>by
 simp only[VQ] at h;split at h
 .cases h;rename_i l w0 w1;exact⟨(l,w0,w1),rfl,rfl⟩
 .cases h
theorem Zp {S:SC}(hB:SB S) (Ww:aF S 321 (az Mk)) (h342:S.has 342 f342):aF S 342 (az Mw):=by
 refine prM hB [] [⟨321,Mk,XY⟩] trivial ⟨⟨Ww,Sq⟩,trivial⟩ h342 (fun⟨l,w0,w1⟩=>⟨rfl,rfl,rfl⟩) (fun(l,w0,w1)=>fun f id T L=>match f,id with
  |342,0=>some (.inv { p:Nat×Nat // p.1<=p.2/\p.2<=l.length/\(∀k,k<p.1->aM (l.getD k ([],0)).1 w0=true)/\(∀k,p.2<=k->k<l.length->aM (l.getD k ([],0)).1 w0=false) } (fun x=>([(9,.one (.int .i64 x.1.1)),(10,.one (.int .i64 x.1.2))],[])) (fun x=>x.1.2-x.1.1))
  |_,_=>none) 400 ?_
 rintro⟨l,w0,w1⟩ hc;have hc1:l.length<=1099511627776:=hc.1;have hc2:jF l:=hc.2.1;refine VC.use (p:=(∃x1:{ p:Nat×Nat // p.1<=p.2/\p.2<=l.length/\(∀(k:Nat),k<p.1->aM (l.getD k ([],0)).1 w0=true)/\∀(k:Nat),p.2<=k->k<l.length->aM (l.getD k ([],0)).1 w0=false },l=l/\(l.length:Int)=(l.length:Int)/\0=(x1.1.1:Int)/\(l.length:Int)=(x1.1.2:Int)/\w0=w0/\w1=w1)/\(∀x1:{ p:Nat×Nat // p.1<=p.2/\p.2<=l.length/\(∀(k:Nat),k<p.1->aM (l.getD k ([],0)).1 w0=true)/\∀(k:Nat),p.2<=k->k<l.length->aM (l.getD k ([],0)).1 w0=false },((x1.1.1:Int)<(x1.1.2:Int)->aB ((x1.1.1:Int)+(x1.1.2:Int))/\aB ((IntKind.u64.wrap ((x1.1.1:Int)+(x1.1.2:Int))).fdiv 2)/\(0<=(IntKind.u64.wrap ((x1.1.1:Int)+(x1.1.2:Int))).fdiv 2/\(IntKind.u64.wrap ((x1.1.1:Int)+(x1.1.2:Int))).fdiv 2<(l.length:Int))/\(kI (l.getD ((IntKind.u64.wrap ((x1.1.1:Int)+(x1.1.2:Int))).fdiv 2).toNat ([],0)).1 w0<0->aB ((IntKind.u64.wrap ((x1.1.1:Int)+(x1.1.2:Int))).fdiv 2+1)/\(∃x2:{ p:Nat×Nat // p.1<=p.2/\p.2<=l.length/\(∀(k:Nat),k<p.1->aM (l.getD k ([],0)).1 w0=true)/\∀(k:Nat),p.2<=k->k<l.length->aM (l.getD k ([],0)).1 w0=false },x2.1.2-x2.1.1<x1.1.2-x1.1.1/\l=l/\(l.length:Int)=(l.length:Int)/\(IntKind.u64.wrap ((x1.1.1:Int)+(x1.1.2:Int))).fdiv 2+1=(x2.1.1:Int)/\(x1.1.2:Int)=(x2.1.2:Int)/\w0=w0/\w1=w1))/\(¬kI (l.getD ((IntKind.u64.wrap ((x1.1.1:Int)+(x1.1.2:Int))).fdiv 2).toNat ([],0)).1 w0<0->∃x2:{ p:Nat×Nat // p.1<=p.2/\p.2<=l.length/\(∀(k:Nat),k<p.1->aM (l.getD k ([],0)).1 w0=true)/\∀(k:Nat),p.2<=k->k<l.length->aM (l.getD k ([],0)).1 w0=false },x2.1.2-x2.1.1<x1.1.2-x1.1.1/\l=l/\(l.length:Int)=(l.length:Int)/\(x1.1.1:Int)=(x2.1.1:Int)/\(IntKind.u64.wrap ((x1.1.1:Int)+(x1.1.2:Int))).fdiv 2=(x2.1.2:Int)/\w0=w0/\w1=w1))/\(¬(x1.1.1:Int)<(x1.1.2:Int)->((x1.1.1:Int)<(l.length:Int)->(0<=(x1.1.1:Int)/\(x1.1.1:Int)<(l.length:Int))/\(x1.1.1:Int)=mg l w0/\decide (kI (l.getD x1.1.1 ([],0)).1 w0=0)=isW l w0)/\(¬(x1.1.1:Int)<(l.length:Int)->(x1.1.1:Int)=mg l w0/\false=isW l w0)))) (by kernel_rfl) ?_;refine⟨⟨⟨(0,l.length),Nat.zero_le _,zJ _,fun k h=>absurd h (zS _),fun k h1 h2=>absurd h1 (by dsimp only;omega)⟩,rfl,rfl,rfl,rfl,rfl,rfl⟩,?_⟩;rintro⟨⟨i,j⟩,hi,hj,hlo,hhi⟩;dsimp only at hi hj hlo hhi ⊢;rw[oo i j (by omega)];simp only[Int.toNat_natCast];refine⟨fun h=>⟨by unfold aB;omega,by unfold aB;omega,by omega,fun h1=>⟨by unfold aB;omega,⟨((i+j) / 2+1,j),by dsimp only;omega,hj,fun k hk=>?_,hhi⟩,by dsimp only;omega,by trivial,by trivial,by dsimp only;omega,by trivial,by trivial,by trivial⟩,fun h1=>⟨⟨(i,(i+j) / 2),by dsimp only;omega,by dsimp only;omega,hlo,fun k hk hl=>?_⟩,by dsimp only;omega,by trivial,by trivial,by trivial,by trivial,by trivial,by trivial⟩⟩,fun h=>?_⟩
 .have h2:=(Le _ _).1 h1;rcases Nat.lt_or_eq_of_le (Nat.le_of_lt_succ hk) with h3 | h3
  .exact gN (hc2.at h3 (by omega)) h2
  .rw[h3];exact h2
 .have h2:aM (l.getD ((i+j) / 2) ([],0)).1 w0=false:=by
   cases hx:aM (l.getD ((i+j) / 2) ([],0)).1 w0 with
   |false=>rfl
   |true=>exact absurd ((Le _ _).2 hx) h1
  dsimp only at hk;rcases Nat.lt_or_eq_of_le hk with h3 | h3
  .cases hx:aM (l.getD k ([],0)).1 w0 with
   |false=>rfl
   |true=>rw[gN (hc2.at h3 hl) hx] at h2;cases h2
  .rw[<- h3];exact h2
 .have e:i=j:=by omega
  subst e;have hp:aO l w0=i:=Re hj hlo fun h1=>hhi i (zJ _) h1
  unfold mg isW;rw[hp];refine⟨fun h1=>⟨by omega,rfl,?_⟩,fun h1=>⟨rfl,?_⟩⟩
  .refine decide_eq_decide.2 ⟨fun h2=>⟨by omega,Mg h2⟩,fun h2=>?_⟩;unfold kI;rw[h2.2,uH];simp
  .rw[decide_eq_false];rintro⟨h2,_⟩;omega
def QD:(List (List UInt8×Int))×List UInt8->List SV:=fun(l,s)=>[.one (.row (.pair .str (.int .i64)) l),.one (.str s)]
def aaE:(List (List UInt8×Int))×List UInt8->SV×List Prop:=fun(l,s)=>(.tup [.o (.int .i64 (mg l s)),.o (.bool (isW l s))],[l.length<=1099511627776,jF l])
def Xv:Con:=⟨true,[some (.pair .str (.int .i64)),none],fun xs=>match xs with | [.one (.row (.pair .str (.int .i64)) l),.one (.str s)]=>some (aaE (l,s)) | _=>none⟩
noncomputable def NV:GP:=bX QD aaE
theorem KH:∀a b,(QD a).map aA=(QD b).map aA->a=b:=by
 rintro⟨a0,a1⟩ ⟨b0,b1⟩ h;simp only[QD,zK,List.map_nil,aA,aV,zG,AV.one.injEq,AV.agg.injEq,Lf.int.injEq,Lf.str.injEq,Lf.bool.injEq,Lf.vrow.injEq,and_true,true_and,and_assoc] at h;obtain⟨h0,h1⟩:=h;have h0:=cZ h0;subst h0 h1
 rfl
theorem Sz:cK NV Xv:=aS KH (fun⟨_,_⟩ ⟨_,_⟩=>rfl) (fun⟨_,_⟩=>rfl) fun xs r h=>by
 simp only[Xv] at h;split at h
 .cases h;rename_i l s;exact⟨(l,s),rfl,rfl⟩
 .cases h
theorem Zx {S:SC}(hB:SB S) (Xg:aF S 342 (az Mw)) (h324:S.has 324 f324):aF S 324 (az NV):=by
 refine prM hB [] [⟨342,Mw,VQ⟩] trivial ⟨⟨Xg,Ri⟩,trivial⟩ h324 (fun⟨l,s⟩=>⟨rfl,rfl,rfl⟩) (fun(l,s)=>fun _ _ _ _=>none) 400 ?_;rintro⟨l,s⟩ hc;have hc1:l.length<=1099511627776:=hc.1;have hc2:jF l:=hc.2.1;refine VC.use (p:=l.length<=1099511627776/\jF l/\mg l s=mg l s/\isW l s=isW l s) (by kernel_rfl) ?_;exact⟨hc1,hc2,rfl,rfl⟩
def PN:(List (List UInt8×Int))×List UInt8->List SV:=fun(l,s)=>[.one (.row (.pair .str (.int .i64)) l),.one (.str s)]
def ZU:(List (List UInt8×Int))×List UInt8->SV×List Prop:=fun(l,s)=>(.tup [.o (.int .i64 (kW l s)),.o (.int .i64 (kV l s)),.o (.int .i64 (isE l))],[l.length<=1099511627776,SmW l])
def Yp:Con:=⟨true,[some (.pair .str (.int .i64)),none],fun xs=>match xs with | [.one (.row (.pair .str (.int .i64)) l),.one (.str s)]=>some (ZU (l,s)) | _=>none⟩
noncomputable def MQ:GP:=bX PN ZU
theorem Kq:∀a b,(PN a).map aA=(PN b).map aA->a=b:=by
 rintro⟨a0,a1⟩ ⟨b0,b1⟩ h;simp only[PN,zK,List.map_nil,aA,aV,zG,AV.one.injEq,AV.agg.injEq,Lf.int.injEq,Lf.str.injEq,Lf.bool.injEq,Lf.vrow.injEq,and_true,true_and,and_assoc] at h;obtain⟨h0,h1⟩:=h;have h0:=cZ h0;subst h0 h1
 rfl
theorem Rb:cK MQ Yp:=aS Kq (fun⟨_,_⟩ ⟨_,_⟩=>rfl) (fun⟨_,_⟩=>rfl) fun xs r h=>by
 simp only[Yp] at h;split at h
 .cases h;rename_i l s;exact⟨(l,s),rfl,rfl⟩
 .cases h
theorem ZO {S:SC}(hB:SB S) (Ie:aF S 296 (az DC)) (Xi:aF S 324 (az NV)) (q65:aF S 65 (az G65)) (h325:S.has 325 f325) (h343:S.has 343 f343) (h305:S.has 305 f305):aF S 305 (az MQ):=by
 refine prM hB [(325,f325),(343,f343)] [⟨296,DC,TK⟩,⟨324,NV,Xv⟩,⟨65,G65,K65⟩] ⟨h325,h343,trivial⟩ ⟨⟨Ie,Gd⟩,⟨Xi,Sz⟩,⟨q65,JY⟩,trivial⟩ h305 (fun⟨l,s⟩=>⟨rfl,rfl,rfl⟩) (fun(l,s)=>fun f id T L=>match f,id with
  |343,0=>some (.inv { i:Nat // aO l s<=i/\i<=l.length/\∀j,aO l s<=j->j<i->preB (l.getD j ([],0)).1 s=true } (fun x=>([(4,.one (.int .i64 x.1))],[(1,.cell [.int .i64 x.1])])) (fun x=>l.length-x.1))
  |_,_=>none) 400 ?_
 rintro⟨l,s⟩ hc;have hc1:l.length<=1099511627776:=hc.1;have hc2:SmW l:=hc.2.1;refine VC.use (p:=l.length<=1099511627776/\SmW l/\(isE l=0->l.length<=1099511627776/\jF l/\(∃x1:{ i:Nat // aO l s<=i/\i<=l.length/\∀(j:Nat),aO l s<=j->j<i->preB (l.getD j ([],0)).1 s=true },mg l s=(x1.1:Int)/\s=s/\mg l s=(x1.1:Int)/\l=l/\mg l s=mg l s)/\(∀x1:{ i:Nat // aO l s<=i/\i<=l.length/\∀(j:Nat),aO l s<=j->j<i->preB (l.getD j ([],0)).1 s=true },((x1.1:Int)<(l.length:Int)->(0<=(x1.1:Int)/\(x1.1:Int)<(l.length:Int))/\((!preB (l.getD x1.1 ([],0)).1 s)=true->mg l s=kW l s/\(x1.1:Int)=kV l s/\0=isE l)/\(¬(!preB (l.getD x1.1 ([],0)).1 s)=true->aB ((x1.1:Int)+1)/\aB ((x1.1:Int)+1)/\(∃x2:{ i:Nat // aO l s<=i/\i<=l.length/\∀(j:Nat),aO l s<=j->j<i->preB (l.getD j ([],0)).1 s=true },l.length-x2.1<l.length-x1.1/\(x1.1:Int)+1=(x2.1:Int)/\s=s/\(x1.1:Int)+1=(x2.1:Int)/\l=l/\mg l s=mg l s)))/\(¬(x1.1:Int)<(l.length:Int)->mg l s=kW l s/\(x1.1:Int)=kV l s/\0=isE l)))/\(¬isE l=0->0=kW l s/\0=kV l s/\isE l=isE l)) (by kernel_rfl) ?_;refine⟨hc1,hc2,fun he=>⟨hc1,(ma.1 he).2.1,⟨⟨aO l s,zJ _,xn l s,fun j h1 h2=>by omega⟩,rfl,rfl,rfl,rfl,rfl⟩,?_⟩,fun he=>⟨(Gp he).1,(Gp he).2,rfl⟩⟩;rintro⟨i,h0,hi,ha⟩;dsimp only;refine⟨fun h=>⟨by omega,fun h1=>LJ he (FC h0 hi ha fun _=>by simpa using h1),fun h1=>⟨by unfold aB;omega,by unfold aB;omega,⟨i+1,by omega,by omega,OQ ha (by simpa using h1)⟩,by show l.length-(i+1)<l.length-i;omega,rfl,rfl,rfl,rfl,rfl⟩⟩,fun h=>LJ he (FC h0 hi ha fun h1=>by omega)⟩
end Go.EA
