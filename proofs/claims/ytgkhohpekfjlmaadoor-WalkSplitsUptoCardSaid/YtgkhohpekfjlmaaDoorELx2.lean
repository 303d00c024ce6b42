/- Layer 9: where words stand. Conditions: none. -/
import Derived.Test.YtgkhohpekfjlmaaDoorEK12
import Derived.Test.YtgkhohpekfjlmaaDoorELx1
import Derived.KernelRfl
set_option linter.unusedVariables false
set_option linter.unusedSimpArgs false
set_option maxRecDepth 100000
set_option maxHeartbeats 0
namespace Go.EA
open F
def Qp:(List (List UInt8×Int))×List UInt8×Int->List SV:=fun(l,w0,w1)=>[.one (.row (.pair .str (.int .i64)) l),.agg [.str w0,.int .i64 w1],.one (.fn 321 [])]
def Yo:(List (List UInt8×Int))×List UInt8×Int->SV×List Prop:=fun(l,w0,w1)=>(.tup [.o (.int .i64 (vk l w0)),.o (.bool (isW l w0))],[l.length<=1099511627776,ll l])
def WR:Con:=⟨true,[some (.pair .str (.int .i64)),none,none],fun xs=>match xs with | [.one (.row (.pair .str (.int .i64)) l),.agg [.str w0,.int .i64 w1],.one (.fn 321 [])]=>some (Yo (l,w0,w1)) | _=>none⟩
noncomputable def Ma:GP:=dx Qp Yo
theorem MM:∀a b,(Qp a).map aB=(Qp b).map aB->a=b:=by
 rintro⟨a0,a1,a2⟩ ⟨b0,b1,b2⟩ h;simp only[Qp,zK,List.map_nil,aB,aX,zG,AV.one.injEq,AV.agg.injEq,Lf.int.injEq,Lf.str.injEq,Lf.bool.injEq,Lf.vrow.injEq,and_true,true_and,and_assoc] at h;obtain⟨h0,h1,h2⟩:=h;have h0:=cZ h0;subst h0 h1 h2
 rfl
theorem QP:dG Ma WR:=aY MM (fun⟨_,_,_⟩ ⟨_,_,_⟩=>rfl) (fun⟨_,_,_⟩=>rfl) fun xs r h=>by
 simp only[WR] at h;split at h
 .cases h;rename_i l w0 w1;exact⟨(l,w0,w1),rfl,rfl⟩
 .cases h
theorem Yz {S:SC}(hB:SB S) (We:aN S 321 (az JP)) (h342:S.has 342 f342):aN S 342 (az Ma):=by
 refine prM hB [] [⟨321,JP,Vw⟩] trivial ⟨⟨We,PD⟩,trivial⟩ h342 (fun⟨l,w0,w1⟩=>⟨rfl,rfl,rfl⟩) (fun(l,w0,w1)=>fun f id T L=>match f,id with
  |342,0=>some (.inv { p:Nat×Nat // p.1<=p.2/\p.2<=l.length/\(∀k,k<p.1->aP (l.getD k ([],0)).1 w0=true)/\(∀k,p.2<=k->k<l.length->aP (l.getD k ([],0)).1 w0=false) } (fun x=>([(9,.one (.int .i64 x.1.1)),(10,.one (.int .i64 x.1.2))],[])) (fun x=>x.1.2-x.1.1))
  |_,_=>none) 400 ?_
 rintro⟨l,w0,w1⟩ hc;have hc1:l.length<=1099511627776:=hc.1;have hc2:ll l:=hc.2.1;refine VC.use (p:=(∃x1:{ p:Nat×Nat // p.1<=p.2/\p.2<=l.length/\(∀(k:Nat),k<p.1->aP (l.getD k ([],0)).1 w0=true)/\∀(k:Nat),p.2<=k->k<l.length->aP (l.getD k ([],0)).1 w0=false },l=l/\(l.length:Int)=(l.length:Int)/\0=(x1.1.1:Int)/\(l.length:Int)=(x1.1.2:Int)/\w0=w0/\w1=w1)/\(∀x1:{ p:Nat×Nat // p.1<=p.2/\p.2<=l.length/\(∀(k:Nat),k<p.1->aP (l.getD k ([],0)).1 w0=true)/\∀(k:Nat),p.2<=k->k<l.length->aP (l.getD k ([],0)).1 w0=false },((x1.1.1:Int)<(x1.1.2:Int)->aG ((x1.1.1:Int)+(x1.1.2:Int))/\aG ((IntKind.u64.wrap ((x1.1.1:Int)+(x1.1.2:Int))).fdiv 2)/\(0<=(IntKind.u64.wrap ((x1.1.1:Int)+(x1.1.2:Int))).fdiv 2/\(IntKind.u64.wrap ((x1.1.1:Int)+(x1.1.2:Int))).fdiv 2<(l.length:Int))/\(kr (l.getD ((IntKind.u64.wrap ((x1.1.1:Int)+(x1.1.2:Int))).fdiv 2).toNat ([],0)).1 w0<0->aG ((IntKind.u64.wrap ((x1.1.1:Int)+(x1.1.2:Int))).fdiv 2+1)/\(∃x2:{ p:Nat×Nat // p.1<=p.2/\p.2<=l.length/\(∀(k:Nat),k<p.1->aP (l.getD k ([],0)).1 w0=true)/\∀(k:Nat),p.2<=k->k<l.length->aP (l.getD k ([],0)).1 w0=false },x2.1.2-x2.1.1<x1.1.2-x1.1.1/\l=l/\(l.length:Int)=(l.length:Int)/\(IntKind.u64.wrap ((x1.1.1:Int)+(x1.1.2:Int))).fdiv 2+1=(x2.1.1:Int)/\(x1.1.2:Int)=(x2.1.2:Int)/\w0=w0/\w1=w1))/\(¬kr (l.getD ((IntKind.u64.wrap ((x1.1.1:Int)+(x1.1.2:Int))).fdiv 2).toNat ([],0)).1 w0<0->∃x2:{ p:Nat×Nat // p.1<=p.2/\p.2<=l.length/\(∀(k:Nat),k<p.1->aP (l.getD k ([],0)).1 w0=true)/\∀(k:Nat),p.2<=k->k<l.length->aP (l.getD k ([],0)).1 w0=false },x2.1.2-x2.1.1<x1.1.2-x1.1.1/\l=l/\(l.length:Int)=(l.length:Int)/\(x1.1.1:Int)=(x2.1.1:Int)/\(IntKind.u64.wrap ((x1.1.1:Int)+(x1.1.2:Int))).fdiv 2=(x2.1.2:Int)/\w0=w0/\w1=w1))/\(¬(x1.1.1:Int)<(x1.1.2:Int)->((x1.1.1:Int)<(l.length:Int)->(0<=(x1.1.1:Int)/\(x1.1.1:Int)<(l.length:Int))/\(x1.1.1:Int)=vk l w0/\decide (kr (l.getD x1.1.1 ([],0)).1 w0=0)=isW l w0)/\(¬(x1.1.1:Int)<(l.length:Int)->(x1.1.1:Int)=vk l w0/\false=isW l w0)))) (by kernel_rfl) ?_;refine⟨⟨⟨(0,l.length),Nat.zero_le _,zJ _,fun k h=>absurd h (zS _),fun k h1 h2=>absurd h1 (by dsimp only;omega)⟩,rfl,rfl,rfl,rfl,rfl,rfl⟩,?_⟩;rintro⟨⟨i,j⟩,hi,hj,hlo,hhi⟩;dsimp only at hi hj hlo hhi ⊢;rw[CR i j (by omega)];simp only[Int.toNat_natCast];refine⟨fun h=>⟨by unfold aG;omega,by unfold aG;omega,by omega,fun h1=>⟨by unfold aG;omega,⟨((i+j) / 2+1,j),by dsimp only;omega,hj,fun k hk=>?_,hhi⟩,by dsimp only;omega,by trivial,by trivial,by dsimp only;omega,by trivial,by trivial,by trivial⟩,fun h1=>⟨⟨(i,(i+j) / 2),by dsimp only;omega,by dsimp only;omega,hlo,fun k hk hl=>?_⟩,by dsimp only;omega,by trivial,by trivial,by trivial,by trivial,by trivial,by trivial⟩⟩,fun h=>?_⟩
 .have h2:=(Mq _ _).1 h1;rcases Nat.lt_or_eq_of_le (Nat.le_of_lt_succ hk) with h3 | h3
  .exact gL (hc2.at h3 (by omega)) h2
  .rw[h3];exact h2
 .have h2:aP (l.getD ((i+j) / 2) ([],0)).1 w0=false:=by
   cases hx:aP (l.getD ((i+j) / 2) ([],0)).1 w0 with
   |false=>rfl
   |true=>exact absurd ((Mq _ _).2 hx) h1
  dsimp only at hk;rcases Nat.lt_or_eq_of_le hk with h3 | h3
  .cases hx:aP (l.getD k ([],0)).1 w0 with
   |false=>rfl
   |true=>rw[gL (hc2.at h3 hl) hx] at h2;cases h2
  .rw[<- h3];exact h2
 .have e:i=j:=by omega
  subst e;have hp:mZ l w0=i:=Tq hj hlo fun h1=>hhi i (zJ _) h1
  unfold vk isW;rw[hp];refine⟨fun h1=>⟨by omega,rfl,?_⟩,fun h1=>⟨rfl,?_⟩⟩
  .refine decide_eq_decide.2 ⟨fun h2=>⟨by omega,Pd h2⟩,fun h2=>?_⟩;unfold kr;rw[h2.2,pK];simp
  .rw[decide_eq_false];rintro⟨h2,_⟩;omega
def PN:(List (List UInt8×Int))×List UInt8->List SV:=fun(l,s)=>[.one (.row (.pair .str (.int .i64)) l),.one (.str s)]
def ZO:(List (List UInt8×Int))×List UInt8->SV×List Prop:=fun(l,s)=>(.tup [.o (.int .i64 (vk l s)),.o (.bool (isW l s))],[l.length<=1099511627776,ll l])
def WC:Con:=⟨true,[some (.pair .str (.int .i64)),none],fun xs=>match xs with | [.one (.row (.pair .str (.int .i64)) l),.one (.str s)]=>some (ZO (l,s)) | _=>none⟩
noncomputable def Od:GP:=dx PN ZO
theorem Nv:∀a b,(PN a).map aB=(PN b).map aB->a=b:=by
 rintro⟨a0,a1⟩ ⟨b0,b1⟩ h;simp only[PN,zK,List.map_nil,aB,aX,zG,AV.one.injEq,AV.agg.injEq,Lf.int.injEq,Lf.str.injEq,Lf.bool.injEq,Lf.vrow.injEq,and_true,true_and,and_assoc] at h;obtain⟨h0,h1⟩:=h;have h0:=cZ h0;subst h0 h1
 rfl
theorem SE:dG Od WC:=aY Nv (fun⟨_,_⟩ ⟨_,_⟩=>rfl) (fun⟨_,_⟩=>rfl) fun xs r h=>by
 simp only[WC] at h;split at h
 .cases h;rename_i l s;exact⟨(l,s),rfl,rfl⟩
 .cases h
theorem Yv {S:SC}(hB:SB S) (VZ:aN S 342 (az Ma)) (h324:S.has 324 f324):aN S 324 (az Od):=by
 refine prM hB [] [⟨342,Ma,WR⟩] trivial ⟨⟨VZ,QP⟩,trivial⟩ h324 (fun⟨l,s⟩=>⟨rfl,rfl,rfl⟩) (fun(l,s)=>fun _ _ _ _=>none) 400 ?_;rintro⟨l,s⟩ hc;have hc1:l.length<=1099511627776:=hc.1;have hc2:ll l:=hc.2.1;refine VC.use (p:=l.length<=1099511627776/\ll l/\vk l s=vk l s/\isW l s=isW l s) (by kernel_rfl) ?_;exact⟨hc1,hc2,rfl,rfl⟩
def Qa:(List (List UInt8×Int))×List UInt8->List SV:=fun(l,s)=>[.one (.row (.pair .str (.int .i64)) l),.one (.str s)]
def Zb:(List (List UInt8×Int))×List UInt8->SV×List Prop:=fun(l,s)=>(.tup [.o (.int .i64 (vB l s)),.o (.int .i64 (mf l s))],[l.length<=1099511627776,SmW l])
def XD:Con:=⟨true,[some (.pair .str (.int .i64)),none],fun xs=>match xs with | [.one (.row (.pair .str (.int .i64)) l),.one (.str s)]=>some (Zb (l,s)) | _=>none⟩
noncomputable def LG:GP:=dx Qa Zb
theorem OH:∀a b,(Qa a).map aB=(Qa b).map aB->a=b:=by
 rintro⟨a0,a1⟩ ⟨b0,b1⟩ h;simp only[Qa,zK,List.map_nil,aB,aX,zG,AV.one.injEq,AV.agg.injEq,Lf.int.injEq,Lf.str.injEq,Lf.bool.injEq,Lf.vrow.injEq,and_true,true_and,and_assoc] at h;obtain⟨h0,h1⟩:=h;have h0:=cZ h0;subst h0 h1
 rfl
theorem PW:dG LG XD:=aY OH (fun⟨_,_⟩ ⟨_,_⟩=>rfl) (fun⟨_,_⟩=>rfl) fun xs r h=>by
 simp only[XD] at h;split at h
 .cases h;rename_i l s;exact⟨(l,s),rfl,rfl⟩
 .cases h
theorem Yb {S:SC}(hB:SB S) (IP:aN S 296 (az DW)) (VE:aN S 324 (az Od)) (h303:S.has 303 f303):aN S 303 (az LG):=by
 refine prM hB [] [⟨296,DW,QH⟩,⟨324,Od,WC⟩] trivial ⟨⟨IP,Gy⟩,⟨VE,SE⟩,trivial⟩ h303 (fun⟨l,s⟩=>⟨rfl,rfl,rfl⟩) (fun(l,s)=>fun _ _ _ _=>none) 400 ?_;rintro⟨l,s⟩ hc;have hc1:l.length<=1099511627776:=hc.1;have hc2:SmW l:=hc.2.1;refine VC.use (p:=l.length<=1099511627776/\SmW l/\(isE l=0->l.length<=1099511627776/\ll l/\((!isW l s)=true->0=vB l s/\10=mf l s)/\(¬(!isW l s)=true->(0<=vk l s/\vk l s<(l.length:Int))/\(l.getD (vk l s).toNat ([],0)).2=vB l s/\0=mf l s))/\(¬isE l=0->0=vB l s/\isE l=mf l s)) (by kernel_rfl) ?_;refine⟨hc1,hc2,fun he=>⟨hc1,(mh.1 he).2.1,fun h=>QM he h,fun h=>?_⟩,fun he=>QF he⟩;obtain⟨h1,h2⟩:=TP (l:=l) (s:=s) (by simpa using h);exact⟨by unfold vk;omega,VN he h2⟩
end Go.EA
