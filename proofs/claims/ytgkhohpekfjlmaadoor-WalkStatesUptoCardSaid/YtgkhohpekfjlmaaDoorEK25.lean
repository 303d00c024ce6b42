/- Texts. Conditions: none. -/
import Derived.Test.YtgkhohpekfjlmaaDoorEK20
import Derived.Test.YtgkhohpekfjlmaaDoorELx1
import Derived.Test.YtgkhohpekfjlmaaDoorEAf9
import Derived.KernelRfl
import Derived.Test.YtgkhohpekfjlmaaDoorEK21
import Derived.Test.YtgkhohpekfjlmaaDoorERx
set_option linter.unusedVariables false
set_option linter.unusedSimpArgs false
section
set_option maxRecDepth 100000
set_option maxHeartbeats 0
namespace Go.EA
open F
def Qr:List (List (Int))×List (List (Int))->List SV:=fun(a,b)=>[.one (.row (.row (.int .i32)) a),.one (.row (.row (.int .i32)) b)]
def aap:List (List (Int))×List (List (Int))->SV×List Prop:=fun(a,b)=>(.one (.bool (decide (a=b))),[SmR a,SmR b])
def VT:Con:=⟨true,[some (.row (.int .i32)),some (.row (.int .i32))],fun xs=>match xs with | [.one (.row (.row (.int .i32)) a),.one (.row (.row (.int .i32)) b)]=>some (aap (a,b)) | _=>none⟩
noncomputable def Ij:GP:=bS Qr aap
theorem OM:∀a b,(Qr a).map aB=(Qr b).map aB->a=b:=by
 rintro⟨a0,a1⟩ ⟨b0,b1⟩ h;simp only[Qr,zK,List.map_nil,aB,aS,zG,AV.one.injEq,AV.agg.injEq,Lf.int.injEq,Lf.str.injEq,Lf.bool.injEq,Lf.vrow.injEq,and_true,true_and,and_assoc] at h;obtain⟨h0,h1⟩:=h;have h0:=bD h0;have h1:=bD h1;subst h0 h1
 rfl
theorem QD:bW Ij VT:=aN OM (fun⟨_,_⟩ ⟨_,_⟩=>rfl) (fun⟨_,_⟩=>rfl) fun xs r h=>by
 simp only[VT] at h;split at h
 .cases h;rename_i a b;exact⟨(a,b),rfl,rfl⟩
 .cases h
theorem ZW {S:SC}(hB:SB S) (q18:aG S 18 (az G18)) (h331:S.has 331 f331):aG S 331 (az Ij):=by
 refine prM hB [] [⟨18,G18,K18⟩] trivial ⟨⟨q18,Yc⟩,trivial⟩ h331 (fun⟨a,b⟩=>⟨rfl,rfl,rfl⟩) (fun(a,b)=>fun f id T L=>match f,id with
  |331,0=>some (.inv { i:Nat // i<=a.length/\a.take i=b.take i } (fun x=>([(13,.one (.int .i64 x.1))],[])) (fun x=>a.length-x.1))
  |_,_=>none) 400 ?_
 rintro⟨a,b⟩ hc;have hc1:SmR a:=hc.1;have hc2:SmR b:=hc.2.1;refine VC.use (p:=((a.length:Int)=(b.length:Int)->(∃x1:{ i:Nat // i<=a.length/\List.take i a=List.take i b },a=a/\b=b/\(a.length:Int)=(a.length:Int)/\0=(x1.1:Int))/\(∀x1:{ i:Nat // i<=a.length/\List.take i a=List.take i b },((x1.1:Int)<(a.length:Int)->(0<=(x1.1:Int)/\(x1.1:Int)<(a.length:Int))/\(0<=(x1.1:Int)/\(x1.1:Int)<(b.length:Int))/\List.length (a.getD x1.1 [])<=1099511627776/\((!decide (a.getD x1.1 []=b.getD x1.1 []))=true->false=decide (a=b))/\(¬(!decide (a.getD x1.1 []=b.getD x1.1 []))=true->aC ((x1.1:Int)+1)/\(∃x2:{ i:Nat // i<=a.length/\List.take i a=List.take i b },a.length-x2.1<a.length-x1.1/\a=a/\b=b/\(a.length:Int)=(a.length:Int)/\(x1.1:Int)+1=(x2.1:Int))))/\(¬(x1.1:Int)<(a.length:Int)->true=decide (a=b))))/\(¬(a.length:Int)=(b.length:Int)->false=decide (a=b))) (by kernel_rfl) ?_;refine⟨fun hl=>⟨⟨⟨0,Nat.zero_le _,rfl⟩,rfl,rfl,rfl,rfl⟩,?_⟩,fun hl=>(decide_eq_false fun e=>hl (by rw[e])).symm⟩;rintro⟨i,hi,ha⟩;dsimp only;have hs:=hc1.1;refine⟨fun h=>⟨by omega,by omega,hc1.at i,fun h1=>(decide_eq_false fun e=>by subst e;simp at h1).symm,fun h1=>⟨by unfold aC;omega,⟨i+1,by omega,?_⟩,by dsimp only;omega,rfl,rfl,rfl,by push_cast;rfl⟩⟩,fun h=>(decide_eq_true ?_).symm⟩
 .rw[aU [] (show i<a.length by omega),aU [] (show i<b.length by omega),ha];simp at h1;rw[zA,zA,h1]
 .rw[<- List.take_of_length_le (l:=a) (i:=i) (by omega),ha,List.take_of_length_le (by omega)]
def SH:List (List (Int))->List SV:=fun l=>[.one (.row (.row (.int .i32)) l)]
def ZJ:List (List (Int))->SV×List Prop:=fun l=>(.one (.row (.int .i32) (ak l)),[SmR l])
def YD:Con:=⟨false,[some (.row (.int .i32))],fun xs=>match xs with | [.one (.row (.row (.int .i32)) l)]=>some (ZJ l) | _=>none⟩
noncomputable def Jy:GP:=bS SH ZJ
theorem Kg:∀a b,(SH a).map aB=(SH b).map aB->a=b:=by
 rintro a0 b0 h;simp only[SH,zK,List.map_nil,aB,aS,zG,AV.one.injEq,AV.agg.injEq,Lf.int.injEq,Lf.str.injEq,Lf.bool.injEq,Lf.vrow.injEq,and_true,true_and] at h;exact bD h
theorem TJ:bW Jy YD:=aN Kg (fun _ _=>rfl) (fun _=>rfl) fun xs r h=>by
 simp only[YD] at h;split at h
 .cases h;rename_i l;exact⟨l,rfl,rfl⟩
 .cases h
theorem aal {S:SC}(hB:SB S)  (h332:S.has 332 f332):aG S 332 (az Jy):=by
 refine prM hB [] [] trivial trivial h332 (fun _=>⟨rfl,rfl,rfl⟩) (fun l=>fun f id T L=>match f,id with
  |332,0=>some (.inv { i:Nat // i<=l.length } (fun x=>([(8,.one (.int .i64 x.1)),(3,.one (.osl 0))],[(0,.row (.int .i32) (ak (l.take x.1)))])) (fun x=>l.length-x.1))
  |_,_=>none) 400 ?_
 rintro l hc;have hc1:SmR l:=hc.1;refine VC.use (p:=(∃x1:{ i:Nat // i<=l.length },ak (List.take x1.1 l)=[]/\l=l/\(l.length:Int)=(l.length:Int)/\0=(x1.1:Int)/\ak (List.take x1.1 l)=[])/\(∀x1:{ i:Nat // i<=l.length },((x1.1:Int)<(l.length:Int)->(0<=(x1.1:Int)/\(x1.1:Int)<(l.length:Int))/\(0<(↑(List.length (l.getD x1.1 [])):Int)->((↑(ak (List.take x1.1 l)).length:Int)=0->((0:Int)<=(0:Int)/\(0:Int)<(↑(List.length (l.getD x1.1 [])):Int))/\((ak (List.take x1.1 l)).length+[List.getD (l.getD x1.1 []) 0 0].length)*4<=140737488355328/\aC ((x1.1:Int)+1)/\(∃x2:{ i:Nat // i<=l.length },l.length-x2.1<l.length-x1.1/\l=l/\(l.length:Int)=(l.length:Int)/\(x1.1:Int)+1=(x2.1:Int)/\ak (List.take x1.1 l)++[List.getD (l.getD x1.1 []) 0 0]=ak (List.take x2.1 l)))/\(¬(↑(ak (List.take x1.1 l)).length:Int)=0->aC ((↑(ak (List.take x1.1 l)).length:Int)-1)/\(0<=(↑(ak (List.take x1.1 l)).length:Int)-1/\(↑(ak (List.take x1.1 l)).length:Int)-1<(↑(ak (List.take x1.1 l)).length:Int))/\((↑(ak (List.take x1.1 l)).length:Int)-1).toNat<(ak (List.take x1.1 l)).length/\((0:Int)<=(0:Int)/\(0:Int)<(↑(List.length (l.getD x1.1 [])):Int))/\((ak (List.take x1.1 l)).getD ((↑(ak (List.take x1.1 l)).length:Int)-1).toNat 0=List.getD (l.getD x1.1 []) 0 0->aC ((x1.1:Int)+1)/\(∃x2:{ i:Nat // i<=l.length },l.length-x2.1<l.length-x1.1/\l=l/\(l.length:Int)=(l.length:Int)/\(x1.1:Int)+1=(x2.1:Int)/\ak (List.take x1.1 l)=ak (List.take x2.1 l)))/\(¬(ak (List.take x1.1 l)).getD ((↑(ak (List.take x1.1 l)).length:Int)-1).toNat 0=List.getD (l.getD x1.1 []) 0 0->((0:Int)<=(0:Int)/\(0:Int)<(↑(List.length (l.getD x1.1 [])):Int))/\((ak (List.take x1.1 l)).length+[List.getD (l.getD x1.1 []) 0 0].length)*4<=140737488355328/\aC ((x1.1:Int)+1)/\(∃x2:{ i:Nat // i<=l.length },l.length-x2.1<l.length-x1.1/\l=l/\(l.length:Int)=(l.length:Int)/\(x1.1:Int)+1=(x2.1:Int)/\ak (List.take x1.1 l)++[List.getD (l.getD x1.1 []) 0 0]=ak (List.take x2.1 l)))))/\(¬0<(↑(List.length (l.getD x1.1 [])):Int)->aC ((x1.1:Int)+1)/\(∃x2:{ i:Nat // i<=l.length },l.length-x2.1<l.length-x1.1/\l=l/\(l.length:Int)=(l.length:Int)/\(x1.1:Int)+1=(x2.1:Int)/\ak (List.take x1.1 l)=ak (List.take x2.1 l))))/\(¬(x1.1:Int)<(l.length:Int)->ak (List.take x1.1 l)=ak l))) (by kernel_rfl) ?_;have hs:=hc1.1;refine⟨⟨⟨0,Nat.zero_le _⟩,rfl,rfl,rfl,rfl,rfl⟩,?_⟩;rintro⟨i,hi⟩;dsimp only;have ho:=fM (l.take i);rw[zP] at ho;refine⟨fun h=>?_,fun h=>by rw[List.take_of_length_le (by omega)]⟩;have hst:=EZ (l:=l) (i:=i) (by omega);generalize ak (l.take i)=o at ho hst ⊢;have hi64:aC ((i:Int)+1):=by unfold aC;omega
 have fin:∀o',df o (l.getD i [])=o'->∃x2:{ i:Nat // i<=l.length },(l.length-x2.1<l.length-i)/\l=l/\(l.length:Int)=(l.length:Int)/\(i:Int)+1=(x2.1:Int)/\o'=ak (l.take x2.1):=fun o' e=>⟨⟨i+1,by omega⟩,by dsimp only;omega,rfl,rfl,by push_cast;rfl,by rw[hst,e]⟩
 generalize l.getD i []=x at fin ⊢;refine⟨by omega,fun hx=>⟨fun h0=>⟨by omega,by rw[zN];omega,hi64,fin _ (MX hx (.inl (zT (by omega))))⟩,fun h0=>?_⟩,fun hx=>⟨hi64,fin _ (VM hx)⟩⟩;have e:((o.length:Int)-1).toNat=o.length-1:=by omega
 have hne:o≠[]:=by rintro rfl;simp at h0
 rw[e];exact⟨by unfold aC;omega,by omega,by omega,by omega,fun h1=>⟨hi64,fin _ (Tf hx hne h1)⟩,fun h1=>⟨by omega,by rw[zN];omega,hi64,fin _ (MX hx (.inr h1))⟩⟩
def SE:List (List (Int))×Int->List SV:=fun(l,r)=>[.one (.row (.row (.int .i32)) l),.one (.int .i32 r)]
def aa3:List (List (Int))×Int->SV×List Prop:=fun(l,r)=>(.one (.row (.row (.int .i32)) (aO l r)),[SmR l])
def VN:Con:=⟨false,[some (.row (.int .i32)),none],fun xs=>match xs with | [.one (.row (.row (.int .i32)) l),.one (.int .i32 r)]=>some (aa3 (l,r)) | _=>none⟩
noncomputable def JQ:GP:=bS SE aa3
theorem OZ:∀a b,(SE a).map aB=(SE b).map aB->a=b:=by
 rintro⟨a0,a1⟩ ⟨b0,b1⟩ h;simp only[SE,zK,List.map_nil,aB,aS,zG,AV.one.injEq,AV.agg.injEq,Lf.int.injEq,Lf.str.injEq,Lf.bool.injEq,Lf.vrow.injEq,and_true,true_and,and_assoc] at h;obtain⟨h0,h1⟩:=h;have h0:=bD h0;subst h0 h1
 rfl
theorem QN:bW JQ VN:=aN OZ (fun⟨_,_⟩ ⟨_,_⟩=>rfl) (fun⟨_,_⟩=>rfl) fun xs r h=>by
 simp only[VN] at h;split at h
 .cases h;rename_i l r;exact⟨(l,r),rfl,rfl⟩
 .cases h
theorem aaA {S:SC}(hB:SB S)  (h333:S.has 333 f333):aG S 333 (az JQ):=by
 refine prM hB [] [] trivial trivial h333 (fun⟨l,r⟩=>⟨rfl,rfl,rfl⟩) (fun(l,r)=>fun f id T L=>match f,id with
  |333,0=>some (.inv { i:Nat // i<=l.length } (fun x=>([(10,.one (.int .i64 x.1)),(5,.one (.osl 0))],[(0,.row (.row (.int .i32)) (aO (l.take x.1) r))])) (fun x=>l.length-x.1))
  |_,_=>none) 400 ?_
 rintro⟨l,r⟩ hc;have hc1:SmR l:=hc.1;refine VC.use (p:=(∃x1:{ i:Nat // i<=l.length },r=r/\aO (List.take x1.1 l) r=[]/\l=l/\(l.length:Int)=(l.length:Int)/\0=(x1.1:Int)/\aO (List.take x1.1 l) r=[])/\(∀x1:{ i:Nat // i<=l.length },((x1.1:Int)<(l.length:Int)->(0<=(x1.1:Int)/\(x1.1:Int)<(l.length:Int))/\(0<(↑(List.length (l.getD x1.1 [])):Int)->((0:Int)<=(0:Int)/\(0:Int)<(↑(List.length (l.getD x1.1 [])):Int))/\(List.getD (l.getD x1.1 []) 0 0=r->((0:Int)<=(1:Int)/\(1:Int)<=(↑(List.length (l.getD x1.1 [])):Int))/\(List.length (aO (List.take x1.1 l) r)+[aH (l.getD x1.1 []) (some 1) none].length)*24<=140737488355328/\aC ((x1.1:Int)+1)/\(∃x2:{ i:Nat // i<=l.length },l.length-x2.1<l.length-x1.1/\r=r/\l=l/\(l.length:Int)=(l.length:Int)/\(x1.1:Int)+1=(x2.1:Int)/\aO (List.take x1.1 l) r++[aH (l.getD x1.1 []) (some 1) none]=aO (List.take x2.1 l) r))/\(¬List.getD (l.getD x1.1 []) 0 0=r->aC ((x1.1:Int)+1)/\(∃x2:{ i:Nat // i<=l.length },l.length-x2.1<l.length-x1.1/\r=r/\l=l/\(l.length:Int)=(l.length:Int)/\(x1.1:Int)+1=(x2.1:Int)/\aO (List.take x1.1 l) r=aO (List.take x2.1 l) r)))/\(¬0<(↑(List.length (l.getD x1.1 [])):Int)->aC ((x1.1:Int)+1)/\(∃x2:{ i:Nat // i<=l.length },l.length-x2.1<l.length-x1.1/\r=r/\l=l/\(l.length:Int)=(l.length:Int)/\(x1.1:Int)+1=(x2.1:Int)/\aO (List.take x1.1 l) r=aO (List.take x2.1 l) r)))/\(¬(x1.1:Int)<(l.length:Int)->aO (List.take x1.1 l) r=aO l r))) (by kernel_rfl) ?_;have hs:=hc1.1;refine⟨⟨⟨0,Nat.zero_le _⟩,rfl,rfl,rfl,rfl,rfl,rfl⟩,?_⟩;rintro⟨i,hi⟩;dsimp only;have ho:=su (l.take i) r;rw[zP] at ho;refine⟨fun h=>?_,fun h=>by rw[List.take_of_length_le (by omega)]⟩;have hst:=OV (l:=l) (i:=i) (by omega) r;generalize aO (l.take i) r=o at ho hst ⊢;have hi64:aC ((i:Int)+1):=by unfold aC;omega
 have fin:∀o',o++(if dh r (l.getD i []) then [(l.getD i []).drop 1] else [])=o'->∃x2:{ i:Nat // i<=l.length },(l.length-x2.1<l.length-i)/\r=r/\l=l/\(l.length:Int)=(l.length:Int)/\(i:Int)+1=(x2.1:Int)/\o'=aO (l.take x2.1) r:=fun o' e=>⟨⟨i+1,by omega⟩,by dsimp only;omega,rfl,rfl,rfl,by push_cast;rfl,by rw[hst,e]⟩
 generalize l.getD i []=x at fin ⊢;refine⟨by omega,fun hx=>⟨by omega,fun h0=>⟨by omega,by rw[zN];omega,hi64,fin _ (by rw[Tt hx h0];rfl)⟩,fun h0=>⟨hi64,fin _ (by rw[Xn h0];simp)⟩⟩,fun hx=>⟨hi64,fin _ (by rw[Sn hx];simp)⟩⟩
end Go.EA
end
section
set_option maxRecDepth 100000
set_option maxHeartbeats 0
namespace Go.EA
open F
abbrev EdT:Ty:=(.pair (.int .i32) (.int .i64))
abbrev RsT:Ty:=(.pair (.row (.row (.int .i32))) (.pair .bool (.row (.pair (.int .i32) (.int .i64)))))
theorem kv {b:Nat->Nat}{k:Nat}{p q:List SL}(h:ah (Dv b k) p q):qF b k (.cell p) (.cell q):=.inr ⟨p,q,rfl,rfl,h⟩
def Rx (k:Nat):kQ:=⟨(List RSt)×Rst,1,fun(all,rests) b=>[.one (.osl (b 0)),.one (.row (.row (.int .i32)) rests)],fun(all,rests) b=>[.row (.pair (.row (.row (.int .i32))) (.pair .bool (.row (.pair (.int .i32) (.int .i64))))) all],fun(all,rests)=>[tot rests<k,dE rests,SmR rests,SmA all,all.length+tot rests+1<=1099511627776],fun _=>Unit,fun _ _=>[],fun(all,rests) _ b=>.tup [.o (.osl (b 0)),.o (.int .i64 (eD all rests).2)],fun(all,rests) _ b=>[.row (.pair (.row (.row (.int .i32))) (.pair .bool (.row (.pair (.int .i32) (.int .i64))))) (eD all rests).1],[0]⟩
def Ll (k:Nat):gP:=⟨fun xs L=>match xs.map nS with | [.one (.osl o),.one (.row (.row (.int .i32)) rests)]=>(match ae L o with | .row (.pair (.row (.row (.int .i32))) (.pair .bool (.row (.pair (.int .i32) (.int .i64))))) all=>some ((Rx k).res (all,rests) (fun _=>o) L) | _=>none) | _=>none⟩
theorem wP (k:Nat):(Rx k).Fits (Ll k):=by
 intro xs L r h;simp only[Ll] at h;split at h
 .rename_i o rests he;split at h
  .rename_i all hl;cases h;refine⟨(all,rests),fun _=>o,he,fun j hj=>?_,fun i j hi hj _=>?_,rfl⟩
   .have hj:j<1:=hj;obtain rfl:j=0:=by omega
    exact hl
   .have hi:i<1:=hi;have hj:j<1:=hj;omega
  .cases h
 .cases h
theorem Si (k:Nat):(Rx k).Ok f313.np:=⟨fun⟨_,_⟩ b=>ah.cons (.inl ⟨_,_,rfl,rfl,.inr (.inl ⟨0,Nat.zero_lt_one,rfl,rfl⟩)⟩) (ah.cons (.inr (.inl ⟨rfl,rfl⟩)) ah.nil),
 fun ⟨_, _⟩ b => ⟨rfl, fun j hj => by have hj : j < 1 := hj; obtain rfl : j = 0 := by omega
                                      exact .inl ⟨rfl,rfl⟩⟩,
 fun ⟨_, _⟩ _ b => ⟨rfl, fun j hj => by have hj : j < 1 := hj; obtain rfl : j = 0 := by omega
                                        exact .inl ⟨rfl,rfl⟩⟩,
 fun _ _ j hj hm => absurd (by have hj : j < 1 := hj; obtain rfl : j = 0 := by omega
                               exact List.mem_singleton.2 rfl) hm,
 fun _ j hj hm => absurd (by have hj : j < 1 := hj; obtain rfl : j = 0 := by omega
                             exact List.mem_singleton.2 rfl) hm,
 fun⟨_,_⟩=>rfl,
 fun⟨_,_⟩ _ b=>.inr (.inr ⟨_,_,rfl,rfl,ah.cons (.inl ⟨_,_,rfl,rfl,.inr (.inl ⟨0,Nat.zero_lt_one,rfl,rfl⟩)⟩) (ah.cons (.inl ⟨_,_,rfl,rfl,.inl ⟨rfl,rfl⟩⟩) ah.nil)⟩)⟩
theorem Px {S:SC}(hB:SB S)  (JB:aG S 331 (az Ij)) (Jd:aG S 332 (az Jy)) (IU:aG S 333 (az JQ)) (h313:S.has 313 f313):∀k,dN S 313 (Ll k)
 | 0=>fun c L H xs ys r hr hp=>by
   obtain⟨_,_,_,_,_,rfl⟩:=wP 0 xs L r hr;exact absurd hp.1 (zS _)
 | k+1=>by
   have Nq:=Px hB JB Jd IU h313 k;refine muG hB [] [⟨331,Ij,VT⟩,⟨332,Jy,YD⟩,⟨333,JQ,VN⟩] [(313,Ll k)] trivial ⟨⟨JB,QD⟩,⟨Jd,TJ⟩,⟨IU,QN⟩,trivial⟩ ⟨Nq,trivial⟩ h313 (wP (k+1)) (Si (k+1)) (fun(all,rests)=>fun f id T L=>match f,id with
    |313,0=>some (.inv { i:Nat // i<=all.length/\∀j,j<i->(all.getD j ([],false,[])).1≠rests } (fun x=>([(17,.one (.int .i64 x.1))],[])) (fun x=>all.length-x.1))
    |313,2=>some (.inv { i:Nat // i<=rests.length } (fun x=>([(38,.one (.int .i64 x.1))],[(0,.row (.pair (.row (.row (.int .i32))) (.pair .bool (.row (.pair (.int .i32) (.int .i64))))) (all++[(rests,aD (rests.take x.1),[])]))])) (fun x=>rests.length-x.1))
    |313,4=>some (.inv { i:Nat // i<=(ak rests).length } (fun x=>([(53,.one (.int .i64 x.1)),(0,.one (.osl 0)),(11,.one (.osl 2))],[(0,.row (.pair (.row (.row (.int .i32))) (.pair .bool (.row (.pair (.int .i32) (.int .i64))))) (bq all rests x.1).1),(2,.row (.pair (.int .i32) (.int .i64)) (bq all rests x.1).2)])) (fun x=>(ak rests).length-x.1))
    |_,_=>none) 2000 ?_
   rintro⟨all,rests⟩ hc;have hc0:tot rests<k+1:=hc.1;have hc1:dE rests:=hc.2.1;have hc2:SmR rests:=hc.2.2.1;have hc3:SmA all:=hc.2.2.2.1;have hc4:all.length+tot rests+1<=1099511627776:=hc.2.2.2.2.1;refine VC.use (p:=(∃x1:{ i:Nat // i<=all.length/\∀(j:Nat),j<i->(all.getD j ([],false,[])).1≠rests },rests=rests/\(all.length:Int)=(all.length:Int)/\0=(x1.1:Int)/\all=all)/\(∀x1:{ i:Nat // i<=all.length/\∀(j:Nat),j<i->(all.getD j ([],false,[])).1≠rests },((x1.1:Int)<(all.length:Int)->(0<=(x1.1:Int)/\(x1.1:Int)<(all.length:Int))/\x1.1<all.length/\SmR (all.getD x1.1 ([],false,[])).1/\SmR rests/\(decide ((all.getD x1.1 ([],false,[])).1=rests)=true->∃x2:Unit,(x1.1:Int)=(↑(eD all rests).2:Int)/\all=(eD all rests).1)/\(¬decide ((all.getD x1.1 ([],false,[])).1=rests)=true->aC ((x1.1:Int)+1)/\(∃x2:{ i:Nat // i<=all.length/\∀(j:Nat),j<i->(all.getD j ([],false,[])).1≠rests },all.length-x2.1<all.length-x1.1/\rests=rests/\(all.length:Int)=(all.length:Int)/\(x1.1:Int)+1=(x2.1:Int)/\all=all)))/\(¬(x1.1:Int)<(all.length:Int)->(all.length+([(rests,false,[])]:List RSt).length)*56<=140737488355328/\(∃x2:{ i:Nat // i<=List.length rests },rests=rests/\(all.length:Int)=(all.length:Int)/\rests=rests/\(↑(List.length rests):Int)=(↑(List.length rests):Int)/\0=(x2.1:Int)/\all++([(rests,false,[])]:List RSt)=all++[(rests,aD (List.take x2.1 rests),[])]/\([(rests,false,[])]:List RSt)=([(rests,false,[])]:List RSt))/\(∀x2:{ i:Nat // i<=List.length rests },((x2.1:Int)<(↑(List.length rests):Int)->(0<=(x2.1:Int)/\(x2.1:Int)<(↑(List.length rests):Int))/\((↑(List.length (List.getD rests x2.1 [])):Int)=0->(0<=(all.length:Int)/\(all.length:Int)<(↑(all++[(rests,aD (List.take x2.1 rests),[])]).length:Int))/\all.length<(all++[(rests,aD (List.take x2.1 rests),[])]).length/\aC ((x2.1:Int)+1)/\(∃x3:{ i:Nat // i<=List.length rests },List.length rests-x3.1<List.length rests-x2.1/\rests=rests/\(all.length:Int)=(all.length:Int)/\rests=rests/\(↑(List.length rests):Int)=(↑(List.length rests):Int)/\(x2.1:Int)+1=(x3.1:Int)/\(all++[(rests,aD (List.take x2.1 rests),[])]).set all.length (((all++[(rests,aD (List.take x2.1 rests),[])]).getD all.length ([],false,[])).1,true,((all++[(rests,aD (List.take x2.1 rests),[])]).getD all.length ([],false,[])).2.2)=all++[(rests,aD (List.take x3.1 rests),[])]/\([(rests,false,[])]:List RSt)=([(rests,false,[])]:List RSt)))/\(¬(↑(List.length (List.getD rests x2.1 [])):Int)=0->aC ((x2.1:Int)+1)/\(∃x3:{ i:Nat // i<=List.length rests },List.length rests-x3.1<List.length rests-x2.1/\rests=rests/\(all.length:Int)=(all.length:Int)/\rests=rests/\(↑(List.length rests):Int)=(↑(List.length rests):Int)/\(x2.1:Int)+1=(x3.1:Int)/\all++[(rests,aD (List.take x2.1 rests),[])]=all++[(rests,aD (List.take x3.1 rests),[])]/\([(rests,false,[])]:List RSt)=([(rests,false,[])]:List RSt))))/\(¬(x2.1:Int)<(↑(List.length rests):Int)->SmR rests/\(∃x3:{ i:Nat // i<=(ak rests).length },rests=rests/\(all.length:Int)=(all.length:Int)/\(bq all rests x3.1).2=[]/\ak rests=ak rests/\(↑(ak rests).length:Int)=(↑(ak rests).length:Int)/\0=(x3.1:Int)/\all++[(rests,aD (List.take x2.1 rests),[])]=(bq all rests x3.1).1/\([(rests,false,[])]:List RSt)=([(rests,false,[])]:List RSt)/\(bq all rests x3.1).2=[])/\(∀x3:{ i:Nat // i<=(ak rests).length },((x3.1:Int)<(↑(ak rests).length:Int)->(0<=(x3.1:Int)/\(x3.1:Int)<(↑(ak rests).length:Int))/\SmR rests/\tot (aO rests ((ak rests).getD x3.1 0))<k/\dE (aO rests ((ak rests).getD x3.1 0))/\SmR (aO rests ((ak rests).getD x3.1 0))/\SmA (bq all rests x3.1).1/\(bq all rests x3.1).1.length+tot (aO rests ((ak rests).getD x3.1 0))+1<=1099511627776/\(∀x4:(Unit),((bq all rests x3.1).2.length+[((ak rests).getD x3.1 0,(↑(eD (bq all rests x3.1).1 (aO rests ((ak rests).getD x3.1 0))).2:Int))].length)*16<=140737488355328/\aC ((x3.1:Int)+1)/\(∃x5:{ i:Nat // i<=(ak rests).length },(ak rests).length-x5.1<(ak rests).length-x3.1/\rests=rests/\(all.length:Int)=(all.length:Int)/\ak rests=ak rests/\(↑(ak rests).length:Int)=(↑(ak rests).length:Int)/\(x3.1:Int)+1=(x5.1:Int)/\(eD (bq all rests x3.1).1 (aO rests ((ak rests).getD x3.1 0))).1=(bq all rests x5.1).1/\([(rests,false,[])]:List RSt)=([(rests,false,[])]:List RSt)/\(bq all rests x3.1).2++[((ak rests).getD x3.1 0,(↑(eD (bq all rests x3.1).1 (aO rests ((ak rests).getD x3.1 0))).2:Int))]=(bq all rests x5.1).2)))/\(¬(x3.1:Int)<(↑(ak rests).length:Int)->(0<=(all.length:Int)/\(all.length:Int)<(↑(bq all rests x3.1).1.length:Int))/\all.length<(bq all rests x3.1).1.length/\(∃x4:Unit,(all.length:Int)=(↑(eD all rests).2:Int)/\(bq all rests x3.1).1.set all.length (((bq all rests x3.1).1.getD all.length ([],false,[])).1,((bq all rests x3.1).1.getD all.length ([],false,[])).2.1,(bq all rests x3.1).2)=(eD all rests).1)))))))) (by kernel_rfl) ?_;have hs:=hc2.1;have hh:=fM rests;refine⟨⟨⟨0,Nat.zero_le _,fun j h=>absurd h (zS _)⟩,rfl,rfl,rfl,rfl⟩,?_⟩;rintro⟨i,hi,ha⟩;dsimp only;refine⟨fun h=>⟨by omega,by omega,hc3.at,hc2,fun h1=>⟨(),?_⟩,fun h1=>⟨by unfold aC;omega,⟨i+1,by omega,fun j hj=>?_⟩,by dsimp only;omega,rfl,rfl,by push_cast;rfl,rfl⟩⟩,fun h=>?_⟩
   .rw[gV,Bn (by omega) ha (of_decide_eq_true h1)];exact⟨rfl,rfl⟩
   .by_cases hji:j=i
    .subst hji;simpa using h1
    .exact ha j (by omega)
   have e:=xx (all:=all) (rests:=rests) fun j hj=>ha j (by omega)
   refine⟨by rw[zN];omega,⟨⟨0,Nat.zero_le _⟩,rfl,rfl,rfl,rfl,rfl,rfl,rfl⟩,?_⟩;rintro⟨i2,hi2⟩;dsimp only;have hl1:∀s:RSt,(all++[s]).length=all.length+1:=fun s=>by simp
   refine⟨fun h2=>⟨by omega,fun h3=>⟨by rw[hl1];omega,by rw[hl1];omega,by unfold aC;omega,⟨i2+1,by omega⟩,by dsimp only;omega,rfl,rfl,rfl,rfl,by push_cast;rfl,?_,rfl⟩,fun h3=>⟨by unfold aC;omega,⟨i2+1,by omega⟩,by dsimp only;omega,rfl,rfl,rfl,rfl,by push_cast;rfl,?_,rfl⟩⟩,fun h2=>?_⟩
   .rw[gJ,Aq,pq (by omega),show (rests.getD i2 []).isEmpty=true by
     rw[List.isEmpty_iff];exact zT (by omega),Bool.or_true]
   .rw[pq (by omega),show (rests.getD i2 []).isEmpty=false by
     cases hx:rests.getD i2 [] with
     |nil=>rw[hx] at h3;exact absurd rfl h3
     |cons _ _=>rfl,Bool.or_false]
   rw[List.take_of_length_le (by omega)];refine⟨hc2,⟨⟨0,Nat.zero_le _⟩,rfl,rfl,rfl,rfl,rfl,rfl,rfl,rfl,rfl⟩,?_⟩;rintro⟨j,hj⟩;dsimp only;have g1:=wO (all:=all) hc1 j;have g2:=PU (all:=all) (rests:=rests) j;have g3:=Je (all:=all) (rests:=rests) j;refine⟨fun h3=>⟨by omega,hc2,?_,mE hc1 _,Fj hc2 _,Nr hc3 hc2 j,?_,fun _=>⟨?_,by unfold aC;omega,⟨j+1,by omega⟩,by dsimp only;omega,rfl,rfl,rfl,rfl,by push_cast;rfl,?_,rfl,?_⟩⟩,fun h3=>⟨by omega,by omega,(),?_⟩⟩
   .have:(ak rests).getD j 0∈ak rests:=by
     rw[zA,zB (by omega)];exact List.getElem_mem _
    have:=fF this;omega
   .have:=g1.2 (by omega);omega
   .rw[zN];omega
   .rw[gM (by omega)];rfl
   .rw[gM (by omega)];rfl
   .rw[gV,e];have hjj:j=(ak rests).length:=by omega
    subst hjj;exact⟨rfl,rfl⟩
end Go.EA
end
section
set_option maxRecDepth 100000
set_option maxHeartbeats 0
namespace Go.EA
open F
def ZG:kQ:=⟨(List RSt)×Rst,1,fun(all,rests) b=>[.one (.osl (b 0)),.one (.row (.row (.int .i32)) rests)],fun(all,rests) b=>[.row (.pair (.row (.row (.int .i32))) (.pair .bool (.row (.pair (.int .i32) (.int .i64))))) all],fun(all,rests)=>[dE rests,SmR rests,SmA all,all.length+tot rests+1<=1099511627776],fun _=>Unit,fun _ _=>[],fun(all,rests) _ b=>.tup [.o (.osl (b 0)),.o (.int .i64 (eD all rests).2)],fun(all,rests) _ b=>[.row (.pair (.row (.row (.int .i32))) (.pair .bool (.row (.pair (.int .i32) (.int .i64))))) (eD all rests).1],[0]⟩
def Cz:gP:=⟨fun xs L=>match xs.map nS with | [.one (.osl o),.one (.row (.row (.int .i32)) rests)]=>(match ae L o with | .row (.pair (.row (.row (.int .i32))) (.pair .bool (.row (.pair (.int .i32) (.int .i64))))) all=>some (ZG.res (all,rests) (fun _=>o) L) | _=>none) | _=>none⟩
theorem Zz {S:SC}(hB:SB S) (JB:aG S 331 (az Ij)) (Jd:aG S 332 (az Jy)) (IU:aG S 333 (az JQ)) (h313:S.has 313 f313):dN S 313 (qa RsT Cz):=by
 refine Rc fun c L H xs ys r hr hp hH hxs=>?_
 simp only[Cz] at hr;split at hr
 .rename_i o rests he;split at hr
  .rename_i all hl;cases hr;exact Px hB JB Jd IU h313 (tot rests+1) c L H xs ys ((Rx (tot rests+1)).res (all,rests) (fun _=>o) L) (by simp only[Ll,he,hl]) ⟨Nat.lt_succ_self _,hp⟩ hH hxs
  .cases hr
 .cases hr
def Sj:(List (List UInt8×Int))->List SV:=fun l=>[.one (.row (.pair .str (.int .i64)) l)]
def aaH:(List (List UInt8×Int))->SV×List Prop:=fun l=>(.one (.row (.pair (.row (.row (.int .i32))) (.pair .bool (.row (.pair (.int .i32) (.int .i64))))) (bg l)),[isE l=0,SmW l])
def YJ:Con:=⟨false,[some (.pair .str (.int .i64))],fun xs=>match xs with | [.one (.row (.pair .str (.int .i64)) l)]=>some (aaH l) | _=>none⟩
noncomputable def Nt:GP:=bS Sj aaH
theorem KJ:∀a b,(Sj a).map aB=(Sj b).map aB->a=b:=by
 rintro a0 b0 h;simp only[Sj,zK,List.map_nil,aB,aS,zG,AV.one.injEq,AV.agg.injEq,Lf.int.injEq,Lf.str.injEq,Lf.bool.injEq,Lf.vrow.injEq,and_true,true_and] at h;exact bD h
theorem Rf:bW Nt YJ:=aN KJ (fun _ _=>rfl) (fun _=>rfl) fun xs r h=>by
 simp only[YJ] at h;split at h
 .cases h;rename_i l;exact⟨l,rfl,rfl⟩
 .cases h
theorem aaE {S:SC}(hB:SB S) (Nq:dN S 313 (qa RsT Cz)) (q19:aG S 19 (az G19)) (h280:S.has 280 f280):aG S 280 (az Nt):=by
 refine ZT hB [] [⟨19,G19,K19⟩] [(313,(qa RsT Cz))] trivial ⟨⟨q19,xY⟩,trivial⟩ ⟨Nq,trivial⟩ h280 (fun _=>⟨rfl,rfl,rfl⟩) (fun l=>fun f id T L=>match f,id with
  |280,0=>some (.inv { i:Nat // i<=l.length } (fun x=>([(12,.one (.int .i64 x.1)),(3,.one (.osl 0))],[(0,.row (.row (.int .i32)) (wdR (l.take x.1)))])) (fun x=>l.length-x.1))
  |280,6028=>some (.rnd 0)
  |_,_=>none) 1000 ?_
 rintro l hc;have hc1:isE l=0:=hc.1;have hc2:SmW l:=hc.2.1;refine VC.use (p:=(∃x1:{ i:Nat // i<=l.length },wdR (List.take x1.1 l)=[]/\l=l/\(l.length:Int)=(l.length:Int)/\0=(x1.1:Int)/\wdR (List.take x1.1 l)=[])/\(∀x1:{ i:Nat // i<=l.length },((x1.1:Int)<(l.length:Int)->(0<=(x1.1:Int)/\(x1.1:Int)<(l.length:Int))/\List.length (l.getD x1.1 ([],0)).1<=1099511627776/\(List.length (wdR (List.take x1.1 l))+[aF (l.getD x1.1 ([],0)).1].length)*24<=140737488355328/\aC ((x1.1:Int)+1)/\(∃x2:{ i:Nat // i<=l.length },l.length-x2.1<l.length-x1.1/\l=l/\(l.length:Int)=(l.length:Int)/\(x1.1:Int)+1=(x2.1:Int)/\wdR (List.take x1.1 l)++[aF (l.getD x1.1 ([],0)).1]=wdR (List.take x2.1 l)))/\(¬(x1.1:Int)<(l.length:Int)->dE (wdR (List.take x1.1 l))/\SmR (wdR (List.take x1.1 l))/\SmA []/\0+tot (wdR (List.take x1.1 l))+1<=1099511627776/\(∀x2:(Unit),(eD [] (wdR (List.take x1.1 l))).1=bg l)))) (by kernel_rfl) ?_;have hn:=nml hc1;have hl:=hn.len;refine⟨⟨⟨0,Nat.zero_le _⟩,rfl,rfl,rfl,rfl,rfl⟩,?_⟩;rintro⟨i,hi⟩;dsimp only;refine⟨fun h=>⟨by omega,hc2.at i,?_,by unfold aC;omega,⟨i+1,by omega⟩,by dsimp only;omega,rfl,rfl,by push_cast;rfl,(jI (by omega)).symm⟩,fun h=>?_⟩
 .rw[sD,zN,zP];omega
 .rw[List.take_of_length_le (by omega)];have:=hn.tot;exact⟨hn.srt,hn.sm,fun s hs=>(by cases hs),by omega,fun _=>rfl⟩
def Tj:List (List (Int))×Bool×(List (Int×Int))×Int->List SV:=fun(s0,s1,s2,r)=>[.agg [.row (.row (.int .i32)) s0,.bool s1,.row (.pair (.int .i32) (.int .i64)) s2],.one (.int .i32 r)]
def Zm:List (List (Int))×Bool×(List (Int×Int))×Int->SV×List Prop:=fun(s0,s1,s2,r)=>(.tup [.o (.int .i64 (dW s2 r)),.o (.bool (bQ s2 r))],[s2.length<=1099511627776])
def Wh:Con:=⟨true,[none,none],fun xs=>match xs with | [.agg [.row (.row (.int .i32)) s0,.bool s1,.row (.pair (.int .i32) (.int .i64)) s2],.one (.int .i32 r)]=>some (Zm (s0,s1,s2,r)) | _=>none⟩
noncomputable def NN:GP:=bS Tj Zm
theorem Lp:∀a b,(Tj a).map aB=(Tj b).map aB->a=b:=by
 rintro⟨a0,a1,a2,a3⟩ ⟨b0,b1,b2,b3⟩ h;simp only[Tj,zK,List.map_nil,aB,aS,zG,AV.one.injEq,AV.agg.injEq,Lf.int.injEq,Lf.str.injEq,Lf.bool.injEq,Lf.vrow.injEq,and_true,true_and,and_assoc] at h;obtain⟨h0,h1,h2,h3⟩:=h;have h0:=bD h0;have h2:=bD h2;subst h0 h1 h2 h3
 rfl
theorem TL:bW NN Wh:=aN Lp (fun⟨_,_,_,_⟩ ⟨_,_,_,_⟩=>rfl) (fun⟨_,_,_,_⟩=>rfl) fun xs r h=>by
 simp only[Wh] at h;split at h
 .cases h;rename_i s0 s1 s2 r;exact⟨(s0,s1,s2,r),rfl,rfl⟩
 .cases h
theorem abC {S:SC}(hB:SB S)  (h290:S.has 290 f290):aG S 290 (az NN):=by
 refine prM hB [] [] trivial trivial h290 (fun⟨s0,s1,s2,r⟩=>⟨rfl,rfl,rfl⟩) (fun(s0,s1,s2,r)=>fun f id T L=>match f,id with
  |290,0=>some (.inv { i:Nat // i<=s2.length/\∀j,j<i->(s2.getD j (0,0)).1≠r } (fun x=>([(11,.one (.int .i64 x.1))],[])) (fun x=>s2.length-x.1))
  |_,_=>none) 400 ?_
 rintro⟨s0,s1,s2,r⟩ hc;have hc1:s2.length<=1099511627776:=hc.1;refine VC.use (p:=(∃x1:{ i:Nat // i<=s2.length/\∀(j:Nat),j<i->(s2.getD j (0,0)).1≠r },r=r/\s2=s2/\(s2.length:Int)=(s2.length:Int)/\0=(x1.1:Int)/\s0=s0/\s1=s1/\s2=s2)/\(∀x1:{ i:Nat // i<=s2.length/\∀(j:Nat),j<i->(s2.getD j (0,0)).1≠r },((x1.1:Int)<(s2.length:Int)->(0<=(x1.1:Int)/\(x1.1:Int)<(s2.length:Int))/\((s2.getD x1.1 (0,0)).1=r->(s2.getD x1.1 (0,0)).2=dW s2 r/\true=bQ s2 r)/\(¬(s2.getD x1.1 (0,0)).1=r->aC ((x1.1:Int)+1)/\(∃x2:{ i:Nat // i<=s2.length/\∀(j:Nat),j<i->(s2.getD j (0,0)).1≠r },s2.length-x2.1<s2.length-x1.1/\r=r/\s2=s2/\(s2.length:Int)=(s2.length:Int)/\(x1.1:Int)+1=(x2.1:Int)/\s0=s0/\s1=s1/\s2=s2)))/\(¬(x1.1:Int)<(s2.length:Int)->0=dW s2 r/\false=bQ s2 r))) (by kernel_rfl) ?_;refine⟨⟨⟨0,Nat.zero_le _,fun j h=>absurd h (zS _)⟩,rfl,rfl,rfl,rfl,rfl,rfl,rfl⟩,?_⟩;rintro⟨i,hi,ha⟩;dsimp only;refine⟨fun h=>⟨by omega,fun h1=>?_,fun h1=>⟨by unfold aC;omega,⟨i+1,by omega,fun j hj=>?_⟩,by dsimp only;omega,rfl,rfl,rfl,by push_cast;rfl,rfl,rfl,rfl⟩⟩,fun h=>?_⟩
 .unfold dW bQ;rw[Hg (by omega) ha h1];exact⟨rfl,rfl⟩
 .by_cases hji:j=i
  .subst hji;exact h1
  .exact ha j (by omega)
 .unfold dW bQ;rw[Ap fun j hj=>ha j (by omega)];exact⟨rfl,rfl⟩
end Go.EA
end
section
set_option maxRecDepth 100000
set_option maxHeartbeats 0
namespace Go.EA
open F
def M56:kQ:=⟨(List Int)×Int,1,fun(o,r) b=>[.one (.osl (b 0)),.one (.int .i32 r)],fun(o,r) b=>[.row (.int .u8) o],fun(o,r)=>[Utf8.valid r=true,o.length<=70368744177664],fun _=>Unit,fun _ _=>[],fun(o,r) _ b=>.one (.osl (b 0)),fun(o,r) _ b=>[.row (.int .u8) (o++encI r)],[0]⟩
def C56:gP:=⟨fun xs L=>match xs.map nS with | [.one (.osl o),.one (.int .i32 r)]=>(match ae L o with | .row (.int .u8) l=>some (M56.res (l,r) (fun _=>o) L) | _=>none) | _=>none⟩
theorem PV:M56.Fits C56:=by
 intro xs L r h;simp only[C56] at h;split at h
 .rename_i o r he;split at h
  .rename_i l hl;cases h;refine⟨(l,r),fun _=>o,he,fun j hj=>?_,fun i j hi hj _=>?_,rfl⟩
   .have hj:j<1:=hj;obtain rfl:j=0:=by omega
    exact hl
   .have hi:i<1:=hi;have hj:j<1:=hj;omega
  .cases h
 .cases h
theorem VF:M56.Ok f56.np:=⟨fun⟨_,_⟩ b=>ah.cons (.inl ⟨_,_,rfl,rfl,.inr (.inl ⟨0,Nat.zero_lt_one,rfl,rfl⟩)⟩) (ah.cons (.inr (.inl ⟨rfl,rfl⟩)) ah.nil),
 fun ⟨_, _⟩ b => ⟨rfl, fun j hj => by have hj : j < 1 := hj; obtain rfl : j = 0 := by omega
                                      exact .inl ⟨rfl,rfl⟩⟩,
 fun ⟨_, _⟩ _ b => ⟨rfl, fun j hj => by have hj : j < 1 := hj; obtain rfl : j = 0 := by omega
                                        exact .inl ⟨rfl,rfl⟩⟩,
 fun _ _ j hj hm => absurd (by have hj : j < 1 := hj; obtain rfl : j = 0 := by omega
                               exact List.mem_singleton.2 rfl) hm,
 fun _ j hj hm => absurd (by have hj : j < 1 := hj; obtain rfl : j = 0 := by omega
                             exact List.mem_singleton.2 rfl) hm,
 fun⟨_,_⟩=>rfl,
 fun⟨_,_⟩ _ b=>.inl ⟨_,_,rfl,rfl,.inr (.inl ⟨0,Nat.zero_lt_one,rfl,rfl⟩)⟩⟩
theorem abS {S:SC}(hB:SB S)  (h75:S.has 75 f75) (h56:S.has 56 f56):dN S 56 C56:=by
 refine muG hB [(75,f75)] [] [] ⟨h75,trivial⟩ trivial trivial h56 PV VF (fun(o,r)=>fun _ _ _ _=>none) 400 ?_;rintro⟨o,r⟩ hc;have hc1:Utf8.valid r=true:=hc.1;have hc2:o.length<=70368744177664:=hc.2.1;refine VC.use (p:=(IntKind.u32.wrap r<=127->(o.length+[IntKind.u8.wrap r].length)*1<=140737488355328/\(∃x1:Unit,o++[IntKind.u8.wrap r]=o++encI r))/\(¬IntKind.u32.wrap r<=127->(IntKind.u32.wrap r<=2047->(o.length+[oB 192 (r.fdiv 64),o6 r].length)*1<=140737488355328/\(∃x1:Unit,o++[oB 192 (r.fdiv 64),o6 r]=o++encI r))/\(¬IntKind.u32.wrap r<=2047->(IntKind.u32.wrap r<55296->(IntKind.u32.wrap r<55296->(o.length+[oB 224 (r.fdiv 4096),o6 (r.fdiv 64),o6 r].length)*1<=140737488355328/\(∃x1:Unit,o++[oB 224 (r.fdiv 4096),o6 (r.fdiv 64),o6 r]=o++encI r))/\(¬IntKind.u32.wrap r<55296->(65535<IntKind.u32.wrap r->(IntKind.u32.wrap r<=1114111->(o.length+[oB 240 (r.fdiv 262144),o6 (r.fdiv 4096),o6 (r.fdiv 64),o6 r].length)*1<=140737488355328/\(∃x1:Unit,o++[oB 240 (r.fdiv 262144),o6 (r.fdiv 4096),o6 (r.fdiv 64),o6 r]=o++encI r))/\(¬IntKind.u32.wrap r<=1114111->(o.length+3)*1<=140737488355328/\(∃x1:Unit,o++[239,191,189]=o++encI r)))/\(¬65535<IntKind.u32.wrap r->(o.length+3)*1<=140737488355328/\(∃x1:Unit,o++[239,191,189]=o++encI r))))/\(¬IntKind.u32.wrap r<55296->(57343<IntKind.u32.wrap r->(IntKind.u32.wrap r<=65535->(o.length+[oB 224 (r.fdiv 4096),o6 (r.fdiv 64),o6 r].length)*1<=140737488355328/\(∃x1:Unit,o++[oB 224 (r.fdiv 4096),o6 (r.fdiv 64),o6 r]=o++encI r))/\(¬IntKind.u32.wrap r<=65535->(65535<IntKind.u32.wrap r->(IntKind.u32.wrap r<=1114111->(o.length+[oB 240 (r.fdiv 262144),o6 (r.fdiv 4096),o6 (r.fdiv 64),o6 r].length)*1<=140737488355328/\(∃x1:Unit,o++[oB 240 (r.fdiv 262144),o6 (r.fdiv 4096),o6 (r.fdiv 64),o6 r]=o++encI r))/\(¬IntKind.u32.wrap r<=1114111->(o.length+3)*1<=140737488355328/\(∃x1:Unit,o++[239,191,189]=o++encI r)))/\(¬65535<IntKind.u32.wrap r->(o.length+3)*1<=140737488355328/\(∃x1:Unit,o++[239,191,189]=o++encI r))))/\(¬57343<IntKind.u32.wrap r->(65535<IntKind.u32.wrap r->(IntKind.u32.wrap r<=1114111->(o.length+[oB 240 (r.fdiv 262144),o6 (r.fdiv 4096),o6 (r.fdiv 64),o6 r].length)*1<=140737488355328/\(∃x1:Unit,o++[oB 240 (r.fdiv 262144),o6 (r.fdiv 4096),o6 (r.fdiv 64),o6 r]=o++encI r))/\(¬IntKind.u32.wrap r<=1114111->(o.length+3)*1<=140737488355328/\(∃x1:Unit,o++[239,191,189]=o++encI r)))/\(¬65535<IntKind.u32.wrap r->(o.length+3)*1<=140737488355328/\(∃x1:Unit,o++[239,191,189]=o++encI r))))))) (by kernel_rfl) ?_;exact Di hc1 hc2 (K:=fun o'=>∃x1:Unit,o'=o++encI r) ⟨(),rfl⟩
def UD:(List (Int×Int))×Bool×Int->List SV:=fun(s0,s1,s2)=>[.agg [.row (.pair (.int .i32) (.int .i64)) s0,.bool s1,.int .i64 s2]]
def Zr:(List (Int×Int))×Bool×Int->SV×List Prop:=fun(s0,s1,s2)=>(.one (.str (kw s0 s1)),[s0.length<=1048576,OkE s0])
def XR:Con:=⟨true,[none],fun xs=>match xs with | [.agg [.row (.pair (.int .i32) (.int .i64)) s0,.bool s1,.int .i64 s2]]=>some (Zr (s0,s1,s2)) | _=>none⟩
noncomputable def PX:GP:=bS UD Zr
theorem OY:∀a b,(UD a).map aB=(UD b).map aB->a=b:=by
 rintro⟨a0,a1,a2⟩ ⟨b0,b1,b2⟩ h;simp only[UD,zK,List.map_nil,aB,aS,zG,AV.one.injEq,AV.agg.injEq,Lf.int.injEq,Lf.str.injEq,Lf.bool.injEq,Lf.vrow.injEq,and_true,true_and,and_assoc] at h;obtain⟨h0,h1,h2⟩:=h;have h0:=bD h0;subst h0 h1 h2
 rfl
theorem Uk:bW PX XR:=aN OY (fun⟨_,_,_⟩ ⟨_,_,_⟩=>rfl) (fun⟨_,_,_⟩=>rfl) fun xs r h=>by
 simp only[XR] at h;split at h
 .cases h;rename_i s0 s1 s2;exact⟨(s0,s1,s2),rfl,rfl⟩
 .cases h
theorem abd {S:SC}(hB:SB S) (u56:dN S 56 C56)  (h346:S.has 346 f346):aG S 346 (az PX):=by
 refine ZT hB [] [] [(56,C56)] trivial trivial ⟨u56,trivial⟩ h346 (fun⟨s0,s1,s2⟩=>⟨rfl,rfl,rfl⟩) (fun(s0,s1,s2)=>fun f id T L=>match f,id with
  |346,4012=>some (.cut Unit fun _=>([(3,.one (.osl 1))],[(1,.row (.int .u8) [if s1 then 43 else 45])]))
  |346,0=>some (.inv { i:Nat // i<=s0.length } (fun x=>([(15,.one (.int .i64 x.1)),(3,.one (.osl 1))],[(1,.row (.int .u8) (lm (s0.take x.1) s1))])) (fun x=>s0.length-x.1))
  |346,2=>match T.getD 6 .junk,ae L 1 with | .one (.int _ n0),.row (.int .u8) o0=>some (.inv { p:Int×List Int // p.2++lD p.1=o0++lD n0/\0<=p.1/\p.1<=n0 } (fun x=>([(6,.one (.int .i64 x.1.1)),(3,.one (.osl 1))],[(1,.row (.int .u8) x.1.2)])) (fun x=>x.1.1.toNat)) | _,_=>none
  |_,_=>none) 2000 ?_
 rintro⟨s0,s1,s2⟩ hc;have hc1:s0.length<=1048576:=hc.1;have hc2:OkE s0:=hc.2.1;refine VC.use (p:=((s1=true->((0:Int)<=(0:Int)/\(0:Int)<(1:Int))/\(0:Nat)<(1:Nat)/\(∃x1:Unit,s0=s0/\s1=s1/\s2=s2/\([43]:List Int)=[if s1=true then 43 else 45]))/\(¬s1=true->∃x1:Unit,s0=s0/\s1=s1/\s2=s2/\([45]:List Int)=[if s1=true then 43 else 45]))/\(∀x1:Unit,(∃x2:{ i:Nat // i<=s0.length },s0=s0/\(s0.length:Int)=(s0.length:Int)/\0=(x2.1:Int)/\s0=s0/\s1=s1/\s2=s2/\[if s1=true then 43 else 45]=lm (List.take x2.1 s0) s1)/\(∀x2:{ i:Nat // i<=s0.length },((x2.1:Int)<(s0.length:Int)->(0<=(x2.1:Int)/\(x2.1:Int)<(s0.length:Int))/\Utf8.valid (s0.getD x2.1 (0,0)).1=true/\(lm (List.take x2.1 s0) s1).length<=70368744177664/\(∀x3:(Unit),(∃x4:{ p:Int×List Int // p.2++lD p.1=lm (List.take x2.1 s0) s1++encI (s0.getD x2.1 (0,0)).1++lD (s0.getD x2.1 (0,0)).2/\0<=p.1/\p.1<=(s0.getD x2.1 (0,0)).2 },(s0.getD x2.1 (0,0)).2=x4.1.1/\s0=s0/\(s0.length:Int)=(s0.length:Int)/\(x2.1:Int)=(x2.1:Int)/\s0=s0/\s1=s1/\s2=s2/\lm (List.take x2.1 s0) s1++encI (s0.getD x2.1 (0,0)).1=x4.1.2/\(s0.getD x2.1 (0,0)).1=(s0.getD x2.1 (0,0)).1/\(s0.getD x2.1 (0,0)).2=(s0.getD x2.1 (0,0)).2)/\(∀x4:{ p:Int×List Int // p.2++lD p.1=lm (List.take x2.1 s0) s1++encI (s0.getD x2.1 (0,0)).1++lD (s0.getD x2.1 (0,0)).2/\0<=p.1/\p.1<=(s0.getD x2.1 (0,0)).2 },(128:Int)≠(0:Int)/\(x4.1.2.length+[IntKind.u8.wrap (↑(BitVec.ofInt 8 (IntKind.u8.wrap (x4.1.1.tmod 128)) ||| BitVec.ofInt 8 128).toNat:Int)].length)*1<=140737488355328/\(x4.1.1<128->((x4.1.2++[IntKind.u8.wrap (↑(BitVec.ofInt 8 (IntKind.u8.wrap (x4.1.1.tmod 128)) ||| BitVec.ofInt 8 128).toNat:Int)]).length+1)*1<=140737488355328/\aC ((x2.1:Int)+1)/\(∃x5:{ i:Nat // i<=s0.length },s0.length-x5.1<s0.length-x2.1/\s0=s0/\(s0.length:Int)=(s0.length:Int)/\(x2.1:Int)+1=(x5.1:Int)/\s0=s0/\s1=s1/\s2=s2/\x4.1.2++[IntKind.u8.wrap (↑(BitVec.ofInt 8 (IntKind.u8.wrap (x4.1.1.tmod 128)) ||| BitVec.ofInt 8 128).toNat:Int)]++[0]=lm (List.take x5.1 s0) s1))/\(¬x4.1.1<128->(128:Int)≠(0:Int)/\aC (x4.1.1.tdiv 128)/\(∃x5:{ p:Int×List Int // p.2++lD p.1=lm (List.take x2.1 s0) s1++encI (s0.getD x2.1 (0,0)).1++lD (s0.getD x2.1 (0,0)).2/\0<=p.1/\p.1<=(s0.getD x2.1 (0,0)).2 },x5.1.1.toNat<x4.1.1.toNat/\x4.1.1.tdiv 128=x5.1.1/\s0=s0/\(s0.length:Int)=(s0.length:Int)/\(x2.1:Int)=(x2.1:Int)/\s0=s0/\s1=s1/\s2=s2/\x4.1.2++[IntKind.u8.wrap (↑(BitVec.ofInt 8 (IntKind.u8.wrap (x4.1.1.tmod 128)) ||| BitVec.ofInt 8 128).toNat:Int)]=x5.1.2/\(s0.getD x2.1 (0,0)).1=(s0.getD x2.1 (0,0)).1/\(s0.getD x2.1 (0,0)).2=(s0.getD x2.1 (0,0)).2)))))/\(¬(x2.1:Int)<(s0.length:Int)->List.map (fun z=>UInt8.ofNat (Int.toNat z)) (lm (List.take x2.1 s0) s1)=kw s0 s1)))) (by kernel_rfl) ?_;refine⟨⟨fun h=>⟨by omega,by omega,(),rfl,rfl,rfl,by rw[if_pos h]⟩,fun h=>⟨(),rfl,rfl,rfl,by rw[if_neg h]⟩⟩,fun _=>⟨⟨⟨0,Nat.zero_le _⟩,rfl,rfl,rfl,rfl,rfl,rfl,rfl⟩,?_⟩⟩;rintro⟨i,hi⟩;dsimp only;refine⟨fun h=>?_,fun h=>by rw[List.take_of_length_le (by omega)];rfl⟩;have h1:=hc2.at (i:=i) (by omega);have h2:=tV hc2 s1 i hi;have hst:=xz (b:=s1) (show i<s0.length by omega);have hln:=tV hc2 s1 (i+1) (by omega);rw[hst] at hln;generalize lm (s0.take i) s1=o at h2 hst hln ⊢;unfold Jn at hln hst;generalize s0.getD i (0,0)=e at h1 hst hln ⊢;simp only[zL,zN] at hln;refine⟨by omega,h1.1,by omega,fun _=>⟨⟨⟨(e.2,o++encI e.1),rfl,h1.2.1,Int.le_refl _⟩,rfl,rfl,rfl,rfl,rfl,rfl,rfl,rfl,rfl,rfl⟩,?_⟩⟩;rintro⟨⟨n,p⟩,hp,hn0,hn1⟩;dsimp only at hp hn0 hn1 ⊢;rw[Ww hn0];have hpl:=congrArg List.length hp;simp only[zL] at hpl;have hdl:=Be n;refine⟨by omega,by rw[zN];omega,fun hlt=>⟨by rw[zL,zN];omega,by unfold aC;omega,⟨i+1,by omega⟩,by dsimp only;omega,rfl,rfl,by push_cast;rfl,rfl,rfl,rfl,?_⟩,fun hge=>?_⟩
 .show _=lm (s0.take (i+1)) s1;rw[hst,<- zO,<- zO,<- hp,Dk hlt]
 .obtain⟨g1,g2,g3⟩:=kR hge;refine⟨by omega,by unfold aC;omega,⟨(n.tdiv 128,p++[dgB n]),?_,g1,by omega⟩,g2,rfl,rfl,rfl,rfl,rfl,rfl,rfl,rfl,rfl,rfl⟩;show p++[dgB n]++lD (n.tdiv 128)=_;rw[<- hp,xC hge,zO];rfl
def UA:List Int×List Int->List SV:=fun(a,b)=>[.one (.row (.int .i32) a),.one (.row (.int .i32) b)]
def aag:List Int×List Int->SV×List Prop:=fun(a,b)=>(.one (.int .i64 (bi a b)),[a.length<=1099511627776])
def Yu:Con:=⟨true,[some (.int .i32),some (.int .i32)],fun xs=>match xs with | [.one (.row (.int .i32) a),.one (.row (.int .i32) b)]=>some (aag (a,b)) | _=>none⟩
noncomputable def KC:GP:=bS UA aag
theorem Mf:∀a b,(UA a).map aB=(UA b).map aB->a=b:=by
 rintro⟨a0,a1⟩ ⟨b0,b1⟩ h;simp only[UA,zK,List.map_nil,aB,aS,zG,AV.one.injEq,AV.agg.injEq,Lf.int.injEq,Lf.str.injEq,Lf.bool.injEq,Lf.vrow.injEq,and_true,true_and,and_assoc] at h;obtain⟨h0,h1⟩:=h;have h0:=bD h0;have h1:=bD h1;subst h0 h1
 rfl
theorem TW:bW KC Yu:=aN Mf (fun⟨_,_⟩ ⟨_,_⟩=>rfl) (fun⟨_,_⟩=>rfl) fun xs r h=>by
 simp only[Yu] at h;split at h
 .cases h;rename_i a b;exact⟨(a,b),rfl,rfl⟩
 .cases h
theorem aba {S:SC}(hB:SB S)  (h330:S.has 330 f330):aG S 330 (az KC):=by
 refine prM hB [] [] trivial trivial h330 (fun⟨a,b⟩=>⟨rfl,rfl,rfl⟩) (fun(a,b)=>fun f id T L=>match f,id with
  |330,0=>some (.inv { i:Nat // i<=a.length/\i<=b.length/\bi a b=i+bi (a.drop i) (b.drop i) } (fun x=>([(4,.one (.int .i64 x.1))],[])) (fun x=>a.length-x.1))
  |_,_=>none) 1000 ?_
 rintro⟨a,b⟩ hc;have hc1:a.length<=1099511627776:=hc.1;refine VC.use (p:=(∃x1:{ i:Nat // i<=a.length/\i<=b.length/\bi a b=i+bi (List.drop i a) (List.drop i b) },a=a/\b=b/\0=(x1.1:Int))/\(∀x1:{ i:Nat // i<=a.length/\i<=b.length/\bi a b=i+bi (List.drop i a) (List.drop i b) },((x1.1:Int)<(a.length:Int)->((x1.1:Int)<(b.length:Int)->(0<=(x1.1:Int)/\(x1.1:Int)<(a.length:Int))/\(0<=(x1.1:Int)/\(x1.1:Int)<(b.length:Int))/\(a.getD x1.1 0=b.getD x1.1 0->aC ((x1.1:Int)+1)/\(∃x2:{ i:Nat // i<=a.length/\i<=b.length/\bi a b=i+bi (List.drop i a) (List.drop i b) },a.length-x2.1<a.length-x1.1/\a=a/\b=b/\(x1.1:Int)+1=(x2.1:Int)))/\(¬a.getD x1.1 0=b.getD x1.1 0->(x1.1:Int)=(↑(bi a b):Int)))/\(¬(x1.1:Int)<(b.length:Int)->(x1.1:Int)=(↑(bi a b):Int)))/\(¬(x1.1:Int)<(a.length:Int)->(x1.1:Int)=(↑(bi a b):Int)))) (by kernel_rfl) ?_;refine⟨⟨⟨0,Nat.zero_le _,Nat.zero_le _,by simp⟩,rfl,rfl,rfl⟩,?_⟩;rintro⟨i,h1,h2,h3⟩;dsimp only;refine⟨fun ha=>⟨fun hb=>⟨by omega,by omega,fun he=>⟨by unfold aC;omega,⟨i+1,by omega,by omega,?_⟩,by dsimp only;omega,rfl,rfl,by push_cast;rfl⟩,fun he=>?_⟩,fun hb=>?_⟩,fun ha=>?_⟩
 .rw[h3,xe (by omega) (by omega),if_pos he];omega
 .rw[h3,xe (by omega) (by omega),if_neg he];rfl
 .rw[h3,BB (.inr (by omega))];rfl
 .rw[h3,BB (.inl (by omega))];rfl
end Go.EA
end
