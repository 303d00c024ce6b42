/- Texts. Conditions: none. -/
import Derived.Test.YtgkhohpekfjlmaaDoorEK30
import Derived.Test.YtgkhohpekfjlmaaDoorELx2
import Derived.Test.YtgkhohpekfjlmaaDoorERu
import Derived.Test.YtgkhohpekfjlmaaDoorEAf11
import Derived.KernelRfl
import Derived.Test.YtgkhohpekfjlmaaDoorEDf
import Derived.Test.YtgkhohpekfjlmaaDoorEK23
import Derived.Test.YtgkhohpekfjlmaaDoorELx5
import Derived.Test.YtgkhohpekfjlmaaDoorEK32
import Derived.Test.YtgkhohpekfjlmaaDoorEK25
set_option linter.unusedVariables false
set_option linter.unusedSimpArgs false
section
set_option maxRecDepth 100000
set_option maxHeartbeats 0
namespace Go.EA
open F
def SY:(List ((List (Int×Int))×Bool×Int))×Int×List (Int)×List UInt8->List SV:=fun(d0,d1,d2,s)=>[.one (.vptr (.pair (.row (.pair (.row (.pair (.int .i32) (.int .i64))) (.pair .bool (.int .i64)))) (.pair (.int .i64) (.row (.int .i64)))) (d0,d1,d2) 0),.one (.str s)]
def ZF:(List ((List (Int×Int))×Bool×Int))×Int×List (Int)×List UInt8->SV×List Prop:=fun(d0,d1,d2,s)=>(.tup [.o (.row (.int .i32) (tkL s)),.o (.int .i64 (tkE s))],[s.length<=1099511627776])
def TR:Con:=⟨false,[some (.pair (.row (.pair (.row (.pair (.int .i32) (.int .i64))) (.pair .bool (.int .i64)))) (.pair (.int .i64) (.row (.int .i64)))),none],fun xs=>match xs with | [.one (.vptr (.pair (.row (.pair (.row (.pair (.int .i32) (.int .i64))) (.pair .bool (.int .i64)))) (.pair (.int .i64) (.row (.int .i64)))) (d0,d1,d2) 0),.one (.str s)]=>some (ZF (d0,d1,d2,s)) | _=>none⟩
noncomputable def DR:GP:=dx SY ZF
theorem KH:∀a b,(SY a).map aB=(SY b).map aB->a=b:=by
 rintro⟨a0,a1,a2,a3⟩ ⟨b0,b1,b2,b3⟩ h;simp only[SY,zK,List.map_nil,aB,aX,List.drop_zero,zG,AV.one.injEq,AV.agg.injEq,Lf.int.injEq,Lf.str.injEq,Lf.bool.injEq,Lf.vrow.injEq,Lf.vptr.injEq,and_true,true_and,and_assoc] at h;obtain⟨h0,h1⟩:=h;have h0:=Ty.enc_inj _ h0;simp only[zF] at h0;obtain⟨rfl,rfl,rfl⟩:=h0;subst h1
 rfl
theorem Fh:dG DR TR:=aY KH (fun⟨_,_,_,_⟩ ⟨_,_,_,_⟩=>rfl) (fun⟨_,_,_,_⟩=>rfl) fun xs r h=>by
 simp only[TR] at h;split at h
 .cases h;rename_i d0 d1 d2 s;exact⟨(d0,d1,d2,s),rfl,rfl⟩
 .cases h
theorem Zm {S:SC}(hB:SB S) (q17:aN S 17 (az G17)) (h500:S.has 500 f500):aN S 500 (az DR):=by
 refine prM hB [] [⟨17,G17,K17⟩] trivial ⟨⟨q17,EU⟩,trivial⟩ h500 (fun⟨d0,d1,d2,s⟩=>⟨rfl,rfl,rfl⟩) (fun(d0,d1,d2,s)=>fun _ _ _ _=>none) 400 ?_;rintro⟨d0,d1,d2,s⟩ hc;have hc1:s.length<=1099511627776:=hc.1;refine VC.use (p:=s.length<=1099511627776/\(bH s=0->(64<(↑(aK s).length:Int)->tkL s=[]/\5=tkE s)/\(¬64<(↑(aK s).length:Int)->aK s=tkL s/\bH s=tkE s))/\(¬bH s=0->aK s=tkL s/\bH s=tkE s)) (by kernel_rfl) ?_;refine⟨hc1,fun h=>⟨fun h2=>?_,fun h2=>?_⟩,fun h=>?_⟩
 .exact⟨(Dc h h2).1.symm,(Dc h h2).2⟩
 .exact RX h h2
 .exact Qf h
def Ra:List Int->List SV:=fun l=>[.one (.row (.int .i32) l)]
def ZM:List Int->SV×List Prop:=fun l=>(.one (.str (iJ l)),[l.length<=1099511627776])
def PE:Con:=⟨true,[some (.int .i32)],fun xs=>match xs with | [.one (.row (.int .i32) l)]=>some (ZM l) | _=>none⟩
noncomputable def EW:GP:=dx Ra ZM
theorem Oa:∀a b,(Ra a).map aB=(Ra b).map aB->a=b:=by
 rintro a0 b0 h;simp only[Ra,zK,List.map_nil,aB,aX,zG,AV.one.injEq,AV.agg.injEq,Lf.int.injEq,Lf.str.injEq,Lf.bool.injEq,Lf.vrow.injEq,and_true,true_and] at h;exact cZ h
theorem FM:dG EW PE:=aY Oa (fun _ _=>rfl) (fun _=>rfl) fun xs r h=>by
 simp only[PE] at h;split at h
 .cases h;rename_i l;exact⟨l,rfl,rfl⟩
 .cases h
theorem Yr {S:SC}(hB:SB S) (q33:aN S 33 (az G33)) (h506:S.has 506 f506):aN S 506 (az EW):=by
 refine prM hB [] [⟨33,G33,K33⟩] trivial ⟨⟨q33,XA⟩,trivial⟩ h506 (fun _=>⟨rfl,rfl,rfl⟩) (fun l=>fun _ _ _ _=>none) 400 ?_;rintro l hc;have hc1:l.length<=1099511627776:=hc.1;refine VC.use (p:=l.length<=1099511627776/\iJ l=iJ l) (by kernel_rfl) ?_;exact⟨hc1,rfl⟩
def TT:(List ((List (Int×Int))×Bool×Int))×Int×List (Int)×List Int->List SV:=fun(d0,d1,d2,l)=>[.one (.vptr (.pair (.row (.pair (.row (.pair (.int .i32) (.int .i64))) (.pair .bool (.int .i64)))) (.pair (.int .i64) (.row (.int .i64)))) (d0,d1,d2) 0),.one (.row (.int .i32) l)]
def Yt:(List ((List (Int×Int))×Bool×Int))×Int×List (Int)×List Int->SV×List Prop:=fun(d0,d1,d2,l)=>(.one (.row (.int .i64) (enL d0 l 0 0)),[rA d0,l.length<=1099511627776,∀r∈l,Utf8.valid r=true])
def SN:Con:=⟨false,[some (.pair (.row (.pair (.row (.pair (.int .i32) (.int .i64))) (.pair .bool (.int .i64)))) (.pair (.int .i64) (.row (.int .i64)))),some (.int .i32)],fun xs=>match xs with | [.one (.vptr (.pair (.row (.pair (.row (.pair (.int .i32) (.int .i64))) (.pair .bool (.int .i64)))) (.pair (.int .i64) (.row (.int .i64)))) (d0,d1,d2) 0),.one (.row (.int .i32) l)]=>some (Yt (d0,d1,d2,l)) | _=>none⟩
noncomputable def EI:GP:=dx TT Yt
theorem KY:∀a b,(TT a).map aB=(TT b).map aB->a=b:=by
 rintro⟨a0,a1,a2,a3⟩ ⟨b0,b1,b2,b3⟩ h;simp only[TT,zK,List.map_nil,aB,aX,List.drop_zero,zG,AV.one.injEq,AV.agg.injEq,Lf.int.injEq,Lf.str.injEq,Lf.bool.injEq,Lf.vrow.injEq,Lf.vptr.injEq,and_true,true_and,and_assoc] at h;obtain⟨h0,h1⟩:=h;have h0:=Ty.enc_inj _ h0;simp only[zF] at h0;obtain⟨rfl,rfl,rfl⟩:=h0;obtain rfl:=cZ h1
 rfl
theorem Fp:dG EI SN:=aY KY (fun⟨_,_,_,_⟩ ⟨_,_,_,_⟩=>rfl) (fun⟨_,_,_,_⟩=>rfl) fun xs r h=>by
 simp only[SN] at h;split at h
 .cases h;rename_i d0 d1 d2 l;exact⟨(d0,d1,d2,l),rfl,rfl⟩
 .cases h
theorem YD {S:SC}(hB:SB S) (WT:aN S 286 (az Na)) (UV:aN S 289 (az NR)) (h501:S.has 501 f501) (h510:S.has 510 f510) (h505:S.has 505 f505):aN S 505 (az EI):=by
 refine prI hB [(501,f501),(510,f510)] [⟨286,Na,UE⟩,⟨289,NR,Wt⟩] [] ⟨h501,h510,trivial⟩ ⟨⟨WT,Qt⟩,⟨UV,Qh⟩,trivial⟩ trivial h505 (fun⟨d0,d1,d2,l⟩=>⟨rfl,rfl,rfl⟩) (fun(d0,d1,d2,l)=>fun f id T L=>match f,id with
  |510,0=>some (.inv { x:Nat×Nat×List Int // x.1<=l.length/\x.2.1<d0.length/\x.2.2.length<=x.1/\enL d0 l 0 0=x.2.2++enL d0 (l.drop x.1) x.2.1 x.1 } (fun x=>([(4,.one (.int .i64 x.1.2.1)),(5,.one (.int .i64 x.1.1))],[(1,.cell [.osl 5]),(5,.row (.int .i64) x.1.2.2)])) (fun x=>l.length+1-x.1.1))
  |_,_=>none) 2000 ?_
 rintro⟨d0,d1,d2,l⟩ hc;have hc1:rA d0:=hc.1;have hc2:l.length<=1099511627776:=hc.2.1;have hc3:∀r∈l,Utf8.valid r=true:=hc.2.2.1;refine VC.use (p:=(∃x1:{ x:Nat×Nat×List Int // x.1<=l.length/\x.2.1<d0.length/\x.2.2.length<=x.1/\enL d0 l 0 0=x.2.2++enL d0 (List.drop x.1 l) (x.2.1:Int) (x.1:Int) },0=(x1.1.2.1:Int)/\0=(x1.1.1:Int)/\(d0,d1,d2)=(d0,d1,d2)/\x1.1.2.2=[]/\(d0,d1,d2)=(d0,d1,d2)/\l=l/\x1.1.2.2=[])/\(∀x1:{ x:Nat×Nat×List Int // x.1<=l.length/\x.2.1<d0.length/\x.2.2.length<=x.1/\enL d0 l 0 0=x.2.2++enL d0 (List.drop x.1 l) (x.2.1:Int) (x.1:Int) },((decide (0<=(x1.1.2.1:Int)/\(x1.1.2.1:Int)<(d0.length:Int))&&(stA d0 x1.1.2.1).2.1)=true->(x1.1.2.2.length+[(x1.1.1:Int)].length)*8<=140737488355328/\((x1.1.1:Int)<(l.length:Int)->(0<=(x1.1.1:Int)/\(x1.1.1:Int)<(l.length:Int))/\EdS d0/\IR (l.getD x1.1.1 0)/\((if 0<=(x1.1.2.1:Int)/\(x1.1.2.1:Int)<(d0.length:Int) then if dz (stA d0 x1.1.2.1).1 (l.getD x1.1.1 0)=true then (0:Int) else (10:Int) else 2)=0->aG ((x1.1.1:Int)+1)/\(∃x2:{ x:Nat×Nat×List Int // x.1<=l.length/\x.2.1<d0.length/\x.2.2.length<=x.1/\enL d0 l 0 0=x.2.2++enL d0 (List.drop x.1 l) (x.2.1:Int) (x.1:Int) },l.length+1-x2.1.1<l.length+1-x1.1.1/\(if 0<=(x1.1.2.1:Int)/\(x1.1.2.1:Int)<(d0.length:Int) then gM (stA d0 x1.1.2.1).1 (l.getD x1.1.1 0) else 0)=(x2.1.2.1:Int)/\(x1.1.1:Int)+1=(x2.1.1:Int)/\(d0,d1,d2)=(d0,d1,d2)/\(d0,d1,d2)=(d0,d1,d2)/\l=l/\x1.1.2.2++[(x1.1.1:Int)]=x2.1.2.2))/\(¬(if 0<=(x1.1.2.1:Int)/\(x1.1.2.1:Int)<(d0.length:Int) then if dz (stA d0 x1.1.2.1).1 (l.getD x1.1.1 0)=true then (0:Int) else (10:Int) else 2)=0->x1.1.2.2++[(x1.1.1:Int)]=enL d0 l 0 0))/\(¬(x1.1.1:Int)<(l.length:Int)->x1.1.2.2++[(x1.1.1:Int)]=enL d0 l 0 0))/\(¬(decide (0<=(x1.1.2.1:Int)/\(x1.1.2.1:Int)<(d0.length:Int))&&(stA d0 x1.1.2.1).2.1)=true->((x1.1.1:Int)<(l.length:Int)->(0<=(x1.1.1:Int)/\(x1.1.1:Int)<(l.length:Int))/\EdS d0/\IR (l.getD x1.1.1 0)/\((if 0<=(x1.1.2.1:Int)/\(x1.1.2.1:Int)<(d0.length:Int) then if dz (stA d0 x1.1.2.1).1 (l.getD x1.1.1 0)=true then (0:Int) else (10:Int) else 2)=0->aG ((x1.1.1:Int)+1)/\(∃x2:{ x:Nat×Nat×List Int // x.1<=l.length/\x.2.1<d0.length/\x.2.2.length<=x.1/\enL d0 l 0 0=x.2.2++enL d0 (List.drop x.1 l) (x.2.1:Int) (x.1:Int) },l.length+1-x2.1.1<l.length+1-x1.1.1/\(if 0<=(x1.1.2.1:Int)/\(x1.1.2.1:Int)<(d0.length:Int) then gM (stA d0 x1.1.2.1).1 (l.getD x1.1.1 0) else 0)=(x2.1.2.1:Int)/\(x1.1.1:Int)+1=(x2.1.1:Int)/\(d0,d1,d2)=(d0,d1,d2)/\(d0,d1,d2)=(d0,d1,d2)/\l=l/\x1.1.2.2=x2.1.2.2))/\(¬(if 0<=(x1.1.2.1:Int)/\(x1.1.2.1:Int)<(d0.length:Int) then if dz (stA d0 x1.1.2.1).1 (l.getD x1.1.1 0)=true then (0:Int) else (10:Int) else 2)=0->x1.1.2.2=enL d0 l 0 0))/\(¬(x1.1.1:Int)<(l.length:Int)->x1.1.2.2=enL d0 l 0 0)))) (by kernel_rfl) ?_;have hp0:=hc1.pos;refine⟨⟨⟨(0,0,[]),Nat.zero_le _,hp0,Nat.zero_le _,rfl⟩,rfl,rfl,rfl,rfl,rfl,rfl,rfl⟩,?_⟩;rintro⟨⟨i,a,o⟩,x1,x2,x3,x4⟩;dsimp only at x1 x2 x3 x4 ⊢;have hp:0<=(a:Int)/\(a:Int)<(d0.length:Int):=⟨by omega,by omega⟩;rw[decide_eq_true hp,Bool.true_and];simp only[if_pos hp];have hun:enL d0 (l.drop i) a i=(if (stA d0 a).2.1=true then [(i:Int)] else [])++(if i<l.length/\dz (stA d0 a).1 (l.getD i 0)=true then enL d0 (l.drop (i+1)) (gM (stA d0 a).1 (l.getD i 0)) (i+1) else []):=by
  by_cases hk:i<l.length
  .rw[gu hk];show (if (stA d0 (a:Int).toNat).2.1=true then [(i:Int)] else [])++(if dz (stA d0 (a:Int).toNat).1 (l.getD i 0)=true then enL d0 (l.drop (i+1)) (gM (stA d0 (a:Int).toNat).1 (l.getD i 0)) (i+1) else [])=_;rw[Int.toNat_natCast];by_cases hn:dz (stA d0 a).1 (l.getD i 0)=true
   .rw[if_pos hn,if_pos (show i<l.length/\dz (stA d0 a).1 (l.getD i 0)=true from⟨hk,hn⟩)]
   .rw[if_neg hn,if_neg (fun h:i<l.length/\dz (stA d0 a).1 (l.getD i 0)=true=>hn h.2)]
  .rw[List.drop_of_length_le (by omega),if_neg (fun h:i<l.length/\dz (stA d0 a).1 (l.getD i 0)=true=>hk h.1),List.append_nil];show (if (stA d0 (a:Int).toNat).2.1=true then [(i:Int)] else [])=_;rw[Int.toNat_natCast]
 rw[hun] at x4;refine⟨fun he=>⟨by simp only[zN];omega,?_⟩,fun he=>?_⟩
 .rw[if_pos he,<- zO] at x4;have x6:(o++[(i:Int)]).length<=i+1:=by rw[zL,zN];omega
  generalize o++[(i:Int)]=p at x4 x6 ⊢;refine⟨fun h=>?_,fun h=>?_⟩
  .have hk:i<l.length:=by omega
   have hv:Utf8.valid (l.getD i 0)=true:=hc3 _ (eY hk);have hIR:IR (l.getD i 0):=by have:=bz.1 hv;unfold IR;omega
   refine⟨⟨by omega,h⟩,hc1.eds,hIR,fun h2=>?_,fun h2=>?_⟩
   .have hn:dz (stA d0 a).1 (l.getD i 0)=true:=by
     by_cases hn:dz (stA d0 a).1 (l.getD i 0)=true
     .exact hn
     .rw[if_neg hn] at h2;cases h2
    rw[if_pos ⟨hk,hn⟩] at x4;have hto:=hc1.to a x2 _ (pu hn);dsimp only at hto;refine⟨by unfold aG;omega,⟨(i+1,(gM (stA d0 a).1 (l.getD i 0)).toNat,p),hk,by dsimp only;omega,x6,?_⟩,by dsimp only;omega,by dsimp only;omega,by push_cast;rfl,trivial,trivial,trivial,rfl⟩;dsimp only;rw[x4,Int.toNat_of_nonneg hto.1];push_cast;rfl
   .rw[if_neg (fun h3=>h2 (by rw[if_pos h3.2])),List.append_nil] at x4;exact x4.symm
  .rw[if_neg (fun h3=>h (by omega)),List.append_nil] at x4;exact x4.symm
 .rw[if_neg he,List.nil_append] at x4;have x6:o.length<=i+1:=by omega
  refine⟨fun h=>?_,fun h=>?_⟩
  .have hk:i<l.length:=by omega
   have hv:Utf8.valid (l.getD i 0)=true:=hc3 _ (eY hk);have hIR:IR (l.getD i 0):=by have:=bz.1 hv;unfold IR;omega
   refine⟨⟨by omega,h⟩,hc1.eds,hIR,fun h2=>?_,fun h2=>?_⟩
   .have hn:dz (stA d0 a).1 (l.getD i 0)=true:=by
     by_cases hn:dz (stA d0 a).1 (l.getD i 0)=true
     .exact hn
     .rw[if_neg hn] at h2;cases h2
    rw[if_pos ⟨hk,hn⟩] at x4;have hto:=hc1.to a x2 _ (pu hn);dsimp only at hto;refine⟨by unfold aG;omega,⟨(i+1,(gM (stA d0 a).1 (l.getD i 0)).toNat,o),hk,by dsimp only;omega,x6,?_⟩,by dsimp only;omega,by dsimp only;omega,by push_cast;rfl,trivial,trivial,trivial,rfl⟩;dsimp only;rw[x4,Int.toNat_of_nonneg hto.1];push_cast;rfl
   .rw[if_neg (fun h3=>h2 (by rw[if_pos h3.2])),List.append_nil] at x4;exact x4.symm
  .rw[if_neg (fun h3=>h (by omega)),List.append_nil] at x4;exact x4.symm
end Go.EA
end
section
set_option maxRecDepth 100000
set_option maxHeartbeats 0
namespace Go.EA
open F
def Sl:(List ((List (Int×Int))×Bool×Int))×Int×List (Int)×List UInt8->List SV:=fun(d0,d1,d2,s)=>[.one (.vptr (.pair (.row (.pair (.row (.pair (.int .i32) (.int .i64))) (.pair .bool (.int .i64)))) (.pair (.int .i64) (.row (.int .i64)))) (d0,d1,d2) 0),.one (.str s)]
def YJ:(List ((List (Int×Int))×Bool×Int))×Int×List (Int)×List UInt8->SV×List Prop:=fun(d0,d1,d2,s)=>(.tup [.o (.str (loE d0 s).1),.o (.int .i64 (loE d0 s).2)],[rA d0,s.length<=1099511627776])
def Vb:Con:=⟨true,[some (.pair (.row (.pair (.row (.pair (.int .i32) (.int .i64))) (.pair .bool (.int .i64)))) (.pair (.int .i64) (.row (.int .i64)))),none],fun xs=>match xs with | [.one (.vptr (.pair (.row (.pair (.row (.pair (.int .i32) (.int .i64))) (.pair .bool (.int .i64)))) (.pair (.int .i64) (.row (.int .i64)))) (d0,d1,d2) 0),.one (.str s)]=>some (YJ (d0,d1,d2,s)) | _=>none⟩
noncomputable def NY:GP:=dx Sl YJ
theorem ML:∀a b,(Sl a).map aB=(Sl b).map aB->a=b:=by
 rintro⟨a0,a1,a2,a3⟩ ⟨b0,b1,b2,b3⟩ h;simp only[Sl,zK,List.map_nil,aB,aX,List.drop_zero,zG,AV.one.injEq,AV.agg.injEq,Lf.int.injEq,Lf.str.injEq,Lf.bool.injEq,Lf.vrow.injEq,Lf.vptr.injEq,and_true,true_and,and_assoc] at h;obtain⟨h0,h1⟩:=h;have h0:=Ty.enc_inj _ h0;simp only[zF] at h0;obtain⟨rfl,rfl,rfl⟩:=h0;subst h1
 rfl
theorem Qd:dG NY Vb:=aY ML (fun⟨_,_,_,_⟩ ⟨_,_,_,_⟩=>rfl) (fun⟨_,_,_,_⟩=>rfl) fun xs r h=>by
 simp only[Vb] at h;split at h
 .cases h;rename_i d0 d1 d2 s;exact⟨(d0,d1,d2,s),rfl,rfl⟩
 .cases h
theorem Yh {S:SC}(hB:SB S) (HV:aN S 500 (az DR)) (Ho:aN S 505 (az EI)) (IE:aN S 506 (az EW)) (h493:S.has 493 f493):aN S 493 (az NY):=by
 refine prM hB [] [⟨500,DR,TR⟩,⟨505,EI,SN⟩,⟨506,EW,PE⟩] trivial ⟨⟨HV,Fh⟩,⟨Ho,Fp⟩,⟨IE,FM⟩,trivial⟩ h493 (fun⟨d0,d1,d2,s⟩=>⟨rfl,rfl,rfl⟩) (fun(d0,d1,d2,s)=>fun _ _ _ _=>none) 400 ?_;rintro⟨d0,d1,d2,s⟩ hc;have hc1:rA d0:=hc.1;have hc2:s.length<=1099511627776:=hc.2.1;refine VC.use (p:=s.length<=1099511627776/\(tkE s=0->rA d0/\(tkL s).length<=1099511627776/\(∀(r:Int),r∈tkL s->Utf8.valid r=true)/\((↑(enL d0 (tkL s) 0 0).length:Int)=0->[]=(loE d0 s).1/\10=(loE d0 s).2)/\(¬(↑(enL d0 (tkL s) 0 0).length:Int)=0->aG ((↑(enL d0 (tkL s) 0 0).length:Int)-1)/\(0<=(↑(enL d0 (tkL s) 0 0).length:Int)-1/\(↑(enL d0 (tkL s) 0 0).length:Int)-1<(↑(enL d0 (tkL s) 0 0).length:Int))/\(0<=(enL d0 (tkL s) 0 0).getD ((↑(enL d0 (tkL s) 0 0).length:Int)-1).toNat 0/\(enL d0 (tkL s) 0 0).getD ((↑(enL d0 (tkL s) 0 0).length:Int)-1).toNat 0<=(↑(tkL s).length:Int))/\(aC (tkL s) none (some ((enL d0 (tkL s) 0 0).getD ((↑(enL d0 (tkL s) 0 0).length:Int)-1).toNat 0))).length<=1099511627776/\iJ (aC (tkL s) none (some ((enL d0 (tkL s) 0 0).getD ((↑(enL d0 (tkL s) 0 0).length:Int)-1).toNat 0)))=(loE d0 s).1/\0=(loE d0 s).2))/\(¬tkE s=0->[]=(loE d0 s).1/\tkE s=(loE d0 s).2)) (by kernel_rfl) ?_;refine⟨hc2,fun ht=>?_,fun ht=>?_⟩
 .obtain⟨t1,t2,t3⟩:=tu ht;have hval:∀r∈tkL s,Utf8.valid r=true:=by rw[t3];exact kD t1
  have hlen:(tkL s).length<=64:=by rw[t3];exact t2
  have hel:=xA d0 (tkL s) 0 0;refine⟨hc1,by omega,hval,fun h=>?_,fun h=>?_⟩
  .unfold loE;rw[if_pos ht,if_pos (by omega)];exact⟨rfl,rfl⟩
  .have e:(((enL d0 (tkL s) 0 0).length:Int)-1).toNat=(enL d0 (tkL s) 0 0).length-1:=by omega
   have hm:(enL d0 (tkL s) 0 0).getD ((enL d0 (tkL s) 0 0).length-1) 0∈enL d0 (tkL s) 0 0:=eY (by omega);have hb:=sH d0 (tkL s) 0 0 _ hm;have hE:loE d0 s=(iJ ((tkL s).take ((enL d0 (tkL s) 0 0).getD ((enL d0 (tkL s) 0 0).length-1) 0).toNat),0):=by
    unfold loE;rw[if_pos ht,if_neg (by omega)]
   rw[e,hE];have hcut:aC (tkL s) none (some ((enL d0 (tkL s) 0 0).getD ((enL d0 (tkL s) 0 0).length-1) 0))=(tkL s).take ((enL d0 (tkL s) 0 0).getD ((enL d0 (tkL s) 0 0).length-1) 0).toNat:=rfl;rw[hcut];exact⟨by unfold aG;omega,⟨by omega,by omega⟩,⟨by omega,by omega⟩,by rw[zP];omega,rfl,rfl⟩
 .unfold loE;rw[if_neg ht];exact⟨rfl,rfl⟩
end Go.EA
end
section
set_option maxRecDepth 100000
set_option maxHeartbeats 0
namespace Go.EA
open F
def enX (d:List StD) (s:List UInt8) (i:Nat):List Int:=enL d (aC (tkL s) (some ((i:Int)-1)) none) 0 0
def fX (x:Nat×List Int×List Int) (y:Nat×Int×Int):List Int:=(x.2.1.set ((x.1:Int)-1).toNat 65).set ((x.1:Int)-1).toNat y.2.1
def gX (x:Nat×List Int×List Int) (y:Nat×Int×Int):List Int:=x.2.2.set ((x.1:Int)-1).toNat y.2.2
def Py:(List ((List (Int×Int))×Bool×Int))×Int×List (Int)×List UInt8->List SV:=fun(d0,d1,d2,s)=>[.one (.vptr (.pair (.row (.pair (.row (.pair (.int .i32) (.int .i64))) (.pair .bool (.int .i64)))) (.pair (.int .i64) (.row (.int .i64)))) (d0,d1,d2) 0),.one (.str s)]
def YT:(List ((List (Int×Int))×Bool×Int))×Int×List (Int)×List UInt8->SV×List Prop:=fun(d0,d1,d2,s)=>(.tup [.o (.row .str (spE d0 s).1),.o (.int .i64 (spE d0 s).2)],[NwD d0 d2,s.length<=1099511627776])
def Qs:Con:=⟨false,[some (.pair (.row (.pair (.row (.pair (.int .i32) (.int .i64))) (.pair .bool (.int .i64)))) (.pair (.int .i64) (.row (.int .i64)))),none],fun xs=>match xs with | [.one (.vptr (.pair (.row (.pair (.row (.pair (.int .i32) (.int .i64))) (.pair .bool (.int .i64)))) (.pair (.int .i64) (.row (.int .i64)))) (d0,d1,d2) 0),.one (.str s)]=>some (YT (d0,d1,d2,s)) | _=>none⟩
noncomputable def EY:GP:=dx Py YT
theorem Np:∀a b,(Py a).map aB=(Py b).map aB->a=b:=by
 rintro⟨a0,a1,a2,a3⟩ ⟨b0,b1,b2,b3⟩ h;simp only[Py,zK,List.map_nil,aB,aX,List.drop_zero,zG,AV.one.injEq,AV.agg.injEq,Lf.int.injEq,Lf.str.injEq,Lf.bool.injEq,Lf.vrow.injEq,Lf.vptr.injEq,and_true,true_and,and_assoc] at h;obtain⟨h0,h1⟩:=h;have h0:=Ty.enc_inj _ h0;simp only[zF] at h0;obtain⟨rfl,rfl,rfl⟩:=h0;subst h1
 rfl
theorem Fj:dG EY Qs:=aY Np (fun⟨_,_,_,_⟩ ⟨_,_,_,_⟩=>rfl) (fun⟨_,_,_,_⟩=>rfl) fun xs r h=>by
 simp only[Qs] at h;split at h
 .cases h;rename_i d0 d1 d2 s;exact⟨(d0,d1,d2,s),rfl,rfl⟩
 .cases h
theorem Yx {S:SC}(hB:SB S) (HV:aN S 500 (az DR)) (Ho:aN S 505 (az EI)) (IE:aN S 506 (az EW)) (h508:S.has 508 f508) (h514:S.has 514 f514) (h497:S.has 497 f497):aN S 497 (az EY):=by
 refine prI hB [(508,f508),(514,f514)] [⟨500,DR,TR⟩,⟨505,EI,SN⟩,⟨506,EW,PE⟩] [] ⟨h508,h514,trivial⟩ ⟨⟨HV,Fh⟩,⟨Ho,Fp⟩,⟨IE,FM⟩,trivial⟩ trivial h497 (fun⟨d0,d1,d2,s⟩=>⟨rfl,rfl,rfl⟩) (fun(d0,d1,d2,s)=>fun f id T L=>match f,id with
  |497,0=>match T.getD 10 .junk with | .one (.ptr c _ _)=>some (.inv { x:Nat×List Int×List Int // SpI d0 (tkL s) x } (fun x=>([(10,.one (.ptr c 0 0))],[(c,.cell [.int .i64 ((x.1.1:Int)-1)]),(0,.row (.int .i64) x.1.2.1),(2,.row (.int .i64) x.1.2.2)])) (fun x=>x.1.1)) | _=>none
  |514,0=>match ae L 0,ae L 2,ae L 4,ae L 5 with | .row (.int .i64) F,.row (.int .i64) G,.cell [.int .i64 a],.cell [.row (.int .i64) E]=>some (.inv { x:Nat×Int×Int // SpJ d0 (tkL s) a E x } (fun x=>([(3,.one (.int .i64 ((x.1.1:Int)-1)))],[(0,.row (.int .i64) (F.set a.toNat x.1.2.1)),(2,.row (.int .i64) (G.set a.toNat x.1.2.2))])) (fun x=>x.1.1)) | _,_,_,_=>none
  |497,4=>match ae L 0,ae L 2 with | .row (.int .i64) F,.row (.int .i64) G=>some (.inv { x:Nat×Nat×List (List UInt8) // SpO d0 (tkL s) x } (fun x=>([(15,.one (.int .i64 x.1.2.1)),(14,.one (.osl L.length))],[(L.length,.row .str x.1.2.2)])) (fun x=>(tkL s).length-x.1.2.1)) | _,_=>none
  |_,_=>none) 4000 ?_
 rintro⟨d0,d1,d2,s⟩ hc;have hc1:NwD d0 d2:=hc.1;have hc2:s.length<=1099511627776:=hc.2.1;refine VC.use (p:=s.length<=1099511627776/\(tkE s=0->aG ((↑(tkL s).length:Int)+1)/\(0<=(↑(tkL s).length:Int)+1/\(↑(tkL s).length:Int)+1<=(↑(tkL s).length:Int)+1/\((↑(tkL s).length:Int)+1)*8<=140737488355328/\(↑(tkL s).length:Int)+1<=140737488355328)/\aG ((↑(tkL s).length:Int)+1)/\(0<=(↑(tkL s).length:Int)+1/\(↑(tkL s).length:Int)+1<=(↑(tkL s).length:Int)+1/\((↑(tkL s).length:Int)+1)*8<=140737488355328/\(↑(tkL s).length:Int)+1<=140737488355328)/\aG ((↑(tkL s).length:Int)-1)/\(∃x1:{ x:Nat×List Int×List Int // SpI d0 (tkL s) x },(d0,d1,d2)=(d0,d1,d2)/\tkL s=tkL s/\List.replicate ((↑(tkL s).length:Int)+1).toNat 0=x1.1.2.1/\List.replicate ((↑(tkL s).length:Int)+1).toNat 0=x1.1.2.2/\(↑(tkL s).length:Int)-1=(x1.1.1:Int)-1)/\(∀x1:{ x:Nat×List Int×List Int // SpI d0 (tkL s) x },(0<=(x1.1.1:Int)-1->(0<=(x1.1.1:Int)-1/\(x1.1.1:Int)-1<(x1.1.2.1.length:Int))/\((x1.1.1:Int)-1).toNat<x1.1.2.1.length/\(0<=(x1.1.1:Int)-1/\(x1.1.1:Int)-1<=(↑(tkL s).length:Int))/\rA d0/\(aC (tkL s) (some ((x1.1.1:Int)-1)) none).length<=1099511627776/\(∀(r:Int),r∈aC (tkL s) (some ((x1.1.1:Int)-1)) none->Utf8.valid r=true)/\aG ((↑(enX d0 s x1.1.1).length:Int)-1)/\(∃x2:{ x:Nat×Int×Int // SpJ d0 (tkL s) ((x1.1.1:Int)-1) (enX d0 s x1.1.1) x },(↑(enX d0 s x1.1.1).length:Int)-1=(x2.1.1:Int)-1/\x1.1.2.1.set ((x1.1.1:Int)-1).toNat 65=fX x1.1 x2.1/\x1.1.2.2=gX x1.1 x2.1/\(x1.1.1:Int)-1=(x1.1.1:Int)-1/\enX d0 s x1.1.1=enX d0 s x1.1.1)/\(∀x2:{ x:Nat×Int×Int // SpJ d0 (tkL s) ((x1.1.1:Int)-1) (enX d0 s x1.1.1) x },(0<=(x2.1.1:Int)-1->(0<=(x2.1.1:Int)-1/\(x2.1.1:Int)-1<(↑(enX d0 s x1.1.1).length:Int))/\aG ((x1.1.1:Int)-1+(enX d0 s x1.1.1).getD ((x2.1.1:Int)-1).toNat 0)/\(0<=(x1.1.1:Int)-1+(enX d0 s x1.1.1).getD ((x2.1.1:Int)-1).toNat 0/\(x1.1.1:Int)-1+(enX d0 s x1.1.1).getD ((x2.1.1:Int)-1).toNat 0<(↑(fX x1.1 x2.1).length:Int))/\((x1.1.1:Int)-1+(enX d0 s x1.1.1).getD ((x2.1.1:Int)-1).toNat 0).toNat<(fX x1.1 x2.1).length/\aG ((fX x1.1 x2.1).getD ((x1.1.1:Int)-1+(enX d0 s x1.1.1).getD ((x2.1.1:Int)-1).toNat 0).toNat 0+1)/\(0<=(x1.1.1:Int)-1/\(x1.1.1:Int)-1<(↑(fX x1.1 x2.1).length:Int))/\((x1.1.1:Int)-1).toNat<(fX x1.1 x2.1).length/\((fX x1.1 x2.1).getD ((x1.1.1:Int)-1+(enX d0 s x1.1.1).getD ((x2.1.1:Int)-1).toNat 0).toNat 0+1<(fX x1.1 x2.1).getD ((x1.1.1:Int)-1).toNat 0->((0<=(x1.1.1:Int)-1/\(x1.1.1:Int)-1<(↑(fX x1.1 x2.1).length:Int))/\((x1.1.1:Int)-1).toNat<(fX x1.1 x2.1).length/\(0<=(x1.1.1:Int)-1/\(x1.1.1:Int)-1<(↑(gX x1.1 x2.1).length:Int))/\((x1.1.1:Int)-1).toNat<(gX x1.1 x2.1).length/\aG ((x2.1.1:Int)-1-1)/\(∃x3:{ x:Nat×Int×Int // SpJ d0 (tkL s) ((x1.1.1:Int)-1) (enX d0 s x1.1.1) x },x3.1.1<x2.1.1/\(x2.1.1:Int)-1-1=(x3.1.1:Int)-1/\(fX x1.1 x2.1).set ((x1.1.1:Int)-1).toNat ((fX x1.1 x2.1).getD ((x1.1.1:Int)-1+(enX d0 s x1.1.1).getD ((x2.1.1:Int)-1).toNat 0).toNat 0+1)=fX x1.1 x3.1/\(gX x1.1 x2.1).set ((x1.1.1:Int)-1).toNat ((enX d0 s x1.1.1).getD ((x2.1.1:Int)-1).toNat 0)=gX x1.1 x3.1/\(x1.1.1:Int)-1=(x1.1.1:Int)-1/\enX d0 s x1.1.1=enX d0 s x1.1.1))/\((0<=(x1.1.1:Int)-1/\(x1.1.1:Int)-1<(↑(fX x1.1 x2.1).length:Int))/\((x1.1.1:Int)-1).toNat<(fX x1.1 x2.1).length/\(0<=(x1.1.1:Int)-1/\(x1.1.1:Int)-1<(↑(gX x1.1 x2.1).length:Int))/\((x1.1.1:Int)-1).toNat<(gX x1.1 x2.1).length/\aG ((x2.1.1:Int)-1-1)/\(∃x3:{ x:Nat×Int×Int // SpJ d0 (tkL s) ((x1.1.1:Int)-1) (enX d0 s x1.1.1) x },x3.1.1<x2.1.1/\(x2.1.1:Int)-1-1=(x3.1.1:Int)-1/\(fX x1.1 x2.1).set ((x1.1.1:Int)-1).toNat ((fX x1.1 x2.1).getD ((x1.1.1:Int)-1+(enX d0 s x1.1.1).getD ((x2.1.1:Int)-1).toNat 0).toNat 0+1)=fX x1.1 x3.1/\(gX x1.1 x2.1).set ((x1.1.1:Int)-1).toNat ((enX d0 s x1.1.1).getD ((x2.1.1:Int)-1).toNat 0)=gX x1.1 x3.1/\(x1.1.1:Int)-1=(x1.1.1:Int)-1/\enX d0 s x1.1.1=enX d0 s x1.1.1))/\((0<=(x1.1.1:Int)-1/\(x1.1.1:Int)-1<(↑(fX x1.1 x2.1).length:Int))/\((x1.1.1:Int)-1).toNat<(fX x1.1 x2.1).length/\(0<=(x1.1.1:Int)-1/\(x1.1.1:Int)-1<(↑(gX x1.1 x2.1).length:Int))/\((x1.1.1:Int)-1).toNat<(gX x1.1 x2.1).length/\aG ((x2.1.1:Int)-1-1)/\(∃x3:{ x:Nat×Int×Int // SpJ d0 (tkL s) ((x1.1.1:Int)-1) (enX d0 s x1.1.1) x },x3.1.1<x2.1.1/\(x2.1.1:Int)-1-1=(x3.1.1:Int)-1/\(fX x1.1 x2.1).set ((x1.1.1:Int)-1).toNat ((fX x1.1 x2.1).getD ((x1.1.1:Int)-1+(enX d0 s x1.1.1).getD ((x2.1.1:Int)-1).toNat 0).toNat 0+1)=fX x1.1 x3.1/\(gX x1.1 x2.1).set ((x1.1.1:Int)-1).toNat ((enX d0 s x1.1.1).getD ((x2.1.1:Int)-1).toNat 0)=gX x1.1 x3.1/\(x1.1.1:Int)-1=(x1.1.1:Int)-1/\enX d0 s x1.1.1=enX d0 s x1.1.1))/\(0<=(x1.1.1:Int)-1/\(x1.1.1:Int)-1<(↑(fX x1.1 x2.1).length:Int))/\((x1.1.1:Int)-1).toNat<(fX x1.1 x2.1).length/\(0<=(x1.1.1:Int)-1/\(x1.1.1:Int)-1<(↑(gX x1.1 x2.1).length:Int))/\((x1.1.1:Int)-1).toNat<(gX x1.1 x2.1).length/\aG ((x2.1.1:Int)-1-1)/\(∃x3:{ x:Nat×Int×Int // SpJ d0 (tkL s) ((x1.1.1:Int)-1) (enX d0 s x1.1.1) x },x3.1.1<x2.1.1/\(x2.1.1:Int)-1-1=(x3.1.1:Int)-1/\(fX x1.1 x2.1).set ((x1.1.1:Int)-1).toNat ((fX x1.1 x2.1).getD ((x1.1.1:Int)-1+(enX d0 s x1.1.1).getD ((x2.1.1:Int)-1).toNat 0).toNat 0+1)=fX x1.1 x3.1/\(gX x1.1 x2.1).set ((x1.1.1:Int)-1).toNat ((enX d0 s x1.1.1).getD ((x2.1.1:Int)-1).toNat 0)=gX x1.1 x3.1/\(x1.1.1:Int)-1=(x1.1.1:Int)-1/\enX d0 s x1.1.1=enX d0 s x1.1.1))/\(¬(fX x1.1 x2.1).getD ((x1.1.1:Int)-1+(enX d0 s x1.1.1).getD ((x2.1.1:Int)-1).toNat 0).toNat 0+1<(fX x1.1 x2.1).getD ((x1.1.1:Int)-1).toNat 0->aG ((x2.1.1:Int)-1-1)/\(∃x3:{ x:Nat×Int×Int // SpJ d0 (tkL s) ((x1.1.1:Int)-1) (enX d0 s x1.1.1) x },x3.1.1<x2.1.1/\(x2.1.1:Int)-1-1=(x3.1.1:Int)-1/\fX x1.1 x2.1=fX x1.1 x3.1/\gX x1.1 x2.1=gX x1.1 x3.1/\(x1.1.1:Int)-1=(x1.1.1:Int)-1/\enX d0 s x1.1.1=enX d0 s x1.1.1)))/\(¬0<=(x2.1.1:Int)-1->aG ((x1.1.1:Int)-1-1)/\(∃x3:{ x:Nat×List Int×List Int // SpI d0 (tkL s) x },x3.1.1<x1.1.1/\(d0,d1,d2)=(d0,d1,d2)/\tkL s=tkL s/\fX x1.1 x2.1=x3.1.2.1/\gX x1.1 x2.1=x3.1.2.2/\(x1.1.1:Int)-1-1=(x3.1.1:Int)-1))))/\(¬0<=(x1.1.1:Int)-1->((0:Int)<=(0:Int)/\(0:Int)<(x1.1.2.1.length:Int))/\0<x1.1.2.1.length/\(64<x1.1.2.1.getD 0 0->[]=(spE d0 s).1/\10=(spE d0 s).2)/\(¬64<x1.1.2.1.getD 0 0->(∃x2:{ x:Nat×Nat×List (List UInt8) // SpO d0 (tkL s) x },tkL s=tkL s/\x2.1.2.2=[]/\0=(x2.1.2.1:Int)/\x1.1.2.1=x1.1.2.1/\x1.1.2.2=x1.1.2.2/\(x1.1.1:Int)-1=(x1.1.1:Int)-1/\x2.1.2.2=[])/\(∀x2:{ x:Nat×Nat×List (List UInt8) // SpO d0 (tkL s) x },((x2.1.2.1:Int)<(↑(tkL s).length:Int)->(0<=(x2.1.2.1:Int)/\(x2.1.2.1:Int)<(x1.1.2.2.length:Int))/\x2.1.2.1<x1.1.2.2.length/\aG ((x2.1.2.1:Int)+x1.1.2.2.getD x2.1.2.1 0)/\(0<=(x2.1.2.1:Int)/\(x2.1.2.1:Int)<=(x2.1.2.1:Int)+x1.1.2.2.getD x2.1.2.1 0/\(x2.1.2.1:Int)+x1.1.2.2.getD x2.1.2.1 0<=(↑(tkL s).length:Int))/\(aC (tkL s) (some (x2.1.2.1:Int)) (some ((x2.1.2.1:Int)+x1.1.2.2.getD x2.1.2.1 0))).length<=1099511627776/\(x2.1.2.2.length+[iJ (aC (tkL s) (some (x2.1.2.1:Int)) (some ((x2.1.2.1:Int)+x1.1.2.2.getD x2.1.2.1 0)))].length)*16<=140737488355328/\(0<=(x2.1.2.1:Int)/\(x2.1.2.1:Int)<(x1.1.2.2.length:Int))/\x2.1.2.1<x1.1.2.2.length/\aG ((x2.1.2.1:Int)+x1.1.2.2.getD x2.1.2.1 0)/\(∃x3:{ x:Nat×Nat×List (List UInt8) // SpO d0 (tkL s) x },(tkL s).length-x3.1.2.1<(tkL s).length-x2.1.2.1/\tkL s=tkL s/\(x2.1.2.1:Int)+x1.1.2.2.getD x2.1.2.1 0=(x3.1.2.1:Int)/\x1.1.2.1=x1.1.2.1/\x1.1.2.2=x1.1.2.2/\(x1.1.1:Int)-1=(x1.1.1:Int)-1/\x2.1.2.2++[iJ (aC (tkL s) (some (x2.1.2.1:Int)) (some ((x2.1.2.1:Int)+x1.1.2.2.getD x2.1.2.1 0)))]=x3.1.2.2))/\(¬(x2.1.2.1:Int)<(↑(tkL s).length:Int)->x2.1.2.2=(spE d0 s).1/\0=(spE d0 s).2))))))/\(¬tkE s=0->[]=(spE d0 s).1/\tkE s=(spE d0 s).2)) (by kernel_rfl) ?_;have hw:=hc1.p;refine⟨hc2,fun ht=>?_,fun ht=>?_⟩
 .obtain⟨t1,t2,t3⟩:=tu ht;have hval:∀r∈tkL s,Utf8.valid r=true:=by rw[t3];exact kD t1
  have hlen:(tkL s).length<=64:=by rw[t3];exact t2
  have hSE:spE d0 s=if 64<((spT d0 (tkL s)).getD 0 (0,0)).1 then ([],10) else (spW (spT d0 (tkL s)) (tkL s) ((tkL s).length+1) 0,0):=by unfold spE;rw[if_pos ht]
  have hEX:∀i:Nat,enX d0 s (i+1)=enL d0 ((tkL s).drop i) 0 0:=fun i=>by
   unfold enX;have e:aC (tkL s) (some (((i+1:Nat):Int)-1)) none=(tkL s).drop (((i+1:Nat):Int)-1).toNat:=rfl;rw[e,show (((i+1:Nat):Int)-1).toNat=i by omega]
  have eL:((tkL s).length+1:Int).toNat=(tkL s).length+1:=by omega
  rw[eL];refine⟨by unfold aG;omega,⟨by omega,by omega,by omega,by omega⟩,by unfold aG;omega,⟨by omega,by omega,by omega,by omega⟩,by unfold aG;omega,⟨⟨((tkL s).length,List.replicate ((tkL s).length+1) 0,List.replicate ((tkL s).length+1) 0),SpI.start d0 (tkL s)⟩,rfl,rfl,rfl,rfl,rfl⟩,?_⟩;rintro⟨⟨i,F,G⟩,hI⟩;have hle:=hI.le;have hlf:=hI.lf;have hlg:=hI.lg;dsimp only at hle hlf hlg ⊢;refine⟨fun h=>?_,fun h=>?_⟩
  .obtain⟨a,rfl⟩:∃a,i=a+1:=⟨i-1,by omega⟩;have ea:((a+1:Nat):Int)-1=(a:Int):=by omega
   have hcut:aC (tkL s) (some ((a:Int))) none=(tkL s).drop a:=rfl;have hfX:∀y:Nat×Int×Int,fX (a+1,F,G) y=F.set a y.2.1:=fun y=>by
    unfold fX;dsimp only;rw[ea,Int.toNat_natCast,List.set_set]
   have hgX:∀y:Nat×Int×Int,gX (a+1,F,G) y=G.set a y.2.2:=fun y=>by
    unfold gX;dsimp only;rw[ea,Int.toNat_natCast]
   have hen:=hw.en ((tkL s).drop a);have hel:=xA d0 ((tkL s).drop a) 0 0;rw[List.length_drop] at hen hel;simp only[hEX,ea,hcut,Int.toNat_natCast,hfX,hgX];generalize hE:enL d0 ((tkL s).drop a) 0 0=E at hen hel ⊢;have hJE:∀y,SpJ d0 (tkL s) (((a+1:Nat):Int)-1) (enX d0 s (a+1)) y↔SpJ d0 (tkL s) (a:Int) E y:=fun y=>by rw[ea,hEX,hE]
   refine⟨⟨by omega,by omega⟩,by omega,⟨by omega,by omega⟩,hw.ok,by rw[List.length_drop];omega,fun r hr=>hval r (List.mem_of_mem_drop hr),by unfold aG;omega,⟨⟨(E.length,65,0),(hJE _).2 ⟨zJ _,by dsimp only;omega,by dsimp only;omega,by dsimp only;rw[List.take_length]⟩⟩,rfl,rfl,?_,trivial,trivial⟩,?_⟩
   .have:=hI.zr a (Nat.lt_succ_self a);dsimp only at this
    conv=>lhs;rw[<- vI (l:=G) (a:=a),this]
   .rintro⟨⟨m,p,q⟩,hJ⟩;have hJ:=(hJE _).1 hJ;dsimp only;have hJ1:=hJ.1;have hJ2:=hJ.2.1;have hJ3:=hJ.2.2.1;dsimp only at hJ1 hJ2 hJ3;have hsl:(F.set a p).length=(tkL s).length+1:=by rw[List.length_set];exact hlf
    have hsg:(G.set a q).length=(tkL s).length+1:=by rw[List.length_set];exact hlg
    refine⟨fun hm=>?_,fun hm=>?_⟩
    .obtain⟨b,rfl⟩:∃b,m=b+1:=⟨m-1,by omega⟩;have eb:((b+1:Nat):Int)-1=(b:Int):=by omega
     rw[eb,Int.toNat_natCast];have hn:=hen (E.getD b 0) (eY (by omega));have hst:=SpJ.step hJ;have e1:((a:Int)+E.getD b 0).toNat=a+(E.getD b 0).toNat:=by omega
     have hv:=SpJ.val (p:=p) hI hn.1 (by omega);have hvb:=xP d0 ((tkL s).drop (a+1)) ((E.getD b 0).toNat-1);rw[e1,hv,hsl,hsg,jw (by omega),List.set_set,List.set_set];generalize ((spT d0 ((tkL s).drop (a+1))).getD ((E.getD b 0).toNat-1) (0,0)).1=v at hst hvb ⊢;refine⟨⟨by omega,by omega⟩,by unfold aG;omega,⟨by omega,by omega⟩,by omega,by unfold aG;omega,⟨by omega,by omega⟩,by omega,fun hlt=>?_,fun hlt=>?_⟩
     .rw[if_pos hlt] at hst;have fin:(0<=(a:Int)/\(a:Int)<(((tkL s).length+1:Nat):Int))/\a<(tkL s).length+1/\(0<=(a:Int)/\(a:Int)<(((tkL s).length+1:Nat):Int))/\a<(tkL s).length+1/\aG ((b:Int)-1)/\∃x3:{ x:Nat×Int×Int // SpJ d0 (tkL s) (((a+1:Nat):Int)-1) (enX d0 s (a+1)) x },x3.1.1<b+1/\(b:Int)-1=(x3.1.1:Int)-1/\F.set a (v+1)=F.set a x3.1.2.1/\G.set a (E.getD b 0)=G.set a x3.1.2.2/\True/\True:=
       ⟨⟨by omega,by omega⟩,by omega,⟨by omega,by omega⟩,by omega,by unfold aG;omega,⟨(b,v+1,E.getD b 0),(hJE _).2 hst⟩,Nat.lt_succ_self b,rfl,rfl,rfl,trivial,trivial⟩
      exact⟨fin,fin,fin,fin⟩
     .rw[if_neg hlt] at hst;exact⟨by unfold aG;omega,⟨(b,p,q),(hJE _).2 hst⟩,Nat.lt_succ_self b,rfl,rfl,rfl,trivial,trivial⟩
    .obtain rfl:m=0:=by omega
     subst hE;exact⟨by unfold aG;omega,⟨(a,F.set a p,G.set a q),SpJ.out hI hJ⟩,Nat.lt_succ_self a,trivial,trivial,rfl,rfl,rfl⟩
  .obtain rfl:i=0:=by omega
   have h0:=(hI.at' 0 (zJ _) (Nat.zero_le _)).1;dsimp only at h0;refine⟨⟨by omega,by omega⟩,by omega,fun h2=>?_,fun h2=>⟨⟨⟨((tkL s).length+1,0,[]),Nat.zero_le _,by dsimp only;omega,Nat.zero_le _,by dsimp only;omega,rfl⟩,rfl,rfl,rfl,rfl,rfl,rfl,rfl⟩,?_⟩⟩
   .rw[hSE,if_pos (by omega)];exact⟨rfl,rfl⟩
   .rw[if_neg (by omega)] at hSE;rintro⟨⟨k,a,o⟩,hO⟩;have ho1:=hO.1;have ho2:=hO.2.1;have ho3:=hO.2.2.1;dsimp only at ho1 ho2 ho3 ⊢;refine⟨fun h3=>?_,fun h3=>?_⟩
    .obtain⟨k,rfl⟩:∃k',k=k'+1:=⟨k-1,by omega⟩;obtain⟨f1,f2,f3⟩:=SpO.next hw hI hO (by omega);have hcut:aC (tkL s) (some (a:Int)) (some ((a:Int)+G.getD a 0))=((tkL s).drop a).take (G.getD a 0).toNat:=by
      have e:aC (tkL s) (some (a:Int)) (some ((a:Int)+G.getD a 0))=((tkL s).drop (a:Int).toNat).take (((a:Int)+G.getD a 0).toNat-(a:Int).toNat):=rfl;rw[e,show ((a:Int)+G.getD a 0).toNat=a+(G.getD a 0).toNat by omega];rw[Int.toNat_natCast,Nat.add_sub_cancel_left]
     rw[hcut];refine⟨⟨by omega,by omega⟩,by omega,by unfold aG;omega,⟨by omega,by omega,by omega⟩,by rw[zP,List.length_drop];omega,by simp only[zN];omega,⟨by omega,by omega⟩,by omega,by unfold aG;omega,⟨(k,a+(G.getD a 0).toNat,o++[iJ (((tkL s).drop a).take (G.getD a 0).toNat)]),f3⟩,by dsimp only;omega,rfl,by dsimp only;omega,rfl,rfl,rfl,rfl⟩
    .rw[hSE,SpO.end hO (by omega)];exact⟨rfl,rfl⟩
 .unfold spE;rw[if_neg ht];exact⟨rfl,rfl⟩
end Go.EA
end
section
set_option maxRecDepth 100000
set_option maxHeartbeats 0
namespace Go.EA
open F
def mdB (l:List Wd) (s:List UInt8):Prop:=((l.length:Int)<=60/\(s.length:Int)+nH l<=800)/\kM l=0
instance (l:List Wd) (s:List UInt8):Decidable (mdB l s):=by unfold mdB;infer_instance
def wxW:List Wd:=[([97],1),([97,98],1),([98],1)]
def Xt:Unit->List SV:=fun _=>[]
def Yk:Unit->SV×List Prop:=fun _=>(.one (.bool true),[])
def WM:Con:=⟨true,[],fun xs=>match xs with | []=>some (Yk ()) | _=>none⟩
noncomputable def KG:GP:=dx Xt Yk
theorem MZ:∀a b,(Xt a).map aB=(Xt b).map aB->a=b:=by
 intro a b _;rfl
theorem Qj:dG KG WM:=aY MZ (fun _ _=>rfl) (fun _=>rfl) fun xs r h=>by
 simp only[WM] at h;split at h
 .cases h;exact⟨(),rfl,rfl⟩
 .cases h
theorem YP {S:SC}(hB:SB S) (Js:aN S 278 (az EG)) (Xl:aN S 493 (az NY)) (Iy:aN S 497 (az EY)) (h491:S.has 491 f491) (h500:S.has 500 f500) (h487:S.has 487 f487):aN S 487 (az KG):=by
 refine prM hB [(491,f491),(500,f500)] [⟨278,EG,SQ⟩,⟨493,NY,Vb⟩,⟨497,EY,Qs⟩] ⟨h491,h500,trivial⟩ ⟨⟨Js,FI⟩,⟨Xl,Qd⟩,⟨Iy,Fj⟩,trivial⟩ h487 (fun _=>⟨rfl,rfl,rfl⟩) (fun _=>fun _ _ _ _=>none) 2000 ?_;rintro _ hc;refine VC.use (p:=(3:Nat)<=(1099511627776:Nat)/\SmW [([97],1),([97,98],1),([98],1)]/\((0:Int)=(0:Int)->rA (List.map stD (aM [([97],1),([97,98],1),([98],1)]))/\(3:Nat)<=(1099511627776:Nat)/\NwD (List.map stD (aM [([97],1),([97,98],1),([98],1)])) (List.map (fun x=>x.2) [([97],1),([97,98],1),([98],1)])/\(3:Nat)<=(1099511627776:Nat)/\((0:Int)=(0:Int)->((loE (List.map stD (aM [([(97:UInt8)],(1:Int)),([(97:UInt8),(98:UInt8)],(1:Int)),([(98:UInt8)],(1:Int))])) [(97:UInt8),(98:UInt8),(98:UInt8)]).1=[(97:UInt8),(98:UInt8)]->((0:Int)=(0:Int)->((2:Int)=(2:Int)->((0:Int)<=(1:Int)/\(1:Int)<(2:Int))/\((spE (List.map stD (aM [([(97:UInt8)],(1:Int)),([(97:UInt8),(98:UInt8)],(1:Int)),([(98:UInt8)],(1:Int))])) [(97:UInt8),(98:UInt8),(98:UInt8)]).1.getD (1:Nat) []=[(98:UInt8)]->((0:Int)=(0:Int)->true=true)/\(¬(0:Int)=(0:Int)->false=true))/\(¬(spE (List.map stD (aM [([(97:UInt8)],(1:Int)),([(97:UInt8),(98:UInt8)],(1:Int)),([(98:UInt8)],(1:Int))])) [(97:UInt8),(98:UInt8),(98:UInt8)]).1.getD (1:Nat) []=[(98:UInt8)]->false=true))/\(¬(2:Int)=(2:Int)->false=true))/\(¬(0:Int)=(0:Int)->false=true))/\(¬(loE (List.map stD (aM [([(97:UInt8)],(1:Int)),([(97:UInt8),(98:UInt8)],(1:Int)),([(98:UInt8)],(1:Int))])) [(97:UInt8),(98:UInt8),(98:UInt8)]).1=[(97:UInt8),(98:UInt8)]->false=true))/\(¬(0:Int)=(0:Int)->false=true))/\(¬(0:Int)=(0:Int)->False)) (by kernel_rfl) ?_;have hN:NwD (List.map stD (aM wxW)) (List.map (fun x=>x.2) wxW):=⟨wxW,by decide +kernel,rfl,rfl⟩;refine⟨by decide,by unfold SmW;decide,fun _=>⟨hN.p.ok,by decide,hN,by decide,fun _=>⟨fun _=>⟨fun _=>⟨fun _=>⟨⟨by decide,by decide⟩,fun _=>⟨fun _=>rfl,fun h=>absurd rfl h⟩,fun h=>absurd (by decide +kernel) h⟩,fun h=>absurd rfl h⟩,fun h=>absurd rfl h⟩,fun h=>absurd (by decide +kernel) h⟩,fun h=>absurd rfl h⟩,fun h=>absurd rfl h⟩
def Qz:(List (List UInt8×Int))×List UInt8->List SV:=fun(l,s)=>[.one (.row (.pair .str (.int .i64)) l),.one (.str s)]
def YG:(List (List UInt8×Int))×List UInt8->SV×List Prop:=fun(l,s)=>(.ite (mdB l s) inferInstance (.tup [.o (.vptr DwT (iG (aA l)) 0),.o (.row WdT (aA l)),.o (.bool true)]) (.tup [.o .nilp,.o (.row WdT []),.o (.bool false)]),[l.length<=1048576,SmX l,s.length<=1099511627776])
def XM:Con:=⟨false,[some (.pair .str (.int .i64)),none],fun xs=>match xs with | [.one (.row (.pair .str (.int .i64)) l),.one (.str s)]=>some (YG (l,s)) | _=>none⟩
noncomputable def KE:GP:=dx Qz YG
theorem Mm:∀a b,(Qz a).map aB=(Qz b).map aB->a=b:=by
 rintro⟨a0,a1⟩ ⟨b0,b1⟩ h;simp only[Qz,zK,List.map_nil,aB,aX,zG,AV.one.injEq,AV.agg.injEq,Lf.int.injEq,Lf.str.injEq,Lf.bool.injEq,Lf.vrow.injEq,and_true,true_and,and_assoc] at h;obtain⟨h0,h1⟩:=h;have h0:=cZ h0;subst h0 h1
 rfl
theorem PY:dG KE XM:=aY Mm (fun⟨_,_⟩ ⟨_,_⟩=>rfl) (fun⟨_,_⟩=>rfl) fun xs r h=>by
 simp only[XM] at h;split at h
 .cases h;rename_i l s;exact⟨(l,s),rfl,rfl⟩
 .cases h
theorem YW {S:SC}(hB:SB S) (Js:aN S 278 (az EG)) (Xz:aN S 291 (az OV)) (h488:S.has 488 f488):aN S 488 (az KE):=by
 refine prI hB [] [⟨278,EG,SQ⟩,⟨291,OV,UF⟩] [] trivial ⟨⟨Js,FI⟩,⟨Xz,TC⟩,trivial⟩ trivial h488 (fun⟨l,s⟩=>⟨rfl,rfl,rfl⟩) (fun(l,s)=>fun f id T L=>match f,id with
  |488,0=>some (.inv { i:Nat // i<=l.length } (fun x=>([(17,.one (.int .i64 x.1)),(7,.one (.int .i64 ((s.length:Int)+nH (l.take x.1))))],[])) (fun x=>l.length-x.1))
  |_,_=>none) 2000 ?_
 rintro⟨l,s⟩ hc;have hc1:l.length<=1048576:=hc.1;have hc2:SmX l:=hc.2.1;have hc3:s.length<=1099511627776:=hc.2.2.1;refine VC.use (p:=(∃x1:{ i:Nat // i<=l.length },l=l/\(s.length:Int)=(s.length:Int)+nH (List.take x1.1 l)/\l=l/\(l.length:Int)=(l.length:Int)/\0=(x1.1:Int))/\(∀x1:{ i:Nat // i<=l.length },((x1.1:Int)<(l.length:Int)->(0<=(x1.1:Int)/\(x1.1:Int)<(l.length:Int))/\aG ((s.length:Int)+nH (List.take x1.1 l)+(↑(List.length (l.getD x1.1 ([],0)).1):Int))/\aG ((x1.1:Int)+1)/\(∃x2:{ i:Nat // i<=l.length },l.length-x2.1<l.length-x1.1/\l=l/\(s.length:Int)+nH (List.take x1.1 l)+(↑(List.length (l.getD x1.1 ([],0)).1):Int)=(s.length:Int)+nH (List.take x2.1 l)/\l=l/\(l.length:Int)=(l.length:Int)/\(x1.1:Int)+1=(x2.1:Int)))/\(¬(x1.1:Int)<(l.length:Int)->(60<(l.length:Int)->(mdB l s->False)/\(¬mdB l s->([]:List Wd)=[]/\false=false))/\(¬60<(l.length:Int)->(800<(s.length:Int)+nH (List.take x1.1 l)->(mdB l s->False)/\(¬mdB l s->([]:List Wd)=[]/\false=false))/\(¬800<(s.length:Int)+nH (List.take x1.1 l)->l.length<=1099511627776/\SmW l/\(kM l=0->(aA l).length<=1099511627776/\SmW (aA l)/\(isE (aA l)=0->(mdB l s->iG (aA l)=iG (aA l)/\aA l=aA l/\decide ((0:Int)=(0:Int))=true)/\(¬mdB l s->False))/\(¬isE (aA l)=0->(mdB l s->False)/\(¬mdB l s->aA l=[]/\decide (isE (aA l)=0)=false)))/\(¬kM l=0->(mdB l s->False)/\(¬mdB l s->([]:List Wd)=[]/\false=false))))))) (by kernel_rfl) ?_;refine⟨⟨⟨0,Nat.zero_le _⟩,rfl,by simp[nH],rfl,rfl,rfl⟩,?_⟩;rintro⟨i,hi⟩;dsimp only;obtain⟨b1,b2⟩:=GD hc2 i hi;have b3:=hc2.at i;refine⟨fun h=>⟨⟨by omega,h⟩,by unfold aG;omega,by unfold aG;omega,⟨i+1,by omega⟩,by dsimp only;omega,rfl,by dsimp only;rw[wB (by omega)];omega,rfl,rfl,by push_cast;rfl⟩,fun h=>?_⟩;rw[List.take_of_length_le (by omega)];refine⟨fun h2=>⟨fun hm=>absurd hm.1.1 (by omega),fun _=>⟨rfl,rfl⟩⟩,fun h2=>⟨fun h3=>⟨fun hm=>absurd hm.1.2 (by omega),fun _=>⟨rfl,rfl⟩⟩,fun h3=>⟨by omega,fun x hx=>Nat.le_trans (hc2 x hx) (by decide),fun hz=>?_,fun hz=>⟨fun hm=>absurd hm.2 hz,fun _=>⟨rfl,rfl⟩⟩⟩⟩⟩;obtain⟨e1,e2,e3⟩:=Bq hz;have he:isE (aA l)=0:=by rw[e1];exact e3
 have hm:mdB l s:=⟨⟨by omega,by omega⟩,hz⟩;have hn1:=uF l;exact⟨by omega,fun x hx=>Nat.le_trans (FU hc2 x hx) (by decide),fun _=>⟨fun _=>⟨rfl,rfl,rfl⟩,fun h=>absurd hm h⟩,fun h=>absurd he h⟩
end Go.EA
end
section
set_option maxRecDepth 100000
set_option maxHeartbeats 0
namespace Go.EA
open F
end Go.EA
end
section
set_option maxRecDepth 100000
set_option maxHeartbeats 0
namespace Go.EA
open F
end Go.EA
end
