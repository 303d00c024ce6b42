/- Layer 1: the reference. Conditions: none. -/
import Derived.Test.YtkpahammkkfphaaDoorEAf1
import Derived.Test.YtkpahammkkfphaaDoorEK9
import Derived.Test.YtkpahammkkfphaaDoorEBack
import Derived.Test.YtkpahammkkfphaaDoorEMean3
import Derived.Test.YtkpahammkkfphaaDoorERx
import Derived.Test.YtkpahammkkfphaaDoorEMean1
import Derived.KernelRfl
set_option linter.unusedVariables false
set_option linter.unusedSimpArgs false
set_option maxRecDepth 100000
set_option maxHeartbeats 0
namespace Go.EA
open F
def P57:Int->List SV:=fun r=>[.one (.int .i32 r)]
def R57:Int->SV×List Prop:=fun r=>(.one (.bool (Utf8.valid r)),[])
def K57:Con:=⟨true,[none],fun xs=>match xs with | [.one (.int .i32 r)]=>some (R57 r) | _=>none⟩
noncomputable def G57:GP:=dU P57 R57
theorem FK:∀a b,(P57 a).map aF=(P57 b).map aF->a=b:=by
 rintro a0 b0 h;simp only[P57,zK,List.map_nil,aF,bi,zG,AV.one.injEq,AV.agg.injEq,Lf.int.injEq,Lf.str.injEq,Lf.bool.injEq,Lf.vrow.injEq,and_true,true_and] at h;exact h
theorem xP:fA G57 K57:=bF FK (fun _ _=>rfl) (fun _=>rfl) fun xs r h=>by
 simp only[K57] at h;split at h
 .cases h;rename_i r;exact⟨r,rfl,rfl⟩
 .cases h
theorem LB {S:SC}(hB:SB S)  (h57:S.has 57 f57):aP S 57 (aC G57):=by
 refine prM hB [] [] trivial trivial h57 (fun _=>⟨rfl,rfl,rfl⟩) (fun r=>fun _ _ _ _=>none) 400 ?_;rintro r hc;refine VC.use (p:=(0<=r->(r<=1114111->(55296<=r->(!decide (r<=57343))=Utf8.valid r)/\(¬55296<=r->true=Utf8.valid r))/\(¬r<=1114111->false=Utf8.valid r))/\(¬0<=r->false=Utf8.valid r)) (by kernel_rfl) ?_;refine⟨fun h=>⟨fun h1=>⟨fun h2=>?_,fun h2=>?_⟩,fun h1=>?_⟩,fun h=>?_⟩ <;> (rw[Bool.eq_iff_iff]; simp[aY]; omega)
def P58:Int->List SV:=fun r=>[.one (.int .i32 r)]
def R58:Int->SV×List Prop:=fun r=>(.one (.row (.int .u8) (encI r)),[Utf8.valid r=true])
def K58:Con:=⟨false,[none],fun xs=>match xs with | [.one (.int .i32 r)]=>some (R58 r) | _=>none⟩
noncomputable def G58:GP:=dU P58 R58
theorem FC:∀a b,(P58 a).map aF=(P58 b).map aF->a=b:=by
 rintro a0 b0 h;simp only[P58,zK,List.map_nil,aF,bi,zG,AV.one.injEq,AV.agg.injEq,Lf.int.injEq,Lf.str.injEq,Lf.bool.injEq,Lf.vrow.injEq,and_true,true_and] at h;exact h
theorem Dr:fA G58 K58:=bF FC (fun _ _=>rfl) (fun _=>rfl) fun xs r h=>by
 simp only[K58] at h;split at h
 .cases h;rename_i r;exact⟨r,rfl,rfl⟩
 .cases h
theorem Me {S:SC}(hB:SB S)  (h58:S.has 58 f58):aP S 58 (aC G58):=by
 refine prM hB [] [] trivial trivial h58 (fun _=>⟨rfl,rfl,rfl⟩) (fun r=>fun _ _ _ _=>none) 400 ?_;rintro r hc;have hc1:Utf8.valid r=true:=hc.1;refine VC.use (p:=(r<128->[IntKind.u8.wrap r]=encI r)/\(¬r<128->(r<2048->(64:Int)≠(0:Int)/\(64:Int)≠(0:Int)/\[IntKind.u8.wrap (IntKind.i32.wrap (192+IntKind.i32.wrap (r.tdiv 64))),IntKind.u8.wrap (IntKind.i32.wrap (128+r.tmod 64))]=encI r)/\(¬r<2048->(r<65536->(4096:Int)≠(0:Int)/\(64:Int)≠(0:Int)/\(64:Int)≠(0:Int)/\(64:Int)≠(0:Int)/\[IntKind.u8.wrap (IntKind.i32.wrap (224+IntKind.i32.wrap (r.tdiv 4096))),IntKind.u8.wrap (IntKind.i32.wrap (128+(IntKind.i32.wrap (r.tdiv 64)).tmod 64)),IntKind.u8.wrap (IntKind.i32.wrap (128+r.tmod 64))]=encI r)/\(¬r<65536->(262144:Int)≠(0:Int)/\(4096:Int)≠(0:Int)/\(64:Int)≠(0:Int)/\(64:Int)≠(0:Int)/\(64:Int)≠(0:Int)/\(64:Int)≠(0:Int)/\[IntKind.u8.wrap (IntKind.i32.wrap (240+IntKind.i32.wrap (r.tdiv 262144))),IntKind.u8.wrap (IntKind.i32.wrap (128+(IntKind.i32.wrap (r.tdiv 4096)).tmod 64)),IntKind.u8.wrap (IntKind.i32.wrap (128+(IntKind.i32.wrap (r.tdiv 64)).tmod 64)),IntKind.u8.wrap (IntKind.i32.wrap (128+r.tmod 64))]=encI r)))) (by kernel_rfl) ?_;have hv2:=aY.1 hc1;have e1:r.tdiv 64=r / 64:=Int.tdiv_eq_ediv_of_nonneg (by omega);have e2:r.tdiv 4096=r / 4096:=Int.tdiv_eq_ediv_of_nonneg (by omega);have e3:r.tdiv 262144=r / 262144:=Int.tdiv_eq_ediv_of_nonneg (by omega);have e4:r.tmod 64=r % 64:=Int.tmod_eq_emod_of_nonneg (by omega);have e5:(r / 64).tmod 64=r / 64 % 64:=Int.tmod_eq_emod_of_nonneg (by omega);have e6:(r / 4096).tmod 64=r / 4096 % 64:=Int.tmod_eq_emod_of_nonneg (by omega);have k:(64:Int)≠0:=by decide
 have k2:(4096:Int)≠0:=by decide
 have k3:(262144:Int)≠0:=by decide
 refine⟨fun h=>?_,fun h=>⟨fun h1=>⟨k,k,?_⟩,fun h1=>⟨fun h2=>⟨k2,k,k,k,?_⟩,fun h2=>⟨k3,k2,k,k,k,k,?_⟩⟩⟩⟩
 .rw[DN hc1 h,yF (by omega)]
 .rw[DT hc1 (by omega) h1];simp only[e1,e4];simp(disch:=omega) only [wrap32,yF]
 .rw[BM hc1 (by omega) h2];simp only[e1,e2,e4];simp(disch:=omega) only [wrap32,e5];simp(disch:=omega) only [wrap32,yF]
 .rw[BN hc1 (by omega)];simp only[e1,e2,e3,e4];simp(disch:=omega) only [wrap32,e5,e6];simp(disch:=omega) only [wrap32,yF]
def P46:List UInt8->List SV:=fun s=>[.one (.str s)]
def R46:List UInt8->SV×List Prop:=fun s=>(.tup [.o (.int .i32 (dK s).1),.o (.int .i64 (dK s).2)],[])
def K46:Con:=⟨true,[none],fun xs=>match xs with | [.one (.str s)]=>some (R46 s) | _=>none⟩
noncomputable def G46:GP:=dU P46 R46
theorem Ga:∀a b,(P46 a).map aF=(P46 b).map aF->a=b:=by
 rintro a0 b0 h;simp only[P46,zK,List.map_nil,aF,bi,zG,AV.one.injEq,AV.agg.injEq,Lf.int.injEq,Lf.str.injEq,Lf.bool.injEq,Lf.vrow.injEq,and_true,true_and] at h;exact h
theorem Je:fA G46 K46:=bF Ga (fun _ _=>rfl) (fun _=>rfl) fun xs r h=>by
 simp only[K46] at h;split at h
 .cases h;rename_i s;exact⟨s,rfl,rfl⟩
 .cases h
theorem LW {S:SC}(hB:SB S) (q57:aP S 57 (aC G57)) (q58:aP S 58 (aC G58)) (h46:S.has 46 f46):aP S 46 (aC G46):=by
 refine prM hB [] [⟨57,G57,K57⟩,⟨58,G58,K58⟩] trivial ⟨⟨q57,xP⟩,⟨q58,Dr⟩,trivial⟩ h46 (fun _=>⟨rfl,rfl,rfl⟩) (fun s=>fun f id T L=>match f,id with
  |46,0=>some (.inv { n:Nat // 1<=n/\n<=5/\(s≠[]->isR s=true->n<=(dec s).2) } (fun x=>([(4,.one (.int .i64 x.1))],[])) (fun x=>5-x.1))
  |46,2=>match T.getD 4 .junk with | .one (.int _ n)=>some (.cut Unit (fun _=>([(5,.one (.int .i32 (ax s n 1)))],[]))) | _=>none
  |46,3=>match T.getD 4 .junk with | .one (.int _ n)=>some (.inv { p:Nat // 1<=p/\(p:Int)<=n } (fun x=>([(6,.one (.int .i64 x.1)),(5,.one (.int .i32 (ax s n x.1)))],[])) (fun x=>n.toNat-x.1)) | _=>none
  |_,_=>none) 400 ?_
 rintro s hc;refine VC.use (p:=(∃x1:{ n:Nat // 1<=n/\n<=5/\(s≠[]->isR s=true->n<=(dec s).2) },s=s/\1=(x1.1:Int))/\(∀x1:{ n:Nat // 1<=n/\n<=5/\(s≠[]->isR s=true->n<=(dec s).2) },((x1.1:Int)<=4->((x1.1:Int)<=(s.length:Int)->((0:Int)<=(0:Int)/\(0:Int)<(s.length:Int))/\(((x1.1:Int)=2->∃x2:Unit,s=s/\(x1.1:Int)=(x1.1:Int)/\IntKind.i32.wrap (IntKind.i32.wrap (↑(s.getD 0 0).toNat:Int)-192)=ax s (x1.1:Int) 1)/\(¬(x1.1:Int)=2->((x1.1:Int)=3->∃x2:Unit,s=s/\(x1.1:Int)=(x1.1:Int)/\IntKind.i32.wrap (IntKind.i32.wrap (↑(s.getD 0 0).toNat:Int)-224)=ax s (x1.1:Int) 1)/\(¬(x1.1:Int)=3->((x1.1:Int)=4->∃x2:Unit,s=s/\(x1.1:Int)=(x1.1:Int)/\IntKind.i32.wrap (IntKind.i32.wrap (↑(s.getD 0 0).toNat:Int)-240)=ax s (x1.1:Int) 1)/\(¬(x1.1:Int)=4->∃x2:Unit,s=s/\(x1.1:Int)=(x1.1:Int)/\IntKind.i32.wrap (↑(s.getD 0 0).toNat:Int)=ax s (x1.1:Int) 1))))/\(∀x2:Unit,(∃x3:{ p:Nat // 1<=p/\(p:Int)<=(x1.1:Int) },s=s/\(x1.1:Int)=(x1.1:Int)/\ax s (x1.1:Int) 1=ax s (x1.1:Int) x3.1/\1=(x3.1:Int))/\(∀x3:{ p:Nat // 1<=p/\(p:Int)<=(x1.1:Int) },((x3.1:Int)<(x1.1:Int)->(0<=(x3.1:Int)/\(x3.1:Int)<(s.length:Int))/\aZ ((x3.1:Int)+1)/\(∃x4:{ p:Nat // 1<=p/\(p:Int)<=(x1.1:Int) },x1.1-x4.1<x1.1-x3.1/\s=s/\(x1.1:Int)=(x1.1:Int)/\IntKind.i32.wrap (IntKind.i32.wrap (IntKind.i32.wrap (ax s (x1.1:Int) x3.1*64)+IntKind.i32.wrap (↑(s.getD x3.1 0).toNat:Int))-128)=ax s (x1.1:Int) x4.1/\(x3.1:Int)+1=(x4.1:Int)))/\(¬(x3.1:Int)<(x1.1:Int)->(Utf8.valid (ax s (x1.1:Int) x3.1)=true->Utf8.valid (ax s (x1.1:Int) x3.1)=true/\(0<=(x1.1:Int)/\(x1.1:Int)<=(s.length:Int))/\(List.map (fun z=>UInt8.ofNat (Int.toNat z)) (encI (ax s (x1.1:Int) x3.1))=dZ s none (some (x1.1:Int))->ax s (x1.1:Int) x3.1=(dK s).1/\(x1.1:Int)=(dK s).2)/\(¬List.map (fun z=>UInt8.ofNat (Int.toNat z)) (encI (ax s (x1.1:Int) x3.1))=dZ s none (some (x1.1:Int))->aZ ((x1.1:Int)+1)/\(∃x4:{ n:Nat // 1<=n/\n<=5/\(s≠[]->isR s=true->n<=(dec s).2) },5-x4.1<5-x1.1/\s=s/\(x1.1:Int)+1=(x4.1:Int))))/\(¬Utf8.valid (ax s (x1.1:Int) x3.1)=true->aZ ((x1.1:Int)+1)/\(∃x4:{ n:Nat // 1<=n/\n<=5/\(s≠[]->isR s=true->n<=(dec s).2) },5-x4.1<5-x1.1/\s=s/\(x1.1:Int)+1=(x4.1:Int)))))))/\(¬(x1.1:Int)<=(s.length:Int)->0=(dK s).1/\0=(dK s).2))/\(¬(x1.1:Int)<=4->0=(dK s).1/\0=(dK s).2))) (by kernel_rfl) ?_;refine⟨⟨⟨1,by omega,by omega,fun a b=>(bH a).1⟩,rfl,rfl⟩,?_⟩;rintro⟨n,h1,h5,hn⟩;dsimp only;refine⟨fun h4=>⟨fun hl=>⟨by omega,⟨fun e=>?_,fun e=>⟨fun e=>?_,fun e=>⟨fun e=>?_,fun e=>?_⟩⟩⟩,?_⟩,fun hl=>?_⟩,fun h4=>?_⟩
 .exact⟨(),rfl,rfl,by rw[e];rfl⟩
 .exact⟨(),rfl,rfl,by rw[e];rfl⟩
 .exact⟨(),rfl,rfl,by rw[e];rfl⟩
 .refine⟨(),rfl,rfl,?_⟩;obtain rfl:n=1:=by omega
  rfl
 .intro _;refine⟨⟨⟨1,by omega,by omega⟩,rfl,rfl,rfl,rfl⟩,?_⟩;rintro⟨p,p1,pn⟩;dsimp only;refine⟨fun hp=>⟨by omega,by unfold aZ;omega,⟨⟨p+1,by omega,by omega⟩,by show n-(p+1)<n-p;omega,rfl,rfl,(FJ s n p1).symm,by show _=((p+1:Nat):Int);omega⟩⟩,fun hp=>?_⟩;obtain rfl:p=n:=by omega
  rw[KQ s h1 (by omega),unB];have ec:dZ s none (some (p:Int))=s.take p:=rfl;rw[ec];refine⟨fun hv=>⟨hv,by omega,fun he=>?_,fun he=>⟨by unfold aZ;omega,⟨⟨p+1,by omega,by omega,tH hn fun _=>he⟩,by show 5-(p+1)<5-p;omega,rfl,by show _=((p+1:Nat):Int);omega⟩⟩⟩,fun hv=>⟨by unfold aZ;omega,⟨⟨p+1,by omega,by omega,tH hn fun h=>absurd h hv⟩,by show 5-(p+1)<5-p;omega,rfl,by show _=((p+1:Nat):Int);omega⟩⟩⟩;rw[HV hv (by omega) he];exact⟨rfl,rfl⟩
 .rw[uI hn (by omega)];exact⟨rfl,rfl⟩
 .rw[uI hn (by omega)];exact⟨rfl,rfl⟩
def P19:List UInt8->List SV:=fun s=>[.one (.str s)]
def R19:List UInt8->SV×List Prop:=fun s=>(.tup [.o (.row (.int .i32) (aS s)),.o (.int .i64 (iL s))],[s.length<=1099511627776])
def K19:Con:=⟨false,[none],fun xs=>match xs with | [.one (.str s)]=>some (R19 s) | _=>none⟩
noncomputable def G19:GP:=dU P19 R19
theorem GN:∀a b,(P19 a).map aF=(P19 b).map aF->a=b:=by
 rintro a0 b0 h;simp only[P19,zK,List.map_nil,aF,bi,zG,AV.one.injEq,AV.agg.injEq,Lf.int.injEq,Lf.str.injEq,Lf.bool.injEq,Lf.vrow.injEq,and_true,true_and] at h;exact h
theorem JE:fA G19 K19:=bF GN (fun _ _=>rfl) (fun _=>rfl) fun xs r h=>by
 simp only[K19] at h;split at h
 .cases h;rename_i s;exact⟨s,rfl,rfl⟩
 .cases h
theorem LK {S:SC}(hB:SB S) (q46:aP S 46 (aC G46)) (h19:S.has 19 f19):aP S 19 (aC G19):=by
 refine prM hB [] [⟨46,G46,K46⟩] trivial ⟨⟨q46,Je⟩,trivial⟩ h19 (fun _=>⟨rfl,rfl,rfl⟩) (fun s=>fun f id T L=>match f,id with
  |19,0=>some (.inv { p:List UInt8×List Int // runes s=(p.2.map fun r=>(r,true))++runes p.1/\p.2.length+p.1.length<=s.length } (fun x=>([(0,.one (.str x.1.1)),(4,.one (.osl 0))],[(0,.row (.int .i32) x.1.2)])) (fun x=>x.1.1.length))
  |_,_=>none) 400 ?_
 rintro s hc;have hc1:s.length<=1099511627776:=hc.1;refine VC.use (p:=(∃x1:{ p:List UInt8×List Int // runes s=List.map (fun r=>(r,true)) p.2++runes p.1/\p.2.length+p.1.length<=s.length },s=x1.1.1/\x1.1.2=[]/\x1.1.2=[])/\(∀x1:{ p:List UInt8×List Int // runes s=List.map (fun r=>(r,true)) p.2++runes p.1/\p.2.length+p.1.length<=s.length },(0<(x1.1.1.length:Int)->((dK x1.1.1).2=0->aS s=[]/\3=iL s)/\(¬(dK x1.1.1).2=0->(x1.1.2.length+[(dK x1.1.1).1].length)*4<=140737488355328/\(0<=(dK x1.1.1).2/\(dK x1.1.1).2<=(x1.1.1.length:Int))/\(∃x2:{ p:List UInt8×List Int // runes s=List.map (fun r=>(r,true)) p.2++runes p.1/\p.2.length+p.1.length<=s.length },x2.1.1.length<x1.1.1.length/\dZ x1.1.1 (some (dK x1.1.1).2) none=x2.1.1/\x1.1.2++[(dK x1.1.1).1]=x2.1.2)))/\(¬0<(x1.1.1.length:Int)->x1.1.2=aS s/\0=iL s))) (by kernel_rfl) ?_;refine⟨⟨⟨(s,[]),rfl,by simp⟩,rfl,rfl,rfl⟩,?_⟩;rintro⟨⟨t,o⟩,h,hl⟩;dsimp only at h hl ⊢;have hbd:=Js t;refine⟨fun h0=>⟨fun h1=>?_,fun h1=>⟨?_,hbd,⟨(t.drop (dK t).2.toNat,o++[(dK t).1]),BK h h1,?_⟩,?_,rfl,rfl⟩⟩,fun h0=>?_⟩
 .obtain⟨e1,e2⟩:=FW h (by rintro rfl;simp at h0) h1;exact⟨e1,e2.symm⟩
 .simp;omega
 .simp;omega
 .simp;omega
 .obtain rfl:t=[]:=zT (by omega);obtain⟨e1,e2⟩:=FX h;exact⟨e1.symm,e2.symm⟩
def P36:Int->List SV:=fun r=>[.one (.int .i32 r)]
def R36:Int->SV×List Prop:=fun r=>(.one (.bool (aj r)),[])
def K36:Con:=⟨true,[none],fun xs=>match xs with | [.one (.int .i32 r)]=>some (R36 r) | _=>none⟩
noncomputable def G36:GP:=dU P36 R36
theorem Gs:∀a b,(P36 a).map aF=(P36 b).map aF->a=b:=by
 rintro a0 b0 h;simp only[P36,zK,List.map_nil,aF,bi,zG,AV.one.injEq,AV.agg.injEq,Lf.int.injEq,Lf.str.injEq,Lf.bool.injEq,Lf.vrow.injEq,and_true,true_and] at h;exact h
theorem Jn:fA G36 K36:=bF Gs (fun _ _=>rfl) (fun _=>rfl) fun xs r h=>by
 simp only[K36] at h;split at h
 .cases h;rename_i r;exact⟨r,rfl,rfl⟩
 .cases h
theorem LM {S:SC}(hB:SB S) (q57:aP S 57 (aC G57)) (h36:S.has 36 f36):aP S 36 (aC G36):=by
 refine prM hB [] [⟨57,G57,K57⟩] trivial ⟨⟨q57,xP⟩,trivial⟩ h36 (fun _=>⟨rfl,rfl,rfl⟩) (fun r=>fun _ _ _ _=>none) 400 ?_;rintro r hc;refine VC.use (p:=(65<=r->(r<=90->true=aj r)/\(¬r<=90->(97<=r->(r<=122->true=aj r)/\(¬r<=122->(Utf8.valid r=true->(192<=r->(r=215->false=aj r)/\(¬r=215->(r=247->false=aj r)/\(¬r=247->(8192<=r->(!decide (r<=8303))=aj r)/\(¬8192<=r->true=aj r))))/\(¬192<=r->false=aj r))/\(¬Utf8.valid r=true->false=aj r)))/\(¬97<=r->(Utf8.valid r=true->(192<=r->(r=215->false=aj r)/\(¬r=215->(r=247->false=aj r)/\(¬r=247->(8192<=r->(!decide (r<=8303))=aj r)/\(¬8192<=r->true=aj r))))/\(¬192<=r->false=aj r))/\(¬Utf8.valid r=true->false=aj r))))/\(¬65<=r->(97<=r->(r<=122->true=aj r)/\(¬r<=122->(Utf8.valid r=true->(192<=r->(r=215->false=aj r)/\(¬r=215->(r=247->false=aj r)/\(¬r=247->(8192<=r->(!decide (r<=8303))=aj r)/\(¬8192<=r->true=aj r))))/\(¬192<=r->false=aj r))/\(¬Utf8.valid r=true->false=aj r)))/\(¬97<=r->(Utf8.valid r=true->(192<=r->(r=215->false=aj r)/\(¬r=215->(r=247->false=aj r)/\(¬r=247->(8192<=r->(!decide (r<=8303))=aj r)/\(¬8192<=r->true=aj r))))/\(¬192<=r->false=aj r))/\(¬Utf8.valid r=true->false=aj r)))) (by kernel_rfl) ?_;have hv1:65<=r->r<=122->Utf8.valid r=true:=fun a b=>aY.2 (by omega)
 repeat' (first | intro h | apply And.intro)
 all_goals
  unfold aj;rw[Bool.eq_iff_iff]
  first
   |(rw[hv1 (by omega) (by omega)];simp;omega)
   |(simp[*] <;> omega)
def P34:List Int->List SV:=fun l=>[.one (.row (.int .i32) l)]
def R34:List Int->SV×List Prop:=fun l=>(.tup [.o (.str (eQ l)),.o (.int .i64 (rT l))],[l.length<=1099511627776])
def K34:Con:=⟨true,[some (.int .i32)],fun xs=>match xs with | [.one (.row (.int .i32) l)]=>some (R34 l) | _=>none⟩
noncomputable def G34:GP:=dU P34 R34
theorem Hq:∀a b,(P34 a).map aF=(P34 b).map aF->a=b:=by
 rintro a0 b0 h;simp only[P34,zK,List.map_nil,aF,bi,zG,AV.one.injEq,AV.agg.injEq,Lf.int.injEq,Lf.str.injEq,Lf.bool.injEq,Lf.vrow.injEq,and_true,true_and] at h;exact dL h
theorem Ke:fA G34 K34:=bF Hq (fun _ _=>rfl) (fun _=>rfl) fun xs r h=>by
 simp only[K34] at h;split at h
 .cases h;rename_i l;exact⟨l,rfl,rfl⟩
 .cases h
theorem Mi {S:SC}(hB:SB S) (q57:aP S 57 (aC G57)) (q58:aP S 58 (aC G58)) (h34:S.has 34 f34):aP S 34 (aC G34):=by
 refine prM hB [] [⟨57,G57,K57⟩,⟨58,G58,K58⟩] trivial ⟨⟨q57,xP⟩,⟨q58,Dr⟩,trivial⟩ h34 (fun _=>⟨rfl,rfl,rfl⟩) (fun l=>fun f id T L=>match f,id with
  |34,0=>some (.inv { p:Nat×List Int // p.1<=l.length/\(l.take p.1).all Utf8.valid=true/\p.2=iC (l.take p.1) } (fun x=>([(9,.one (.int .i64 x.1.1)),(4,.one (.osl 0))],[(0,.row (.int .u8) x.1.2)])) (fun x=>l.length-x.1.1))
  |_,_=>none) 400 ?_
 rintro l hc;have hc1:l.length<=1099511627776:=hc.1;refine VC.use (p:=(∃x1:{ p:Nat×List Int // p.1<=l.length/\(List.take p.1 l).all Utf8.valid=true/\p.2=iC (List.take p.1 l) },x1.1.2=[]/\l=l/\(l.length:Int)=(l.length:Int)/\0=(x1.1.1:Int)/\x1.1.2=[])/\(∀x1:{ p:Nat×List Int // p.1<=l.length/\(List.take p.1 l).all Utf8.valid=true/\p.2=iC (List.take p.1 l) },((x1.1.1:Int)<(l.length:Int)->(0<=(x1.1.1:Int)/\(x1.1.1:Int)<(l.length:Int))/\((!Utf8.valid (l.getD x1.1.1 0))=true->[]=eQ l/\3=rT l)/\(¬(!Utf8.valid (l.getD x1.1.1 0))=true->Utf8.valid (l.getD x1.1.1 0)=true/\(x1.1.2.length+(encI (l.getD x1.1.1 0)).length)*1<=140737488355328/\aZ ((x1.1.1:Int)+1)/\(∃x2:{ p:Nat×List Int // p.1<=l.length/\(List.take p.1 l).all Utf8.valid=true/\p.2=iC (List.take p.1 l) },l.length-x2.1.1<l.length-x1.1.1/\l=l/\(l.length:Int)=(l.length:Int)/\(x1.1.1:Int)+1=(x2.1.1:Int)/\x1.1.2++encI (l.getD x1.1.1 0)=x2.1.2)))/\(¬(x1.1.1:Int)<(l.length:Int)->List.map (fun z=>UInt8.ofNat (Int.toNat z)) x1.1.2=eQ l/\0=rT l))) (by kernel_rfl) ?_;refine⟨⟨⟨(0,[]),by omega,rfl,rfl⟩,rfl,rfl,rfl,rfl,rfl⟩,?_⟩;rintro⟨⟨i,o⟩,hi,ha,ho⟩;dsimp only at hi ha ho ⊢;have hol:o.length<=4398046511104:=by rw[ho,oH,zR];exact Gg ha hc1 rfl
 refine⟨fun h=>⟨by omega,fun h1=>?_,fun h1=>?_⟩,fun h=>?_⟩
 .obtain⟨e1,e2⟩:=Gz h (by simpa using h1);exact⟨e1.symm,e2.symm⟩
 .have hv:Utf8.valid (l.getD i 0)=true:=by simpa using h1
  have hb:=vD hv;refine⟨hv,?_,by unfold aZ;omega,⟨(i+1,o++encI (l.getD i 0)),by show i+1<=l.length;omega,CK h hv ha,?_⟩,by show l.length-(i+1)<l.length-i;omega,rfl,rfl,by show _=((i+1:Nat):Int);omega,rfl⟩
  .unfold encI;rw[zR];omega
  .rw[wC h,<- ho]
 .obtain⟨e1,e2⟩:=CS h ha rfl;rw[e1,e2,ho,oH,List.map_map];exact⟨by conv=>{ rhs;rw[<- List.map_id (bf _)] };exact List.map_congr_left fun x _=>by simp,rfl⟩
end Go.EA
