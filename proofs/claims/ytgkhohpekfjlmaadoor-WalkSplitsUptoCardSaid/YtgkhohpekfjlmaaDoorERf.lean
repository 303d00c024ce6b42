/- Layer 1: the reference. Conditions: none. -/
import Derived.Test.YtgkhohpekfjlmaaDoorEAf1
import Derived.Test.YtgkhohpekfjlmaaDoorEK9
import Derived.Test.YtgkhohpekfjlmaaDoorEMean6
import Derived.Test.YtgkhohpekfjlmaaDoorERx
import Derived.Test.YtgkhohpekfjlmaaDoorEMean1
import Derived.KernelRfl
set_option linter.unusedVariables false
set_option linter.unusedSimpArgs false
set_option maxRecDepth 100000
set_option maxHeartbeats 0
namespace Go.EA
open F
def P57:Int->List SV:=fun r=>[.one (.int .i32 r)]
def R57:Int->SV×List Prop:=fun r=>(.one (.bool (Utf8.valid r)),[])
def K57:Con:=⟨true,[none],fun xs=>match xs with | [.one (.int .i32 r)]=>some (R57 r) | _=>none⟩
noncomputable def G57:GP:=dx P57 R57
theorem PQ:∀a b,(P57 a).map aB=(P57 b).map aB->a=b:=by
 rintro a0 b0 h;simp only[P57,zK,List.map_nil,aB,aX,zG,AV.one.injEq,AV.agg.injEq,Lf.int.injEq,Lf.str.injEq,Lf.bool.injEq,Lf.vrow.injEq,and_true,true_and] at h;exact h
theorem VF:dG G57 K57:=aY PQ (fun _ _=>rfl) (fun _=>rfl) fun xs r h=>by
 simp only[K57] at h;split at h
 .cases h;rename_i r;exact⟨r,rfl,rfl⟩
 .cases h
theorem ZW {S:SC}(hB:SB S)  (h57:S.has 57 f57):aN S 57 (az G57):=by
 refine prM hB [] [] trivial trivial h57 (fun _=>⟨rfl,rfl,rfl⟩) (fun r=>fun _ _ _ _=>none) 400 ?_;rintro r hc;refine VC.use (p:=(0<=r->(r<=1114111->(55296<=r->(!decide (r<=57343))=Utf8.valid r)/\(¬55296<=r->true=Utf8.valid r))/\(¬r<=1114111->false=Utf8.valid r))/\(¬0<=r->false=Utf8.valid r)) (by kernel_rfl) ?_;refine⟨fun h=>⟨fun h1=>⟨fun h2=>?_,fun h2=>?_⟩,fun h1=>?_⟩,fun h=>?_⟩ <;> (rw[Bool.eq_iff_iff]; simp[bz]; omega)
def P58:Int->List SV:=fun r=>[.one (.int .i32 r)]
def R58:Int->SV×List Prop:=fun r=>(.one (.row (.int .u8) (encI r)),[Utf8.valid r=true])
def K58:Con:=⟨false,[none],fun xs=>match xs with | [.one (.int .i32 r)]=>some (R58 r) | _=>none⟩
noncomputable def G58:GP:=dx P58 R58
theorem TI:∀a b,(P58 a).map aB=(P58 b).map aB->a=b:=by
 rintro a0 b0 h;simp only[P58,zK,List.map_nil,aB,aX,zG,AV.one.injEq,AV.agg.injEq,Lf.int.injEq,Lf.str.injEq,Lf.bool.injEq,Lf.vrow.injEq,and_true,true_and] at h;exact h
theorem Xc:dG G58 K58:=aY TI (fun _ _=>rfl) (fun _=>rfl) fun xs r h=>by
 simp only[K58] at h;split at h
 .cases h;rename_i r;exact⟨r,rfl,rfl⟩
 .cases h
theorem aai {S:SC}(hB:SB S)  (h58:S.has 58 f58):aN S 58 (az G58):=by
 refine prM hB [] [] trivial trivial h58 (fun _=>⟨rfl,rfl,rfl⟩) (fun r=>fun _ _ _ _=>none) 400 ?_;rintro r hc;have hc1:Utf8.valid r=true:=hc.1;refine VC.use (p:=(r<128->[IntKind.u8.wrap r]=encI r)/\(¬r<128->(r<2048->(64:Int)≠(0:Int)/\(64:Int)≠(0:Int)/\[IntKind.u8.wrap (IntKind.i32.wrap (192+IntKind.i32.wrap (r.tdiv 64))),IntKind.u8.wrap (IntKind.i32.wrap (128+r.tmod 64))]=encI r)/\(¬r<2048->(r<65536->(4096:Int)≠(0:Int)/\(64:Int)≠(0:Int)/\(64:Int)≠(0:Int)/\(64:Int)≠(0:Int)/\[IntKind.u8.wrap (IntKind.i32.wrap (224+IntKind.i32.wrap (r.tdiv 4096))),IntKind.u8.wrap (IntKind.i32.wrap (128+(IntKind.i32.wrap (r.tdiv 64)).tmod 64)),IntKind.u8.wrap (IntKind.i32.wrap (128+r.tmod 64))]=encI r)/\(¬r<65536->(262144:Int)≠(0:Int)/\(4096:Int)≠(0:Int)/\(64:Int)≠(0:Int)/\(64:Int)≠(0:Int)/\(64:Int)≠(0:Int)/\(64:Int)≠(0:Int)/\[IntKind.u8.wrap (IntKind.i32.wrap (240+IntKind.i32.wrap (r.tdiv 262144))),IntKind.u8.wrap (IntKind.i32.wrap (128+(IntKind.i32.wrap (r.tdiv 4096)).tmod 64)),IntKind.u8.wrap (IntKind.i32.wrap (128+(IntKind.i32.wrap (r.tdiv 64)).tmod 64)),IntKind.u8.wrap (IntKind.i32.wrap (128+r.tmod 64))]=encI r)))) (by kernel_rfl) ?_;have hv2:=bz.1 hc1;have e1:r.tdiv 64=r / 64:=Int.tdiv_eq_ediv_of_nonneg (by omega);have e2:r.tdiv 4096=r / 4096:=Int.tdiv_eq_ediv_of_nonneg (by omega);have e3:r.tdiv 262144=r / 262144:=Int.tdiv_eq_ediv_of_nonneg (by omega);have e4:r.tmod 64=r % 64:=Int.tmod_eq_emod_of_nonneg (by omega);have e5:(r / 64).tmod 64=r / 64 % 64:=Int.tmod_eq_emod_of_nonneg (by omega);have e6:(r / 4096).tmod 64=r / 4096 % 64:=Int.tmod_eq_emod_of_nonneg (by omega);have k:(64:Int)≠0:=by decide
 have k2:(4096:Int)≠0:=by decide
 have k3:(262144:Int)≠0:=by decide
 refine⟨fun h=>?_,fun h=>⟨fun h1=>⟨k,k,?_⟩,fun h1=>⟨fun h2=>⟨k2,k,k,k,?_⟩,fun h2=>⟨k3,k2,k,k,k,k,?_⟩⟩⟩⟩
 .rw[GM hc1 h,Df (by omega)]
 .rw[Gw hc1 (by omega) h1];simp only[e1,e4];simp(disch:=omega) only [wrap32,Df]
 .rw[Cy hc1 (by omega) h2];simp only[e1,e2,e4];simp(disch:=omega) only [wrap32,e5];simp(disch:=omega) only [wrap32,Df]
 .rw[GX hc1 (by omega)];simp only[e1,e2,e3,e4];simp(disch:=omega) only [wrap32,e5,e6];simp(disch:=omega) only [wrap32,Df]
def P46:List UInt8->List SV:=fun s=>[.one (.str s)]
def R46:List UInt8->SV×List Prop:=fun s=>(.tup [.o (.int .i32 (eX s).1),.o (.int .i64 (eX s).2)],[])
def K46:Con:=⟨true,[none],fun xs=>match xs with | [.one (.str s)]=>some (R46 s) | _=>none⟩
noncomputable def G46:GP:=dx P46 R46
theorem Tc:∀a b,(P46 a).map aB=(P46 b).map aB->a=b:=by
 rintro a0 b0 h;simp only[P46,zK,List.map_nil,aB,aX,zG,AV.one.injEq,AV.agg.injEq,Lf.int.injEq,Lf.str.injEq,Lf.bool.injEq,Lf.vrow.injEq,and_true,true_and] at h;exact h
theorem UD:dG G46 K46:=aY Tc (fun _ _=>rfl) (fun _=>rfl) fun xs r h=>by
 simp only[K46] at h;split at h
 .cases h;rename_i s;exact⟨s,rfl,rfl⟩
 .cases h
theorem ZU {S:SC}(hB:SB S) (q57:aN S 57 (az G57)) (q58:aN S 58 (az G58)) (h46:S.has 46 f46):aN S 46 (az G46):=by
 refine prM hB [] [⟨57,G57,K57⟩,⟨58,G58,K58⟩] trivial ⟨⟨q57,VF⟩,⟨q58,Xc⟩,trivial⟩ h46 (fun _=>⟨rfl,rfl,rfl⟩) (fun s=>fun f id T L=>match f,id with
  |46,0=>some (.inv { n:Nat // 1<=n/\n<=5/\(s≠[]->isR s=true->n<=(dec s).2) } (fun x=>([(4,.one (.int .i64 x.1))],[])) (fun x=>5-x.1))
  |46,2=>match T.getD 4 .junk with | .one (.int _ n)=>some (.cut Unit (fun _=>([(5,.one (.int .i32 (ax s n 1)))],[]))) | _=>none
  |46,3=>match T.getD 4 .junk with | .one (.int _ n)=>some (.inv { p:Nat // 1<=p/\(p:Int)<=n } (fun x=>([(6,.one (.int .i64 x.1)),(5,.one (.int .i32 (ax s n x.1)))],[])) (fun x=>n.toNat-x.1)) | _=>none
  |_,_=>none) 400 ?_
 rintro s hc;refine VC.use (p:=(∃x1:{ n:Nat // 1<=n/\n<=5/\(s≠[]->isR s=true->n<=(dec s).2) },s=s/\1=(x1.1:Int))/\(∀x1:{ n:Nat // 1<=n/\n<=5/\(s≠[]->isR s=true->n<=(dec s).2) },((x1.1:Int)<=4->((x1.1:Int)<=(s.length:Int)->((0:Int)<=(0:Int)/\(0:Int)<(s.length:Int))/\(((x1.1:Int)=2->∃x2:Unit,s=s/\(x1.1:Int)=(x1.1:Int)/\IntKind.i32.wrap (IntKind.i32.wrap (↑(s.getD 0 0).toNat:Int)-192)=ax s (x1.1:Int) 1)/\(¬(x1.1:Int)=2->((x1.1:Int)=3->∃x2:Unit,s=s/\(x1.1:Int)=(x1.1:Int)/\IntKind.i32.wrap (IntKind.i32.wrap (↑(s.getD 0 0).toNat:Int)-224)=ax s (x1.1:Int) 1)/\(¬(x1.1:Int)=3->((x1.1:Int)=4->∃x2:Unit,s=s/\(x1.1:Int)=(x1.1:Int)/\IntKind.i32.wrap (IntKind.i32.wrap (↑(s.getD 0 0).toNat:Int)-240)=ax s (x1.1:Int) 1)/\(¬(x1.1:Int)=4->∃x2:Unit,s=s/\(x1.1:Int)=(x1.1:Int)/\IntKind.i32.wrap (↑(s.getD 0 0).toNat:Int)=ax s (x1.1:Int) 1))))/\(∀x2:Unit,(∃x3:{ p:Nat // 1<=p/\(p:Int)<=(x1.1:Int) },s=s/\(x1.1:Int)=(x1.1:Int)/\ax s (x1.1:Int) 1=ax s (x1.1:Int) x3.1/\1=(x3.1:Int))/\(∀x3:{ p:Nat // 1<=p/\(p:Int)<=(x1.1:Int) },((x3.1:Int)<(x1.1:Int)->(0<=(x3.1:Int)/\(x3.1:Int)<(s.length:Int))/\aG ((x3.1:Int)+1)/\(∃x4:{ p:Nat // 1<=p/\(p:Int)<=(x1.1:Int) },x1.1-x4.1<x1.1-x3.1/\s=s/\(x1.1:Int)=(x1.1:Int)/\IntKind.i32.wrap (IntKind.i32.wrap (IntKind.i32.wrap (ax s (x1.1:Int) x3.1*64)+IntKind.i32.wrap (↑(s.getD x3.1 0).toNat:Int))-128)=ax s (x1.1:Int) x4.1/\(x3.1:Int)+1=(x4.1:Int)))/\(¬(x3.1:Int)<(x1.1:Int)->(Utf8.valid (ax s (x1.1:Int) x3.1)=true->Utf8.valid (ax s (x1.1:Int) x3.1)=true/\(0<=(x1.1:Int)/\(x1.1:Int)<=(s.length:Int))/\(List.map (fun z=>UInt8.ofNat (Int.toNat z)) (encI (ax s (x1.1:Int) x3.1))=aC s none (some (x1.1:Int))->ax s (x1.1:Int) x3.1=(eX s).1/\(x1.1:Int)=(eX s).2)/\(¬List.map (fun z=>UInt8.ofNat (Int.toNat z)) (encI (ax s (x1.1:Int) x3.1))=aC s none (some (x1.1:Int))->aG ((x1.1:Int)+1)/\(∃x4:{ n:Nat // 1<=n/\n<=5/\(s≠[]->isR s=true->n<=(dec s).2) },5-x4.1<5-x1.1/\s=s/\(x1.1:Int)+1=(x4.1:Int))))/\(¬Utf8.valid (ax s (x1.1:Int) x3.1)=true->aG ((x1.1:Int)+1)/\(∃x4:{ n:Nat // 1<=n/\n<=5/\(s≠[]->isR s=true->n<=(dec s).2) },5-x4.1<5-x1.1/\s=s/\(x1.1:Int)+1=(x4.1:Int)))))))/\(¬(x1.1:Int)<=(s.length:Int)->0=(eX s).1/\0=(eX s).2))/\(¬(x1.1:Int)<=4->0=(eX s).1/\0=(eX s).2))) (by kernel_rfl) ?_;refine⟨⟨⟨1,by omega,by omega,fun a b=>(bI a).1⟩,rfl,rfl⟩,?_⟩;rintro⟨n,h1,h5,hn⟩;dsimp only;refine⟨fun h4=>⟨fun hl=>⟨by omega,⟨fun e=>?_,fun e=>⟨fun e=>?_,fun e=>⟨fun e=>?_,fun e=>?_⟩⟩⟩,?_⟩,fun hl=>?_⟩,fun h4=>?_⟩
 .exact⟨(),rfl,rfl,by rw[e];rfl⟩
 .exact⟨(),rfl,rfl,by rw[e];rfl⟩
 .exact⟨(),rfl,rfl,by rw[e];rfl⟩
 .refine⟨(),rfl,rfl,?_⟩;obtain rfl:n=1:=by omega
  rfl
 .intro _;refine⟨⟨⟨1,by omega,by omega⟩,rfl,rfl,rfl,rfl⟩,?_⟩;rintro⟨p,p1,pn⟩;dsimp only;refine⟨fun hp=>⟨by omega,by unfold aG;omega,⟨⟨p+1,by omega,by omega⟩,by show n-(p+1)<n-p;omega,rfl,rfl,(RY s n p1).symm,by show _=((p+1:Nat):Int);omega⟩⟩,fun hp=>?_⟩;obtain rfl:p=n:=by omega
  rw[ZB s h1 (by omega),unB];have ec:aC s none (some (p:Int))=s.take p:=rfl;rw[ec];refine⟨fun hv=>⟨hv,by omega,fun he=>?_,fun he=>⟨by unfold aG;omega,⟨⟨p+1,by omega,by omega,AP hn fun _=>he⟩,by show 5-(p+1)<5-p;omega,rfl,by show _=((p+1:Nat):Int);omega⟩⟩⟩,fun hv=>⟨by unfold aG;omega,⟨⟨p+1,by omega,by omega,AP hn fun h=>absurd h hv⟩,by show 5-(p+1)<5-p;omega,rfl,by show _=((p+1:Nat):Int);omega⟩⟩⟩;rw[Qg hv (by omega) he];exact⟨rfl,rfl⟩
 .rw[CG hn (by omega)];exact⟨rfl,rfl⟩
 .rw[CG hn (by omega)];exact⟨rfl,rfl⟩
def P19:List UInt8->List SV:=fun s=>[.one (.str s)]
def R19:List UInt8->SV×List Prop:=fun s=>(.tup [.o (.row (.int .i32) (aK s)),.o (.int .i64 (bH s))],[s.length<=1099511627776])
def K19:Con:=⟨false,[none],fun xs=>match xs with | [.one (.str s)]=>some (R19 s) | _=>none⟩
noncomputable def G19:GP:=dx P19 R19
theorem Tv:∀a b,(P19 a).map aB=(P19 b).map aB->a=b:=by
 rintro a0 b0 h;simp only[P19,zK,List.map_nil,aB,aX,zG,AV.one.injEq,AV.agg.injEq,Lf.int.injEq,Lf.str.injEq,Lf.bool.injEq,Lf.vrow.injEq,and_true,true_and] at h;exact h
theorem Vm:dG G19 K19:=aY Tv (fun _ _=>rfl) (fun _=>rfl) fun xs r h=>by
 simp only[K19] at h;split at h
 .cases h;rename_i s;exact⟨s,rfl,rfl⟩
 .cases h
theorem ZQ {S:SC}(hB:SB S) (q46:aN S 46 (az G46)) (h19:S.has 19 f19):aN S 19 (az G19):=by
 refine prM hB [] [⟨46,G46,K46⟩] trivial ⟨⟨q46,UD⟩,trivial⟩ h19 (fun _=>⟨rfl,rfl,rfl⟩) (fun s=>fun f id T L=>match f,id with
  |19,0=>some (.inv { p:List UInt8×List Int // runes s=(p.2.map fun r=>(r,true))++runes p.1/\p.2.length+p.1.length<=s.length } (fun x=>([(0,.one (.str x.1.1)),(4,.one (.osl 0))],[(0,.row (.int .i32) x.1.2)])) (fun x=>x.1.1.length))
  |_,_=>none) 400 ?_
 rintro s hc;have hc1:s.length<=1099511627776:=hc.1;refine VC.use (p:=(∃x1:{ p:List UInt8×List Int // runes s=List.map (fun r=>(r,true)) p.2++runes p.1/\p.2.length+p.1.length<=s.length },s=x1.1.1/\x1.1.2=[]/\x1.1.2=[])/\(∀x1:{ p:List UInt8×List Int // runes s=List.map (fun r=>(r,true)) p.2++runes p.1/\p.2.length+p.1.length<=s.length },(0<(x1.1.1.length:Int)->((eX x1.1.1).2=0->aK s=[]/\3=bH s)/\(¬(eX x1.1.1).2=0->(x1.1.2.length+[(eX x1.1.1).1].length)*4<=140737488355328/\(0<=(eX x1.1.1).2/\(eX x1.1.1).2<=(x1.1.1.length:Int))/\(∃x2:{ p:List UInt8×List Int // runes s=List.map (fun r=>(r,true)) p.2++runes p.1/\p.2.length+p.1.length<=s.length },x2.1.1.length<x1.1.1.length/\aC x1.1.1 (some (eX x1.1.1).2) none=x2.1.1/\x1.1.2++[(eX x1.1.1).1]=x2.1.2)))/\(¬0<(x1.1.1.length:Int)->x1.1.2=aK s/\0=bH s))) (by kernel_rfl) ?_;refine⟨⟨⟨(s,[]),rfl,by simp⟩,rfl,rfl,rfl⟩,?_⟩;rintro⟨⟨t,o⟩,h,hl⟩;dsimp only at h hl ⊢;have hbd:=Xe t;refine⟨fun h0=>⟨fun h1=>?_,fun h1=>⟨?_,hbd,⟨(t.drop (eX t).2.toNat,o++[(eX t).1]),NP h h1,?_⟩,?_,rfl,rfl⟩⟩,fun h0=>?_⟩
 .obtain⟨e1,e2⟩:=Tw h (by rintro rfl;simp at h0) h1;exact⟨e1,e2.symm⟩
 .simp;omega
 .simp;omega
 .simp;omega
 .obtain rfl:t=[]:=zT (by omega);obtain⟨e1,e2⟩:=GY h;exact⟨e1.symm,e2.symm⟩
def P21:List UInt8->List SV:=fun s=>[.one (.str s)]
def R21:List UInt8->SV×List Prop:=fun s=>(.tup [.o (.row (.int .i32) (lh s)),.o (.int .i64 (ek s))],[s.length<=1099511627776])
def K21:Con:=⟨false,[none],fun xs=>match xs with | [.one (.str s)]=>some (R21 s) | _=>none⟩
noncomputable def G21:GP:=dx P21 R21
theorem Rc:∀a b,(P21 a).map aB=(P21 b).map aB->a=b:=by
 rintro a0 b0 h;simp only[P21,zK,List.map_nil,aB,aX,zG,AV.one.injEq,AV.agg.injEq,Lf.int.injEq,Lf.str.injEq,Lf.bool.injEq,Lf.vrow.injEq,and_true,true_and] at h;exact h
theorem VA:dG G21 K21:=aY Rc (fun _ _=>rfl) (fun _=>rfl) fun xs r h=>by
 simp only[K21] at h;split at h
 .cases h;rename_i s;exact⟨s,rfl,rfl⟩
 .cases h
theorem ZV {S:SC}(hB:SB S) (q19:aN S 19 (az G19)) (h21:S.has 21 f21):aN S 21 (az G21):=by
 refine prM hB [] [⟨19,G19,K19⟩] trivial ⟨⟨q19,Vm⟩,trivial⟩ h21 (fun _=>⟨rfl,rfl,rfl⟩) (fun s=>fun _ _ _ _=>none) 400 ?_;rintro s hc;have hc1:s.length<=1099511627776:=hc.1;refine VC.use (p:=s.length<=1099511627776/\(bH s=0->((↑(aK s).length:Int)=0->lh s=[]/\4=ek s)/\(¬(↑(aK s).length:Int)=0->(64<(↑(aK s).length:Int)->lh s=[]/\5=ek s)/\(¬64<(↑(aK s).length:Int)->aK s=lh s/\0=ek s)))/\(¬bH s=0->lh s=[]/\bH s=ek s)) (by kernel_rfl) ?_;refine⟨hc1,fun h=>⟨fun h1=>?_,fun h1=>⟨fun h2=>?_,fun h2=>?_⟩⟩,fun h=>?_⟩
 .obtain⟨e1,e2⟩:=Uz h (by omega);exact⟨e1,e2.symm⟩
 .obtain⟨e1,e2⟩:=Ue h (by omega);exact⟨e1,e2.symm⟩
 .obtain⟨e1,e2⟩:=Ur h (by omega) (by omega);exact⟨e1.symm,e2.symm⟩
 .obtain⟨e1,e2⟩:=Ub h;exact⟨e1,e2.symm⟩
end Go.EA
