/- Layer 1: the program's runes. Conditions: none. -/
import Derived.Test.YtgkhohpekfjlmaaDoorEAf1
import Derived.Test.YtgkhohpekfjlmaaDoorEK9
import Derived.Test.YtgkhohpekfjlmaaDoorEMean6
import Derived.Test.YtgkhohpekfjlmaaDoorERx
import Derived.Test.YtgkhohpekfjlmaaDoorEMean1
import Derived.KernelRfl
import Derived.Test.YtgkhohpekfjlmaaDoorERf
set_option linter.unusedVariables false
set_option linter.unusedSimpArgs false
set_option maxRecDepth 100000
set_option maxHeartbeats 0
namespace Go.EA
open F
def K69:Con:=⟨true,[none],fun xs=>match xs with | [.one (.str s)]=>some (.tup [.o (.int .i32 (dec s).1),.o (.int .i64 (dec s).2)],[]) | _=>none⟩
theorem UW:UnG tF:=by
 have key:∀{H xs v},mo tF H xs v->∃c,tF xs=some (v,c):=by
  intro H xs v h;rcases h with ⟨c,hg,_⟩ | ⟨_,ys,c,hi,hg,_⟩
  .exact⟨c,hg⟩
  .refine⟨c,?_⟩;have hg0:=hg;unfold tF at hg;split at hg
   .obtain⟨z,zs,rfl,h1,h2⟩:=hi.cons_inv;obtain⟨z',rfl,h1⟩:=h1;simp only[Im] at h1;subst h1;rw[h2.nil_inv];exact hg0
   .cases hg
 intro H xs v v' h h';obtain⟨c,h1⟩:=key h;obtain⟨c',h2⟩:=key h';rw[h1] at h2;cases h2
 rfl
theorem Vs:dG tF K69:=⟨UW,fun xs v cs h hc=>by
 simp only[K69] at h;split at h
 .cases h;exact⟨[],rfl,hc⟩
 .cases h⟩
theorem Om {t:List UInt8}(h:¬ ((dec t).1:Int)=65533\/1<((dec t).2:Int)):isR t=true:=by
 unfold isR;rcases h with h | h
 .rw[decide_eq_true h];rfl
 .rw[decide_eq_true (show 1<(dec t).2 by omega),Bool.or_true]
theorem Wv {t:List UInt8}(h:((dec t).1:Int)=65533) (h1:¬ 1<((dec t).2:Int)):isR t=false:=by
 unfold isR;rw[decide_eq_false (by simp[h]),decide_eq_false (by omega)];rfl
theorem Ea {s t:List UInt8}{o:List Int}(h:runes s=(o.map fun r=>(r,true))++runes t) (ht:t≠[]) (hr:isR t=true):runes s=((o++[((dec t).1:Int)]).map fun r=>(r,true))++runes (t.drop (dec t).2):=by
 rw[h,bV ht,hr];simp
theorem IJ {s t:List UInt8}{o:List Int}(h:runes s=(o.map fun r=>(r,true))++runes t) (ht:t≠[]) (hr:isR t=false):aK s=[]/\bH s=3:=by
 have hk:dD s=false:=by
  unfold dD;rw[h,bV ht,hr];simp
 unfold aK bH;rw[hk];exact⟨rfl,rfl⟩
theorem EQ {s t:List UInt8}{o:List Int}(h:runes s=(o.map fun r=>(r,true))++runes t):o.length<=s.length:=by
 have h1:=congrArg List.length h;have:=Jm s;simp at h1;omega
theorem Dz {t:List UInt8}(h:0<(t.length:Int)):t≠[]:=by rintro rfl;simp at h
theorem RQ {t:List UInt8}(h:¬ 0<(t.length:Int)):t=[]:=zT (by omega)
def P55:Int->List SV:=fun r=>[.one (.int .i32 r)]
def R55:Int->SV×List Prop:=fun r=>(.one (.bool (Utf8.valid r)),[])
def K55:Con:=⟨true,[none],fun xs=>match xs with | [.one (.int .i32 r)]=>some (R55 r) | _=>none⟩
noncomputable def G55:GP:=dx P55 R55
theorem TL:∀a b,(P55 a).map aB=(P55 b).map aB->a=b:=by
 rintro a0 b0 h;simp only[P55,zK,List.map_nil,aB,aX,zG,AV.one.injEq,AV.agg.injEq,Lf.int.injEq,Lf.str.injEq,Lf.bool.injEq,Lf.vrow.injEq,and_true,true_and] at h;exact h
theorem VG:dG G55 K55:=aY TL (fun _ _=>rfl) (fun _=>rfl) fun xs r h=>by
 simp only[K55] at h;split at h
 .cases h;rename_i r;exact⟨r,rfl,rfl⟩
 .cases h
theorem aaj {S:SC}(hB:SB S)  (h55:S.has 55 f55):aN S 55 (az G55):=by
 refine prM hB [] [] trivial trivial h55 (fun _=>⟨rfl,rfl,rfl⟩) (fun r=>fun _ _ _ _=>none) 400 ?_;rintro r hc;refine VC.use (p:=(0<=r->(r<55296->true=Utf8.valid r)/\(¬r<55296->(57343<r->(r<=1114111->true=Utf8.valid r)/\(¬r<=1114111->false=Utf8.valid r))/\(¬57343<r->false=Utf8.valid r)))/\(¬0<=r->(57343<r->(r<=1114111->true=Utf8.valid r)/\(¬r<=1114111->false=Utf8.valid r))/\(¬57343<r->false=Utf8.valid r))) (by kernel_rfl) ?_
 repeat' (first | intro h | apply And.intro)
 all_goals
  rw[Bool.eq_iff_iff];simp[bz];omega
def P17:List UInt8->List SV:=fun s=>[.one (.str s)]
def R17:List UInt8->SV×List Prop:=fun s=>(.tup [.o (.row (.int .i32) (aK s)),.o (.int .i64 (bH s))],[s.length<=1099511627776])
def K17:Con:=⟨false,[none],fun xs=>match xs with | [.one (.str s)]=>some (R17 s) | _=>none⟩
noncomputable def G17:GP:=dx P17 R17
theorem QB:∀a b,(P17 a).map aB=(P17 b).map aB->a=b:=by
 rintro a0 b0 h;simp only[P17,zK,List.map_nil,aB,aX,zG,AV.one.injEq,AV.agg.injEq,Lf.int.injEq,Lf.str.injEq,Lf.bool.injEq,Lf.vrow.injEq,and_true,true_and] at h;exact h
theorem EU:dG G17 K17:=aY QB (fun _ _=>rfl) (fun _=>rfl) fun xs r h=>by
 simp only[K17] at h;split at h
 .cases h;rename_i s;exact⟨s,rfl,rfl⟩
 .cases h
theorem aap {S:SC}(hB:SB S) (q69:aN S 69 (az tF)) (h45:S.has 45 f45) (h68:S.has 68 f68) (h17:S.has 17 f17):aN S 17 (az G17):=by
 refine prM hB [(45,f45),(68,f68)] [⟨69,tF,K69⟩] ⟨h45,h68,trivial⟩ ⟨⟨q69,Vs⟩,trivial⟩ h17 (fun _=>⟨rfl,rfl,rfl⟩) (fun s=>fun f id T L=>match f,id with
  |68,0=>some (.inv { p:List UInt8×List Int // runes s=(p.2.map fun r=>(r,true))++runes p.1 } (fun x=>([],[(0,.cell [.osl 4]),(2,.cell [.str x.1.1]),(4,.row (.int .i32) x.1.2)])) (fun x=>x.1.1.length))
  |_,_=>none) 600 ?_
 rintro s hc;have hc1:s.length<=1099511627776:=hc.1;refine VC.use (p:=(∃x1:{ p:List UInt8×List Int // runes s=List.map (fun r=>(r,true)) p.2++runes p.1 },x1.1.2=[]/\(0:Int)=(0:Int)/\s=x1.1.1/\x1.1.2=[])/\(∀x1:{ p:List UInt8×List Int // runes s=List.map (fun r=>(r,true)) p.2++runes p.1 },(0<(x1.1.1.length:Int)->((↑(dec x1.1.1).1:Int)=65533->(1<(↑(dec x1.1.1).2:Int)->(x1.1.2.length+[(↑(dec x1.1.1).1:Int)].length)*4<=140737488355328/\(0<=(↑(dec x1.1.1).2:Int)/\(↑(dec x1.1.1).2:Int)<=(x1.1.1.length:Int))/\(∃x2:{ p:List UInt8×List Int // runes s=List.map (fun r=>(r,true)) p.2++runes p.1 },x2.1.1.length<x1.1.1.length/\(0:Int)=(0:Int)/\aC x1.1.1 (some (↑(dec x1.1.1).2:Int)) none=x2.1.1/\x1.1.2++[(↑(dec x1.1.1).1:Int)]=x2.1.2))/\(¬1<(↑(dec x1.1.1).2:Int)->aK s=[]/\3=bH s))/\(¬(↑(dec x1.1.1).1:Int)=65533->(x1.1.2.length+[(↑(dec x1.1.1).1:Int)].length)*4<=140737488355328/\(0<=(↑(dec x1.1.1).2:Int)/\(↑(dec x1.1.1).2:Int)<=(x1.1.1.length:Int))/\(∃x2:{ p:List UInt8×List Int // runes s=List.map (fun r=>(r,true)) p.2++runes p.1 },x2.1.1.length<x1.1.1.length/\(0:Int)=(0:Int)/\aC x1.1.1 (some (↑(dec x1.1.1).2:Int)) none=x2.1.1/\x1.1.2++[(↑(dec x1.1.1).1:Int)]=x2.1.2)))/\(¬0<(x1.1.1.length:Int)->x1.1.2=aK s/\0=bH s))) (by kernel_rfl) ?_;refine⟨⟨⟨(s,[]),rfl⟩,rfl,rfl,rfl,rfl⟩,?_⟩;rintro⟨⟨t,o⟩,h⟩;dsimp only at h ⊢;have hl:=EQ h;have go:0<(t.length:Int)->isR t=true->(o.length+1)*4<=140737488355328/\(0<=((dec t).2:Int)/\((dec t).2:Int)<=(t.length:Int))/\∃x2:{ p:List UInt8×List Int // runes s=List.map (fun r=>(r,true)) p.2++runes p.1 },x2.1.1.length<t.length/\(0:Int)=0/\aC t (some ((dec t).2:Int)) none=x2.1.1/\o++[((dec t).1:Int)]=x2.1.2:=fun h0 hr=>by
  have hw:=bI (Dz h0);refine⟨by omega,by omega,⟨(t.drop (dec t).2,o++[((dec t).1:Int)]),Ea h (Dz h0) hr⟩,?_,rfl,rfl,rfl⟩;show (t.drop _).length<_;rw[List.length_drop];omega
 refine⟨fun h0=>⟨fun h1=>⟨fun h2=>go h0 (Om (.inr h2)),fun h2=>?_⟩,fun h1=>go h0 (Om (.inl h1))⟩,fun h0=>?_⟩
 .obtain⟨e1,e2⟩:=IJ h (Dz h0) (Wv h1 h2);exact⟨e1,e2.symm⟩
 .obtain rfl:=RQ h0;obtain⟨e1,e2⟩:=GY h;exact⟨e1.symm,e2.symm⟩
def P20:List UInt8->List SV:=fun s=>[.one (.str s)]
def R20:List UInt8->SV×List Prop:=fun s=>(.tup [.o (.row (.int .i32) (lh s)),.o (.int .i64 (ek s))],[s.length<=1099511627776])
def K20:Con:=⟨false,[none],fun xs=>match xs with | [.one (.str s)]=>some (R20 s) | _=>none⟩
noncomputable def G20:GP:=dx P20 R20
theorem Tt:∀a b,(P20 a).map aB=(P20 b).map aB->a=b:=by
 rintro a0 b0 h;simp only[P20,zK,List.map_nil,aB,aX,zG,AV.one.injEq,AV.agg.injEq,Lf.int.injEq,Lf.str.injEq,Lf.bool.injEq,Lf.vrow.injEq,and_true,true_and] at h;exact h
theorem XH:dG G20 K20:=aY Tt (fun _ _=>rfl) (fun _=>rfl) fun xs r h=>by
 simp only[K20] at h;split at h
 .cases h;rename_i s;exact⟨s,rfl,rfl⟩
 .cases h
theorem aac {S:SC}(hB:SB S) (q17:aN S 17 (az G17)) (h20:S.has 20 f20):aN S 20 (az G20):=by
 refine prM hB [] [⟨17,G17,K17⟩] trivial ⟨⟨q17,EU⟩,trivial⟩ h20 (fun _=>⟨rfl,rfl,rfl⟩) (fun s=>fun _ _ _ _=>none) 400 ?_;rintro s hc;have hc1:s.length<=1099511627776:=hc.1;refine VC.use (p:=s.length<=1099511627776/\(bH s=0->((↑(aK s).length:Int)=0->lh s=[]/\4=ek s)/\(¬(↑(aK s).length:Int)=0->(64<(↑(aK s).length:Int)->lh s=[]/\5=ek s)/\(¬64<(↑(aK s).length:Int)->aK s=lh s/\0=ek s)))/\(¬bH s=0->lh s=[]/\bH s=ek s)) (by kernel_rfl) ?_;refine⟨hc1,fun h=>⟨fun h1=>?_,fun h1=>⟨fun h2=>?_,fun h2=>?_⟩⟩,fun h=>?_⟩
 .obtain⟨e1,e2⟩:=Uz h (by omega);exact⟨e1,e2.symm⟩
 .obtain⟨e1,e2⟩:=Ue h (by omega);exact⟨e1,e2.symm⟩
 .obtain⟨e1,e2⟩:=Ur h (by omega) (by omega);exact⟨e1.symm,e2.symm⟩
 .obtain⟨e1,e2⟩:=Ub h;exact⟨e1,e2.symm⟩
def P54:Int->List SV:=fun r=>[.one (.int .i32 r)]
def R54:Int->SV×List Prop:=fun r=>(.one (.bool (!Utf8.valid r)),[])
def K54:Con:=⟨true,[none],fun xs=>match xs with | [.one (.int .i32 r)]=>some (R54 r) | _=>none⟩
noncomputable def G54:GP:=dx P54 R54
theorem PL:∀a b,(P54 a).map aB=(P54 b).map aB->a=b:=by
 rintro a0 b0 h;simp only[P54,zK,List.map_nil,aB,aX,zG,AV.one.injEq,AV.agg.injEq,Lf.int.injEq,Lf.str.injEq,Lf.bool.injEq,Lf.vrow.injEq,and_true,true_and] at h;exact h
theorem Wu:dG G54 K54:=aY PL (fun _ _=>rfl) (fun _=>rfl) fun xs r h=>by
 simp only[K54] at h;split at h
 .cases h;rename_i r;exact⟨r,rfl,rfl⟩
 .cases h
theorem aam {S:SC}(hB:SB S) (q55:aN S 55 (az G55)) (h54:S.has 54 f54):aN S 54 (az G54):=by
 refine prM hB [] [⟨55,G55,K55⟩] trivial ⟨⟨q55,VG⟩,trivial⟩ h54 (fun _=>⟨rfl,rfl,rfl⟩) (fun r=>fun _ _ _ _=>none) 400 ?_;rintro r hc;refine VC.use (p:=(!Utf8.valid r)=!Utf8.valid r) (by kernel_rfl) ?_
 rfl
def P74:List Int->List SV:=fun l=>[.one (.row (.int .i32) l),.one (.fn 54 [])]
def R74:List Int->SV×List Prop:=fun l=>(.one (.int .i64 (vJ l)),[l.length<=140737488355328])
def K74:Con:=⟨true,[some (.int .i32),none],fun xs=>match xs with | [.one (.row (.int .i32) l),.one (.fn 54 [])]=>some (R74 l) | _=>none⟩
noncomputable def G74:GP:=dx P74 R74
theorem Rn:∀a b,(P74 a).map aB=(P74 b).map aB->a=b:=by
 rintro a0 b0 h;simp only[P74,zK,List.map_nil,aB,aX,zG,AV.one.injEq,AV.agg.injEq,Lf.int.injEq,Lf.str.injEq,Lf.bool.injEq,Lf.vrow.injEq,and_true,true_and] at h;exact cZ h
theorem Wx:dG G74 K74:=aY Rn (fun _ _=>rfl) (fun _=>rfl) fun xs r h=>by
 simp only[K74] at h;split at h
 .cases h;rename_i l;exact⟨l,rfl,rfl⟩
 .cases h
theorem aal {S:SC}(hB:SB S) (q54:aN S 54 (az G54)) (h74:S.has 74 f74):aN S 74 (az G74):=by
 refine prM hB [] [⟨54,G54,K54⟩] trivial ⟨⟨q54,Wu⟩,trivial⟩ h74 (fun _=>⟨rfl,rfl,rfl⟩) (fun l=>fun f id T L=>match f,id with
  |74,0=>some (.inv { i:Nat // i<=l.length/\(l.take i).all Utf8.valid=true } (fun x=>([(8,.one (.int .i64 x.1))],[])) (fun x=>l.length-x.1))
  |_,_=>none) 400 ?_
 rintro l hc;have hc1:l.length<=140737488355328:=hc.1;refine VC.use (p:=(∃x1:{ i:Nat // i<=l.length/\(List.take i l).all Utf8.valid=true },l=l/\(l.length:Int)=(l.length:Int)/\0=(x1.1:Int))/\(∀x1:{ i:Nat // i<=l.length/\(List.take i l).all Utf8.valid=true },((x1.1:Int)<(l.length:Int)->(0<=(x1.1:Int)/\(x1.1:Int)<(l.length:Int))/\((!Utf8.valid (l.getD x1.1 0))=true->(x1.1:Int)=vJ l)/\(¬(!Utf8.valid (l.getD x1.1 0))=true->aG ((x1.1:Int)+1)/\(∃x2:{ i:Nat // i<=l.length/\(List.take i l).all Utf8.valid=true },l.length-x2.1<l.length-x1.1/\l=l/\(l.length:Int)=(l.length:Int)/\(x1.1:Int)+1=(x2.1:Int))))/\(¬(x1.1:Int)<(l.length:Int) -> -1=vJ l))) (by kernel_rfl) ?_;refine⟨⟨⟨0,by omega,rfl⟩,rfl,rfl,rfl⟩,?_⟩;rintro⟨i,hi,ha⟩;dsimp only;exact⟨fun h=>⟨by omega,fun h1=>(Sc h (by simpa using h1) ha).symm,fun h1=>⟨by unfold aG;omega,⟨i+1,by omega,NB h (by simpa using h1) ha⟩,by show l.length-(i+1)<l.length-i;omega,rfl,rfl,rfl⟩⟩,fun h=>(RZ h ha).symm⟩
def P53:List Int->List SV:=fun l=>[.one (.row (.int .i32) l),.one (.fn 54 [])]
def R53:List Int->SV×List Prop:=fun l=>(.one (.bool (!l.all Utf8.valid)),[l.length<=140737488355328])
def K53:Con:=⟨true,[some (.int .i32),none],fun xs=>match xs with | [.one (.row (.int .i32) l),.one (.fn 54 [])]=>some (R53 l) | _=>none⟩
noncomputable def G53:GP:=dx P53 R53
theorem Sj:∀a b,(P53 a).map aB=(P53 b).map aB->a=b:=by
 rintro a0 b0 h;simp only[P53,zK,List.map_nil,aB,aX,zG,AV.one.injEq,AV.agg.injEq,Lf.int.injEq,Lf.str.injEq,Lf.bool.injEq,Lf.vrow.injEq,and_true,true_and] at h;exact cZ h
theorem WS:dG G53 K53:=aY Sj (fun _ _=>rfl) (fun _=>rfl) fun xs r h=>by
 simp only[K53] at h;split at h
 .cases h;rename_i l;exact⟨l,rfl,rfl⟩
 .cases h
theorem aab {S:SC}(hB:SB S) (q74:aN S 74 (az G74)) (h53:S.has 53 f53):aN S 53 (az G53):=by
 refine prM hB [] [⟨74,G74,K74⟩] trivial ⟨⟨q74,Wx⟩,trivial⟩ h53 (fun _=>⟨rfl,rfl,rfl⟩) (fun l=>fun _ _ _ _=>none) 400 ?_;rintro l hc;have hc1:l.length<=140737488355328:=hc.1;refine VC.use (p:=l.length<=140737488355328/\decide (0<=vJ l)=!l.all Utf8.valid) (by kernel_rfl) ?_;exact⟨hc1,Ps l⟩
def P33:List Int->List SV:=fun l=>[.one (.row (.int .i32) l)]
def R33:List Int->SV×List Prop:=fun l=>(.tup [.o (.str (iJ l)),.o (.int .i64 (Ew l))],[l.length<=1099511627776])
def K33:Con:=⟨true,[some (.int .i32)],fun xs=>match xs with | [.one (.row (.int .i32) l)]=>some (R33 l) | _=>none⟩
noncomputable def G33:GP:=dx P33 R33
theorem QS:∀a b,(P33 a).map aB=(P33 b).map aB->a=b:=by
 rintro a0 b0 h;simp only[P33,zK,List.map_nil,aB,aX,zG,AV.one.injEq,AV.agg.injEq,Lf.int.injEq,Lf.str.injEq,Lf.bool.injEq,Lf.vrow.injEq,and_true,true_and] at h;exact cZ h
theorem XA:dG G33 K33:=aY QS (fun _ _=>rfl) (fun _=>rfl) fun xs r h=>by
 simp only[K33] at h;split at h
 .cases h;rename_i l;exact⟨l,rfl,rfl⟩
 .cases h
theorem ZT {S:SC}(hB:SB S) (q53:aN S 53 (az G53)) (h56:S.has 56 f56) (h75:S.has 75 f75) (h33:S.has 33 f33):aN S 33 (az G33):=by
 refine prM hB [(56,f56),(75,f75)] [⟨53,G53,K53⟩] ⟨h56,h75,trivial⟩ ⟨⟨q53,WS⟩,trivial⟩ h33 (fun _=>⟨rfl,rfl,rfl⟩) (fun l=>fun f id T L=>match f,id with
  |33,0=>some (.inv { p:Nat×List Int // p.1<=l.length/\p.2=fV (l.take p.1) } (fun x=>([(11,.one (.int .i64 x.1.1)),(4,.one (.osl 0))],[(0,.row (.int .u8) x.1.2)])) (fun x=>l.length-x.1.1))
  |33,1=>match T.getD 11 .junk,ae L 0 with | .one (.int _ i),.row (.int .u8) o=>some (.cut Unit fun _=>([],[(0,.row (.int .u8) (o++encI (l.getD i.toNat 0)))])) | _,_=>none
  |_,_=>none) 400 ?_
 rintro l hc;have hc1:l.length<=1099511627776:=hc.1;refine VC.use (p:=l.length<=140737488355328/\((!l.all Utf8.valid)=true->[]=iJ l/\3=Ew l)/\(¬(!l.all Utf8.valid)=true->(∃x1:{ p:Nat×List Int // p.1<=l.length/\p.2=fV (List.take p.1 l) },x1.1.2=[]/\l=l/\(l.length:Int)=(l.length:Int)/\0=(x1.1.1:Int)/\x1.1.2=[])/\(∀x1:{ p:Nat×List Int // p.1<=l.length/\p.2=fV (List.take p.1 l) },((x1.1.1:Int)<(l.length:Int)->((0<=(x1.1.1:Int)/\(x1.1.1:Int)<(l.length:Int))/\(IntKind.u32.wrap (l.getD x1.1.1 0)<=127->(x1.1.2.length+[IntKind.u8.wrap (l.getD x1.1.1 0)].length)*1<=140737488355328/\(∃x2:Unit,l=l/\(l.length:Int)=(l.length:Int)/\(x1.1.1:Int)=(x1.1.1:Int)/\x1.1.2++[IntKind.u8.wrap (l.getD x1.1.1 0)]=x1.1.2++encI (l.getD x1.1.1 0)))/\(¬IntKind.u32.wrap (l.getD x1.1.1 0)<=127->(IntKind.u32.wrap (l.getD x1.1.1 0)<=2047->(x1.1.2.length+[IntKind.u8.wrap (↑(BitVec.ofInt 8 192 ||| BitVec.ofInt 8 (IntKind.u8.wrap (Int.fdiv (l.getD x1.1.1 0) 64))).toNat:Int),IntKind.u8.wrap (↑(BitVec.ofInt 8 128 ||| BitVec.ofInt 8 (IntKind.u8.wrap (↑(BitVec.ofInt 8 (IntKind.u8.wrap (l.getD x1.1.1 0)) &&& BitVec.ofInt 8 63).toNat:Int))).toNat:Int)].length)*1<=140737488355328/\(∃x2:Unit,l=l/\(l.length:Int)=(l.length:Int)/\(x1.1.1:Int)=(x1.1.1:Int)/\x1.1.2++[IntKind.u8.wrap (↑(BitVec.ofInt 8 192 ||| BitVec.ofInt 8 (IntKind.u8.wrap (Int.fdiv (l.getD x1.1.1 0) 64))).toNat:Int),IntKind.u8.wrap (↑(BitVec.ofInt 8 128 ||| BitVec.ofInt 8 (IntKind.u8.wrap (↑(BitVec.ofInt 8 (IntKind.u8.wrap (l.getD x1.1.1 0)) &&& BitVec.ofInt 8 63).toNat:Int))).toNat:Int)]=x1.1.2++encI (l.getD x1.1.1 0)))/\(¬IntKind.u32.wrap (l.getD x1.1.1 0)<=2047->(IntKind.u32.wrap (l.getD x1.1.1 0)<55296->(IntKind.u32.wrap (l.getD x1.1.1 0)<55296->(x1.1.2.length+[IntKind.u8.wrap (↑(BitVec.ofInt 8 224 ||| BitVec.ofInt 8 (IntKind.u8.wrap (Int.fdiv (l.getD x1.1.1 0) 4096))).toNat:Int),IntKind.u8.wrap (↑(BitVec.ofInt 8 128 ||| BitVec.ofInt 8 (IntKind.u8.wrap (↑(BitVec.ofInt 8 (IntKind.u8.wrap (Int.fdiv (l.getD x1.1.1 0) 64)) &&& BitVec.ofInt 8 63).toNat:Int))).toNat:Int),IntKind.u8.wrap (↑(BitVec.ofInt 8 128 ||| BitVec.ofInt 8 (IntKind.u8.wrap (↑(BitVec.ofInt 8 (IntKind.u8.wrap (l.getD x1.1.1 0)) &&& BitVec.ofInt 8 63).toNat:Int))).toNat:Int)].length)*1<=140737488355328/\(∃x2:Unit,l=l/\(l.length:Int)=(l.length:Int)/\(x1.1.1:Int)=(x1.1.1:Int)/\x1.1.2++[IntKind.u8.wrap (↑(BitVec.ofInt 8 224 ||| BitVec.ofInt 8 (IntKind.u8.wrap (Int.fdiv (l.getD x1.1.1 0) 4096))).toNat:Int),IntKind.u8.wrap (↑(BitVec.ofInt 8 128 ||| BitVec.ofInt 8 (IntKind.u8.wrap (↑(BitVec.ofInt 8 (IntKind.u8.wrap (Int.fdiv (l.getD x1.1.1 0) 64)) &&& BitVec.ofInt 8 63).toNat:Int))).toNat:Int),IntKind.u8.wrap (↑(BitVec.ofInt 8 128 ||| BitVec.ofInt 8 (IntKind.u8.wrap (↑(BitVec.ofInt 8 (IntKind.u8.wrap (l.getD x1.1.1 0)) &&& BitVec.ofInt 8 63).toNat:Int))).toNat:Int)]=x1.1.2++encI (l.getD x1.1.1 0)))/\(¬IntKind.u32.wrap (l.getD x1.1.1 0)<55296->(65535<IntKind.u32.wrap (l.getD x1.1.1 0)->(IntKind.u32.wrap (l.getD x1.1.1 0)<=1114111->(x1.1.2.length+[IntKind.u8.wrap (↑(BitVec.ofInt 8 240 ||| BitVec.ofInt 8 (IntKind.u8.wrap (Int.fdiv (l.getD x1.1.1 0) 262144))).toNat:Int),IntKind.u8.wrap (↑(BitVec.ofInt 8 128 ||| BitVec.ofInt 8 (IntKind.u8.wrap (↑(BitVec.ofInt 8 (IntKind.u8.wrap (Int.fdiv (l.getD x1.1.1 0) 4096)) &&& BitVec.ofInt 8 63).toNat:Int))).toNat:Int),IntKind.u8.wrap (↑(BitVec.ofInt 8 128 ||| BitVec.ofInt 8 (IntKind.u8.wrap (↑(BitVec.ofInt 8 (IntKind.u8.wrap (Int.fdiv (l.getD x1.1.1 0) 64)) &&& BitVec.ofInt 8 63).toNat:Int))).toNat:Int),IntKind.u8.wrap (↑(BitVec.ofInt 8 128 ||| BitVec.ofInt 8 (IntKind.u8.wrap (↑(BitVec.ofInt 8 (IntKind.u8.wrap (l.getD x1.1.1 0)) &&& BitVec.ofInt 8 63).toNat:Int))).toNat:Int)].length)*1<=140737488355328/\(∃x2:Unit,l=l/\(l.length:Int)=(l.length:Int)/\(x1.1.1:Int)=(x1.1.1:Int)/\x1.1.2++[IntKind.u8.wrap (↑(BitVec.ofInt 8 240 ||| BitVec.ofInt 8 (IntKind.u8.wrap (Int.fdiv (l.getD x1.1.1 0) 262144))).toNat:Int),IntKind.u8.wrap (↑(BitVec.ofInt 8 128 ||| BitVec.ofInt 8 (IntKind.u8.wrap (↑(BitVec.ofInt 8 (IntKind.u8.wrap (Int.fdiv (l.getD x1.1.1 0) 4096)) &&& BitVec.ofInt 8 63).toNat:Int))).toNat:Int),IntKind.u8.wrap (↑(BitVec.ofInt 8 128 ||| BitVec.ofInt 8 (IntKind.u8.wrap (↑(BitVec.ofInt 8 (IntKind.u8.wrap (Int.fdiv (l.getD x1.1.1 0) 64)) &&& BitVec.ofInt 8 63).toNat:Int))).toNat:Int),IntKind.u8.wrap (↑(BitVec.ofInt 8 128 ||| BitVec.ofInt 8 (IntKind.u8.wrap (↑(BitVec.ofInt 8 (IntKind.u8.wrap (l.getD x1.1.1 0)) &&& BitVec.ofInt 8 63).toNat:Int))).toNat:Int)]=x1.1.2++encI (l.getD x1.1.1 0)))/\(¬IntKind.u32.wrap (l.getD x1.1.1 0)<=1114111->(x1.1.2.length+3)*1<=140737488355328/\(∃x2:Unit,l=l/\(l.length:Int)=(l.length:Int)/\(x1.1.1:Int)=(x1.1.1:Int)/\x1.1.2++[239,191,189]=x1.1.2++encI (l.getD x1.1.1 0))))/\(¬65535<IntKind.u32.wrap (l.getD x1.1.1 0)->(x1.1.2.length+3)*1<=140737488355328/\(∃x2:Unit,l=l/\(l.length:Int)=(l.length:Int)/\(x1.1.1:Int)=(x1.1.1:Int)/\x1.1.2++[239,191,189]=x1.1.2++encI (l.getD x1.1.1 0)))))/\(¬IntKind.u32.wrap (l.getD x1.1.1 0)<55296->(57343<IntKind.u32.wrap (l.getD x1.1.1 0)->(IntKind.u32.wrap (l.getD x1.1.1 0)<=65535->(x1.1.2.length+[IntKind.u8.wrap (↑(BitVec.ofInt 8 224 ||| BitVec.ofInt 8 (IntKind.u8.wrap (Int.fdiv (l.getD x1.1.1 0) 4096))).toNat:Int),IntKind.u8.wrap (↑(BitVec.ofInt 8 128 ||| BitVec.ofInt 8 (IntKind.u8.wrap (↑(BitVec.ofInt 8 (IntKind.u8.wrap (Int.fdiv (l.getD x1.1.1 0) 64)) &&& BitVec.ofInt 8 63).toNat:Int))).toNat:Int),IntKind.u8.wrap (↑(BitVec.ofInt 8 128 ||| BitVec.ofInt 8 (IntKind.u8.wrap (↑(BitVec.ofInt 8 (IntKind.u8.wrap (l.getD x1.1.1 0)) &&& BitVec.ofInt 8 63).toNat:Int))).toNat:Int)].length)*1<=140737488355328/\(∃x2:Unit,l=l/\(l.length:Int)=(l.length:Int)/\(x1.1.1:Int)=(x1.1.1:Int)/\x1.1.2++[IntKind.u8.wrap (↑(BitVec.ofInt 8 224 ||| BitVec.ofInt 8 (IntKind.u8.wrap (Int.fdiv (l.getD x1.1.1 0) 4096))).toNat:Int),IntKind.u8.wrap (↑(BitVec.ofInt 8 128 ||| BitVec.ofInt 8 (IntKind.u8.wrap (↑(BitVec.ofInt 8 (IntKind.u8.wrap (Int.fdiv (l.getD x1.1.1 0) 64)) &&& BitVec.ofInt 8 63).toNat:Int))).toNat:Int),IntKind.u8.wrap (↑(BitVec.ofInt 8 128 ||| BitVec.ofInt 8 (IntKind.u8.wrap (↑(BitVec.ofInt 8 (IntKind.u8.wrap (l.getD x1.1.1 0)) &&& BitVec.ofInt 8 63).toNat:Int))).toNat:Int)]=x1.1.2++encI (l.getD x1.1.1 0)))/\(¬IntKind.u32.wrap (l.getD x1.1.1 0)<=65535->(65535<IntKind.u32.wrap (l.getD x1.1.1 0)->(IntKind.u32.wrap (l.getD x1.1.1 0)<=1114111->(x1.1.2.length+[IntKind.u8.wrap (↑(BitVec.ofInt 8 240 ||| BitVec.ofInt 8 (IntKind.u8.wrap (Int.fdiv (l.getD x1.1.1 0) 262144))).toNat:Int),IntKind.u8.wrap (↑(BitVec.ofInt 8 128 ||| BitVec.ofInt 8 (IntKind.u8.wrap (↑(BitVec.ofInt 8 (IntKind.u8.wrap (Int.fdiv (l.getD x1.1.1 0) 4096)) &&& BitVec.ofInt 8 63).toNat:Int))).toNat:Int),IntKind.u8.wrap (↑(BitVec.ofInt 8 128 ||| BitVec.ofInt 8 (IntKind.u8.wrap (↑(BitVec.ofInt 8 (IntKind.u8.wrap (Int.fdiv (l.getD x1.1.1 0) 64)) &&& BitVec.ofInt 8 63).toNat:Int))).toNat:Int),IntKind.u8.wrap (↑(BitVec.ofInt 8 128 ||| BitVec.ofInt 8 (IntKind.u8.wrap (↑(BitVec.ofInt 8 (IntKind.u8.wrap (l.getD x1.1.1 0)) &&& BitVec.ofInt 8 63).toNat:Int))).toNat:Int)].length)*1<=140737488355328/\(∃x2:Unit,l=l/\(l.length:Int)=(l.length:Int)/\(x1.1.1:Int)=(x1.1.1:Int)/\x1.1.2++[IntKind.u8.wrap (↑(BitVec.ofInt 8 240 ||| BitVec.ofInt 8 (IntKind.u8.wrap (Int.fdiv (l.getD x1.1.1 0) 262144))).toNat:Int),IntKind.u8.wrap (↑(BitVec.ofInt 8 128 ||| BitVec.ofInt 8 (IntKind.u8.wrap (↑(BitVec.ofInt 8 (IntKind.u8.wrap (Int.fdiv (l.getD x1.1.1 0) 4096)) &&& BitVec.ofInt 8 63).toNat:Int))).toNat:Int),IntKind.u8.wrap (↑(BitVec.ofInt 8 128 ||| BitVec.ofInt 8 (IntKind.u8.wrap (↑(BitVec.ofInt 8 (IntKind.u8.wrap (Int.fdiv (l.getD x1.1.1 0) 64)) &&& BitVec.ofInt 8 63).toNat:Int))).toNat:Int),IntKind.u8.wrap (↑(BitVec.ofInt 8 128 ||| BitVec.ofInt 8 (IntKind.u8.wrap (↑(BitVec.ofInt 8 (IntKind.u8.wrap (l.getD x1.1.1 0)) &&& BitVec.ofInt 8 63).toNat:Int))).toNat:Int)]=x1.1.2++encI (l.getD x1.1.1 0)))/\(¬IntKind.u32.wrap (l.getD x1.1.1 0)<=1114111->(x1.1.2.length+3)*1<=140737488355328/\(∃x2:Unit,l=l/\(l.length:Int)=(l.length:Int)/\(x1.1.1:Int)=(x1.1.1:Int)/\x1.1.2++[239,191,189]=x1.1.2++encI (l.getD x1.1.1 0))))/\(¬65535<IntKind.u32.wrap (l.getD x1.1.1 0)->(x1.1.2.length+3)*1<=140737488355328/\(∃x2:Unit,l=l/\(l.length:Int)=(l.length:Int)/\(x1.1.1:Int)=(x1.1.1:Int)/\x1.1.2++[239,191,189]=x1.1.2++encI (l.getD x1.1.1 0)))))/\(¬57343<IntKind.u32.wrap (l.getD x1.1.1 0)->(65535<IntKind.u32.wrap (l.getD x1.1.1 0)->(IntKind.u32.wrap (l.getD x1.1.1 0)<=1114111->(x1.1.2.length+[IntKind.u8.wrap (↑(BitVec.ofInt 8 240 ||| BitVec.ofInt 8 (IntKind.u8.wrap (Int.fdiv (l.getD x1.1.1 0) 262144))).toNat:Int),IntKind.u8.wrap (↑(BitVec.ofInt 8 128 ||| BitVec.ofInt 8 (IntKind.u8.wrap (↑(BitVec.ofInt 8 (IntKind.u8.wrap (Int.fdiv (l.getD x1.1.1 0) 4096)) &&& BitVec.ofInt 8 63).toNat:Int))).toNat:Int),IntKind.u8.wrap (↑(BitVec.ofInt 8 128 ||| BitVec.ofInt 8 (IntKind.u8.wrap (↑(BitVec.ofInt 8 (IntKind.u8.wrap (Int.fdiv (l.getD x1.1.1 0) 64)) &&& BitVec.ofInt 8 63).toNat:Int))).toNat:Int),IntKind.u8.wrap (↑(BitVec.ofInt 8 128 ||| BitVec.ofInt 8 (IntKind.u8.wrap (↑(BitVec.ofInt 8 (IntKind.u8.wrap (l.getD x1.1.1 0)) &&& BitVec.ofInt 8 63).toNat:Int))).toNat:Int)].length)*1<=140737488355328/\(∃x2:Unit,l=l/\(l.length:Int)=(l.length:Int)/\(x1.1.1:Int)=(x1.1.1:Int)/\x1.1.2++[IntKind.u8.wrap (↑(BitVec.ofInt 8 240 ||| BitVec.ofInt 8 (IntKind.u8.wrap (Int.fdiv (l.getD x1.1.1 0) 262144))).toNat:Int),IntKind.u8.wrap (↑(BitVec.ofInt 8 128 ||| BitVec.ofInt 8 (IntKind.u8.wrap (↑(BitVec.ofInt 8 (IntKind.u8.wrap (Int.fdiv (l.getD x1.1.1 0) 4096)) &&& BitVec.ofInt 8 63).toNat:Int))).toNat:Int),IntKind.u8.wrap (↑(BitVec.ofInt 8 128 ||| BitVec.ofInt 8 (IntKind.u8.wrap (↑(BitVec.ofInt 8 (IntKind.u8.wrap (Int.fdiv (l.getD x1.1.1 0) 64)) &&& BitVec.ofInt 8 63).toNat:Int))).toNat:Int),IntKind.u8.wrap (↑(BitVec.ofInt 8 128 ||| BitVec.ofInt 8 (IntKind.u8.wrap (↑(BitVec.ofInt 8 (IntKind.u8.wrap (l.getD x1.1.1 0)) &&& BitVec.ofInt 8 63).toNat:Int))).toNat:Int)]=x1.1.2++encI (l.getD x1.1.1 0)))/\(¬IntKind.u32.wrap (l.getD x1.1.1 0)<=1114111->(x1.1.2.length+3)*1<=140737488355328/\(∃x2:Unit,l=l/\(l.length:Int)=(l.length:Int)/\(x1.1.1:Int)=(x1.1.1:Int)/\x1.1.2++[239,191,189]=x1.1.2++encI (l.getD x1.1.1 0))))/\(¬65535<IntKind.u32.wrap (l.getD x1.1.1 0)->(x1.1.2.length+3)*1<=140737488355328/\(∃x2:Unit,l=l/\(l.length:Int)=(l.length:Int)/\(x1.1.1:Int)=(x1.1.1:Int)/\x1.1.2++[239,191,189]=x1.1.2++encI (l.getD x1.1.1 0))))))))/\(∀x2:Unit,aG ((x1.1.1:Int)+1)/\(∃x3:{ p:Nat×List Int // p.1<=l.length/\p.2=fV (List.take p.1 l) },l.length-x3.1.1<l.length-x1.1.1/\l=l/\(l.length:Int)=(l.length:Int)/\(x1.1.1:Int)+1=(x3.1.1:Int)/\x1.1.2++encI (l.getD x1.1.1 0)=x3.1.2)))/\(¬(x1.1.1:Int)<(l.length:Int)->List.map (fun z=>UInt8.ofNat (Int.toNat z)) x1.1.2=iJ l/\0=Ew l)))) (by kernel_rfl) ?_;refine⟨by omega,fun h=>?_,fun h=>⟨⟨⟨(0,[]),by omega,rfl⟩,rfl,rfl,rfl,rfl,rfl⟩,?_⟩⟩
 .obtain⟨e1,e2⟩:=Nk (l:=l) (by simpa using h);exact⟨e1.symm,e2.symm⟩
 .have hall:l.all Utf8.valid=true:=by simpa using h
  rintro⟨⟨i,o⟩,hi,ho⟩;dsimp only at hi ho ⊢;have hol:=Oo hall hc1 ho;refine⟨fun h0=>⟨⟨by omega,Bz (HY hall h0) (by omega) (K:=fun o'=>∃x2:Unit,l=l/\(l.length:Int)=l.length/\(i:Int)=i/\o'=o++encI (l.getD i 0)) ⟨(),rfl,rfl,rfl,rfl⟩⟩,fun _=>⟨by unfold aG;omega,⟨(i+1,o++encI (l.getD i 0)),by show i+1<=l.length;omega,by show _=fV (l.take (i+1));rw[DF h0,<- ho]⟩,by show l.length-(i+1)<l.length-i;omega,rfl,rfl,rfl,rfl⟩⟩,fun h0=>?_⟩;obtain⟨e1,e2⟩:=GZ hall;rw[e1,e2,<- Iu h0 ho];exact⟨rfl,rfl⟩
end Go.EA
