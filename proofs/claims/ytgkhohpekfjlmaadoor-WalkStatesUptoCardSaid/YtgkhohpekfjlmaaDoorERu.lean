/- Layer 1: the program's runes. Conditions: none. -/
import Derived.Test.YtgkhohpekfjlmaaDoorEAf1
import Derived.Test.YtgkhohpekfjlmaaDoorEK9
import Derived.Test.YtgkhohpekfjlmaaDoorEMean6
import Derived.Test.YtgkhohpekfjlmaaDoorERx
import Derived.Test.YtgkhohpekfjlmaaDoorEMean1
import Derived.KernelRfl
import Derived.Test.YtgkhohpekfjlmaaDoorERf
set_option linter.unusedVariables false
set_option linter.unusedSimpArgs false
set_option maxRecDepth 100000
set_option maxHeartbeats 0
namespace Go.EA
open F
def K69:Con:=⟨true,[none],fun xs=>match xs with | [.one (.str s)]=>some (.tup [.o (.int .i32 (dec s).1),.o (.int .i64 (dec s).2)],[]) | _=>none⟩
theorem Yt:UnG tu:=by
 have key:∀{H xs v},lF tu H xs v->∃c,tu xs=some (v,c):=by
  intro H xs v h;rcases h with ⟨c,hg,_⟩ | ⟨_,ys,c,hi,hg,_⟩
  .exact⟨c,hg⟩
  .refine⟨c,?_⟩;have hg0:=hg;unfold tu at hg;split at hg
   .obtain⟨z,zs,rfl,h1,h2⟩:=hi.cons_inv;obtain⟨z',rfl,h1⟩:=h1;simp only[Im] at h1;subst h1;rw[h2.nil_inv];exact hg0
   .cases hg
 intro H xs v v' h h';obtain⟨c,h1⟩:=key h;obtain⟨c',h2⟩:=key h';rw[h1] at h2;cases h2
 rfl
theorem VP:bW tu K69:=⟨Yt,fun xs v cs h hc=>by
 simp only[K69] at h;split at h
 .cases h;exact⟨[],rfl,hc⟩
 .cases h⟩
theorem JW {t:List UInt8}(h:¬ ((dec t).1:Int)=65533\/1<((dec t).2:Int)):isR t=true:=by
 unfold isR;rcases h with h | h
 .rw[decide_eq_true h];rfl
 .rw[decide_eq_true (show 1<(dec t).2 by omega),Bool.or_true]
theorem Zk {t:List UInt8}(h:((dec t).1:Int)=65533) (h1:¬ 1<((dec t).2:Int)):isR t=false:=by
 unfold isR;rw[decide_eq_false (by simp[h]),decide_eq_false (by omega)];rfl
theorem DW {s t:List UInt8}{o:List Int}(h:runes s=(o.map fun r=>(r,true))++runes t) (ht:t≠[]) (hr:isR t=true):runes s=((o++[((dec t).1:Int)]).map fun r=>(r,true))++runes (t.drop (dec t).2):=by
 rw[h,cu ht,hr];simp
theorem Jo {s t:List UInt8}{o:List Int}(h:runes s=(o.map fun r=>(r,true))++runes t) (ht:t≠[]) (hr:isR t=false):aF s=[]/\bI s=3:=by
 have hk:dO s=false:=by
  unfold dO;rw[h,cu ht,hr];simp
 unfold aF bI;rw[hk];exact⟨rfl,rfl⟩
theorem DR {s t:List UInt8}{o:List Int}(h:runes s=(o.map fun r=>(r,true))++runes t):o.length<=s.length:=by
 have h1:=congrArg List.length h;have:=JM s;simp at h1;omega
theorem DC {t:List UInt8}(h:0<(t.length:Int)):t≠[]:=by rintro rfl;simp at h
theorem Sv {t:List UInt8}(h:¬ 0<(t.length:Int)):t=[]:=zT (by omega)
def P55:Int->List SV:=fun r=>[.one (.int .i32 r)]
def R55:Int->SV×List Prop:=fun r=>(.one (.bool (Utf8.valid r)),[])
def K55:Con:=⟨true,[none],fun xs=>match xs with | [.one (.int .i32 r)]=>some (R55 r) | _=>none⟩
noncomputable def G55:GP:=bS P55 R55
theorem UJ:∀a b,(P55 a).map aB=(P55 b).map aB->a=b:=by
 rintro a0 b0 h;simp only[P55,zK,List.map_nil,aB,aS,zG,AV.one.injEq,AV.agg.injEq,Lf.int.injEq,Lf.str.injEq,Lf.bool.injEq,Lf.vrow.injEq,and_true,true_and] at h;exact h
theorem WY:bW G55 K55:=aN UJ (fun _ _=>rfl) (fun _=>rfl) fun xs r h=>by
 simp only[K55] at h;split at h
 .cases h;rename_i r;exact⟨r,rfl,rfl⟩
 .cases h
theorem abL {S:SC}(hB:SB S)  (h55:S.has 55 f55):aG S 55 (az G55):=by
 refine prM hB [] [] trivial trivial h55 (fun _=>⟨rfl,rfl,rfl⟩) (fun r=>fun _ _ _ _=>none) 400 ?_;rintro r hc;refine VC.use (p:=(0<=r->(r<55296->true=Utf8.valid r)/\(¬r<55296->(57343<r->(r<=1114111->true=Utf8.valid r)/\(¬r<=1114111->false=Utf8.valid r))/\(¬57343<r->false=Utf8.valid r)))/\(¬0<=r->(57343<r->(r<=1114111->true=Utf8.valid r)/\(¬r<=1114111->false=Utf8.valid r))/\(¬57343<r->false=Utf8.valid r))) (by kernel_rfl) ?_
 repeat' (first | intro h | apply And.intro)
 all_goals
  rw[Bool.eq_iff_iff];simp[bA];omega
def P17:List UInt8->List SV:=fun s=>[.one (.str s)]
def R17:List UInt8->SV×List Prop:=fun s=>(.tup [.o (.row (.int .i32) (aF s)),.o (.int .i64 (bI s))],[s.length<=1099511627776])
def K17:Con:=⟨false,[none],fun xs=>match xs with | [.one (.str s)]=>some (R17 s) | _=>none⟩
noncomputable def G17:GP:=bS P17 R17
theorem Tn:∀a b,(P17 a).map aB=(P17 b).map aB->a=b:=by
 rintro a0 b0 h;simp only[P17,zK,List.map_nil,aB,aS,zG,AV.one.injEq,AV.agg.injEq,Lf.int.injEq,Lf.str.injEq,Lf.bool.injEq,Lf.vrow.injEq,and_true,true_and] at h;exact h
theorem DY:bW G17 K17:=aN Tn (fun _ _=>rfl) (fun _=>rfl) fun xs r h=>by
 simp only[K17] at h;split at h
 .cases h;rename_i s;exact⟨s,rfl,rfl⟩
 .cases h
theorem abJ {S:SC}(hB:SB S) (q69:aG S 69 (az tu)) (h45:S.has 45 f45) (h68:S.has 68 f68) (h17:S.has 17 f17):aG S 17 (az G17):=by
 refine prM hB [(45,f45),(68,f68)] [⟨69,tu,K69⟩] ⟨h45,h68,trivial⟩ ⟨⟨q69,VP⟩,trivial⟩ h17 (fun _=>⟨rfl,rfl,rfl⟩) (fun s=>fun f id T L=>match f,id with
  |68,0=>some (.inv { p:List UInt8×List Int // runes s=(p.2.map fun r=>(r,true))++runes p.1 } (fun x=>([],[(0,.cell [.osl 4]),(2,.cell [.str x.1.1]),(4,.row (.int .i32) x.1.2)])) (fun x=>x.1.1.length))
  |_,_=>none) 600 ?_
 rintro s hc;have hc1:s.length<=1099511627776:=hc.1;refine VC.use (p:=(∃x1:{ p:List UInt8×List Int // runes s=List.map (fun r=>(r,true)) p.2++runes p.1 },x1.1.2=[]/\(0:Int)=(0:Int)/\s=x1.1.1/\x1.1.2=[])/\(∀x1:{ p:List UInt8×List Int // runes s=List.map (fun r=>(r,true)) p.2++runes p.1 },(0<(x1.1.1.length:Int)->((↑(dec x1.1.1).1:Int)=65533->(1<(↑(dec x1.1.1).2:Int)->(x1.1.2.length+[(↑(dec x1.1.1).1:Int)].length)*4<=140737488355328/\(0<=(↑(dec x1.1.1).2:Int)/\(↑(dec x1.1.1).2:Int)<=(x1.1.1.length:Int))/\(∃x2:{ p:List UInt8×List Int // runes s=List.map (fun r=>(r,true)) p.2++runes p.1 },x2.1.1.length<x1.1.1.length/\(0:Int)=(0:Int)/\aH x1.1.1 (some (↑(dec x1.1.1).2:Int)) none=x2.1.1/\x1.1.2++[(↑(dec x1.1.1).1:Int)]=x2.1.2))/\(¬1<(↑(dec x1.1.1).2:Int)->aF s=[]/\3=bI s))/\(¬(↑(dec x1.1.1).1:Int)=65533->(x1.1.2.length+[(↑(dec x1.1.1).1:Int)].length)*4<=140737488355328/\(0<=(↑(dec x1.1.1).2:Int)/\(↑(dec x1.1.1).2:Int)<=(x1.1.1.length:Int))/\(∃x2:{ p:List UInt8×List Int // runes s=List.map (fun r=>(r,true)) p.2++runes p.1 },x2.1.1.length<x1.1.1.length/\(0:Int)=(0:Int)/\aH x1.1.1 (some (↑(dec x1.1.1).2:Int)) none=x2.1.1/\x1.1.2++[(↑(dec x1.1.1).1:Int)]=x2.1.2)))/\(¬0<(x1.1.1.length:Int)->x1.1.2=aF s/\0=bI s))) (by kernel_rfl) ?_;refine⟨⟨⟨(s,[]),rfl⟩,rfl,rfl,rfl,rfl⟩,?_⟩;rintro⟨⟨t,o⟩,h⟩;dsimp only at h ⊢;have hl:=DR h;have go:0<(t.length:Int)->isR t=true->(o.length+1)*4<=140737488355328/\(0<=((dec t).2:Int)/\((dec t).2:Int)<=(t.length:Int))/\∃x2:{ p:List UInt8×List Int // runes s=List.map (fun r=>(r,true)) p.2++runes p.1 },x2.1.1.length<t.length/\(0:Int)=0/\aH t (some ((dec t).2:Int)) none=x2.1.1/\o++[((dec t).1:Int)]=x2.1.2:=fun h0 hr=>by
  have hw:=bM (DC h0);refine⟨by omega,by omega,⟨(t.drop (dec t).2,o++[((dec t).1:Int)]),DW h (DC h0) hr⟩,?_,rfl,rfl,rfl⟩;show (t.drop _).length<_;rw[List.length_drop];omega
 refine⟨fun h0=>⟨fun h1=>⟨fun h2=>go h0 (JW (.inr h2)),fun h2=>?_⟩,fun h1=>go h0 (JW (.inl h1))⟩,fun h0=>?_⟩
 .obtain⟨e1,e2⟩:=Jo h (DC h0) (Zk h1 h2);exact⟨e1,e2.symm⟩
 .obtain rfl:=Sv h0;obtain⟨e1,e2⟩:=GH h;exact⟨e1.symm,e2.symm⟩
def P20:List UInt8->List SV:=fun s=>[.one (.str s)]
def R20:List UInt8->SV×List Prop:=fun s=>(.tup [.o (.row (.int .i32) (lq s)),.o (.int .i64 (eP s))],[s.length<=1099511627776])
def K20:Con:=⟨false,[none],fun xs=>match xs with | [.one (.str s)]=>some (R20 s) | _=>none⟩
noncomputable def G20:GP:=bS P20 R20
theorem Ut:∀a b,(P20 a).map aB=(P20 b).map aB->a=b:=by
 rintro a0 b0 h;simp only[P20,zK,List.map_nil,aB,aS,zG,AV.one.injEq,AV.agg.injEq,Lf.int.injEq,Lf.str.injEq,Lf.bool.injEq,Lf.vrow.injEq,and_true,true_and] at h;exact h
theorem Zg:bW G20 K20:=aN Ut (fun _ _=>rfl) (fun _=>rfl) fun xs r h=>by
 simp only[K20] at h;split at h
 .cases h;rename_i s;exact⟨s,rfl,rfl⟩
 .cases h
theorem abP {S:SC}(hB:SB S) (q17:aG S 17 (az G17)) (h20:S.has 20 f20):aG S 20 (az G20):=by
 refine prM hB [] [⟨17,G17,K17⟩] trivial ⟨⟨q17,DY⟩,trivial⟩ h20 (fun _=>⟨rfl,rfl,rfl⟩) (fun s=>fun _ _ _ _=>none) 400 ?_;rintro s hc;have hc1:s.length<=1099511627776:=hc.1;refine VC.use (p:=s.length<=1099511627776/\(bI s=0->((↑(aF s).length:Int)=0->lq s=[]/\4=eP s)/\(¬(↑(aF s).length:Int)=0->(64<(↑(aF s).length:Int)->lq s=[]/\5=eP s)/\(¬64<(↑(aF s).length:Int)->aF s=lq s/\0=eP s)))/\(¬bI s=0->lq s=[]/\bI s=eP s)) (by kernel_rfl) ?_;refine⟨hc1,fun h=>⟨fun h1=>?_,fun h1=>⟨fun h2=>?_,fun h2=>?_⟩⟩,fun h=>?_⟩
 .obtain⟨e1,e2⟩:=Vf h (by omega);exact⟨e1,e2.symm⟩
 .obtain⟨e1,e2⟩:=Vn h (by omega);exact⟨e1,e2.symm⟩
 .obtain⟨e1,e2⟩:=Ve h (by omega) (by omega);exact⟨e1.symm,e2.symm⟩
 .obtain⟨e1,e2⟩:=Vw h;exact⟨e1,e2.symm⟩
def P37:List Int×List Int->List SV:=fun(a,b)=>[.one (.row (.int .i32) a),.one (.row (.int .i32) b)]
def R37:List Int×List Int->SV×List Prop:=fun(a,b)=>(.one (.int .i64 (cmpL a b)),[a.length<=1099511627776])
def K37:Con:=⟨true,[some (.int .i32),some (.int .i32)],fun xs=>match xs with | [.one (.row (.int .i32) a),.one (.row (.int .i32) b)]=>some (R37 (a,b)) | _=>none⟩
noncomputable def G37:GP:=bS P37 R37
theorem RF:∀a b,(P37 a).map aB=(P37 b).map aB->a=b:=by
 rintro⟨a0,a1⟩ ⟨b0,b1⟩ h;simp only[P37,zK,List.map_nil,aB,aS,zG,AV.one.injEq,AV.agg.injEq,Lf.int.injEq,Lf.str.injEq,Lf.bool.injEq,Lf.vrow.injEq,and_true,true_and,and_assoc] at h;obtain⟨h0,h1⟩:=h;have h0:=bD h0;have h1:=bD h1;subst h0 h1
 rfl
theorem Wu:bW G37 K37:=aN RF (fun⟨_,_⟩ ⟨_,_⟩=>rfl) (fun⟨_,_⟩=>rfl) fun xs r h=>by
 simp only[K37] at h;split at h
 .cases h;rename_i a b;exact⟨(a,b),rfl,rfl⟩
 .cases h
theorem abG {S:SC}(hB:SB S)  (h37:S.has 37 f37):aG S 37 (az G37):=by
 refine prM hB [] [] trivial trivial h37 (fun⟨a,b⟩=>⟨rfl,rfl,rfl⟩) (fun(a,b)=>fun f id T L=>match f,id with
  |37,0=>some (.inv { i:Nat // i<=a.length/\i<=b.length/\cmpL a b=cmpL (a.drop i) (b.drop i) } (fun x=>([(5,.one (.int .i64 x.1))],[])) (fun x=>a.length-x.1))
  |_,_=>none) 400 ?_
 rintro⟨a,b⟩ hc;have hc1:a.length<=1099511627776:=hc.1;refine VC.use (p:=(∃x1:{ i:Nat // i<=a.length/\i<=b.length/\cmpL a b=cmpL (List.drop i a) (List.drop i b) },a=a/\b=b/\0=(x1.1:Int))/\(∀x1:{ i:Nat // i<=a.length/\i<=b.length/\cmpL a b=cmpL (List.drop i a) (List.drop i b) },((x1.1:Int)<(a.length:Int)->((x1.1:Int)<(b.length:Int)->(0<=(x1.1:Int)/\(x1.1:Int)<(a.length:Int))/\(0<=(x1.1:Int)/\(x1.1:Int)<(b.length:Int))/\(a.getD x1.1 0<b.getD x1.1 0 -> -1=cmpL a b)/\(¬a.getD x1.1 0<b.getD x1.1 0->(0<=(x1.1:Int)/\(x1.1:Int)<(a.length:Int))/\(0<=(x1.1:Int)/\(x1.1:Int)<(b.length:Int))/\(b.getD x1.1 0<a.getD x1.1 0->1=cmpL a b)/\(¬b.getD x1.1 0<a.getD x1.1 0->aC ((x1.1:Int)+1)/\(∃x2:{ i:Nat // i<=a.length/\i<=b.length/\cmpL a b=cmpL (List.drop i a) (List.drop i b) },a.length-x2.1<a.length-x1.1/\a=a/\b=b/\(x1.1:Int)+1=(x2.1:Int)))))/\(¬(x1.1:Int)<(b.length:Int)->((a.length:Int)<(b.length:Int) -> -1=cmpL a b)/\(¬(a.length:Int)<(b.length:Int)->((b.length:Int)<(a.length:Int)->1=cmpL a b)/\(¬(b.length:Int)<(a.length:Int)->0=cmpL a b))))/\(¬(x1.1:Int)<(a.length:Int)->((a.length:Int)<(b.length:Int) -> -1=cmpL a b)/\(¬(a.length:Int)<(b.length:Int)->((b.length:Int)<(a.length:Int)->1=cmpL a b)/\(¬(b.length:Int)<(a.length:Int)->0=cmpL a b))))) (by kernel_rfl) ?_;refine⟨⟨⟨0,by omega,by omega,rfl⟩,rfl,rfl,rfl⟩,?_⟩;rintro⟨i,hi,hj,he⟩;have hs:=JN a b i;rw[<- he] at hs;dsimp only;refine⟨fun h=>⟨fun h1=>⟨by omega,by omega,fun h2=>?_,fun h2=>⟨by omega,by omega,fun h3=>?_,fun h3=>⟨by unfold aC;omega,⟨i+1,by omega,by omega,?_⟩,by show a.length-(i+1)<a.length-i;omega,rfl,rfl,rfl⟩⟩⟩,fun h1=>⟨fun h2=>?_,fun h2=>⟨fun h3=>?_,fun h3=>?_⟩⟩⟩,fun h=>⟨fun h1=>?_,fun h1=>⟨fun h2=>?_,fun h2=>?_⟩⟩⟩
 all_goals
  repeat' split at hs
  all_goals omega
def P18:List Int×List Int->List SV:=fun(a,b)=>[.one (.row (.int .i32) a),.one (.row (.int .i32) b)]
def R18:List Int×List Int->SV×List Prop:=fun(a,b)=>(.one (.bool (decide (a=b))),[a.length<=1099511627776])
def K18:Con:=⟨true,[some (.int .i32),some (.int .i32)],fun xs=>match xs with | [.one (.row (.int .i32) a),.one (.row (.int .i32) b)]=>some (R18 (a,b)) | _=>none⟩
noncomputable def G18:GP:=bS P18 R18
theorem RQ:∀a b,(P18 a).map aB=(P18 b).map aB->a=b:=by
 rintro⟨a0,a1⟩ ⟨b0,b1⟩ h;simp only[P18,zK,List.map_nil,aB,aS,zG,AV.one.injEq,AV.agg.injEq,Lf.int.injEq,Lf.str.injEq,Lf.bool.injEq,Lf.vrow.injEq,and_true,true_and,and_assoc] at h;obtain⟨h0,h1⟩:=h;have h0:=bD h0;have h1:=bD h1;subst h0 h1
 rfl
theorem Yc:bW G18 K18:=aN RQ (fun⟨_,_⟩ ⟨_,_⟩=>rfl) (fun⟨_,_⟩=>rfl) fun xs r h=>by
 simp only[K18] at h;split at h
 .cases h;rename_i a b;exact⟨(a,b),rfl,rfl⟩
 .cases h
theorem ab3 {S:SC}(hB:SB S) (q37:aG S 37 (az G37)) (h18:S.has 18 f18):aG S 18 (az G18):=by
 refine prM hB [] [⟨37,G37,K37⟩] trivial ⟨⟨q37,Wu⟩,trivial⟩ h18 (fun⟨a,b⟩=>⟨rfl,rfl,rfl⟩) (fun(a,b)=>fun _ _ _ _=>none) 400 ?_;rintro⟨a,b⟩ hc;have hc1:a.length<=1099511627776:=hc.1;refine VC.use (p:=a.length<=1099511627776/\decide (cmpL a b=0)=decide (a=b)) (by kernel_rfl) ?_;exact⟨hc1,decide_eq_decide.2 wC⟩
def P54:Int->List SV:=fun r=>[.one (.int .i32 r)]
def R54:Int->SV×List Prop:=fun r=>(.one (.bool (!Utf8.valid r)),[])
def K54:Con:=⟨true,[none],fun xs=>match xs with | [.one (.int .i32 r)]=>some (R54 r) | _=>none⟩
noncomputable def G54:GP:=bS P54 R54
theorem RY:∀a b,(P54 a).map aB=(P54 b).map aB->a=b:=by
 rintro a0 b0 h;simp only[P54,zK,List.map_nil,aB,aS,zG,AV.one.injEq,AV.agg.injEq,Lf.int.injEq,Lf.str.injEq,Lf.bool.injEq,Lf.vrow.injEq,and_true,true_and] at h;exact h
theorem Wm:bW G54 K54:=aN RY (fun _ _=>rfl) (fun _=>rfl) fun xs r h=>by
 simp only[K54] at h;split at h
 .cases h;rename_i r;exact⟨r,rfl,rfl⟩
 .cases h
theorem abV {S:SC}(hB:SB S) (q55:aG S 55 (az G55)) (h54:S.has 54 f54):aG S 54 (az G54):=by
 refine prM hB [] [⟨55,G55,K55⟩] trivial ⟨⟨q55,WY⟩,trivial⟩ h54 (fun _=>⟨rfl,rfl,rfl⟩) (fun r=>fun _ _ _ _=>none) 400 ?_;rintro r hc;refine VC.use (p:=(!Utf8.valid r)=!Utf8.valid r) (by kernel_rfl) ?_
 rfl
def P74:List Int->List SV:=fun l=>[.one (.row (.int .i32) l),.one (.fn 54 [])]
def R74:List Int->SV×List Prop:=fun l=>(.one (.int .i64 (vI l)),[l.length<=140737488355328])
def K74:Con:=⟨true,[some (.int .i32),none],fun xs=>match xs with | [.one (.row (.int .i32) l),.one (.fn 54 [])]=>some (R74 l) | _=>none⟩
noncomputable def G74:GP:=bS P74 R74
theorem Uu:∀a b,(P74 a).map aB=(P74 b).map aB->a=b:=by
 rintro a0 b0 h;simp only[P74,zK,List.map_nil,aB,aS,zG,AV.one.injEq,AV.agg.injEq,Lf.int.injEq,Lf.str.injEq,Lf.bool.injEq,Lf.vrow.injEq,and_true,true_and] at h;exact bD h
theorem WB:bW G74 K74:=aN Uu (fun _ _=>rfl) (fun _=>rfl) fun xs r h=>by
 simp only[K74] at h;split at h
 .cases h;rename_i l;exact⟨l,rfl,rfl⟩
 .cases h
theorem ab1 {S:SC}(hB:SB S) (q54:aG S 54 (az G54)) (h74:S.has 74 f74):aG S 74 (az G74):=by
 refine prM hB [] [⟨54,G54,K54⟩] trivial ⟨⟨q54,Wm⟩,trivial⟩ h74 (fun _=>⟨rfl,rfl,rfl⟩) (fun l=>fun f id T L=>match f,id with
  |74,0=>some (.inv { i:Nat // i<=l.length/\(l.take i).all Utf8.valid=true } (fun x=>([(8,.one (.int .i64 x.1))],[])) (fun x=>l.length-x.1))
  |_,_=>none) 400 ?_
 rintro l hc;have hc1:l.length<=140737488355328:=hc.1;refine VC.use (p:=(∃x1:{ i:Nat // i<=l.length/\(List.take i l).all Utf8.valid=true },l=l/\(l.length:Int)=(l.length:Int)/\0=(x1.1:Int))/\(∀x1:{ i:Nat // i<=l.length/\(List.take i l).all Utf8.valid=true },((x1.1:Int)<(l.length:Int)->(0<=(x1.1:Int)/\(x1.1:Int)<(l.length:Int))/\((!Utf8.valid (l.getD x1.1 0))=true->(x1.1:Int)=vI l)/\(¬(!Utf8.valid (l.getD x1.1 0))=true->aC ((x1.1:Int)+1)/\(∃x2:{ i:Nat // i<=l.length/\(List.take i l).all Utf8.valid=true },l.length-x2.1<l.length-x1.1/\l=l/\(l.length:Int)=(l.length:Int)/\(x1.1:Int)+1=(x2.1:Int))))/\(¬(x1.1:Int)<(l.length:Int) -> -1=vI l))) (by kernel_rfl) ?_;refine⟨⟨⟨0,by omega,rfl⟩,rfl,rfl,rfl⟩,?_⟩;rintro⟨i,hi,ha⟩;dsimp only;exact⟨fun h=>⟨by omega,fun h1=>(Ru h (by simpa using h1) ha).symm,fun h1=>⟨by unfold aC;omega,⟨i+1,by omega,Kr h (by simpa using h1) ha⟩,by show l.length-(i+1)<l.length-i;omega,rfl,rfl,rfl⟩⟩,fun h=>(Um h ha).symm⟩
def P53:List Int->List SV:=fun l=>[.one (.row (.int .i32) l),.one (.fn 54 [])]
def R53:List Int->SV×List Prop:=fun l=>(.one (.bool (!l.all Utf8.valid)),[l.length<=140737488355328])
def K53:Con:=⟨true,[some (.int .i32),none],fun xs=>match xs with | [.one (.row (.int .i32) l),.one (.fn 54 [])]=>some (R53 l) | _=>none⟩
noncomputable def G53:GP:=bS P53 R53
theorem QR:∀a b,(P53 a).map aB=(P53 b).map aB->a=b:=by
 rintro a0 b0 h;simp only[P53,zK,List.map_nil,aB,aS,zG,AV.one.injEq,AV.agg.injEq,Lf.int.injEq,Lf.str.injEq,Lf.bool.injEq,Lf.vrow.injEq,and_true,true_and] at h;exact bD h
theorem YM:bW G53 K53:=aN QR (fun _ _=>rfl) (fun _=>rfl) fun xs r h=>by
 simp only[K53] at h;split at h
 .cases h;rename_i l;exact⟨l,rfl,rfl⟩
 .cases h
theorem ab6 {S:SC}(hB:SB S) (q74:aG S 74 (az G74)) (h53:S.has 53 f53):aG S 53 (az G53):=by
 refine prM hB [] [⟨74,G74,K74⟩] trivial ⟨⟨q74,WB⟩,trivial⟩ h53 (fun _=>⟨rfl,rfl,rfl⟩) (fun l=>fun _ _ _ _=>none) 400 ?_;rintro l hc;have hc1:l.length<=140737488355328:=hc.1;refine VC.use (p:=l.length<=140737488355328/\decide (0<=vI l)=!l.all Utf8.valid) (by kernel_rfl) ?_;exact⟨hc1,Qu l⟩
def P33:List Int->List SV:=fun l=>[.one (.row (.int .i32) l)]
def R33:List Int->SV×List Prop:=fun l=>(.tup [.o (.str (kC l)),.o (.int .i64 (Fh l))],[l.length<=1099511627776])
def K33:Con:=⟨true,[some (.int .i32)],fun xs=>match xs with | [.one (.row (.int .i32) l)]=>some (R33 l) | _=>none⟩
noncomputable def G33:GP:=bS P33 R33
theorem QC:∀a b,(P33 a).map aB=(P33 b).map aB->a=b:=by
 rintro a0 b0 h;simp only[P33,zK,List.map_nil,aB,aS,zG,AV.one.injEq,AV.agg.injEq,Lf.int.injEq,Lf.str.injEq,Lf.bool.injEq,Lf.vrow.injEq,and_true,true_and] at h;exact bD h
theorem VI:bW G33 K33:=aN QC (fun _ _=>rfl) (fun _=>rfl) fun xs r h=>by
 simp only[K33] at h;split at h
 .cases h;rename_i l;exact⟨l,rfl,rfl⟩
 .cases h
theorem ab7 {S:SC}(hB:SB S) (q53:aG S 53 (az G53)) (h56:S.has 56 f56) (h75:S.has 75 f75) (h33:S.has 33 f33):aG S 33 (az G33):=by
 refine prM hB [(56,f56),(75,f75)] [⟨53,G53,K53⟩] ⟨h56,h75,trivial⟩ ⟨⟨q53,YM⟩,trivial⟩ h33 (fun _=>⟨rfl,rfl,rfl⟩) (fun l=>fun f id T L=>match f,id with
  |33,0=>some (.inv { p:Nat×List Int // p.1<=l.length/\p.2=fD (l.take p.1) } (fun x=>([(11,.one (.int .i64 x.1.1)),(4,.one (.osl 0))],[(0,.row (.int .u8) x.1.2)])) (fun x=>l.length-x.1.1))
  |33,1=>match T.getD 11 .junk,ae L 0 with | .one (.int _ i),.row (.int .u8) o=>some (.cut Unit fun _=>([],[(0,.row (.int .u8) (o++encI (l.getD i.toNat 0)))])) | _,_=>none
  |_,_=>none) 400 ?_
 rintro l hc;have hc1:l.length<=1099511627776:=hc.1;refine VC.use (p:=l.length<=140737488355328/\((!l.all Utf8.valid)=true->[]=kC l/\3=Fh l)/\(¬(!l.all Utf8.valid)=true->(∃x1:{ p:Nat×List Int // p.1<=l.length/\p.2=fD (List.take p.1 l) },x1.1.2=[]/\l=l/\(l.length:Int)=(l.length:Int)/\0=(x1.1.1:Int)/\x1.1.2=[])/\(∀x1:{ p:Nat×List Int // p.1<=l.length/\p.2=fD (List.take p.1 l) },((x1.1.1:Int)<(l.length:Int)->((0<=(x1.1.1:Int)/\(x1.1.1:Int)<(l.length:Int))/\(IntKind.u32.wrap (l.getD x1.1.1 0)<=127->(x1.1.2.length+[IntKind.u8.wrap (l.getD x1.1.1 0)].length)*1<=140737488355328/\(∃x2:Unit,l=l/\(l.length:Int)=(l.length:Int)/\(x1.1.1:Int)=(x1.1.1:Int)/\x1.1.2++[IntKind.u8.wrap (l.getD x1.1.1 0)]=x1.1.2++encI (l.getD x1.1.1 0)))/\(¬IntKind.u32.wrap (l.getD x1.1.1 0)<=127->(IntKind.u32.wrap (l.getD x1.1.1 0)<=2047->(x1.1.2.length+[IntKind.u8.wrap (↑(BitVec.ofInt 8 192 ||| BitVec.ofInt 8 (IntKind.u8.wrap (Int.fdiv (l.getD x1.1.1 0) 64))).toNat:Int),IntKind.u8.wrap (↑(BitVec.ofInt 8 128 ||| BitVec.ofInt 8 (IntKind.u8.wrap (↑(BitVec.ofInt 8 (IntKind.u8.wrap (l.getD x1.1.1 0)) &&& BitVec.ofInt 8 63).toNat:Int))).toNat:Int)].length)*1<=140737488355328/\(∃x2:Unit,l=l/\(l.length:Int)=(l.length:Int)/\(x1.1.1:Int)=(x1.1.1:Int)/\x1.1.2++[IntKind.u8.wrap (↑(BitVec.ofInt 8 192 ||| BitVec.ofInt 8 (IntKind.u8.wrap (Int.fdiv (l.getD x1.1.1 0) 64))).toNat:Int),IntKind.u8.wrap (↑(BitVec.ofInt 8 128 ||| BitVec.ofInt 8 (IntKind.u8.wrap (↑(BitVec.ofInt 8 (IntKind.u8.wrap (l.getD x1.1.1 0)) &&& BitVec.ofInt 8 63).toNat:Int))).toNat:Int)]=x1.1.2++encI (l.getD x1.1.1 0)))/\(¬IntKind.u32.wrap (l.getD x1.1.1 0)<=2047->(IntKind.u32.wrap (l.getD x1.1.1 0)<55296->(IntKind.u32.wrap (l.getD x1.1.1 0)<55296->(x1.1.2.length+[IntKind.u8.wrap (↑(BitVec.ofInt 8 224 ||| BitVec.ofInt 8 (IntKind.u8.wrap (Int.fdiv (l.getD x1.1.1 0) 4096))).toNat:Int),IntKind.u8.wrap (↑(BitVec.ofInt 8 128 ||| BitVec.ofInt 8 (IntKind.u8.wrap (↑(BitVec.ofInt 8 (IntKind.u8.wrap (Int.fdiv (l.getD x1.1.1 0) 64)) &&& BitVec.ofInt 8 63).toNat:Int))).toNat:Int),IntKind.u8.wrap (↑(BitVec.ofInt 8 128 ||| BitVec.ofInt 8 (IntKind.u8.wrap (↑(BitVec.ofInt 8 (IntKind.u8.wrap (l.getD x1.1.1 0)) &&& BitVec.ofInt 8 63).toNat:Int))).toNat:Int)].length)*1<=140737488355328/\(∃x2:Unit,l=l/\(l.length:Int)=(l.length:Int)/\(x1.1.1:Int)=(x1.1.1:Int)/\x1.1.2++[IntKind.u8.wrap (↑(BitVec.ofInt 8 224 ||| BitVec.ofInt 8 (IntKind.u8.wrap (Int.fdiv (l.getD x1.1.1 0) 4096))).toNat:Int),IntKind.u8.wrap (↑(BitVec.ofInt 8 128 ||| BitVec.ofInt 8 (IntKind.u8.wrap (↑(BitVec.ofInt 8 (IntKind.u8.wrap (Int.fdiv (l.getD x1.1.1 0) 64)) &&& BitVec.ofInt 8 63).toNat:Int))).toNat:Int),IntKind.u8.wrap (↑(BitVec.ofInt 8 128 ||| BitVec.ofInt 8 (IntKind.u8.wrap (↑(BitVec.ofInt 8 (IntKind.u8.wrap (l.getD x1.1.1 0)) &&& BitVec.ofInt 8 63).toNat:Int))).toNat:Int)]=x1.1.2++encI (l.getD x1.1.1 0)))/\(¬IntKind.u32.wrap (l.getD x1.1.1 0)<55296->(65535<IntKind.u32.wrap (l.getD x1.1.1 0)->(IntKind.u32.wrap (l.getD x1.1.1 0)<=1114111->(x1.1.2.length+[IntKind.u8.wrap (↑(BitVec.ofInt 8 240 ||| BitVec.ofInt 8 (IntKind.u8.wrap (Int.fdiv (l.getD x1.1.1 0) 262144))).toNat:Int),IntKind.u8.wrap (↑(BitVec.ofInt 8 128 ||| BitVec.ofInt 8 (IntKind.u8.wrap (↑(BitVec.ofInt 8 (IntKind.u8.wrap (Int.fdiv (l.getD x1.1.1 0) 4096)) &&& BitVec.ofInt 8 63).toNat:Int))).toNat:Int),IntKind.u8.wrap (↑(BitVec.ofInt 8 128 ||| BitVec.ofInt 8 (IntKind.u8.wrap (↑(BitVec.ofInt 8 (IntKind.u8.wrap (Int.fdiv (l.getD x1.1.1 0) 64)) &&& BitVec.ofInt 8 63).toNat:Int))).toNat:Int),IntKind.u8.wrap (↑(BitVec.ofInt 8 128 ||| BitVec.ofInt 8 (IntKind.u8.wrap (↑(BitVec.ofInt 8 (IntKind.u8.wrap (l.getD x1.1.1 0)) &&& BitVec.ofInt 8 63).toNat:Int))).toNat:Int)].length)*1<=140737488355328/\(∃x2:Unit,l=l/\(l.length:Int)=(l.length:Int)/\(x1.1.1:Int)=(x1.1.1:Int)/\x1.1.2++[IntKind.u8.wrap (↑(BitVec.ofInt 8 240 ||| BitVec.ofInt 8 (IntKind.u8.wrap (Int.fdiv (l.getD x1.1.1 0) 262144))).toNat:Int),IntKind.u8.wrap (↑(BitVec.ofInt 8 128 ||| BitVec.ofInt 8 (IntKind.u8.wrap (↑(BitVec.ofInt 8 (IntKind.u8.wrap (Int.fdiv (l.getD x1.1.1 0) 4096)) &&& BitVec.ofInt 8 63).toNat:Int))).toNat:Int),IntKind.u8.wrap (↑(BitVec.ofInt 8 128 ||| BitVec.ofInt 8 (IntKind.u8.wrap (↑(BitVec.ofInt 8 (IntKind.u8.wrap (Int.fdiv (l.getD x1.1.1 0) 64)) &&& BitVec.ofInt 8 63).toNat:Int))).toNat:Int),IntKind.u8.wrap (↑(BitVec.ofInt 8 128 ||| BitVec.ofInt 8 (IntKind.u8.wrap (↑(BitVec.ofInt 8 (IntKind.u8.wrap (l.getD x1.1.1 0)) &&& BitVec.ofInt 8 63).toNat:Int))).toNat:Int)]=x1.1.2++encI (l.getD x1.1.1 0)))/\(¬IntKind.u32.wrap (l.getD x1.1.1 0)<=1114111->(x1.1.2.length+3)*1<=140737488355328/\(∃x2:Unit,l=l/\(l.length:Int)=(l.length:Int)/\(x1.1.1:Int)=(x1.1.1:Int)/\x1.1.2++[239,191,189]=x1.1.2++encI (l.getD x1.1.1 0))))/\(¬65535<IntKind.u32.wrap (l.getD x1.1.1 0)->(x1.1.2.length+3)*1<=140737488355328/\(∃x2:Unit,l=l/\(l.length:Int)=(l.length:Int)/\(x1.1.1:Int)=(x1.1.1:Int)/\x1.1.2++[239,191,189]=x1.1.2++encI (l.getD x1.1.1 0)))))/\(¬IntKind.u32.wrap (l.getD x1.1.1 0)<55296->(57343<IntKind.u32.wrap (l.getD x1.1.1 0)->(IntKind.u32.wrap (l.getD x1.1.1 0)<=65535->(x1.1.2.length+[IntKind.u8.wrap (↑(BitVec.ofInt 8 224 ||| BitVec.ofInt 8 (IntKind.u8.wrap (Int.fdiv (l.getD x1.1.1 0) 4096))).toNat:Int),IntKind.u8.wrap (↑(BitVec.ofInt 8 128 ||| BitVec.ofInt 8 (IntKind.u8.wrap (↑(BitVec.ofInt 8 (IntKind.u8.wrap (Int.fdiv (l.getD x1.1.1 0) 64)) &&& BitVec.ofInt 8 63).toNat:Int))).toNat:Int),IntKind.u8.wrap (↑(BitVec.ofInt 8 128 ||| BitVec.ofInt 8 (IntKind.u8.wrap (↑(BitVec.ofInt 8 (IntKind.u8.wrap (l.getD x1.1.1 0)) &&& BitVec.ofInt 8 63).toNat:Int))).toNat:Int)].length)*1<=140737488355328/\(∃x2:Unit,l=l/\(l.length:Int)=(l.length:Int)/\(x1.1.1:Int)=(x1.1.1:Int)/\x1.1.2++[IntKind.u8.wrap (↑(BitVec.ofInt 8 224 ||| BitVec.ofInt 8 (IntKind.u8.wrap (Int.fdiv (l.getD x1.1.1 0) 4096))).toNat:Int),IntKind.u8.wrap (↑(BitVec.ofInt 8 128 ||| BitVec.ofInt 8 (IntKind.u8.wrap (↑(BitVec.ofInt 8 (IntKind.u8.wrap (Int.fdiv (l.getD x1.1.1 0) 64)) &&& BitVec.ofInt 8 63).toNat:Int))).toNat:Int),IntKind.u8.wrap (↑(BitVec.ofInt 8 128 ||| BitVec.ofInt 8 (IntKind.u8.wrap (↑(BitVec.ofInt 8 (IntKind.u8.wrap (l.getD x1.1.1 0)) &&& BitVec.ofInt 8 63).toNat:Int))).toNat:Int)]=x1.1.2++encI (l.getD x1.1.1 0)))/\(¬IntKind.u32.wrap (l.getD x1.1.1 0)<=65535->(65535<IntKind.u32.wrap (l.getD x1.1.1 0)->(IntKind.u32.wrap (l.getD x1.1.1 0)<=1114111->(x1.1.2.length+[IntKind.u8.wrap (↑(BitVec.ofInt 8 240 ||| BitVec.ofInt 8 (IntKind.u8.wrap (Int.fdiv (l.getD x1.1.1 0) 262144))).toNat:Int),IntKind.u8.wrap (↑(BitVec.ofInt 8 128 ||| BitVec.ofInt 8 (IntKind.u8.wrap (↑(BitVec.ofInt 8 (IntKind.u8.wrap (Int.fdiv (l.getD x1.1.1 0) 4096)) &&& BitVec.ofInt 8 63).toNat:Int))).toNat:Int),IntKind.u8.wrap (↑(BitVec.ofInt 8 128 ||| BitVec.ofInt 8 (IntKind.u8.wrap (↑(BitVec.ofInt 8 (IntKind.u8.wrap (Int.fdiv (l.getD x1.1.1 0) 64)) &&& BitVec.ofInt 8 63).toNat:Int))).toNat:Int),IntKind.u8.wrap (↑(BitVec.ofInt 8 128 ||| BitVec.ofInt 8 (IntKind.u8.wrap (↑(BitVec.ofInt 8 (IntKind.u8.wrap (l.getD x1.1.1 0)) &&& BitVec.ofInt 8 63).toNat:Int))).toNat:Int)].length)*1<=140737488355328/\(∃x2:Unit,l=l/\(l.length:Int)=(l.length:Int)/\(x1.1.1:Int)=(x1.1.1:Int)/\x1.1.2++[IntKind.u8.wrap (↑(BitVec.ofInt 8 240 ||| BitVec.ofInt 8 (IntKind.u8.wrap (Int.fdiv (l.getD x1.1.1 0) 262144))).toNat:Int),IntKind.u8.wrap (↑(BitVec.ofInt 8 128 ||| BitVec.ofInt 8 (IntKind.u8.wrap (↑(BitVec.ofInt 8 (IntKind.u8.wrap (Int.fdiv (l.getD x1.1.1 0) 4096)) &&& BitVec.ofInt 8 63).toNat:Int))).toNat:Int),IntKind.u8.wrap (↑(BitVec.ofInt 8 128 ||| BitVec.ofInt 8 (IntKind.u8.wrap (↑(BitVec.ofInt 8 (IntKind.u8.wrap (Int.fdiv (l.getD x1.1.1 0) 64)) &&& BitVec.ofInt 8 63).toNat:Int))).toNat:Int),IntKind.u8.wrap (↑(BitVec.ofInt 8 128 ||| BitVec.ofInt 8 (IntKind.u8.wrap (↑(BitVec.ofInt 8 (IntKind.u8.wrap (l.getD x1.1.1 0)) &&& BitVec.ofInt 8 63).toNat:Int))).toNat:Int)]=x1.1.2++encI (l.getD x1.1.1 0)))/\(¬IntKind.u32.wrap (l.getD x1.1.1 0)<=1114111->(x1.1.2.length+3)*1<=140737488355328/\(∃x2:Unit,l=l/\(l.length:Int)=(l.length:Int)/\(x1.1.1:Int)=(x1.1.1:Int)/\x1.1.2++[239,191,189]=x1.1.2++encI (l.getD x1.1.1 0))))/\(¬65535<IntKind.u32.wrap (l.getD x1.1.1 0)->(x1.1.2.length+3)*1<=140737488355328/\(∃x2:Unit,l=l/\(l.length:Int)=(l.length:Int)/\(x1.1.1:Int)=(x1.1.1:Int)/\x1.1.2++[239,191,189]=x1.1.2++encI (l.getD x1.1.1 0)))))/\(¬57343<IntKind.u32.wrap (l.getD x1.1.1 0)->(65535<IntKind.u32.wrap (l.getD x1.1.1 0)->(IntKind.u32.wrap (l.getD x1.1.1 0)<=1114111->(x1.1.2.length+[IntKind.u8.wrap (↑(BitVec.ofInt 8 240 ||| BitVec.ofInt 8 (IntKind.u8.wrap (Int.fdiv (l.getD x1.1.1 0) 262144))).toNat:Int),IntKind.u8.wrap (↑(BitVec.ofInt 8 128 ||| BitVec.ofInt 8 (IntKind.u8.wrap (↑(BitVec.ofInt 8 (IntKind.u8.wrap (Int.fdiv (l.getD x1.1.1 0) 4096)) &&& BitVec.ofInt 8 63).toNat:Int))).toNat:Int),IntKind.u8.wrap (↑(BitVec.ofInt 8 128 ||| BitVec.ofInt 8 (IntKind.u8.wrap (↑(BitVec.ofInt 8 (IntKind.u8.wrap (Int.fdiv (l.getD x1.1.1 0) 64)) &&& BitVec.ofInt 8 63).toNat:Int))).toNat:Int),IntKind.u8.wrap (↑(BitVec.ofInt 8 128 ||| BitVec.ofInt 8 (IntKind.u8.wrap (↑(BitVec.ofInt 8 (IntKind.u8.wrap (l.getD x1.1.1 0)) &&& BitVec.ofInt 8 63).toNat:Int))).toNat:Int)].length)*1<=140737488355328/\(∃x2:Unit,l=l/\(l.length:Int)=(l.length:Int)/\(x1.1.1:Int)=(x1.1.1:Int)/\x1.1.2++[IntKind.u8.wrap (↑(BitVec.ofInt 8 240 ||| BitVec.ofInt 8 (IntKind.u8.wrap (Int.fdiv (l.getD x1.1.1 0) 262144))).toNat:Int),IntKind.u8.wrap (↑(BitVec.ofInt 8 128 ||| BitVec.ofInt 8 (IntKind.u8.wrap (↑(BitVec.ofInt 8 (IntKind.u8.wrap (Int.fdiv (l.getD x1.1.1 0) 4096)) &&& BitVec.ofInt 8 63).toNat:Int))).toNat:Int),IntKind.u8.wrap (↑(BitVec.ofInt 8 128 ||| BitVec.ofInt 8 (IntKind.u8.wrap (↑(BitVec.ofInt 8 (IntKind.u8.wrap (Int.fdiv (l.getD x1.1.1 0) 64)) &&& BitVec.ofInt 8 63).toNat:Int))).toNat:Int),IntKind.u8.wrap (↑(BitVec.ofInt 8 128 ||| BitVec.ofInt 8 (IntKind.u8.wrap (↑(BitVec.ofInt 8 (IntKind.u8.wrap (l.getD x1.1.1 0)) &&& BitVec.ofInt 8 63).toNat:Int))).toNat:Int)]=x1.1.2++encI (l.getD x1.1.1 0)))/\(¬IntKind.u32.wrap (l.getD x1.1.1 0)<=1114111->(x1.1.2.length+3)*1<=140737488355328/\(∃x2:Unit,l=l/\(l.length:Int)=(l.length:Int)/\(x1.1.1:Int)=(x1.1.1:Int)/\x1.1.2++[239,191,189]=x1.1.2++encI (l.getD x1.1.1 0))))/\(¬65535<IntKind.u32.wrap (l.getD x1.1.1 0)->(x1.1.2.length+3)*1<=140737488355328/\(∃x2:Unit,l=l/\(l.length:Int)=(l.length:Int)/\(x1.1.1:Int)=(x1.1.1:Int)/\x1.1.2++[239,191,189]=x1.1.2++encI (l.getD x1.1.1 0))))))))/\(∀x2:Unit,aC ((x1.1.1:Int)+1)/\(∃x3:{ p:Nat×List Int // p.1<=l.length/\p.2=fD (List.take p.1 l) },l.length-x3.1.1<l.length-x1.1.1/\l=l/\(l.length:Int)=(l.length:Int)/\(x1.1.1:Int)+1=(x3.1.1:Int)/\x1.1.2++encI (l.getD x1.1.1 0)=x3.1.2)))/\(¬(x1.1.1:Int)<(l.length:Int)->List.map (fun z=>UInt8.ofNat (Int.toNat z)) x1.1.2=kC l/\0=Fh l)))) (by kernel_rfl) ?_;refine⟨by omega,fun h=>?_,fun h=>⟨⟨⟨(0,[]),by omega,rfl⟩,rfl,rfl,rfl,rfl,rfl⟩,?_⟩⟩
 .obtain⟨e1,e2⟩:=Oa (l:=l) (by simpa using h);exact⟨e1.symm,e2.symm⟩
 .have hall:l.all Utf8.valid=true:=by simpa using h
  rintro⟨⟨i,o⟩,hi,ho⟩;dsimp only at hi ho ⊢;have hol:=KQ hall hc1 ho;refine⟨fun h0=>⟨⟨by omega,Di (Jb hall h0) (by omega) (K:=fun o'=>∃x2:Unit,l=l/\(l.length:Int)=l.length/\(i:Int)=i/\o'=o++encI (l.getD i 0)) ⟨(),rfl,rfl,rfl,rfl⟩⟩,fun _=>⟨by unfold aC;omega,⟨(i+1,o++encI (l.getD i 0)),by show i+1<=l.length;omega,by show _=fD (l.take (i+1));rw[ED h0,<- ho]⟩,by show l.length-(i+1)<l.length-i;omega,rfl,rfl,rfl,rfl⟩⟩,fun h0=>?_⟩;obtain⟨e1,e2⟩:=FH hall;rw[e1,e2,<- Iq h0 ho];exact⟨rfl,rfl⟩
end Go.EA
