/- Layer 2: spans. Conditions: none. -/
import Derived.Test.YtkpahammkkfphaaDoorEAf1
import Derived.Test.YtkpahammkkfphaaDoorEAf2
import Derived.Test.YtkpahammkkfphaaDoorEK9
import Derived.Test.YtkpahammkkfphaaDoorEBack
import Derived.Test.YtkpahammkkfphaaDoorEMean3
import Derived.Test.YtkpahammkkfphaaDoorEPrim2
import Derived.Test.YtkpahammkkfphaaDoorERf
import Derived.Test.YtkpahammkkfphaaDoorERu
import Derived.Test.YtkpahammkkfphaaDoorESpan
import Derived.KernelRfl
set_option linter.unusedVariables false
set_option linter.unusedSimpArgs false
set_option maxRecDepth 100000
set_option maxHeartbeats 0
namespace Go.EA
open F
theorem Jp {r:Int}(h:Utf8.valid r=true):((bC r).length:Int)=if r<128 then 1 else if r<2048 then 2 else if r<65536 then 3 else 4:=by
 have h0:(bC r).length=(encI r).length:=by simp[encI]
 have hv:=aY.1 h;rw[h0];split
 .rw[DN h (by omega)];rfl
 .split
  .rw[DT h (by omega) (by omega)];rfl
  .split
   .rw[BM h (by omega) (by omega)];rfl
   .rw[BN h (by omega)];rfl
theorem Aa {s:List UInt8}{i:Nat}(h:i<s.length):s.drop i≠[]:=by
 intro h0;have:=congrArg List.length h0;simp at this;omega
theorem nN {s:List UInt8}(h:1048576<(s.length:Int)):spL s=[]/\spE s=5:=by
 unfold spL spE;rw[if_neg (by omega),if_pos (by omega)];exact⟨rfl,rfl⟩
theorem wO {s:List UInt8}(h:¬ 1048576<(s.length:Int)) (hk:aR s=false):spL s=[]/\spE s=3:=by
 unfold spL spE;rw[if_neg (by simp[hk]),if_neg (by omega),hk];exact⟨rfl,rfl⟩
theorem Ip {s:List UInt8}(h:¬ 1048576<(s.length:Int)) (hk:aR s=true):spL s=spans 0 (grp (rn s))/\spE s=0:=by
 unfold spL spE;rw[if_pos ⟨by omega,hk⟩,if_neg (by omega),hk];exact⟨rfl,rfl⟩
theorem Cy {o:List (Int×Int×Bool)}{a r:Int}(h:¬ 0<(o.length:Int)):o++[(a,a+((bC r).length:Int),aj r)]=iA o a r:=by
 have:o=[]:=zT (by omega);subst this;rfl
theorem Bq {o:List (Int×Int×Bool)}{a r:Int}(h:¬ decide ((o.getD ((o.length:Int)-1).toNat (0,0,false)).2.2=aj r)=true):o++[(a,a+((bC r).length:Int),aj r)]=iA o a r:=by
 rw[show ((o.length:Int)-1).toNat=o.length-1 by omega] at h;unfold iA;rw[if_neg (fun h1=>h (decide_eq_true h1.2))]
theorem wR {o:List (Int×Int×Bool)}{a r:Int}(h0:0<(o.length:Int)) (h:decide ((o.getD ((o.length:Int)-1).toNat (0,0,false)).2.2=aj r)=true):o.set ((o.length:Int)-1).toNat ((o.getD ((o.length:Int)-1).toNat (0,0,false)).1,a+((bC r).length:Int),(o.getD ((o.length:Int)-1).toNat (0,0,false)).2.2)=iA o a r:=by
 rw[show ((o.length:Int)-1).toNat=o.length-1 by omega] at h ⊢;have h:=of_decide_eq_true h;have hn:o≠[]:=by rintro rfl;simp at h0
 unfold iA;rw[if_pos ⟨hn,h⟩,h]
theorem BO (o:List (Int×Int×Bool)) (a r:Int):(iA o a r).length<=o.length+1:=by
 unfold iA;split
 .simp
 .simp
def P72:Int->List SV:=fun r=>[.one (.int .i32 r)]
def R72:Int->SV×List Prop:=fun r=>(.one (.int .i64 (if Utf8.valid r=true then ((bC r).length:Int) else -1)),[])
def K72:Con:=⟨true,[none],fun xs=>match xs with | [.one (.int .i32 r)]=>some (R72 r) | _=>none⟩
noncomputable def G72:GP:=dU P72 R72
theorem FB:∀a b,(P72 a).map aF=(P72 b).map aF->a=b:=by
 rintro a0 b0 h;simp only[P72,zK,List.map_nil,aF,bi,zG,AV.one.injEq,AV.agg.injEq,Lf.int.injEq,Lf.str.injEq,Lf.bool.injEq,Lf.vrow.injEq,and_true,true_and] at h;exact h
theorem JF:fA G72 K72:=bF FB (fun _ _=>rfl) (fun _=>rfl) fun xs r h=>by
 simp only[K72] at h;split at h
 .cases h;rename_i r;exact⟨r,rfl,rfl⟩
 .cases h
theorem Mf {S:SC}(hB:SB S)  (h72:S.has 72 f72):aP S 72 (aC G72):=by
 refine prM hB [] [] trivial trivial h72 (fun _=>⟨rfl,rfl,rfl⟩) (fun r=>fun _ _ _ _=>none) 400 ?_;rintro r hc;refine VC.use (p:=(r<0->(-1=if Utf8.valid r=true then (↑(bC r).length:Int) else -1))/\(¬r<0->(r<=127->(1=if Utf8.valid r=true then (↑(bC r).length:Int) else -1))/\(¬r<=127->(r<=2047->(2=if Utf8.valid r=true then (↑(bC r).length:Int) else -1))/\(¬r<=2047->(55296<=r->(r<=57343->(-1=if Utf8.valid r=true then (↑(bC r).length:Int) else -1))/\(¬r<=57343->(r<=65535->(3=if Utf8.valid r=true then (↑(bC r).length:Int) else -1))/\(¬r<=65535->(r<=1114111->(4=if Utf8.valid r=true then (↑(bC r).length:Int) else -1))/\(¬r<=1114111->(-1=if Utf8.valid r=true then (↑(bC r).length:Int) else -1)))))/\(¬55296<=r->(r<=65535->(3=if Utf8.valid r=true then (↑(bC r).length:Int) else -1))/\(¬r<=65535->(r<=1114111->(4=if Utf8.valid r=true then (↑(bC r).length:Int) else -1))/\(¬r<=1114111->(-1=if Utf8.valid r=true then (↑(bC r).length:Int) else -1)))))))) (by kernel_rfl) ?_;have e:=@Jp r;by_cases hv:Utf8.valid r=true
 .have e:=e hv;have h2:=aY.1 hv;rw[if_pos hv,e]
  repeat' (first | intro _ | apply And.intro)
  all_goals
   repeat' split
   all_goals omega
 .have h2:¬ _:=fun h=>hv (aY.2 h)
  rw[if_neg hv]
  repeat' (first | intro _ | apply And.intro)
  all_goals omega
def P50:List UInt8×Bool->List SV:=fun(s,b)=>[.one (.str s),.one (.bool b)]
def R50:List UInt8×Bool->SV×List Prop:=fun(s,b)=>(.one (.int .i64 (bZ s b)),[aR s=true,s.length<=1099511627776])
def K50:Con:=⟨true,[none,none],fun xs=>match xs with | [.one (.str s),.one (.bool b)]=>some (R50 (s,b)) | _=>none⟩
noncomputable def G50:GP:=dU P50 R50
theorem GG:∀a b,(P50 a).map aF=(P50 b).map aF->a=b:=by
 rintro⟨a0,a1⟩ ⟨b0,b1⟩ h;simp only[P50,zK,List.map_nil,aF,bi,zG,AV.one.injEq,AV.agg.injEq,Lf.int.injEq,Lf.str.injEq,Lf.bool.injEq,Lf.vrow.injEq,and_true,true_and,and_assoc] at h;obtain⟨h0,h1⟩:=h;subst h0 h1
 rfl
theorem IY:fA G50 K50:=bF GG (fun⟨_,_⟩ ⟨_,_⟩=>rfl) (fun⟨_,_⟩=>rfl) fun xs r h=>by
 simp only[K50] at h;split at h
 .cases h;rename_i s b;exact⟨(s,b),rfl,rfl⟩
 .cases h
theorem Mg {S:SC}(hB:SB S) (q35:aP S 35 (aC G35)) (q72:aP S 72 (aC G72)) (h50:S.has 50 f50):aP S 50 (aC G50):=by
 refine prM hB [] [⟨35,G35,K35⟩,⟨72,G72,K72⟩] trivial ⟨⟨q35,Jc⟩,⟨q72,JF⟩,trivial⟩ h50 (fun⟨s,b⟩=>⟨rfl,rfl,rfl⟩) (fun(s,b)=>fun f id T L=>match f,id with
  |50,0=>some (.inv { i:Nat // i<=s.length/\aR (s.drop i)=true/\bZ s b=i+bZ (s.drop i) b } (fun x=>([(4,.one (.int .i64 x.1))],[(0,.siter s x.1)])) (fun x=>s.length-x.1))
  |_,_=>none) 400 ?_
 rintro⟨s,b⟩ hc;have hc1:aR s=true:=hc.1;have hc2:s.length<=1099511627776:=hc.2.1;refine VC.use (p:=(∃x1:{ i:Nat // i<=s.length/\aR (List.drop i s)=true/\bZ s b=(i:Int)+bZ (List.drop i s) b },b=b/\0=(x1.1:Int)/\s=s/\0=x1.1)/\(∀x1:{ i:Nat // i<=s.length/\aR (List.drop i s)=true/\bZ s b=(i:Int)+bZ (List.drop i s) b },(x1.1<s.length->((!decide (aj (↑(Utf8.decode { data:=s.toArray } x1.1).1:Int)=b))=true->(x1.1:Int)=bZ s b)/\(¬(!decide (aj (↑(Utf8.decode { data:=s.toArray } x1.1).1:Int)=b))=true->aZ ((x1.1:Int)+if Utf8.valid (↑(Utf8.decode { data:=s.toArray } x1.1).1:Int)=true then (↑(bC (↑(Utf8.decode { data:=s.toArray } x1.1).1:Int)).length:Int) else -1)/\(∃x2:{ i:Nat // i<=s.length/\aR (List.drop i s)=true/\bZ s b=(i:Int)+bZ (List.drop i s) b },s.length-x2.1<s.length-x1.1/\b=b/\((x1.1:Int)+if Utf8.valid (↑(Utf8.decode { data:=s.toArray } x1.1).1:Int)=true then (↑(bC (↑(Utf8.decode { data:=s.toArray } x1.1).1:Int)).length:Int) else -1)=(x2.1:Int)/\s=s/\x1.1+(Utf8.decode { data:=s.toArray } x1.1).2=x2.1)))/\(¬x1.1<s.length->(x1.1:Int)=bZ s b))) (by kernel_rfl) ?_;refine⟨⟨⟨0,by omega,hc1,by simp⟩,rfl,rfl,rfl,rfl⟩,?_⟩;rintro⟨i,hi,hk,he⟩;dsimp only;refine⟨fun h=>?_,fun h=>?_⟩
 .have hne:=Aa h;obtain⟨_,hk2,hv,hw,h1,h2⟩:=sj hne hk;rw[List.length_drop] at h2;rw[List.drop_drop] at hk2;rw[ww h,if_pos hv,hw];refine⟨fun h3=>?_,fun h3=>⟨by unfold aZ;omega,⟨i+(dec (s.drop i)).2,by omega,hk2,?_⟩,?_,rfl,?_,rfl,rfl⟩⟩
  .rw[he,Ij hne (by simpa using h3)];omega
  .rw[he,tT hne hk (by simpa using h3),List.drop_drop];omega
  .show s.length-(i+_)<_;omega
  .show _=((i+_:Nat):Int);omega
 .have:s.drop i=[]:=List.drop_eq_nil_of_le (by omega);rw[he,this,DY];omega
def P27:List UInt8->List SV:=fun s=>[.one (.str s)]
def R27:List UInt8->SV×List Prop:=fun s=>(.tup [.o (.row (.pair (.int .i64) (.pair (.int .i64) .bool)) (spL s)),.o (.int .i64 (spE s))],[])
def K27:Con:=⟨false,[none],fun xs=>match xs with | [.one (.str s)]=>some (R27 s) | _=>none⟩
noncomputable def G27:GP:=dU P27 R27
theorem GY:∀a b,(P27 a).map aF=(P27 b).map aF->a=b:=by
 rintro a0 b0 h;simp only[P27,zK,List.map_nil,aF,bi,zG,AV.one.injEq,AV.agg.injEq,Lf.int.injEq,Lf.str.injEq,Lf.bool.injEq,Lf.vrow.injEq,and_true,true_and] at h;exact h
theorem DV:fA G27 K27:=bF GY (fun _ _=>rfl) (fun _=>rfl) fun xs r h=>by
 simp only[K27] at h;split at h
 .cases h;rename_i s;exact⟨s,rfl,rfl⟩
 .cases h
theorem Mc {S:SC}(hB:SB S) (q38:aP S 38 (aC G38)) (q50:aP S 50 (aC G50)) (h27:S.has 27 f27):aP S 27 (aC G27):=by
 refine prM hB [] [⟨38,G38,K38⟩,⟨50,G50,K50⟩] trivial ⟨⟨q38,Jm⟩,⟨q50,IY⟩,trivial⟩ h27 (fun _=>⟨rfl,rfl,rfl⟩) (fun s=>fun f id T L=>match f,id with
  |27,1=>some (.inv { p:Nat×List (Int×Int×Bool)×Bool // p.1<=s.length/\aR (s.drop p.1)=true/\p.2.1.length<=p.1/\p.2.1++spans p.1 (grp (rn (s.drop p.1)))=spL s } (fun x=>([(5,.one (.int .i64 x.1.1)),(4,.one (.bool x.1.2.2)),(2,.one (.osl 0))],[(0,.row (.pair (.int .i64) (.pair (.int .i64) .bool)) x.1.2.1)])) (fun x=>spM (s.drop x.1.1) x.1.2.2))
  |_,_=>none) 400 ?_
 rintro s hc;refine VC.use (p:=(1048576<(s.length:Int)->spL s=[]/\5=spE s)/\(¬1048576<(s.length:Int)->s.length<=4611686018427387904/\((!aR s)=true->spL s=[]/\3=spE s)/\(¬(!aR s)=true->(∃x1:{ p:Nat×List (Int×Int×Bool)×Bool // p.1<=s.length/\aR (List.drop p.1 s)=true/\p.2.1.length<=p.1/\p.2.1++spans (p.1:Int) (grp (rn (List.drop p.1 s)))=spL s },s=s/\x1.1.2.1=[]/\true=x1.1.2.2/\0=(x1.1.1:Int)/\x1.1.2.1=[])/\(∀x1:{ p:Nat×List (Int×Int×Bool)×Bool // p.1<=s.length/\aR (List.drop p.1 s)=true/\p.2.1.length<=p.1/\p.2.1++spans (p.1:Int) (grp (rn (List.drop p.1 s)))=spL s },((x1.1.1:Int)<(s.length:Int)->(0<=(x1.1.1:Int)/\(x1.1.1:Int)<=(s.length:Int))/\aR (dZ s (some (x1.1.1:Int)) none)=true/\(dZ s (some (x1.1.1:Int)) none).length<=1099511627776/\(0<bZ (dZ s (some (x1.1.1:Int)) none) x1.1.2.2->aZ ((x1.1.1:Int)+bZ (dZ s (some (x1.1.1:Int)) none) x1.1.2.2)/\(x1.1.2.1.length+[((x1.1.1:Int),(x1.1.1:Int)+bZ (dZ s (some (x1.1.1:Int)) none) x1.1.2.2,x1.1.2.2)].length)*24<=140737488355328/\aZ ((x1.1.1:Int)+bZ (dZ s (some (x1.1.1:Int)) none) x1.1.2.2)/\(∃x2:{ p:Nat×List (Int×Int×Bool)×Bool // p.1<=s.length/\aR (List.drop p.1 s)=true/\p.2.1.length<=p.1/\p.2.1++spans (p.1:Int) (grp (rn (List.drop p.1 s)))=spL s },spM (List.drop x2.1.1 s) x2.1.2.2<spM (List.drop x1.1.1 s) x1.1.2.2/\s=s/\(!x1.1.2.2)=x2.1.2.2/\(x1.1.1:Int)+bZ (dZ s (some (x1.1.1:Int)) none) x1.1.2.2=(x2.1.1:Int)/\x1.1.2.1++[((x1.1.1:Int),(x1.1.1:Int)+bZ (dZ s (some (x1.1.1:Int)) none) x1.1.2.2,x1.1.2.2)]=x2.1.2.1))/\(¬0<bZ (dZ s (some (x1.1.1:Int)) none) x1.1.2.2->∃x2:{ p:Nat×List (Int×Int×Bool)×Bool // p.1<=s.length/\aR (List.drop p.1 s)=true/\p.2.1.length<=p.1/\p.2.1++spans (p.1:Int) (grp (rn (List.drop p.1 s)))=spL s },spM (List.drop x2.1.1 s) x2.1.2.2<spM (List.drop x1.1.1 s) x1.1.2.2/\s=s/\(!x1.1.2.2)=x2.1.2.2/\(x1.1.1:Int)=(x2.1.1:Int)/\x1.1.2.1=x2.1.2.1))/\(¬(x1.1.1:Int)<(s.length:Int)->x1.1.2.1=spL s/\0=spE s))))) (by kernel_rfl) ?_;refine⟨fun h=>⟨(nN h).1,(nN h).2.symm⟩,fun h=>⟨by omega,fun h1=>?_,fun h1=>?_⟩⟩
 .have h1:aR s=false:=by simpa using h1
  exact⟨(wO h h1).1,(wO h h1).2.symm⟩
 have h1:aR s=true:=by simpa using h1
 obtain⟨e1,e2⟩:=Ip h h1;refine⟨⟨⟨(0,[],true),Nat.zero_le _,h1,zJ _,e1.symm⟩,rfl,rfl,rfl,rfl,rfl⟩,?_⟩;rintro⟨⟨i,o,b⟩,hi,hk,ho,he⟩;dsimp only at hi hk ho he ⊢;refine⟨fun h2=>?_,fun h2=>?_⟩
 .have hne:s.drop i≠[]:=Aa (by omega);rw[show dZ s (some (i:Int)) none=s.drop i from rfl];have hl:(s.drop i).length=s.length-i:=List.length_drop;have hb:=si (b:=b) hk;refine⟨by omega,hk,by omega,fun h3=>?_,fun h3=>?_⟩
  .obtain⟨n,hn⟩:∃n:Nat,bZ (s.drop i) b=n:=⟨(bZ (s.drop i) b).toNat,by omega⟩;have hd:=(qB (b:=b) hk).2;have hs:=xN (at':=i) hk h3;have hm:=Hw (c:=!b) hk h3;rw[hn] at hd hs hm hb h3 ⊢;rw[Int.toNat_natCast,List.drop_drop] at hd hs hm;rw[zN];refine⟨by unfold aZ;omega,by omega,by unfold aZ;omega,⟨(i+n,o++[((i:Int),(i:Int)+n,b)],!b),by omega,hd,by simp;omega,?_⟩,hm,rfl,rfl,by push_cast;rfl,rfl⟩;rw[<- he,hs];simp
  .exact⟨⟨(i,o,!b),hi,hk,ho,he⟩,IJ hne hk h3,rfl,rfl,rfl,rfl⟩
 .have:s.drop i=[]:=List.drop_eq_nil_of_le (by omega);rw[this] at he;refine⟨?_,e2.symm⟩;rw[<- he];simp[rn,jD,grp,spans]
def P51:List Int->List SV:=fun l=>[.one (.row (.int .i32) l)]
def R51:List Int->SV×List Prop:=fun l=>(.one (.str (eQ l)),[l.length<=1099511627776])
def K51:Con:=⟨true,[some (.int .i32)],fun xs=>match xs with | [.one (.row (.int .i32) l)]=>some (R51 l) | _=>none⟩
noncomputable def G51:GP:=dU P51 R51
theorem Gr:∀a b,(P51 a).map aF=(P51 b).map aF->a=b:=by
 rintro a0 b0 h;simp only[P51,zK,List.map_nil,aF,bi,zG,AV.one.injEq,AV.agg.injEq,Lf.int.injEq,Lf.str.injEq,Lf.bool.injEq,Lf.vrow.injEq,and_true,true_and] at h;exact dL h
theorem JK:fA G51 K51:=bF Gr (fun _ _=>rfl) (fun _=>rfl) fun xs r h=>by
 simp only[K51] at h;split at h
 .cases h;rename_i l;exact⟨l,rfl,rfl⟩
 .cases h
theorem LV {S:SC}(hB:SB S) (q34:aP S 34 (aC G34)) (h51:S.has 51 f51):aP S 51 (aC G51):=by
 refine prM hB [] [⟨34,G34,K34⟩] trivial ⟨⟨q34,Ke⟩,trivial⟩ h51 (fun _=>⟨rfl,rfl,rfl⟩) (fun l=>fun _ _ _ _=>none) 400 ?_;rintro l hc;have hc1:l.length<=1099511627776:=hc.1;refine VC.use (p:=l.length<=1099511627776/\eQ l=eQ l) (by kernel_rfl) ?_;exact⟨hc1,rfl⟩
def P28:List UInt8->List SV:=fun s=>[.one (.str s)]
def R28:List UInt8->SV×List Prop:=fun s=>(.tup [.o (.row (.pair (.int .i64) (.pair (.int .i64) .bool)) (spL s)),.o (.int .i64 (spE s))],[])
def K28:Con:=⟨false,[none],fun xs=>match xs with | [.one (.str s)]=>some (R28 s) | _=>none⟩
noncomputable def G28:GP:=dU P28 R28
theorem FR:∀a b,(P28 a).map aF=(P28 b).map aF->a=b:=by
 rintro a0 b0 h;simp only[P28,zK,List.map_nil,aF,bi,zG,AV.one.injEq,AV.agg.injEq,Lf.int.injEq,Lf.str.injEq,Lf.bool.injEq,Lf.vrow.injEq,and_true,true_and] at h;exact h
theorem Da:fA G28 K28:=bF FR (fun _ _=>rfl) (fun _=>rfl) fun xs r h=>by
 simp only[K28] at h;split at h
 .cases h;rename_i s;exact⟨s,rfl,rfl⟩
 .cases h
theorem LX {S:SC}(hB:SB S) (q19:aP S 19 (aC G19)) (q51:aP S 51 (aC G51)) (q36:aP S 36 (aC G36)) (h28:S.has 28 f28):aP S 28 (aC G28):=by
 refine prM hB [] [⟨19,G19,K19⟩,⟨51,G51,K51⟩,⟨36,G36,K36⟩] trivial ⟨⟨q19,JE⟩,⟨q51,JK⟩,⟨q36,Jn⟩,trivial⟩ h28 (fun _=>⟨rfl,rfl,rfl⟩) (fun s=>fun f id T L=>match f,id with
  |28,0=>some (.inv { p:Nat×List (Int×Int×Bool)×Int // p.1<=(aS s).length/\p.2.1.length<=p.1/\0<=p.2.2/\p.2.2<=4*p.1/\iP p.2.1 p.2.2 ((aS s).drop p.1)=spL s } (fun x=>([(25,.one (.int .i64 x.1.1)),(6,.one (.osl 0)),(7,.one (.int .i64 x.1.2.2))],[(0,.row (.pair (.int .i64) (.pair (.int .i64) .bool)) x.1.2.1)])) (fun x=>(aS s).length-x.1.1))
  |28,1=>match T.getD 25 .junk,T.getD 7 .junk,aa L 0 with | .one (.int _ i),.one (.int _ a),.row (.pair (.int .i64) (.pair (.int .i64) .bool)) o=>some (.cut Unit fun _=>([(6,.one (.osl 0)),(7,.one (.int .i64 (a+(bC ((aS s).getD i.toNat 0)).length)))],[(0,.row (.pair (.int .i64) (.pair (.int .i64) .bool)) (iA o a ((aS s).getD i.toNat 0)))])) | _,_,_=>none
  |_,_=>none) 400 ?_
 rintro s hc;refine VC.use (p:=(1048576<(s.length:Int)->spL s=[]/\5=spE s)/\(¬1048576<(s.length:Int)->s.length<=1099511627776/\(iL s=0->(∃x1:{ p:Nat×List (Int×Int×Bool)×Int // p.1<=(aS s).length/\p.2.1.length<=p.1/\0<=p.2.2/\p.2.2<=4*(p.1:Int)/\iP p.2.1 p.2.2 (List.drop p.1 (aS s))=spL s },x1.1.2.1=[]/\0=x1.1.2.2/\aS s=aS s/\(↑(aS s).length:Int)=(↑(aS s).length:Int)/\0=(x1.1.1:Int)/\x1.1.2.1=[])/\(∀x1:{ p:Nat×List (Int×Int×Bool)×Int // p.1<=(aS s).length/\p.2.1.length<=p.1/\0<=p.2.2/\p.2.2<=4*(p.1:Int)/\iP p.2.1 p.2.2 (List.drop p.1 (aS s))=spL s },((x1.1.1:Int)<(↑(aS s).length:Int)->((0<=(x1.1.1:Int)/\(x1.1.1:Int)<(↑(aS s).length:Int))/\[(aS s).getD x1.1.1 0].length<=1099511627776/\(0<(x1.1.2.1.length:Int)->aZ ((x1.1.2.1.length:Int)-1)/\(0<=(x1.1.2.1.length:Int)-1/\(x1.1.2.1.length:Int)-1<(x1.1.2.1.length:Int))/\((x1.1.2.1.length:Int)-1).toNat<x1.1.2.1.length/\(decide ((x1.1.2.1.getD ((x1.1.2.1.length:Int)-1).toNat (0,0,false)).2.2=aj ((aS s).getD x1.1.1 0))=true->aZ ((x1.1.2.1.length:Int)-1)/\aZ (x1.1.2.2+(↑(eQ [(aS s).getD x1.1.1 0]).length:Int))/\(0<=(x1.1.2.1.length:Int)-1/\(x1.1.2.1.length:Int)-1<(x1.1.2.1.length:Int))/\((x1.1.2.1.length:Int)-1).toNat<x1.1.2.1.length/\aZ (x1.1.2.2+(↑(eQ [(aS s).getD x1.1.1 0]).length:Int))/\(∃x2:Unit,x1.1.2.2+(↑(eQ [(aS s).getD x1.1.1 0]).length:Int)=x1.1.2.2+(↑(bC ((aS s).getD x1.1.1 0)).length:Int)/\aS s=aS s/\(↑(aS s).length:Int)=(↑(aS s).length:Int)/\(x1.1.1:Int)=(x1.1.1:Int)/\x1.1.2.1.set ((x1.1.2.1.length:Int)-1).toNat ((x1.1.2.1.getD ((x1.1.2.1.length:Int)-1).toNat (0,0,false)).1,x1.1.2.2+(↑(eQ [(aS s).getD x1.1.1 0]).length:Int),(x1.1.2.1.getD ((x1.1.2.1.length:Int)-1).toNat (0,0,false)).2.2)=iA x1.1.2.1 x1.1.2.2 ((aS s).getD x1.1.1 0)))/\(¬decide ((x1.1.2.1.getD ((x1.1.2.1.length:Int)-1).toNat (0,0,false)).2.2=aj ((aS s).getD x1.1.1 0))=true->aZ (x1.1.2.2+(↑(eQ [(aS s).getD x1.1.1 0]).length:Int))/\(x1.1.2.1.length+[(x1.1.2.2,x1.1.2.2+(↑(eQ [(aS s).getD x1.1.1 0]).length:Int),aj ((aS s).getD x1.1.1 0))].length)*24<=140737488355328/\aZ (x1.1.2.2+(↑(eQ [(aS s).getD x1.1.1 0]).length:Int))/\(∃x2:Unit,x1.1.2.2+(↑(eQ [(aS s).getD x1.1.1 0]).length:Int)=x1.1.2.2+(↑(bC ((aS s).getD x1.1.1 0)).length:Int)/\aS s=aS s/\(↑(aS s).length:Int)=(↑(aS s).length:Int)/\(x1.1.1:Int)=(x1.1.1:Int)/\x1.1.2.1++[(x1.1.2.2,x1.1.2.2+(↑(eQ [(aS s).getD x1.1.1 0]).length:Int),aj ((aS s).getD x1.1.1 0))]=iA x1.1.2.1 x1.1.2.2 ((aS s).getD x1.1.1 0))))/\(¬0<(x1.1.2.1.length:Int)->aZ (x1.1.2.2+(↑(eQ [(aS s).getD x1.1.1 0]).length:Int))/\(x1.1.2.1.length+[(x1.1.2.2,x1.1.2.2+(↑(eQ [(aS s).getD x1.1.1 0]).length:Int),aj ((aS s).getD x1.1.1 0))].length)*24<=140737488355328/\aZ (x1.1.2.2+(↑(eQ [(aS s).getD x1.1.1 0]).length:Int))/\(∃x2:Unit,x1.1.2.2+(↑(eQ [(aS s).getD x1.1.1 0]).length:Int)=x1.1.2.2+(↑(bC ((aS s).getD x1.1.1 0)).length:Int)/\aS s=aS s/\(↑(aS s).length:Int)=(↑(aS s).length:Int)/\(x1.1.1:Int)=(x1.1.1:Int)/\x1.1.2.1++[(x1.1.2.2,x1.1.2.2+(↑(eQ [(aS s).getD x1.1.1 0]).length:Int),aj ((aS s).getD x1.1.1 0))]=iA x1.1.2.1 x1.1.2.2 ((aS s).getD x1.1.1 0))))/\(∀x2:Unit,aZ ((x1.1.1:Int)+1)/\(∃x3:{ p:Nat×List (Int×Int×Bool)×Int // p.1<=(aS s).length/\p.2.1.length<=p.1/\0<=p.2.2/\p.2.2<=4*(p.1:Int)/\iP p.2.1 p.2.2 (List.drop p.1 (aS s))=spL s },(aS s).length-x3.1.1<(aS s).length-x1.1.1/\x1.1.2.2+(↑(bC ((aS s).getD x1.1.1 0)).length:Int)=x3.1.2.2/\aS s=aS s/\(↑(aS s).length:Int)=(↑(aS s).length:Int)/\(x1.1.1:Int)+1=(x3.1.1:Int)/\iA x1.1.2.1 x1.1.2.2 ((aS s).getD x1.1.1 0)=x3.1.2.1)))/\(¬(x1.1.1:Int)<(↑(aS s).length:Int)->x1.1.2.1=spL s/\0=spE s)))/\(¬iL s=0->spL s=[]/\iL s=spE s))) (by kernel_rfl) ?_;refine⟨fun h=>⟨(nN h).1,(nN h).2.symm⟩,fun h=>⟨by omega,fun h1=>?_,fun h1=>?_⟩⟩
 .have hk:=lN.1 h1;obtain⟨e1,e2⟩:=Ip h hk;have hr:aS s=rn s:=by unfold aS rn;rw[if_pos hk]
  have hall:=oQ hk;rw[<- hr] at hall e1;have hn:=DX s;refine⟨⟨⟨(0,[],0),Nat.zero_le _,zJ _,Int.le_refl _,Int.le_refl _,(xu _).trans e1.symm⟩,rfl,rfl,rfl,rfl,rfl,rfl⟩,?_⟩;rintro⟨⟨i,o,a⟩,hi,ho,ha0,ha,he⟩;dsimp only at hi ho ha0 ha he ⊢;refine⟨fun h2=>?_,fun h2=>?_⟩
  .have hv:=Bt hall h2;have hd:=qN (d:=(0:Int)) (a:=aS s) (i:=i) (by omega);rw[hd] at he;have et:eQ [(aS s).getD i 0]=bC ((aS s).getD i 0):=by
    rw[(Ai (by simp only[List.all_cons,hv];rfl)).1];simp[bf]
   rw[et];clear et hd;generalize (aS s).getD i 0=r at *;have hl:=vD hv;have h0:=Cy (o:=o) (a:=a) (r:=r);have h3:=Bq (o:=o) (a:=a) (r:=r);have h4:=wR (o:=o) (a:=a) (r:=r);have h5:=BO o a r;refine⟨⟨by omega,by simp,⟨fun h6=>⟨by unfold aZ;omega,by omega,by omega,fun h7=>⟨by unfold aZ;omega,by unfold aZ;omega,by omega,by omega,by unfold aZ;omega,(),rfl,rfl,rfl,rfl,h4 h6 h7⟩,fun h7=>⟨by unfold aZ;omega,by simp;omega,by unfold aZ;omega,(),rfl,rfl,rfl,rfl,h3 h7⟩⟩,fun h6=>⟨by unfold aZ;omega,by simp;omega,by unfold aZ;omega,(),rfl,rfl,rfl,rfl,h0 h6⟩⟩⟩,fun _=>⟨by unfold aZ;omega,⟨(i+1,iA o a r,a+(bC r).length),by omega,by dsimp only;omega,by dsimp only;omega,by dsimp only;omega,he⟩,by show _-(i+1)<_-i;omega,rfl,rfl,rfl,by push_cast;rfl,rfl⟩⟩
  .refine⟨?_,e2.symm⟩;rw[List.drop_eq_nil_of_le (by omega)] at he;exact he
 .obtain⟨e1,e2⟩:=wO h (xU.1 h1);refine⟨e1,?_⟩;rw[e2];unfold iL;rw[xU.1 h1];rfl
end Go.EA
