/- Layer 2: texts joined. Conditions: none. -/
import Derived.Test.YtkpahammkkfphaaDoorEAf1
import Derived.Test.YtkpahammkkfphaaDoorEAf2
import Derived.Test.YtkpahammkkfphaaDoorEK9
import Derived.Test.YtkpahammkkfphaaDoorEBack
import Derived.Test.YtkpahammkkfphaaDoorEMean3
import Derived.Test.YtkpahammkkfphaaDoorEPrim2
import Derived.Test.YtkpahammkkfphaaDoorERf
import Derived.Test.YtkpahammkkfphaaDoorERu
import Derived.Test.YtkpahammkkfphaaDoorESpan2
import Derived.Test.YtkpahammkkfphaaDoorESp1
import Derived.Test.YtkpahammkkfphaaDoorESp2
import Derived.Test.YtkpahammkkfphaaDoorESpan3
import Derived.Test.YtkpahammkkfphaaDoorEJn
import Derived.Test.YtkpahammkkfphaaDoorEBo
import Derived.KernelRfl
set_option linter.unusedVariables false
set_option linter.unusedSimpArgs false
set_option maxRecDepth 100000
set_option maxHeartbeats 0
namespace Go.EA
open F
def C61:mP:=Cws
def C62:mP:=Cst
def IE:List SO->Nat->Option Nat
 |[],_=>none
 |.bld _::_,n=>some n
 |_::r,n=>IE r (n+1)
def P39:List UInt8×(List (Int×Int×Bool))×List (List UInt8)->List SV:=fun(s,l,q)=>[.one (.str s),.one (.row (.pair (.int .i64) (.pair (.int .i64) .bool)) l),.one (.row .str q)]
def R39:List UInt8×(List (Int×Int×Bool))×List (List UInt8)->SV×List Prop:=fun(s,l,q)=>(.tup [.o (.str (jnT s l q)),.o (.int .i64 (jnE s l q))],[ko q<=1099511627776,q.length<=1099511627776])
def K39:Con:=⟨true,[none,some (.pair (.int .i64) (.pair (.int .i64) .bool)),some .str],fun xs=>match xs with | [.one (.str s),.one (.row (.pair (.int .i64) (.pair (.int .i64) .bool)) l),.one (.row .str q)]=>some (R39 (s,l,q)) | _=>none⟩
noncomputable def G39:GP:=dU P39 R39
theorem Ic:∀a b,(P39 a).map aF=(P39 b).map aF->a=b:=by
 rintro⟨a0,a1,a2⟩ ⟨b0,b1,b2⟩ h;simp only[P39,zK,List.map_nil,aF,bi,zG,AV.one.injEq,AV.agg.injEq,Lf.int.injEq,Lf.str.injEq,Lf.bool.injEq,Lf.vrow.injEq,and_true,true_and,and_assoc] at h;obtain⟨h0,h1,h2⟩:=h;have h1:=dL h1;have h2:=dL h2;subst h0 h1 h2
 rfl
theorem IL:fA G39 K39:=bF Ic (fun⟨_,_,_⟩ ⟨_,_,_⟩=>rfl) (fun⟨_,_,_⟩=>rfl) fun xs r h=>by
 simp only[K39] at h;split at h
 .cases h;rename_i s l q;exact⟨(s,l,q),rfl,rfl⟩
 .cases h
theorem Ml {S:SC}(hB:SB S) (u61:jN S 61 C61) (u62:jN S 62 C62) (q41:aP S 41 (aC G41)) (h52:S.has 52 f52) (h73:S.has 73 f73) (h39:S.has 39 f39):aP S 39 (aC G39):=by
 refine LG hB [(52,f52),(73,f73)] [⟨41,G41,K41⟩] [(61,C61),(62,C62)] ⟨h52,h73,trivial⟩ ⟨⟨q41,Du⟩,trivial⟩ ⟨u61,u62,trivial⟩ h39 (fun⟨s,l,q⟩=>⟨rfl,rfl,rfl⟩) (fun(s,l,q)=>fun f id T L=>match f,id with
  |73,0=>match IE L 0 with | none=>some (.inv { p:Nat×Nat // p.1<=(spL s).length/\p.2<=p.1/\p.2=eH ((spL s).take p.1) } (fun x=>([(8,.one (.int .i64 x.1.1)),(3,.one (.int .i64 x.1.2))],[(2,.cell [.int .i64 x.1.2])])) (fun x=>(spL s).length-x.1.1)) | some b=>some (.inv { p:Nat×Nat×List UInt8×Int // p.1<=(spL s).length/\p.2.1<=p.1/\p.2.1=eH ((spL s).take p.1)/\0<=p.2.2.2/\p.2.2.2<=stA s p.1/\p.2.2.1++(gm s p.2.2.2 (stA s p.1)++jnR s ((spL s).drop p.1) (q.drop p.2.1))=jnR s (spL s) q } (fun x=>([(8,.one (.int .i64 x.1.1)),(3,.one (.int .i64 x.1.2.1))],[(b,.bld x.1.2.2.1),(b+1,.cell [.int .i64 x.1.2.2.2])])) (fun x=>(spL s).length-x.1.1))
  |_,_=>none) 900 ?_
 rintro⟨s,l,q⟩ hc;have hc1:ko q<=1099511627776:=hc.1;have hc2:q.length<=1099511627776:=hc.2.1;refine VC.use (p:=((!(decide (spE s=0)&&decide (spL s=l)))=true->[]=jnT s l q/\7=jnE s l q)/\(¬(!(decide (spE s=0)&&decide (spL s=l)))=true->(∃x1:{ p:Nat×Nat // p.1<=(spL s).length/\p.2<=p.1/\p.2=eH (List.take p.1 (spL s)) },0=(x1.1.2:Int)/\l=l/\(l.length:Int)=(l.length:Int)/\0=(x1.1.1:Int)/\s=s/\q=q/\0=(x1.1.2:Int)/\l=l)/\(∀x1:{ p:Nat×Nat // p.1<=(spL s).length/\p.2<=p.1/\p.2=eH (List.take p.1 (spL s)) },((x1.1.1:Int)<(l.length:Int)->(0<=(x1.1.1:Int)/\(x1.1.1:Int)<(l.length:Int))/\((!(l.getD x1.1.1 (0,0,false)).2.2)=true->aZ ((x1.1.1:Int)+1)/\(∃x2:{ p:Nat×Nat // p.1<=(spL s).length/\p.2<=p.1/\p.2=eH (List.take p.1 (spL s)) },(spL s).length-x2.1.1<(spL s).length-x1.1.1/\(x1.1.2:Int)=(x2.1.2:Int)/\l=l/\(l.length:Int)=(l.length:Int)/\(x1.1.1:Int)+1=(x2.1.1:Int)/\s=s/\q=q/\(x1.1.2:Int)=(x2.1.2:Int)/\l=l))/\(¬(!(l.getD x1.1.1 (0,0,false)).2.2)=true->aZ ((x1.1.2:Int)+1)/\aZ ((x1.1.2:Int)+1)/\aZ ((x1.1.1:Int)+1)/\(∃x2:{ p:Nat×Nat // p.1<=(spL s).length/\p.2<=p.1/\p.2=eH (List.take p.1 (spL s)) },(spL s).length-x2.1.1<(spL s).length-x1.1.1/\(x1.1.2:Int)+1=(x2.1.2:Int)/\l=l/\(l.length:Int)=(l.length:Int)/\(x1.1.1:Int)+1=(x2.1.1:Int)/\s=s/\q=q/\(x1.1.2:Int)+1=(x2.1.2:Int)/\l=l)))/\(¬(x1.1.1:Int)<(l.length:Int)->((x1.1.2:Int)=(q.length:Int)->(∃x2:{ p:Nat×Nat×List UInt8×Int // p.1<=(spL s).length/\p.2.1<=p.1/\p.2.1=eH (List.take p.1 (spL s))/\0<=p.2.2.2/\p.2.2.2<=stA s p.1/\p.2.2.1++(gm s p.2.2.2 (stA s p.1)++jnR s (List.drop p.1 (spL s)) (List.drop p.2.1 q))=jnR s (spL s) q },0=(x2.1.2.1:Int)/\l=l/\(l.length:Int)=(l.length:Int)/\0=(x2.1.1:Int)/\s=s/\q=q/\(x1.1.2:Int)=(x1.1.2:Int)/\l=l/\[]=x2.1.2.2.1/\0=x2.1.2.2.2/\l=l)/\(∀x2:{ p:Nat×Nat×List UInt8×Int // p.1<=(spL s).length/\p.2.1<=p.1/\p.2.1=eH (List.take p.1 (spL s))/\0<=p.2.2.2/\p.2.2.2<=stA s p.1/\p.2.2.1++(gm s p.2.2.2 (stA s p.1)++jnR s (List.drop p.1 (spL s)) (List.drop p.2.1 q))=jnR s (spL s) q },((x2.1.1:Int)<(l.length:Int)->(0<=(x2.1.1:Int)/\(x2.1.1:Int)<(l.length:Int))/\((!(l.getD x2.1.1 (0,0,false)).2.2)=true->aZ ((x2.1.1:Int)+1)/\(∃x3:{ p:Nat×Nat×List UInt8×Int // p.1<=(spL s).length/\p.2.1<=p.1/\p.2.1=eH (List.take p.1 (spL s))/\0<=p.2.2.2/\p.2.2.2<=stA s p.1/\p.2.2.1++(gm s p.2.2.2 (stA s p.1)++jnR s (List.drop p.1 (spL s)) (List.drop p.2.1 q))=jnR s (spL s) q },(spL s).length-x3.1.1<(spL s).length-x2.1.1/\(x2.1.2.1:Int)=(x3.1.2.1:Int)/\l=l/\(l.length:Int)=(l.length:Int)/\(x2.1.1:Int)+1=(x3.1.1:Int)/\s=s/\q=q/\(x1.1.2:Int)=(x1.1.2:Int)/\l=l/\x2.1.2.2.1=x3.1.2.2.1/\x2.1.2.2.2=x3.1.2.2.2/\l=l))/\(¬(!(l.getD x2.1.1 (0,0,false)).2.2)=true->(0<=x2.1.2.2.2/\x2.1.2.2.2<=(l.getD x2.1.1 (0,0,false)).1/\(l.getD x2.1.1 (0,0,false)).1<=(s.length:Int))/\x2.1.2.2.1.length+(dZ s (some x2.1.2.2.2) (some (l.getD x2.1.1 (0,0,false)).1)).length<=140737488355328/\(∀x3:Unit,(0<=(x2.1.2.1:Int)/\(x2.1.2.1:Int)<(q.length:Int))/\(x2.1.2.2.1++dZ s (some x2.1.2.2.2) (some (l.getD x2.1.1 (0,0,false)).1)).length+List.length (q.getD x2.1.2.1 [])<=140737488355328/\(∀x4:Unit,aZ ((x2.1.2.1:Int)+1)/\aZ ((x2.1.1:Int)+1)/\(∃x5:{ p:Nat×Nat×List UInt8×Int // p.1<=(spL s).length/\p.2.1<=p.1/\p.2.1=eH (List.take p.1 (spL s))/\0<=p.2.2.2/\p.2.2.2<=stA s p.1/\p.2.2.1++(gm s p.2.2.2 (stA s p.1)++jnR s (List.drop p.1 (spL s)) (List.drop p.2.1 q))=jnR s (spL s) q },(spL s).length-x5.1.1<(spL s).length-x2.1.1/\(x2.1.2.1:Int)+1=(x5.1.2.1:Int)/\l=l/\(l.length:Int)=(l.length:Int)/\(x2.1.1:Int)+1=(x5.1.1:Int)/\s=s/\q=q/\(x1.1.2:Int)=(x1.1.2:Int)/\l=l/\x2.1.2.2.1++dZ s (some x2.1.2.2.2) (some (l.getD x2.1.1 (0,0,false)).1)++q.getD x2.1.2.1 []=x5.1.2.2.1/\(l.getD x2.1.1 (0,0,false)).2.1=x5.1.2.2.2/\l=l)))))/\(¬(x2.1.1:Int)<(l.length:Int)->(0<=x2.1.2.2.2/\x2.1.2.2.2<=(s.length:Int))/\x2.1.2.2.1.length+(dZ s (some x2.1.2.2.2) none).length<=140737488355328/\(∀x3:Unit,(x2.1.2.2.1++dZ s (some x2.1.2.2.2) none).length<=140737488355328/\(∀x4:Unit,x2.1.2.2.1++dZ s (some x2.1.2.2.2) none=jnT s l q/\0=jnE s l q)))))/\(¬(x1.1.2:Int)=(q.length:Int)->[]=jnT s l q/\2=jnE s l q))))) (by kernel_rfl) ?_;refine⟨fun h=>?_,fun h=>?_⟩
 .have h:gZ s l=false:=by
   unfold gZ;simpa only[Bool.not_eq_true'] using h
  unfold jnT jnE;rw[if_neg (by simp[h]),if_neg (by simp[h])];exact⟨rfl,rfl⟩
 have hk:gZ s l=true:=by simpa [gZ] using h
 clear h;obtain⟨he,rfl⟩:spE s=0/\spL s=l:=by simpa [gZ] using hk
 have hn:=nM s;have hs:=yz he;have e0:=tK s he;refine⟨⟨⟨(0,0),Nat.zero_le _,zJ _,rfl⟩,rfl,rfl,rfl,rfl,rfl,rfl,rfl,rfl⟩,?_⟩;rintro⟨⟨i,k⟩,hi,hki,hkc⟩;dsimp only at hi hki hkc ⊢;refine⟨fun h1=>⟨by omega,fun h2=>⟨by unfold aZ;omega,⟨(i+1,k),by dsimp only;omega,by dsimp only;omega,?_⟩,by show _-(i+1)<_-i;omega,rfl,rfl,rfl,by push_cast;rfl,rfl,rfl,rfl,rfl⟩,fun h2=>⟨by unfold aZ;omega,by unfold aZ;omega,by unfold aZ;omega,⟨(i+1,k+1),by dsimp only;omega,by dsimp only;omega,?_⟩,by show _-(i+1)<_-i;omega,by push_cast;rfl,rfl,rfl,by push_cast;rfl,rfl,rfl,by push_cast;rfl,rfl⟩⟩,fun h1=>⟨fun h2=>?_,fun h2=>?_⟩⟩
 .dsimp only;rw[gT (by omega),if_neg (by simpa using h2)];exact hkc
 .dsimp only;rw[gT (by omega),if_pos (by simpa using h2),hkc]
 .have hc:eH (spL s)=q.length:=by
   rw[List.take_of_length_le (by omega)] at hkc;omega
  have hT:jnT s (spL s) q=jnR s (spL s) q:=if_pos ⟨hk,hc⟩;have hE:jnE s (spL s) q=0:=by unfold jnE;rw[if_pos hk,if_pos hc]
  have hlen:=nU (s:=s) (spL s).length 0 q (by omega);rw[e0,List.drop_zero] at hlen;rw[hT,hE];refine⟨⟨⟨(0,0,[],0),Nat.zero_le _,zJ _,rfl,Int.le_refl _,by dsimp only;rw[e0];exact Int.le_refl _,by dsimp only;rw[e0,oU];rfl⟩,rfl,rfl,rfl,rfl,rfl,rfl,rfl,rfl,rfl,rfl,rfl⟩,?_⟩;rintro⟨⟨j,m,o,a⟩,hj,hmj,hmc,ha0,ha,ho⟩;dsimp only at hj hmj hmc ha0 ha ho ⊢;have hol:=congrArg List.length ho;rw[zL,zL] at hol;refine⟨fun h3=>⟨by omega,fun h4=>⟨by unfold aZ;omega,⟨(j+1,m,o,a),by dsimp only;omega,by dsimp only;omega,?_,ha0,?_,?_⟩,by show _-(j+1)<_-j;omega,rfl,rfl,rfl,by push_cast;rfl,rfl,rfl,rfl,rfl,rfl,rfl,rfl⟩,fun h4=>?_⟩,fun h3=>?_⟩
  .dsimp only;rw[gT (by omega),if_neg (by simpa using h4)];exact hmc
  .have:=Ea (s:=s) (i:=j) (by omega);dsimp only;omega
  .dsimp only;rw[Iy (by omega) (by simpa using h4) ha0 ha];exact ho
  .have hjl:j<(spL s).length:=by omega
   have hb:((spL s).getD j (0,0,false)).2.2=true:=by simpa using h4
   have hct:=gT hjl;rw[if_pos hb] at hct;have htk:=GQ (spL s) (j+1);have hmq:m<q.length:=by omega
   have hat:=gG hjl;have hA:=lL hjl;have hB:=jy hjl;have hlo:=hat.lo;have hlt:=hat.lt;have hhi:=hat.hi;rw[Di hjl hb hmq,hA,<- zO,<- zO] at ho;have hol:=congrArg List.length ho;rw[zL,zL,zL] at hol;have hcr:dZ s (some a) (some ((spL s).getD j (0,0,false)).1)=gm s a ((spL s).getD j (0,0,false)).1:=rfl;rw[hcr];refine⟨⟨ha0,by omega,by omega⟩,by omega,fun _=>⟨⟨by omega,by omega⟩,by rw[zL];omega,fun _=>⟨by unfold aZ;omega,by unfold aZ;omega,⟨(j+1,m+1,o++gm s a ((spL s).getD j (0,0,false)).1++q.getD m [],((spL s).getD j (0,0,false)).2.1),by dsimp only;omega,by dsimp only;omega,by dsimp only;omega,by dsimp only;omega,by dsimp only;omega,?_⟩,by show _-(j+1)<_-j;omega,by push_cast;rfl,rfl,rfl,by push_cast;rfl,rfl,rfl,rfl,rfl,rfl,rfl,rfl⟩⟩⟩;dsimp only;rw[hB,oU,List.nil_append];exact ho
  .have hjl:j=(spL s).length:=by omega
   have hst:stA s j=s.length:=by unfold stA;rw[if_neg (by omega)]
   have hd:(spL s).drop j=[]:=List.drop_eq_nil_of_le (by omega);rw[hst,Eg,hd] at ho;have ho:o++s.drop a.toNat=jnR s (spL s) q:=by simpa [jnR] using ho
   have hol:=congrArg List.length ho;rw[zL] at hol;have hcr:dZ s (some a) none=s.drop a.toNat:=rfl;rw[hcr];refine⟨⟨ha0,by omega⟩,by omega,fun _=>⟨by rw[zL];omega,fun _=>⟨ho,rfl⟩⟩⟩
 .have hc:¬ eH (spL s)=q.length:=by
   rw[List.take_of_length_le (by omega)] at hkc;omega
  unfold jnT jnE;rw[if_neg (fun h=>hc h.2),if_pos hk,if_neg hc];exact⟨rfl,rfl⟩
def P42:List UInt8×(List (Int×Int×Bool))->List SV:=fun(s,l)=>[.one (.str s),.one (.row (.pair (.int .i64) (.pair (.int .i64) .bool)) l)]
def R42:List UInt8×(List (Int×Int×Bool))->SV×List Prop:=fun(s,l)=>(.one (.bool (gZ s l)),[])
def K42:Con:=⟨true,[none,some (.pair (.int .i64) (.pair (.int .i64) .bool))],fun xs=>match xs with | [.one (.str s),.one (.row (.pair (.int .i64) (.pair (.int .i64) .bool)) l)]=>some (R42 (s,l)) | _=>none⟩
noncomputable def G42:GP:=dU P42 R42
theorem HY:∀a b,(P42 a).map aF=(P42 b).map aF->a=b:=by
 rintro⟨a0,a1⟩ ⟨b0,b1⟩ h;simp only[P42,zK,List.map_nil,aF,bi,zG,AV.one.injEq,AV.agg.injEq,Lf.int.injEq,Lf.str.injEq,Lf.bool.injEq,Lf.vrow.injEq,and_true,true_and,and_assoc] at h;obtain⟨h0,h1⟩:=h;have h1:=dL h1;subst h0 h1
 rfl
theorem Ey:fA G42 K42:=bF HY (fun⟨_,_⟩ ⟨_,_⟩=>rfl) (fun⟨_,_⟩=>rfl) fun xs r h=>by
 simp only[K42] at h;split at h
 .cases h;rename_i s l;exact⟨(s,l),rfl,rfl⟩
 .cases h
theorem Mr {S:SC}(hB:SB S) (q28:aP S 28 (aC G28)) (q31:aP S 31 (aC G31)) (h42:S.has 42 f42):aP S 42 (aC G42):=by
 refine prM hB [] [⟨28,G28,K28⟩,⟨31,G31,K31⟩] trivial ⟨⟨q28,Da⟩,⟨q31,Kg⟩,trivial⟩ h42 (fun⟨s,l⟩=>⟨rfl,rfl,rfl⟩) (fun(s,l)=>fun _ _ _ _=>none) 400 ?_;rintro⟨s,l⟩ hc;refine VC.use (p:=(spE s=0->(spL s).length<=1099511627776/\decide (spL s=l)=gZ s l)/\(¬spE s=0->false=gZ s l)) (by kernel_rfl) ?_;have hn:=nM s;unfold gZ;exact⟨fun h=>⟨by omega,by rw[decide_eq_true h];rfl⟩,fun h=>by rw[decide_eq_false h];rfl⟩
def P40:List UInt8×(List (Int×Int×Bool))×List (List UInt8)->List SV:=fun(s,l,q)=>[.one (.str s),.one (.row (.pair (.int .i64) (.pair (.int .i64) .bool)) l),.one (.row .str q)]
def R40:List UInt8×(List (Int×Int×Bool))×List (List UInt8)->SV×List Prop:=fun(s,l,q)=>(.tup [.o (.str (jnT s l q)),.o (.int .i64 (jnE s l q))],[ko q<=1099511627776,q.length<=1099511627776])
def K40:Con:=⟨true,[none,some (.pair (.int .i64) (.pair (.int .i64) .bool)),some .str],fun xs=>match xs with | [.one (.str s),.one (.row (.pair (.int .i64) (.pair (.int .i64) .bool)) l),.one (.row .str q)]=>some (R40 (s,l,q)) | _=>none⟩
noncomputable def G40:GP:=dU P40 R40
theorem Fu:∀a b,(P40 a).map aF=(P40 b).map aF->a=b:=by
 rintro⟨a0,a1,a2⟩ ⟨b0,b1,b2⟩ h;simp only[P40,zK,List.map_nil,aF,bi,zG,AV.one.injEq,AV.agg.injEq,Lf.int.injEq,Lf.str.injEq,Lf.bool.injEq,Lf.vrow.injEq,and_true,true_and,and_assoc] at h;obtain⟨h0,h1,h2⟩:=h;have h1:=dL h1;have h2:=dL h2;subst h0 h1 h2
 rfl
theorem IP:fA G40 K40:=bF Fu (fun⟨_,_,_⟩ ⟨_,_,_⟩=>rfl) (fun⟨_,_,_⟩=>rfl) fun xs r h=>by
 simp only[K40] at h;split at h
 .cases h;rename_i s l q;exact⟨(s,l,q),rfl,rfl⟩
 .cases h
theorem LJ {S:SC}(hB:SB S) (q42:aP S 42 (aC G42)) (h40:S.has 40 f40):aP S 40 (aC G40):=by
 refine prM hB [] [⟨42,G42,K42⟩] trivial ⟨⟨q42,Ey⟩,trivial⟩ h40 (fun⟨s,l,q⟩=>⟨rfl,rfl,rfl⟩) (fun(s,l,q)=>fun f id T L=>match f,id with
  |40,0=>some (.inv { p:Nat×Nat×List UInt8 // p.1<=(spL s).length/\p.2.1<=p.1/\p.2.1=eH ((spL s).take p.1)/\p.2.2++jnR s ((spL s).drop p.1) (q.drop p.2.1)=jnR s (spL s) q } (fun x=>([(18,.one (.int .i64 x.1.1)),(9,.one (.int .i64 x.1.2.1)),(8,.one (.str x.1.2.2))],[])) (fun x=>(spL s).length-x.1.1))
  |_,_=>none) 400 ?_
 rintro⟨s,l,q⟩ hc;have hc1:ko q<=1099511627776:=hc.1;have hc2:q.length<=1099511627776:=hc.2.1;refine VC.use (p:=((!gZ s l)=true->[]=jnT s l q/\7=jnE s l q)/\(¬(!gZ s l)=true->(∃x1:{ p:Nat×Nat×List UInt8 // p.1<=(spL s).length/\p.2.1<=p.1/\p.2.1=eH (List.take p.1 (spL s))/\p.2.2++jnR s (List.drop p.1 (spL s)) (List.drop p.2.1 q)=jnR s (spL s) q },s=s/\q=q/\[]=x1.1.2.2/\0=(x1.1.2.1:Int)/\l=l/\(l.length:Int)=(l.length:Int)/\0=(x1.1.1:Int))/\(∀x1:{ p:Nat×Nat×List UInt8 // p.1<=(spL s).length/\p.2.1<=p.1/\p.2.1=eH (List.take p.1 (spL s))/\p.2.2++jnR s (List.drop p.1 (spL s)) (List.drop p.2.1 q)=jnR s (spL s) q },((x1.1.1:Int)<(l.length:Int)->(0<=(x1.1.1:Int)/\(x1.1.1:Int)<(l.length:Int))/\((!(l.getD x1.1.1 (0,0,false)).2.2)=true->(0<=(l.getD x1.1.1 (0,0,false)).1/\(l.getD x1.1.1 (0,0,false)).1<=(l.getD x1.1.1 (0,0,false)).2.1/\(l.getD x1.1.1 (0,0,false)).2.1<=(s.length:Int))/\x1.1.2.2.length+(dZ s (some (l.getD x1.1.1 (0,0,false)).1) (some (l.getD x1.1.1 (0,0,false)).2.1)).length<=9223372036854775807/\aZ ((x1.1.1:Int)+1)/\(∃x2:{ p:Nat×Nat×List UInt8 // p.1<=(spL s).length/\p.2.1<=p.1/\p.2.1=eH (List.take p.1 (spL s))/\p.2.2++jnR s (List.drop p.1 (spL s)) (List.drop p.2.1 q)=jnR s (spL s) q },(spL s).length-x2.1.1<(spL s).length-x1.1.1/\s=s/\q=q/\x1.1.2.2++dZ s (some (l.getD x1.1.1 (0,0,false)).1) (some (l.getD x1.1.1 (0,0,false)).2.1)=x2.1.2.2/\(x1.1.2.1:Int)=(x2.1.2.1:Int)/\l=l/\(l.length:Int)=(l.length:Int)/\(x1.1.1:Int)+1=(x2.1.1:Int)))/\(¬(!(l.getD x1.1.1 (0,0,false)).2.2)=true->((x1.1.2.1:Int)<(q.length:Int)->(0<=(x1.1.2.1:Int)/\(x1.1.2.1:Int)<(q.length:Int))/\x1.1.2.2.length+List.length (q.getD x1.1.2.1 [])<=9223372036854775807/\aZ ((x1.1.2.1:Int)+1)/\aZ ((x1.1.1:Int)+1)/\(∃x2:{ p:Nat×Nat×List UInt8 // p.1<=(spL s).length/\p.2.1<=p.1/\p.2.1=eH (List.take p.1 (spL s))/\p.2.2++jnR s (List.drop p.1 (spL s)) (List.drop p.2.1 q)=jnR s (spL s) q },(spL s).length-x2.1.1<(spL s).length-x1.1.1/\s=s/\q=q/\x1.1.2.2++q.getD x1.1.2.1 []=x2.1.2.2/\(x1.1.2.1:Int)+1=(x2.1.2.1:Int)/\l=l/\(l.length:Int)=(l.length:Int)/\(x1.1.1:Int)+1=(x2.1.1:Int)))/\(¬(x1.1.2.1:Int)<(q.length:Int)->aZ ((x1.1.2.1:Int)+1)/\aZ ((x1.1.1:Int)+1)/\(∃x2:{ p:Nat×Nat×List UInt8 // p.1<=(spL s).length/\p.2.1<=p.1/\p.2.1=eH (List.take p.1 (spL s))/\p.2.2++jnR s (List.drop p.1 (spL s)) (List.drop p.2.1 q)=jnR s (spL s) q },(spL s).length-x2.1.1<(spL s).length-x1.1.1/\s=s/\q=q/\x1.1.2.2=x2.1.2.2/\(x1.1.2.1:Int)+1=(x2.1.2.1:Int)/\l=l/\(l.length:Int)=(l.length:Int)/\(x1.1.1:Int)+1=(x2.1.1:Int)))))/\(¬(x1.1.1:Int)<(l.length:Int)->((x1.1.2.1:Int)=(q.length:Int)->x1.1.2.2=jnT s l q/\0=jnE s l q)/\(¬(x1.1.2.1:Int)=(q.length:Int)->[]=jnT s l q/\2=jnE s l q))))) (by kernel_rfl) ?_;refine⟨fun h=>?_,fun h=>?_⟩
 .have h:gZ s l=false:=by simpa using h
  unfold jnT jnE;rw[if_neg (by simp[h]),if_neg (by simp[h])];exact⟨rfl,rfl⟩
 have hk:gZ s l=true:=by simpa using h
 clear h;obtain⟨he,rfl⟩:spE s=0/\spL s=l:=by simpa [gZ] using hk
 have hn:=nM s;have hs:=yz he;have hlen:=nU (s:=s) (spL s).length 0 q (by omega);rw[tK s he,List.drop_zero] at hlen;refine⟨⟨⟨(0,0,[]),Nat.zero_le _,zJ _,rfl,rfl⟩,rfl,rfl,rfl,rfl,rfl,rfl,rfl⟩,?_⟩;rintro⟨⟨j,m,o⟩,hj,hmj,hmc,ho⟩;dsimp only at hj hmj hmc ho ⊢;refine⟨fun h3=>?_,fun h3=>?_⟩
 .have hjl:j<(spL s).length:=by omega
  have hct:=gT hjl;have hat:=gG hjl;have hA:=lL hjl;have hB:=jy hjl;have hlo:=hat.lo;have hlt:=hat.lt;have hhi:=hat.hi;refine⟨by omega,fun h4=>?_,fun h4=>?_⟩
  .have hb:((spL s).getD j (0,0,false)).2.2=false:=by simpa using h4
   have hj2:=Iy (ts:=q.drop m) hjl hb EQ (Int.le_refl _);rw[oU,List.nil_append,hA,hB] at hj2;rw[<- hj2,<- zO] at ho;have hol:=congrArg List.length ho;rw[zL,zL] at hol;have hcr:dZ s (some ((spL s).getD j (0,0,false)).1) (some ((spL s).getD j (0,0,false)).2.1)=gm s ((spL s).getD j (0,0,false)).1 ((spL s).getD j (0,0,false)).2.1:=rfl;rw[hcr];rw[hb] at hct;exact⟨⟨hlo,Int.le_of_lt hlt,hhi⟩,by omega,by unfold aZ;omega,⟨(j+1,m,o++gm s ((spL s).getD j (0,0,false)).1 ((spL s).getD j (0,0,false)).2.1),by dsimp only;omega,by dsimp only;omega,by dsimp only;rw[hct];simpa using hmc,ho⟩,by show _-(j+1)<_-j;omega,rfl,rfl,rfl,rfl,rfl,rfl,by push_cast;rfl⟩
  .have hb:((spL s).getD j (0,0,false)).2.2=true:=by simpa using h4
   rw[if_pos hb] at hct;refine⟨fun h5=>?_,fun h5=>?_⟩
   .rw[Di hjl hb (by omega),<- zO] at ho;have hol:=congrArg List.length ho;rw[zL,zL] at hol;exact⟨by omega,by omega,by unfold aZ;omega,by unfold aZ;omega,⟨(j+1,m+1,o++q.getD m []),by dsimp only;omega,by dsimp only;omega,by dsimp only;omega,ho⟩,by show _-(j+1)<_-j;omega,rfl,rfl,rfl,by push_cast;rfl,rfl,rfl,by push_cast;rfl⟩
   .rw[HZ hjl hb (by omega)] at ho;exact⟨by unfold aZ;omega,by unfold aZ;omega,⟨(j+1,m+1,o),by dsimp only;omega,by dsimp only;omega,by dsimp only;omega,ho⟩,by show _-(j+1)<_-j;omega,rfl,rfl,rfl,by push_cast;rfl,rfl,rfl,by push_cast;rfl⟩
 .have hd:(spL s).drop j=[]:=List.drop_eq_nil_of_le (by omega);rw[hd] at ho;have ho:o=jnR s (spL s) q:=by simpa [jnR] using ho
  rw[List.take_of_length_le (by omega)] at hmc;unfold jnT jnE;rw[if_pos hk];refine⟨fun h4=>?_,fun h4=>?_⟩
  .have hc:eH (spL s)=q.length:=by omega
   rw[if_pos ⟨hk,hc⟩,if_pos hc];exact⟨ho,rfl⟩
  .have hc:¬ eH (spL s)=q.length:=by omega
   rw[if_neg (fun h=>hc h.2),if_neg hc];exact⟨rfl,rfl⟩
end Go.EA
