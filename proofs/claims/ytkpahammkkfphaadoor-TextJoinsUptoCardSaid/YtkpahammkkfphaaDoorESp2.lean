/- Layer 2: tokens, comparisons. Conditions: none. -/
import Derived.Test.YtkpahammkkfphaaDoorEAf1
import Derived.Test.YtkpahammkkfphaaDoorEAf2
import Derived.Test.YtkpahammkkfphaaDoorEK9
import Derived.Test.YtkpahammkkfphaaDoorEBack
import Derived.Test.YtkpahammkkfphaaDoorEMean3
import Derived.Test.YtkpahammkkfphaaDoorEPrim2
import Derived.Test.YtkpahammkkfphaaDoorERf
import Derived.Test.YtkpahammkkfphaaDoorERu
import Derived.Test.YtkpahammkkfphaaDoorESpan2
import Derived.Test.YtkpahammkkfphaaDoorESp1
import Derived.KernelRfl
set_option linter.unusedVariables false
set_option linter.unusedSimpArgs false
set_option maxRecDepth 100000
set_option maxHeartbeats 0
namespace Go.EA
open F
theorem BF {α:Type}{a b:List α}{i:Nat}(h:¬ (i:Int)<a.length) (hl:a.length=b.length) (ht:a.take i=b.take i):a=b:=by
 rwa [List.take_of_length_le (by omega),List.take_of_length_le (by omega)] at ht
theorem yE {α:Type}{a b:List α}{i:Nat}(d:α) (h:(i:Int)<a.length) (hl:a.length=b.length) (ht:a.take i=b.take i) (he:a.getD i d=b.getD i d):a.take (i+1)=b.take (i+1):=by
 have h1:i<a.length:=by omega
 have h2:i<b.length:=by omega
 rw[zA,zA,zB h1,zB h2] at he;rw[List.take_add_one,List.take_add_one,ht,zB h1,zB h2];have he:a[i]=b[i]:=he;rw[he]
theorem nR (x y:Int×Int×Bool):gz (List.take 3 (List.drop 0 ((Ty.pair (.int .i64) (.pair (.int .i64) .bool)).cells x))) (List.take 3 (List.drop 0 ((Ty.pair (.int .i64) (.pair (.int .i64) .bool)).cells y)))=decide (x=y):=by
 obtain⟨x0,x1,x2⟩:=x;obtain⟨y0,y1,y2⟩:=y;simp[Ty.cells,gz,SL.i?,SL.b?]
def P63:(List (Int×Int×Bool))×(List (Int×Int×Bool))->List SV:=fun(a,b)=>[.one (.row (.pair (.int .i64) (.pair (.int .i64) .bool)) a),.one (.row (.pair (.int .i64) (.pair (.int .i64) .bool)) b)]
def R63:(List (Int×Int×Bool))×(List (Int×Int×Bool))->SV×List Prop:=fun(a,b)=>(.one (.bool (decide (a=b))),[a.length<=1099511627776])
def K63:Con:=⟨true,[some (.pair (.int .i64) (.pair (.int .i64) .bool)),some (.pair (.int .i64) (.pair (.int .i64) .bool))],fun xs=>match xs with | [.one (.row (.pair (.int .i64) (.pair (.int .i64) .bool)) a),.one (.row (.pair (.int .i64) (.pair (.int .i64) .bool)) b)]=>some (R63 (a,b)) | _=>none⟩
noncomputable def G63:GP:=dU P63 R63
theorem Hl:∀a b,(P63 a).map aF=(P63 b).map aF->a=b:=by
 rintro⟨a0,a1⟩ ⟨b0,b1⟩ h;simp only[P63,zK,List.map_nil,aF,bi,zG,AV.one.injEq,AV.agg.injEq,Lf.int.injEq,Lf.str.injEq,Lf.bool.injEq,Lf.vrow.injEq,and_true,true_and,and_assoc] at h;obtain⟨h0,h1⟩:=h;have h0:=dL h0;have h1:=dL h1;subst h0 h1
 rfl
theorem JG:fA G63 K63:=bF Hl (fun⟨_,_⟩ ⟨_,_⟩=>rfl) (fun⟨_,_⟩=>rfl) fun xs r h=>by
 simp only[K63] at h;split at h
 .cases h;rename_i a b;exact⟨(a,b),rfl,rfl⟩
 .cases h
theorem Md {S:SC}(hB:SB S)  (h63:S.has 63 f63):aP S 63 (aC G63):=by
 refine prM hB [] [] trivial trivial h63 (fun⟨a,b⟩=>⟨rfl,rfl,rfl⟩) (fun(a,b)=>fun f id T L=>match f,id with
  |63,0=>some (.inv { i:Nat // i<=a.length/\a.length=b.length/\a.take i=b.take i } (fun x=>([(13,.one (.int .i64 x.1))],[])) (fun x=>a.length-x.1))
  |_,_=>none) 400 ?_
 rintro⟨a,b⟩ hc;have hc1:a.length<=1099511627776:=hc.1;refine VC.use (p:=((a.length:Int)=(b.length:Int)->(∃x1:{ i:Nat // i<=a.length/\a.length=b.length/\List.take i a=List.take i b },a=a/\b=b/\(a.length:Int)=(a.length:Int)/\0=(x1.1:Int))/\(∀x1:{ i:Nat // i<=a.length/\a.length=b.length/\List.take i a=List.take i b },((x1.1:Int)<(a.length:Int)->(0<=(x1.1:Int)/\(x1.1:Int)<(a.length:Int))/\(0<=(x1.1:Int)/\(x1.1:Int)<(b.length:Int))/\((!gz (List.take 3 (List.drop 0 (((Ty.int IntKind.i64).pair ((Ty.int IntKind.i64).pair Ty.bool)).cells (a.getD x1.1 (0,0,false))))) (List.take 3 (List.drop 0 (((Ty.int IntKind.i64).pair ((Ty.int IntKind.i64).pair Ty.bool)).cells (b.getD x1.1 (0,0,false))))))=true->false=decide (a=b))/\(¬(!gz (List.take 3 (List.drop 0 (((Ty.int IntKind.i64).pair ((Ty.int IntKind.i64).pair Ty.bool)).cells (a.getD x1.1 (0,0,false))))) (List.take 3 (List.drop 0 (((Ty.int IntKind.i64).pair ((Ty.int IntKind.i64).pair Ty.bool)).cells (b.getD x1.1 (0,0,false))))))=true->aZ ((x1.1:Int)+1)/\(∃x2:{ i:Nat // i<=a.length/\a.length=b.length/\List.take i a=List.take i b },a.length-x2.1<a.length-x1.1/\a=a/\b=b/\(a.length:Int)=(a.length:Int)/\(x1.1:Int)+1=(x2.1:Int))))/\(¬(x1.1:Int)<(a.length:Int)->true=decide (a=b))))/\(¬(a.length:Int)=(b.length:Int)->false=decide (a=b))) (by kernel_rfl) ?_;refine⟨fun h=>⟨⟨⟨0,by omega,by omega,by simp⟩,rfl,rfl,rfl,rfl⟩,?_⟩,fun h=>?_⟩
 .rintro⟨i,hi,hl,ht⟩;dsimp only;exact⟨fun h1=>⟨by omega,by omega,fun h2=>by rw[nR,Bool.not_eq_true',decide_eq_false_iff_not] at h2;exact(decide_eq_false fun e=>h2 (by rw[e])).symm,fun h2=>⟨by unfold aZ;omega,⟨i+1,by omega,hl,yE (0,0,false) h1 hl ht (by rw[nR] at h2;simpa using h2)⟩,by show _-(i+1)<_-i;omega,rfl,rfl,rfl,rfl⟩⟩,fun h1=>(decide_eq_true (BF h1 hl ht)).symm⟩
 .symm;apply decide_eq_false;rintro rfl;omega
def P31:(List (Int×Int×Bool))×(List (Int×Int×Bool))->List SV:=fun(a,b)=>[.one (.row (.pair (.int .i64) (.pair (.int .i64) .bool)) a),.one (.row (.pair (.int .i64) (.pair (.int .i64) .bool)) b)]
def R31:(List (Int×Int×Bool))×(List (Int×Int×Bool))->SV×List Prop:=fun(a,b)=>(.one (.bool (decide (a=b))),[a.length<=1099511627776])
def K31:Con:=⟨true,[some (.pair (.int .i64) (.pair (.int .i64) .bool)),some (.pair (.int .i64) (.pair (.int .i64) .bool))],fun xs=>match xs with | [.one (.row (.pair (.int .i64) (.pair (.int .i64) .bool)) a),.one (.row (.pair (.int .i64) (.pair (.int .i64) .bool)) b)]=>some (R31 (a,b)) | _=>none⟩
noncomputable def G31:GP:=dU P31 R31
theorem Gi:∀a b,(P31 a).map aF=(P31 b).map aF->a=b:=by
 rintro⟨a0,a1⟩ ⟨b0,b1⟩ h;simp only[P31,zK,List.map_nil,aF,bi,zG,AV.one.injEq,AV.agg.injEq,Lf.int.injEq,Lf.str.injEq,Lf.bool.injEq,Lf.vrow.injEq,and_true,true_and,and_assoc] at h;obtain⟨h0,h1⟩:=h;have h0:=dL h0;have h1:=dL h1;subst h0 h1
 rfl
theorem Kg:fA G31 K31:=bF Gi (fun⟨_,_⟩ ⟨_,_⟩=>rfl) (fun⟨_,_⟩=>rfl) fun xs r h=>by
 simp only[K31] at h;split at h
 .cases h;rename_i a b;exact⟨(a,b),rfl,rfl⟩
 .cases h
theorem Ma {S:SC}(hB:SB S)  (h31:S.has 31 f31):aP S 31 (aC G31):=by
 refine prM hB [] [] trivial trivial h31 (fun⟨a,b⟩=>⟨rfl,rfl,rfl⟩) (fun(a,b)=>fun f id T L=>match f,id with
  |31,0=>some (.inv { i:Nat // i<=a.length/\a.length=b.length/\a.take i=b.take i } (fun x=>([(13,.one (.int .i64 x.1))],[])) (fun x=>a.length-x.1))
  |_,_=>none) 400 ?_
 rintro⟨a,b⟩ hc;have hc1:a.length<=1099511627776:=hc.1;refine VC.use (p:=((a.length:Int)=(b.length:Int)->(∃x1:{ i:Nat // i<=a.length/\a.length=b.length/\List.take i a=List.take i b },a=a/\b=b/\(a.length:Int)=(a.length:Int)/\0=(x1.1:Int))/\(∀x1:{ i:Nat // i<=a.length/\a.length=b.length/\List.take i a=List.take i b },((x1.1:Int)<(a.length:Int)->(0<=(x1.1:Int)/\(x1.1:Int)<(a.length:Int))/\(0<=(x1.1:Int)/\(x1.1:Int)<(b.length:Int))/\((!gz (List.take 3 (List.drop 0 (((Ty.int IntKind.i64).pair ((Ty.int IntKind.i64).pair Ty.bool)).cells (a.getD x1.1 (0,0,false))))) (List.take 3 (List.drop 0 (((Ty.int IntKind.i64).pair ((Ty.int IntKind.i64).pair Ty.bool)).cells (b.getD x1.1 (0,0,false))))))=true->false=decide (a=b))/\(¬(!gz (List.take 3 (List.drop 0 (((Ty.int IntKind.i64).pair ((Ty.int IntKind.i64).pair Ty.bool)).cells (a.getD x1.1 (0,0,false))))) (List.take 3 (List.drop 0 (((Ty.int IntKind.i64).pair ((Ty.int IntKind.i64).pair Ty.bool)).cells (b.getD x1.1 (0,0,false))))))=true->aZ ((x1.1:Int)+1)/\(∃x2:{ i:Nat // i<=a.length/\a.length=b.length/\List.take i a=List.take i b },a.length-x2.1<a.length-x1.1/\a=a/\b=b/\(a.length:Int)=(a.length:Int)/\(x1.1:Int)+1=(x2.1:Int))))/\(¬(x1.1:Int)<(a.length:Int)->true=decide (a=b))))/\(¬(a.length:Int)=(b.length:Int)->false=decide (a=b))) (by kernel_rfl) ?_;refine⟨fun h=>⟨⟨⟨0,by omega,by omega,by simp⟩,rfl,rfl,rfl,rfl⟩,?_⟩,fun h=>?_⟩
 .rintro⟨i,hi,hl,ht⟩;dsimp only;exact⟨fun h1=>⟨by omega,by omega,fun h2=>by rw[nR,Bool.not_eq_true',decide_eq_false_iff_not] at h2;exact(decide_eq_false fun e=>h2 (by rw[e])).symm,fun h2=>⟨by unfold aZ;omega,⟨i+1,by omega,hl,yE (0,0,false) h1 hl ht (by rw[nR] at h2;simpa using h2)⟩,by show _-(i+1)<_-i;omega,rfl,rfl,rfl,rfl⟩⟩,fun h1=>(decide_eq_true (BF h1 hl ht)).symm⟩
 .symm;apply decide_eq_false;rintro rfl;omega
def P41:List UInt8×(List (Int×Int×Bool))->List SV:=fun(s,l)=>[.one (.str s),.one (.row (.pair (.int .i64) (.pair (.int .i64) .bool)) l)]
def R41:List UInt8×(List (Int×Int×Bool))->SV×List Prop:=fun(s,l)=>(.one (.bool (decide (spE s=0)&&decide (spL s=l))),[])
def K41:Con:=⟨true,[none,some (.pair (.int .i64) (.pair (.int .i64) .bool))],fun xs=>match xs with | [.one (.str s),.one (.row (.pair (.int .i64) (.pair (.int .i64) .bool)) l)]=>some (R41 (s,l)) | _=>none⟩
noncomputable def G41:GP:=dU P41 R41
theorem Fp:∀a b,(P41 a).map aF=(P41 b).map aF->a=b:=by
 rintro⟨a0,a1⟩ ⟨b0,b1⟩ h;simp only[P41,zK,List.map_nil,aF,bi,zG,AV.one.injEq,AV.agg.injEq,Lf.int.injEq,Lf.str.injEq,Lf.bool.injEq,Lf.vrow.injEq,and_true,true_and,and_assoc] at h;obtain⟨h0,h1⟩:=h;have h1:=dL h1;subst h0 h1
 rfl
theorem Du:fA G41 K41:=bF Fp (fun⟨_,_⟩ ⟨_,_⟩=>rfl) (fun⟨_,_⟩=>rfl) fun xs r h=>by
 simp only[K41] at h;split at h
 .cases h;rename_i s l;exact⟨(s,l),rfl,rfl⟩
 .cases h
theorem LP {S:SC}(hB:SB S) (q27:aP S 27 (aC G27)) (q63:aP S 63 (aC G63)) (h41:S.has 41 f41):aP S 41 (aC G41):=by
 refine prM hB [] [⟨27,G27,K27⟩,⟨63,G63,K63⟩] trivial ⟨⟨q27,DV⟩,⟨q63,JG⟩,trivial⟩ h41 (fun⟨s,l⟩=>⟨rfl,rfl,rfl⟩) (fun(s,l)=>fun _ _ _ _=>none) 400 ?_;rintro⟨s,l⟩ hc;refine VC.use (p:=(spE s=0->(spL s).length<=1099511627776/\decide (spL s=l)=(decide (spE s=0)&&decide (spL s=l)))/\(¬spE s=0->false=(decide (spE s=0)&&decide (spL s=l)))) (by kernel_rfl) ?_;have hn:=nM s;exact⟨fun h=>⟨by omega,by rw[decide_eq_true h];rfl⟩,fun h=>by rw[decide_eq_false h];rfl⟩
def P26:Unit->List SV:=fun _=>[]
def R26:Unit->SV×List Prop:=fun _=>(.one (.bool true),[])
def K26:Con:=⟨true,[],fun xs=>match xs with | []=>some (R26 ()) | _=>none⟩
noncomputable def G26:GP:=dU P26 R26
theorem Hf:∀a b,(P26 a).map aF=(P26 b).map aF->a=b:=by
 intro a b _;rfl
theorem JI:fA G26 K26:=bF Hf (fun _ _=>rfl) (fun _=>rfl) fun xs r h=>by
 simp only[K26] at h;split at h
 .cases h;exact⟨(),rfl,rfl⟩
 .cases h
theorem LQ {S:SC}(hB:SB S) (q27:aP S 27 (aC G27)) (h26:S.has 26 f26):aP S 26 (aC G26):=by
 refine prM hB [] [⟨27,G27,K27⟩] trivial ⟨⟨q27,DV⟩,trivial⟩ h26 (fun _=>⟨rfl,rfl,rfl⟩) (fun _=>fun _ _ _ _=>none) 400 ?_;rintro _ hc;refine VC.use (p:=((3:Int)=(3:Int)->((0:Int)<=(0:Int)/\(0:Int)<(3:Int))/\(gz (List.take (3:Nat) (List.drop (0:Nat) (((Ty.int IntKind.i64).pair ((Ty.int IntKind.i64).pair Ty.bool)).cells ((spL [(97:UInt8),(98:UInt8),(32:UInt8),(49:UInt8),(99:UInt8)]).getD (0:Nat) ((0:Int),(0:Int),false))))) (List.take (2:Nat) (List.take (1:Nat) (List.take (0:Nat) (List.map dm [Lf.int IntKind.i64 (0:Int),Lf.int IntKind.i64 (0:Int),Lf.bool false])++([dm (Lf.int IntKind.i64 (0:Int))]++List.drop (1:Nat) (List.map dm [Lf.int IntKind.i64 (0:Int),Lf.int IntKind.i64 (0:Int),Lf.bool false])))++([dm (Lf.int IntKind.i64 (2:Int))]++List.drop (2:Nat) (List.take (0:Nat) (List.map dm [Lf.int IntKind.i64 (0:Int),Lf.int IntKind.i64 (0:Int),Lf.bool false])++([dm (Lf.int IntKind.i64 (0:Int))]++List.drop (1:Nat) (List.map dm [Lf.int IntKind.i64 (0:Int),Lf.int IntKind.i64 (0:Int),Lf.bool false])))))++([dm (Lf.bool true)]++List.drop (3:Nat) (List.take (1:Nat) (List.take (0:Nat) (List.map dm [Lf.int IntKind.i64 (0:Int),Lf.int IntKind.i64 (0:Int),Lf.bool false])++([dm (Lf.int IntKind.i64 (0:Int))]++List.drop (1:Nat) (List.map dm [Lf.int IntKind.i64 (0:Int),Lf.int IntKind.i64 (0:Int),Lf.bool false])))++([dm (Lf.int IntKind.i64 (2:Int))]++List.drop (2:Nat) (List.take (0:Nat) (List.map dm [Lf.int IntKind.i64 (0:Int),Lf.int IntKind.i64 (0:Int),Lf.bool false])++([dm (Lf.int IntKind.i64 (0:Int))]++List.drop (1:Nat) (List.map dm [Lf.int IntKind.i64 (0:Int),Lf.int IntKind.i64 (0:Int),Lf.bool false])))))))=true->((0:Int)<=(1:Int)/\(1:Int)<(3:Int))/\((4:Int)=(4:Int)->((0:Int)<=(2:Int)/\(2:Int)<(3:Int))/\(((spL [(97:UInt8),(98:UInt8),(32:UInt8),(49:UInt8),(99:UInt8)]).getD (2:Nat) ((0:Int),(0:Int),false)).2.2=true->decide ((0:Int)=(0:Int))=true)/\(¬((spL [(97:UInt8),(98:UInt8),(32:UInt8),(49:UInt8),(99:UInt8)]).getD (2:Nat) ((0:Int),(0:Int),false)).2.2=true->false=true))/\(¬(4:Int)=(4:Int)->false=true))/\(¬gz (List.take (3:Nat) (List.drop (0:Nat) (((Ty.int IntKind.i64).pair ((Ty.int IntKind.i64).pair Ty.bool)).cells ((spL [(97:UInt8),(98:UInt8),(32:UInt8),(49:UInt8),(99:UInt8)]).getD (0:Nat) ((0:Int),(0:Int),false))))) (List.take (2:Nat) (List.take (1:Nat) (List.take (0:Nat) (List.map dm [Lf.int IntKind.i64 (0:Int),Lf.int IntKind.i64 (0:Int),Lf.bool false])++([dm (Lf.int IntKind.i64 (0:Int))]++List.drop (1:Nat) (List.map dm [Lf.int IntKind.i64 (0:Int),Lf.int IntKind.i64 (0:Int),Lf.bool false])))++([dm (Lf.int IntKind.i64 (2:Int))]++List.drop (2:Nat) (List.take (0:Nat) (List.map dm [Lf.int IntKind.i64 (0:Int),Lf.int IntKind.i64 (0:Int),Lf.bool false])++([dm (Lf.int IntKind.i64 (0:Int))]++List.drop (1:Nat) (List.map dm [Lf.int IntKind.i64 (0:Int),Lf.int IntKind.i64 (0:Int),Lf.bool false])))))++([dm (Lf.bool true)]++List.drop (3:Nat) (List.take (1:Nat) (List.take (0:Nat) (List.map dm [Lf.int IntKind.i64 (0:Int),Lf.int IntKind.i64 (0:Int),Lf.bool false])++([dm (Lf.int IntKind.i64 (0:Int))]++List.drop (1:Nat) (List.map dm [Lf.int IntKind.i64 (0:Int),Lf.int IntKind.i64 (0:Int),Lf.bool false])))++([dm (Lf.int IntKind.i64 (2:Int))]++List.drop (2:Nat) (List.take (0:Nat) (List.map dm [Lf.int IntKind.i64 (0:Int),Lf.int IntKind.i64 (0:Int),Lf.bool false])++([dm (Lf.int IntKind.i64 (0:Int))]++List.drop (1:Nat) (List.map dm [Lf.int IntKind.i64 (0:Int),Lf.int IntKind.i64 (0:Int),Lf.bool false])))))))=true->false=true))/\(¬(3:Int)=(3:Int)->false=true)) (by kernel_rfl) ?_
 decide +kernel
end Go.EA
