/- Layer 1: the program's runes. Conditions: none. -/
import Derived.Test.YtkpahammkkfphaaDoorEAf1
import Derived.Test.YtkpahammkkfphaaDoorEK9
import Derived.Test.YtkpahammkkfphaaDoorEBack
import Derived.Test.YtkpahammkkfphaaDoorEMean3
import Derived.Test.YtkpahammkkfphaaDoorERx
import Derived.Test.YtkpahammkkfphaaDoorEMean1
import Derived.KernelRfl
import Derived.Test.YtkpahammkkfphaaDoorERf
set_option linter.unusedVariables false
set_option linter.unusedSimpArgs false
set_option maxRecDepth 100000
set_option maxHeartbeats 0
namespace Go.EA
open F
def P55:Int->List SV:=fun r=>[.one (.int .i32 r)]
def R55:Int->SV×List Prop:=fun r=>(.one (.bool (Utf8.valid r)),[])
def K55:Con:=⟨true,[none],fun xs=>match xs with | [.one (.int .i32 r)]=>some (R55 r) | _=>none⟩
noncomputable def G55:GP:=dU P55 R55
theorem Hz:∀a b,(P55 a).map aF=(P55 b).map aF->a=b:=by
 rintro a0 b0 h;simp only[P55,zK,List.map_nil,aF,bi,zG,AV.one.injEq,AV.agg.injEq,Lf.int.injEq,Lf.str.injEq,Lf.bool.injEq,Lf.vrow.injEq,and_true,true_and] at h;exact h
theorem JV:fA G55 K55:=bF Hz (fun _ _=>rfl) (fun _=>rfl) fun xs r h=>by
 simp only[K55] at h;split at h
 .cases h;rename_i r;exact⟨r,rfl,rfl⟩
 .cases h
theorem Mk {S:SC}(hB:SB S)  (h55:S.has 55 f55):aP S 55 (aC G55):=by
 refine prM hB [] [] trivial trivial h55 (fun _=>⟨rfl,rfl,rfl⟩) (fun r=>fun _ _ _ _=>none) 400 ?_;rintro r hc;refine VC.use (p:=(0<=r->(r<55296->true=Utf8.valid r)/\(¬r<55296->(57343<r->(r<=1114111->true=Utf8.valid r)/\(¬r<=1114111->false=Utf8.valid r))/\(¬57343<r->false=Utf8.valid r)))/\(¬0<=r->(57343<r->(r<=1114111->true=Utf8.valid r)/\(¬r<=1114111->false=Utf8.valid r))/\(¬57343<r->false=Utf8.valid r))) (by kernel_rfl) ?_
 repeat' (first | intro h | apply And.intro)
 all_goals
  rw[Bool.eq_iff_iff];simp[aY];omega
def P59:Int×Int×Int->List SV:=fun(r,lo,hi)=>[.one (.int .i32 r),.one (.int .i32 lo),.one (.int .i32 hi)]
def R59:Int×Int×Int->SV×List Prop:=fun(r,lo,hi)=>(.one (.bool (decide (lo<=r)&&decide (r<=hi))),[])
def K59:Con:=⟨true,[none,none,none],fun xs=>match xs with | [.one (.int .i32 r),.one (.int .i32 lo),.one (.int .i32 hi)]=>some (R59 (r,lo,hi)) | _=>none⟩
noncomputable def G59:GP:=dU P59 R59
theorem GL:∀a b,(P59 a).map aF=(P59 b).map aF->a=b:=by
 rintro⟨a0,a1,a2⟩ ⟨b0,b1,b2⟩ h;simp only[P59,zK,List.map_nil,aF,bi,zG,AV.one.injEq,AV.agg.injEq,Lf.int.injEq,Lf.str.injEq,Lf.bool.injEq,Lf.vrow.injEq,and_true,true_and,and_assoc] at h;obtain⟨h0,h1,h2⟩:=h;subst h0 h1 h2
 rfl
theorem Jy:fA G59 K59:=bF GL (fun⟨_,_,_⟩ ⟨_,_,_⟩=>rfl) (fun⟨_,_,_⟩=>rfl) fun xs r h=>by
 simp only[K59] at h;split at h
 .cases h;rename_i r lo hi;exact⟨(r,lo,hi),rfl,rfl⟩
 .cases h
theorem Mq {S:SC}(hB:SB S)  (h59:S.has 59 f59):aP S 59 (aC G59):=by
 refine prM hB [] [] trivial trivial h59 (fun⟨r,lo,hi⟩=>⟨rfl,rfl,rfl⟩) (fun(r,lo,hi)=>fun _ _ _ _=>none) 400 ?_;rintro⟨r,lo,hi⟩ hc;refine VC.use (p:=(lo<=r->decide (r<=hi)=(decide (lo<=r)&&decide (r<=hi)))/\(¬lo<=r->false=(decide (lo<=r)&&decide (r<=hi)))) (by kernel_rfl) ?_;exact⟨fun h=>by rw[decide_eq_true h];rfl,fun h=>by rw[decide_eq_false h];rfl⟩
def P35:Int->List SV:=fun r=>[.one (.int .i32 r)]
def R35:Int->SV×List Prop:=fun r=>(.one (.bool (aj r)),[])
def K35:Con:=⟨true,[none],fun xs=>match xs with | [.one (.int .i32 r)]=>some (R35 r) | _=>none⟩
noncomputable def G35:GP:=dU P35 R35
theorem FV:∀a b,(P35 a).map aF=(P35 b).map aF->a=b:=by
 rintro a0 b0 h;simp only[P35,zK,List.map_nil,aF,bi,zG,AV.one.injEq,AV.agg.injEq,Lf.int.injEq,Lf.str.injEq,Lf.bool.injEq,Lf.vrow.injEq,and_true,true_and] at h;exact h
theorem Jc:fA G35 K35:=bF FV (fun _ _=>rfl) (fun _=>rfl) fun xs r h=>by
 simp only[K35] at h;split at h
 .cases h;rename_i r;exact⟨r,rfl,rfl⟩
 .cases h
theorem LU {S:SC}(hB:SB S) (q55:aP S 55 (aC G55)) (q59:aP S 59 (aC G59)) (h35:S.has 35 f35):aP S 35 (aC G35):=by
 refine prM hB [] [⟨55,G55,K55⟩,⟨59,G59,K59⟩] trivial ⟨⟨q55,JV⟩,⟨q59,Jy⟩,trivial⟩ h35 (fun _=>⟨rfl,rfl,rfl⟩) (fun r=>fun _ _ _ _=>none) 400 ?_;rintro r hc;refine VC.use (p:=((!Utf8.valid r)=true->((!Utf8.valid r)=true->false=aj r)/\(¬(!Utf8.valid r)=true->(192<=r->true=aj r)/\(¬192<=r->((decide (65<=r)&&decide (r<=90))=true->true=aj r)/\(¬(decide (65<=r)&&decide (r<=90))=true->(decide (97<=r)&&decide (r<=122))=aj r))))/\(¬(!Utf8.valid r)=true->(r=215->(r=215->false=aj r)/\(¬r=215->(192<=r->true=aj r)/\(¬192<=r->((decide (65<=r)&&decide (r<=90))=true->true=aj r)/\(¬(decide (65<=r)&&decide (r<=90))=true->(decide (97<=r)&&decide (r<=122))=aj r))))/\(¬r=215->(r=247->(r=247->false=aj r)/\(¬r=247->(192<=r->true=aj r)/\(¬192<=r->((decide (65<=r)&&decide (r<=90))=true->true=aj r)/\(¬(decide (65<=r)&&decide (r<=90))=true->(decide (97<=r)&&decide (r<=122))=aj r))))/\(¬r=247->((decide (8192<=r)&&decide (r<=8303))=true->false=aj r)/\(¬(decide (8192<=r)&&decide (r<=8303))=true->(192<=r->true=aj r)/\(¬192<=r->((decide (65<=r)&&decide (r<=90))=true->true=aj r)/\(¬(decide (65<=r)&&decide (r<=90))=true->(decide (97<=r)&&decide (r<=122))=aj r))))))) (by kernel_rfl) ?_;have hv1:65<=r->r<=122->Utf8.valid r=true:=fun a b=>aY.2 (by omega)
 cases hv:Utf8.valid r
 all_goals
  unfold aj;rw[hv]
 repeat' (first | intro h | apply And.intro)
 all_goals
  (try simp only[zH,decide_eq_true_eq,Bool.not_eq_true,Bool.and_eq_false_iff,decide_eq_false_iff_not,Bool.not_true,Bool.not_false] at *)
  rw[Bool.eq_iff_iff]
  first
   |(simp;omega)
   |(simp at *;done)
   |(simp at *;omega)
end Go.EA
