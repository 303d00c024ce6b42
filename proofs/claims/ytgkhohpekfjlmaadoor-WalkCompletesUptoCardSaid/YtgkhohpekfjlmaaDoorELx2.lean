/- Layer 9: where words stand. Conditions: none. -/
import Derived.Test.YtgkhohpekfjlmaaDoorEK12
import Derived.Test.YtgkhohpekfjlmaaDoorELx1
import Derived.KernelRfl
set_option linter.unusedVariables false
set_option linter.unusedSimpArgs false
set_option maxRecDepth 100000
set_option maxHeartbeats 0
namespace Go.EA
open F
def P79:List UInt8×List UInt8->List SV:=fun(a,b)=>[.one (.str a),.one (.str b)]
def R79:List UInt8×List UInt8->SV×List Prop:=fun(a,b)=>(.one (.bool (preB a b)),[])
def K79:Con:=⟨true,[none,none],fun xs=>match xs with | [.one (.str a),.one (.str b)]=>some (R79 (a,b)) | _=>none⟩
noncomputable def G79:GP:=bZ P79 R79
theorem Ry:∀a b,(P79 a).map aB=(P79 b).map aB->a=b:=by
 rintro⟨a0,a1⟩ ⟨b0,b1⟩ h;simp only[P79,zK,List.map_nil,aB,aS,zG,AV.one.injEq,AV.agg.injEq,Lf.int.injEq,Lf.str.injEq,Lf.bool.injEq,Lf.vrow.injEq,and_true,true_and,and_assoc] at h;obtain⟨h0,h1⟩:=h;subst h0 h1
 rfl
theorem WL:df G79 K79:=aR Ry (fun⟨_,_⟩ ⟨_,_⟩=>rfl) (fun⟨_,_⟩=>rfl) fun xs r h=>by
 simp only[K79] at h;split at h
 .cases h;rename_i a b;exact⟨(a,b),rfl,rfl⟩
 .cases h
theorem aaY {S:SC}(hB:SB S)  (h79:S.has 79 f79):aG S 79 (az G79):=by
 refine prM hB [] [] trivial trivial h79 (fun⟨a,b⟩=>⟨rfl,rfl,rfl⟩) (fun(a,b)=>fun _ _ _ _=>none) 400 ?_;rintro⟨a,b⟩ hc;refine VC.use (p:=((b.length:Int)<=(a.length:Int)->(0<=(b.length:Int)/\(b.length:Int)<=(a.length:Int))/\decide (aC a none (some (b.length:Int))=b)=preB a b)/\(¬(b.length:Int)<=(a.length:Int)->false=preB a b)) (by kernel_rfl) ?_;exact⟨fun h=>⟨by omega,QO h⟩,fun h=>Yt h⟩
def P65:List UInt8×List UInt8->List SV:=fun(a,b)=>[.one (.str a),.one (.str b)]
def R65:List UInt8×List UInt8->SV×List Prop:=fun(a,b)=>(.one (.bool (preB a b)),[])
def K65:Con:=⟨true,[none,none],fun xs=>match xs with | [.one (.str a),.one (.str b)]=>some (R65 (a,b)) | _=>none⟩
noncomputable def G65:GP:=bZ P65 R65
theorem TB:∀a b,(P65 a).map aB=(P65 b).map aB->a=b:=by
 rintro⟨a0,a1⟩ ⟨b0,b1⟩ h;simp only[P65,zK,List.map_nil,aB,aS,zG,AV.one.injEq,AV.agg.injEq,Lf.int.injEq,Lf.str.injEq,Lf.bool.injEq,Lf.vrow.injEq,and_true,true_and,and_assoc] at h;obtain⟨h0,h1⟩:=h;subst h0 h1
 rfl
theorem Ye:df G65 K65:=aR TB (fun⟨_,_⟩ ⟨_,_⟩=>rfl) (fun⟨_,_⟩=>rfl) fun xs r h=>by
 simp only[K65] at h;split at h
 .cases h;rename_i a b;exact⟨(a,b),rfl,rfl⟩
 .cases h
theorem aa6 {S:SC}(hB:SB S) (q79:aG S 79 (az G79)) (h65:S.has 65 f65):aG S 65 (az G65):=by
 refine prM hB [] [⟨79,G79,K79⟩] trivial ⟨⟨q79,WL⟩,trivial⟩ h65 (fun⟨a,b⟩=>⟨rfl,rfl,rfl⟩) (fun(a,b)=>fun _ _ _ _=>none) 400 ?_;rintro⟨a,b⟩ hc;refine VC.use (p:=preB a b=preB a b) (by kernel_rfl) ?_
 rfl
end Go.EA
