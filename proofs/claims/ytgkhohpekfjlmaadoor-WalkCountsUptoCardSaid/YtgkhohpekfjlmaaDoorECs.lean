/- Comparing texts; the first number that is not nought. Conditions: none. -/
import Derived.Test.YtgkhohpekfjlmaaDoorEAf4
import Derived.Test.YtgkhohpekfjlmaaDoorEK9
import Derived.Test.YtgkhohpekfjlmaaDoorEMean1
import Derived.KernelRfl
set_option linter.unusedVariables false
set_option linter.unusedSimpArgs false
set_option maxRecDepth 100000
set_option maxHeartbeats 0
namespace Go.EA
open F
def kI (a b:List UInt8):Int:=if aM a b=true then -1 else if a=b then 0 else 1
def orV (l:List Int):Int:=(l.find? fun x=>!decide (x=0)).getD 0
theorem LC {l:List Int}(h:l.all (fun x=>decide (x=0))=true):0=orV l:=by
 unfold orV;rw[List.find?_eq_none.2 (fun x hx=>by have:=List.all_eq_true.1 h x hx;simp at this;simp[this])];rfl
def QS:List UInt8×List UInt8->List SV:=fun(a,b)=>[.one (.str a),.one (.str b)]
def YN:List UInt8×List UInt8->SV×List Prop:=fun(a,b)=>(.one (.int .i64 (kI a b)),[])
def Xw:Con:=⟨true,[none,none],fun xs=>match xs with | [.one (.str a),.one (.str b)]=>some (YN (a,b)) | _=>none⟩
noncomputable def Pw:GP:=bX QS YN
theorem Kr:∀a b,(QS a).map aA=(QS b).map aA->a=b:=by
 rintro⟨a0,a1⟩ ⟨b0,b1⟩ h;simp only[QS,zK,List.map_nil,aA,aV,zG,AV.one.injEq,AV.agg.injEq,Lf.int.injEq,Lf.str.injEq,Lf.bool.injEq,Lf.vrow.injEq,and_true,true_and,and_assoc] at h;obtain⟨h0,h1⟩:=h;subst h0 h1
 rfl
theorem Uk:cK Pw Xw:=aS Kr (fun⟨_,_⟩ ⟨_,_⟩=>rfl) (fun⟨_,_⟩=>rfl) fun xs r h=>by
 simp only[Xw] at h;split at h
 .cases h;rename_i a b;exact⟨(a,b),rfl,rfl⟩
 .cases h
theorem aaa {S:SC}(hB:SB S)  (h261:S.has 261 f261) (h252:S.has 252 f252):aF S 252 (az Pw):=by
 refine prM hB [(261,f261)] [] ⟨h261,trivial⟩ trivial h252 (fun⟨a,b⟩=>⟨rfl,rfl,rfl⟩) (fun(a,b)=>fun _ _ _ _=>none) 400 ?_;rintro⟨a,b⟩ hc;refine VC.use (p:=(a=a->(b=b->(aM a b=true -> -1=kI a b)/\(¬aM a b=true->((!(aM a b||decide (a=b)))=true->1=kI a b)/\(¬(!(aM a b||decide (a=b)))=true->0=kI a b)))/\(¬b=b->1=kI a b))/\(¬a=a->(b=b -> -1=kI a b)/\(¬b=b->0=kI a b))) (by kernel_rfl) ?_;unfold kI
 repeat' (first | intro _ | apply And.intro)
 all_goals first
  |(exfalso;simp_all;done)
  |(simp_all;done)
end Go.EA
