/- Comparing texts; the first number that is not nought. Conditions: none. -/
import Derived.Test.YtgkhohpekfjlmaaDoorEAf4
import Derived.Test.YtgkhohpekfjlmaaDoorEK9
import Derived.Test.YtgkhohpekfjlmaaDoorEMean1
import Derived.KernelRfl
set_option linter.unusedVariables false
set_option linter.unusedSimpArgs false
set_option maxRecDepth 100000
set_option maxHeartbeats 0
namespace Go.EA
open F
def kr (a b:List UInt8):Int:=if aP a b=true then -1 else if a=b then 0 else 1
def orV (l:List Int):Int:=(l.find? fun x=>!decide (x=0)).getD 0
theorem Mg {l:List Int}(h:l.all (fun x=>decide (x=0))=true):0=orV l:=by
 unfold orV;rw[List.find?_eq_none.2 (fun x hx=>by have:=List.all_eq_true.1 h x hx;simp at this;simp[this])];rfl
def Tz:List UInt8×List UInt8->List SV:=fun(a,b)=>[.one (.str a),.one (.str b)]
def Za:List UInt8×List UInt8->SV×List Prop:=fun(a,b)=>(.one (.int .i64 (kr a b)),[])
def VY:Con:=⟨true,[none,none],fun xs=>match xs with | [.one (.str a),.one (.str b)]=>some (Za (a,b)) | _=>none⟩
noncomputable def MQ:GP:=dx Tz Za
theorem LZ:∀a b,(Tz a).map aB=(Tz b).map aB->a=b:=by
 rintro⟨a0,a1⟩ ⟨b0,b1⟩ h;simp only[Tz,zK,List.map_nil,aB,aX,zG,AV.one.injEq,AV.agg.injEq,Lf.int.injEq,Lf.str.injEq,Lf.bool.injEq,Lf.vrow.injEq,and_true,true_and,and_assoc] at h;obtain⟨h0,h1⟩:=h;subst h0 h1
 rfl
theorem Tk:dG MQ VY:=aY LZ (fun⟨_,_⟩ ⟨_,_⟩=>rfl) (fun⟨_,_⟩=>rfl) fun xs r h=>by
 simp only[VY] at h;split at h
 .cases h;rename_i a b;exact⟨(a,b),rfl,rfl⟩
 .cases h
theorem Zo {S:SC}(hB:SB S)  (h261:S.has 261 f261) (h252:S.has 252 f252):aN S 252 (az MQ):=by
 refine prM hB [(261,f261)] [] ⟨h261,trivial⟩ trivial h252 (fun⟨a,b⟩=>⟨rfl,rfl,rfl⟩) (fun(a,b)=>fun _ _ _ _=>none) 400 ?_;rintro⟨a,b⟩ hc;refine VC.use (p:=(a=a->(b=b->(aP a b=true -> -1=kr a b)/\(¬aP a b=true->((!(aP a b||decide (a=b)))=true->1=kr a b)/\(¬(!(aP a b||decide (a=b)))=true->0=kr a b)))/\(¬b=b->1=kr a b))/\(¬a=a->(b=b -> -1=kr a b)/\(¬b=b->0=kr a b))) (by kernel_rfl) ?_;unfold kr
 repeat' (first | intro _ | apply And.intro)
 all_goals first
  |(exfalso;simp_all;done)
  |(simp_all;done)
end Go.EA
