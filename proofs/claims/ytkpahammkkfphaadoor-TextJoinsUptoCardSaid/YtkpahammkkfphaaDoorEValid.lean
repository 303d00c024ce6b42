/- Whether a text is one, as Go's library tells. Conditions: none. -/
import Derived.Test.YtkpahammkkfphaaDoorEK6
import Derived.Lib.ValidU
set_option linter.unusedVariables false
set_option linter.unusedSimpArgs false
namespace Go.EA
theorem ng:∀(n:Nat) (l:List UInt8),l.length<=n->Go.Lib.validGoD n l=aR l
 | 0,l,h=>by
   have:l=[]:=zT (by omega);subst this;rfl
 |n+1,[],_=>rfl
 | n+1,x::s,h=>by
   have hne:=List.cons_ne_nil x s;generalize x::s=l at *;have hw:=bH hne;have hd:Go.Lib.decodeL l=dec l:=by
    unfold dec Go.Lib.decodeL;rw[if_neg (by intro g;exact hne (zT g))]
   unfold Go.Lib.validGoD;rw[if_neg hne,hd,ng n _ (by rw[List.length_drop];omega),fT hne];by_cases hb:(dec l).1=65533/\(dec l).2=1
   .rw[if_pos hb];have:isR l=false:=by unfold isR;rw[hb.1,hb.2];rfl
    rw[this];rfl
   .rw[if_neg hb];have:isR l=true:=by
     unfold isR;simp only[Bool.or_eq_true,decide_eq_true_eq];by_cases g:(dec l).1=65533
     .right;have:(dec l).2≠1:=fun e=>hb ⟨g,e⟩;omega
     .left;omega
    rw[this];rfl
theorem xy (l:List UInt8):Go.Lib.validD l=aR l:=ng _ l (zJ _)
end Go.EA
