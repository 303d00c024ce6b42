/- Layer 15: two rows together; the references; the example. Conditions: none. (Printed by a program of this project's own.) -/
import Derived.Test.YtfkejbbajggmnaaDoorERc2
import Derived.KernelRfl
set_option linter.unusedVariables false
set_option linter.unusedSimpArgs false
set_option maxRecDepth 100000
set_option maxHeartbeats 0
namespace Go.EA
open F
theorem allC_len (l:List Cd):(allC l).length≤l.length:=by
  have:=onceC_len (srtC l)
  rw [(srtC_perm l).length_eq] at this
  exact this
def exC:List Cd:=[([97,109],7,1),([97,110],7,2),([97,109],9,1)]
theorem exC_top:topO exC 5=[([97,110],7,2),([97,109],7,1)]∧0=topE exC 5:=by
  have e:srtC exC=[([97,110],7,2),([97,109],7,1),([97,109],9,1)]:=by
    refine ordC_uniq ((srtC_perm exC).trans (List.Perm.swap ..)) (srtC_ord exC) ?_
    unfold OrdC
    simp only [List.pairwise_cons,List.mem_cons,List.not_mem_nil,or_false,forall_eq_or_imp,forall_eq,List.Pairwise.nil,and_true,false_implies,implies_true]
    decide
  obtain ⟨t1,t2⟩:=top_of (l:=exC) (k:=5) (by decide) (by omega)
  refine ⟨?_,t2⟩
  rw [t1]
  show (onceC (srtC exC)).take 5=_
  rw [e]
  rfl
def P377:Unit→List SV:=fun _=>[]
def R377:Unit→SV×List Prop:=fun _=>(.one (.bool true),[])
def K377:Con:=⟨true,[],fun xs=>match xs with | []=>some (R377 ()) | _=>none⟩
noncomputable def G377:GP:=conG P377 R377
theorem P377_inj:∀ a b,(P377 a).map den0=(P377 b).map den0→a=b:=by
  intro a b _;rfl
theorem K377_ok:ConG G377 K377:=conG_of P377_inj (fun _ _=>rfl) (fun _=>rfl) fun xs r h=>by
  simp only [K377] at h
  split at h
  · cases h;exact ⟨(),rfl,rfl⟩
  · cases h
theorem pr377 {S:SC} (hB:SB S) (q379:PrOk S 379 (pureP G379)) (q387:PrOk S 387 (pureP G387)) (h377:S.has 377 f377):PrOk S 377 (pureP G377):=by
  refine prM hB [] [⟨379,G379,K379⟩,⟨387,G387,K387⟩] trivial ⟨⟨q379,K379_ok⟩,⟨q387,K387_ok⟩,trivial⟩ h377 (fun _=>⟨rfl,rfl,rfl⟩) (fun _=>fun _ _ _ _=>none) 400 ?_
  rintro _ hc
  refine VC.use (p:=
    (((3:Nat)≤(1099511627776:Nat)) ∧
    ((SmC [([97,109],7,1),([97,110],7,2),([97,109],9,1)]) ∧
    (((↑(topO [([(97:UInt8),(109:UInt8)],(7:Int),(1:Int)),([(97:UInt8),(110:UInt8)],(7:Int),(2:Int)),([(97:UInt8),(109:UInt8)],(9:Int),(1:Int))] (5:Int)).length:Int)=(2:Int) →
      (((0:Int)≤(0:Int)∧(0:Int) < (↑(topO [([(97:UInt8),(109:UInt8)],(7:Int),(1:Int)),([(97:UInt8),(110:UInt8)],(7:Int),(2:Int)),([(97:UInt8),(109:UInt8)],(9:Int),(1:Int))] (5:Int)).length:Int)) ∧
      ((((topO [([(97:UInt8),(109:UInt8)],(7:Int),(1:Int)),([(97:UInt8),(110:UInt8)],(7:Int),(2:Int)),([(97:UInt8),(109:UInt8)],(9:Int),(1:Int))] (5:Int)).getD (0:Nat) ([],(0:Int),(0:Int))).fst=[(97:UInt8),(110:UInt8)] →
        (((0:Int)≤(1:Int)∧(1:Int) < (↑(topO [([(97:UInt8),(109:UInt8)],(7:Int),(1:Int)),([(97:UInt8),(110:UInt8)],(7:Int),(2:Int)),([(97:UInt8),(109:UInt8)],(9:Int),(1:Int))] (5:Int)).length:Int)) ∧
        ((((topO [([(97:UInt8),(109:UInt8)],(7:Int),(1:Int)),([(97:UInt8),(110:UInt8)],(7:Int),(2:Int)),([(97:UInt8),(109:UInt8)],(9:Int),(1:Int))] (5:Int)).getD (1:Nat) ([],(0:Int),(0:Int))).snd.fst=(7:Int) →
          (((0:Int)=(0:Int) →
            (((0:Nat)≤(1099511627776:Nat)) ∧
            (decide ((4:Int)=(4:Int))=true))) ∧
          (¬(0 : Int) = (0 : Int) →
           (false=true)))) ∧
        (¬((topO [([(97 : UInt8), (109 : UInt8)], (7 : Int), (1 : Int)), ([(97 : UInt8), (110 : UInt8)], (7 : Int), (2 : Int)), ([(97 : UInt8), (109 : UInt8)], (9 : Int), (1 : Int))] (5 : Int)).getD (1 : Nat) ([], (0 : Int), (0 : Int))).snd.fst = (7 : Int) →
         (false=true))))) ∧
      (¬((topO [([(97 : UInt8), (109 : UInt8)], (7 : Int), (1 : Int)), ([(97 : UInt8), (110 : UInt8)], (7 : Int), (2 : Int)), ([(97 : UInt8), (109 : UInt8)], (9 : Int), (1 : Int))] (5 : Int)).getD (0 : Nat) ([], (0 : Int), (0 : Int))).fst = [(97 : UInt8), (110 : UInt8)] →
       (false=true))))) ∧
    (¬(↑(topO [([(97 : UInt8), (109 : UInt8)], (7 : Int), (1 : Int)), ([(97 : UInt8), (110 : UInt8)], (7 : Int), (2 : Int)), ([(97 : UInt8), (109 : UInt8)], (9 : Int), (1 : Int))] (5 : Int)).length : Int) = (2 : Int) →
     (false=true)))))) (by kernel_rfl) ?_
  rw [show topO [([97,109],7,1),([97,110],7,2),([97,109],9,1)] 5=_ from exC_top.1]
  refine ⟨by decide,fun x hx=>?_,fun _=>⟨by decide,fun _=>⟨by decide,fun _=>⟨fun _=>⟨by decide,rfl⟩,fun h=>absurd rfl h⟩,fun h=>absurd rfl h⟩,fun h=>absurd rfl h⟩,fun h=>absurd rfl h⟩
  simp only [List.mem_cons,List.not_mem_nil,or_false] at hx
  rcases hx with rfl | rfl | rfl <;> decide
end Go.EA
