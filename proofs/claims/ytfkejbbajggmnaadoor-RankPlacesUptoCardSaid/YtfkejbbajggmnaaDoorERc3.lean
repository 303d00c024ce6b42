/- Layer 15: two rows together; the references; the example. Conditions: none. (Printed by a program of this project's own.) -/
import Derived.Test.YtfkejbbajggmnaaDoorERc2
import Derived.KernelRfl
set_option linter.unusedVariables false
set_option linter.unusedSimpArgs false
set_option maxRecDepth 100000
set_option maxHeartbeats 0
namespace Go.EA
open F
def exC:List Cd:=[([97,109],7,1),([97,110],7,2),([97,109],9,1)]
theorem exC_top:topO exC 5=[([97,110],7,2),([97,109],7,1)]∧0=topE exC 5:=by
  have e:srtC exC=[([97,110],7,2),([97,109],7,1),([97,109],9,1)]:=by
    refine ordC_uniq ((srtC_perm exC).trans (List.Perm.swap ..)) (srtC_ord exC) ?_
    unfold OrdC
    simp only [List.pairwise_cons,List.mem_cons,List.not_mem_nil,or_false,forall_eq_or_imp,forall_eq,List.Pairwise.nil,and_true,false_implies,implies_true]
    decide
  obtain ⟨t1,t2⟩:=top_of (l:=exC) (k:=5) (by decide) (by omega)
  refine ⟨?_,t2⟩
  rw [t1]
  show (onceC (srtC exC)).take 5=_
  rw [e]
  rfl
def P383:(List (List UInt8×Int×Int))×List UInt8→List SV:=fun (l,s)=>[.one (.row (.pair .str (.pair (.int .i64) (.int .i64))) l),.one (.str s)]
def R383:(List (List UInt8×Int×Int))×List UInt8→SV×List Prop:=fun (l,s)=>(.tup [.o (.int .i64 (plcV l s)),.o (.int .i64 (plcE l s))],[l.length≤1099511627776,SmC l])
def K383:Con:=⟨true,[some (.pair .str (.pair (.int .i64) (.int .i64))),none],fun xs=>match xs with | [.one (.row (.pair .str (.pair (.int .i64) (.int .i64))) l),.one (.str s)]=>some (R383 (l,s)) | _=>none⟩
noncomputable def G383:GP:=conG P383 R383
theorem P383_inj:∀ a b,(P383 a).map den0=(P383 b).map den0→a=b:=by
  rintro ⟨a0,a1⟩ ⟨b0,b1⟩ h
  simp only [P383,List.map_cons,List.map_nil,den0,den0L,List.cons.injEq,AV.one.injEq,AV.agg.injEq,Lf.int.injEq,Lf.str.injEq,Lf.bool.injEq,Lf.vrow.injEq,and_true,true_and,and_assoc] at h
  obtain ⟨h0,h1⟩:=h
  have h0:=row_inj h0
  subst h0 h1
  rfl
theorem K383_ok:ConG G383 K383:=conG_of P383_inj (fun ⟨_,_⟩ ⟨_,_⟩=>rfl) (fun ⟨_,_⟩=>rfl) fun xs r h=>by
  simp only [K383] at h
  split at h
  · cases h;rename_i l s;exact ⟨(l,s),rfl,rfl⟩
  · cases h
theorem pr383 {S:SC} (hB:SB S) (q393:PrOk S 393 (pureP G393)) (h383:S.has 383 f383):PrOk S 383 (pureP G383):=by
  refine prM hB [] [⟨393,G393,K393⟩] trivial ⟨⟨q393,K393_ok⟩,trivial⟩ h383 (fun ⟨l,s⟩=>⟨rfl,rfl,rfl⟩) (fun (l,s)=>fun f id T L=>match f,id with
      | 383,0=>match T.getD 18 .junk with | .one (.row (.pair .str (.pair (.int .i64) (.int .i64))) o)=>some (.inv { i:Nat // i≤o.length∧∀ j,j < i→(o.getD j ([],0,0)).1≠s } (fun x=>([(20,.one (.int .i64 x.1))],[])) (fun x=>o.length - x.1)) | _=>none
      | _,_=>none) 1000 ?_
  rintro ⟨l,s⟩ hc
  have hc1:l.length≤1099511627776:=hc.1
  have hc2:SmC l:=hc.2.1
  refine VC.use (p:=
    ((l.length≤1099511627776) ∧
    ((SmC l) ∧
    ((errC l=0 →
      ((∃ x1:{ i:Nat // i≤(if errC l=0 then allC l else []).length∧∀ (j:Nat),j < i→((if errC l=0 then allC l else []).getD j ([],0,0)).fst≠s },
        ((s=s) ∧
        (((if errC l=0 then allC l else [])=if errC l=0 then allC l else []) ∧
        (((↑(if errC l=0 then allC l else []).length:Int)=(↑(if errC l=0 then allC l else []).length:Int)) ∧
        (0=(↑x1.val:Int)))))) ∧
      (∀ x1 : { i : Nat // i ≤ (if errC l = 0 then allC l else []).length ∧ ∀ (j : Nat), j < i → ((if errC l = 0 then allC l else []).getD j ([], 0, 0)).fst ≠ s },
       (((↑x1.val:Int) < (↑(if errC l=0 then allC l else []).length:Int) →
         ((0≤(↑x1.val:Int)∧(↑x1.val:Int) < (↑(if errC l=0 then allC l else []).length:Int)) ∧
         ((((if errC l=0 then allC l else []).getD x1.val ([],0,0)).fst=s →
           (((↑x1.val:Int)=plcV l s) ∧
           (0=plcE l s))) ∧
         (¬((if errC l = 0 then allC l else []).getD x1.val ([], 0, 0)).fst = s →
          ((i64R ((↑x1.val:Int)+1)) ∧
          (∃ x2 : { i : Nat // i ≤ (if errC l = 0 then allC l else []).length ∧ ∀ (j : Nat), j < i → ((if errC l = 0 then allC l else []).getD j ([], 0, 0)).fst ≠ s },
           (((if errC l=0 then allC l else []).length - x2.val < (if errC l=0 then allC l else []).length - x1.val) ∧
           ((s=s) ∧
           (((if errC l=0 then allC l else [])=if errC l=0 then allC l else []) ∧
           (((↑(if errC l=0 then allC l else []).length:Int)=(↑(if errC l=0 then allC l else []).length:Int)) ∧
           ((↑x1.val:Int)+1=(↑x2.val:Int)))))))))))) ∧
       (¬(↑x1.val : Int) < (↑(if errC l = 0 then allC l else []).length : Int) →
        ((0=plcV l s) ∧
        (10=plcE l s))))))) ∧
    (¬errC l = 0 →
     ((0=plcV l s) ∧
     (errC l=plcE l s))))))) (by kernel_rfl) ?_
  refine ⟨hc1,hc2,fun he=>?_,fun he=>plc_bad he⟩
  have hA:(if errC l=0 then allC l else [])=allC l:=if_pos he
  generalize (if errC l=0 then allC l else [])=A at hA ⊢
  subst hA
  have hl:=onceC_len (srtC l)
  rw [(srtC_perm l).length_eq] at hl
  have hl:(allC l).length≤l.length:=hl
  refine ⟨⟨⟨0,Nat.zero_le _,fun j h=>absurd h (Nat.not_lt_zero _)⟩,rfl,rfl,rfl,rfl⟩,?_⟩
  rintro ⟨i,hi,hn⟩
  dsimp only
  refine ⟨fun h=>⟨by omega,fun h1=>plc_some he (posK_hit (by omega) h1 hn),fun h1=>⟨by unfold i64R;omega,⟨i+1,by omega,step_all hn h1⟩,by dsimp only;omega,rfl,rfl,rfl,by push_cast;rfl⟩⟩,fun h=>plc_none he (posK_none fun j hj=>hn j (by omega))⟩
def P377:Unit→List SV:=fun _=>[]
def R377:Unit→SV×List Prop:=fun _=>(.one (.bool true),[])
def K377:Con:=⟨true,[],fun xs=>match xs with | []=>some (R377 ()) | _=>none⟩
noncomputable def G377:GP:=conG P377 R377
theorem P377_inj:∀ a b,(P377 a).map den0=(P377 b).map den0→a=b:=by
  intro a b _;rfl
theorem K377_ok:ConG G377 K377:=conG_of P377_inj (fun _ _=>rfl) (fun _=>rfl) fun xs r h=>by
  simp only [K377] at h
  split at h
  · cases h;exact ⟨(),rfl,rfl⟩
  · cases h
theorem pr377 {S:SC} (hB:SB S) (q379:PrOk S 379 (pureP G379)) (q387:PrOk S 387 (pureP G387)) (h377:S.has 377 f377):PrOk S 377 (pureP G377):=by
  refine prM hB [] [⟨379,G379,K379⟩,⟨387,G387,K387⟩] trivial ⟨⟨q379,K379_ok⟩,⟨q387,K387_ok⟩,trivial⟩ h377 (fun _=>⟨rfl,rfl,rfl⟩) (fun _=>fun _ _ _ _=>none) 400 ?_
  rintro _ hc
  refine VC.use (p:=
    (((3:Nat)≤(1099511627776:Nat)) ∧
    ((SmC [([97,109],7,1),([97,110],7,2),([97,109],9,1)]) ∧
    (((↑(topO [([(97:UInt8),(109:UInt8)],(7:Int),(1:Int)),([(97:UInt8),(110:UInt8)],(7:Int),(2:Int)),([(97:UInt8),(109:UInt8)],(9:Int),(1:Int))] (5:Int)).length:Int)=(2:Int) →
      (((0:Int)≤(0:Int)∧(0:Int) < (↑(topO [([(97:UInt8),(109:UInt8)],(7:Int),(1:Int)),([(97:UInt8),(110:UInt8)],(7:Int),(2:Int)),([(97:UInt8),(109:UInt8)],(9:Int),(1:Int))] (5:Int)).length:Int)) ∧
      ((((topO [([(97:UInt8),(109:UInt8)],(7:Int),(1:Int)),([(97:UInt8),(110:UInt8)],(7:Int),(2:Int)),([(97:UInt8),(109:UInt8)],(9:Int),(1:Int))] (5:Int)).getD (0:Nat) ([],(0:Int),(0:Int))).fst=[(97:UInt8),(110:UInt8)] →
        (((0:Int)≤(1:Int)∧(1:Int) < (↑(topO [([(97:UInt8),(109:UInt8)],(7:Int),(1:Int)),([(97:UInt8),(110:UInt8)],(7:Int),(2:Int)),([(97:UInt8),(109:UInt8)],(9:Int),(1:Int))] (5:Int)).length:Int)) ∧
        ((((topO [([(97:UInt8),(109:UInt8)],(7:Int),(1:Int)),([(97:UInt8),(110:UInt8)],(7:Int),(2:Int)),([(97:UInt8),(109:UInt8)],(9:Int),(1:Int))] (5:Int)).getD (1:Nat) ([],(0:Int),(0:Int))).snd.fst=(7:Int) →
          (((0:Int)=(0:Int) →
            (((0:Nat)≤(1099511627776:Nat)) ∧
            (decide ((4:Int)=(4:Int))=true))) ∧
          (¬(0 : Int) = (0 : Int) →
           (false=true)))) ∧
        (¬((topO [([(97 : UInt8), (109 : UInt8)], (7 : Int), (1 : Int)), ([(97 : UInt8), (110 : UInt8)], (7 : Int), (2 : Int)), ([(97 : UInt8), (109 : UInt8)], (9 : Int), (1 : Int))] (5 : Int)).getD (1 : Nat) ([], (0 : Int), (0 : Int))).snd.fst = (7 : Int) →
         (false=true))))) ∧
      (¬((topO [([(97 : UInt8), (109 : UInt8)], (7 : Int), (1 : Int)), ([(97 : UInt8), (110 : UInt8)], (7 : Int), (2 : Int)), ([(97 : UInt8), (109 : UInt8)], (9 : Int), (1 : Int))] (5 : Int)).getD (0 : Nat) ([], (0 : Int), (0 : Int))).fst = [(97 : UInt8), (110 : UInt8)] →
       (false=true))))) ∧
    (¬(↑(topO [([(97 : UInt8), (109 : UInt8)], (7 : Int), (1 : Int)), ([(97 : UInt8), (110 : UInt8)], (7 : Int), (2 : Int)), ([(97 : UInt8), (109 : UInt8)], (9 : Int), (1 : Int))] (5 : Int)).length : Int) = (2 : Int) →
     (false=true)))))) (by kernel_rfl) ?_
  rw [show topO [([97,109],7,1),([97,110],7,2),([97,109],9,1)] 5=_ from exC_top.1]
  refine ⟨by decide,fun x hx=>?_,fun _=>⟨by decide,fun _=>⟨by decide,fun _=>⟨fun _=>⟨by decide,rfl⟩,fun h=>absurd rfl h⟩,fun h=>absurd rfl h⟩,fun h=>absurd rfl h⟩,fun h=>absurd rfl h⟩
  simp only [List.mem_cons,List.not_mem_nil,or_false] at hx
  rcases hx with rfl | rfl | rfl <;> decide
end Go.EA
