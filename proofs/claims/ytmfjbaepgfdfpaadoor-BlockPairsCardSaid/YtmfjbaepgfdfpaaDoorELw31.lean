/- Layer 5: laws of blocks of steps. Conditions: none. (Printed by a program of this project's own.) -/
import Derived.Test.YtmfjbaepgfdfpaaDoorEBk
import Derived.Test.YtmfjbaepgfdfpaaDoorELw30
import Derived.Test.YtmfjbaepgfdfpaaDoorEBl
import Derived.Test.YtmfjbaepgfdfpaaDoorEK9
import Derived.KernelRfl
set_option linter.unusedVariables false
set_option linter.unusedSimpArgs false
set_option maxRecDepth 100000
set_option maxHeartbeats 0
namespace Go.EA
open F
theorem same_cells {x y:Blk}:sameS (List.take 3 (List.drop 0 (BlkT.cells x))) (List.take 3 (List.drop 0 (BlkT.cells y)))=true↔x=y:=by
  obtain ⟨a,b,c⟩:=x
  obtain ⟨a',b',c'⟩:=y
  simp [Ty.cells,sameS,SL.i?,SL.b?]
theorem take_same {α:Type} {a b:List α} {d:α} {i:Nat} (h:a.take i=b.take i) (ha:i < a.length) (hb:i < b.length) (he:a.getD i d=b.getD i d):a.take (i+1)=b.take (i+1):=by
  rw [List.take_add_one,List.take_add_one,h,List.getElem?_eq_getElem ha,List.getElem?_eq_getElem hb]
  rw [List.getD_eq_getElem?_getD,List.getD_eq_getElem?_getD,List.getElem?_eq_getElem ha,List.getElem?_eq_getElem hb] at he
  simp at he
  rw [he]
def P228:(List (List UInt8×List UInt8×Int))×(List (List UInt8×List UInt8×Int))→List SV:=fun (a,b)=>[.one (.row (.pair .str (.pair .str (.int .i64))) a),.one (.row (.pair .str (.pair .str (.int .i64))) b)]
def R228:(List (List UInt8×List UInt8×Int))×(List (List UInt8×List UInt8×Int))→SV×List Prop:=fun (a,b)=>(.one (.bool (decide (a=b))),[a.length≤1099511627776])
def K228:Con:=⟨true,[some (.pair .str (.pair .str (.int .i64))),some (.pair .str (.pair .str (.int .i64)))],fun xs=>match xs with | [.one (.row (.pair .str (.pair .str (.int .i64))) a),.one (.row (.pair .str (.pair .str (.int .i64))) b)]=>some (R228 (a,b)) | _=>none⟩
noncomputable def G228:GP:=conG P228 R228
theorem P228_inj:∀ a b,(P228 a).map den0=(P228 b).map den0→a=b:=by
  rintro ⟨a0,a1⟩ ⟨b0,b1⟩ h
  simp only [P228,List.map_cons,List.map_nil,den0,den0L,List.cons.injEq,AV.one.injEq,AV.agg.injEq,Lf.int.injEq,Lf.str.injEq,Lf.bool.injEq,Lf.vrow.injEq,and_true,true_and,and_assoc] at h
  obtain ⟨h0,h1⟩:=h
  have h0:=row_inj h0
  have h1:=row_inj h1
  subst h0 h1
  rfl
theorem K228_ok:ConG G228 K228:=conG_of P228_inj (fun ⟨_,_⟩ ⟨_,_⟩=>rfl) (fun ⟨_,_⟩=>rfl) fun xs r h=>by
  simp only [K228] at h
  split at h
  · cases h;rename_i a b;exact ⟨(a,b),rfl,rfl⟩
  · cases h
theorem pr228 {S:SC} (hB:SB S)  (h228:S.has 228 f228):PrOk S 228 (pureP G228):=by
  refine prM hB [] [] trivial trivial h228 (fun ⟨a,b⟩=>⟨rfl,rfl,rfl⟩) (fun (a,b)=>fun f id T L=>match f,id with
      | 228,0=>some (.inv { i:Nat // i≤a.length∧a.take i=b.take i } (fun x=>([(13,.one (.int .i64 x.1))],[])) (fun x=>a.length - x.1))
      | _,_=>none) 600 ?_
  rintro ⟨a,b⟩ hc
  have hc1:a.length≤1099511627776:=hc.1
  refine VC.use (p:=
    (((↑a.length:Int)=(↑b.length:Int) →
      ((∃ x1:{ i:Nat // i≤a.length∧List.take i a=List.take i b },
        ((a=a) ∧
        ((b=b) ∧
        (((↑a.length:Int)=(↑a.length:Int)) ∧
        (0=(↑x1.val:Int)))))) ∧
      (∀ x1 : { i : Nat // i ≤ a.length ∧ List.take i a = List.take i b },
       (((↑x1.val:Int) < (↑a.length:Int) →
         ((0≤(↑x1.val:Int)∧(↑x1.val:Int) < (↑a.length:Int)) ∧
         ((0≤(↑x1.val:Int)∧(↑x1.val:Int) < (↑b.length:Int)) ∧
         (((!sameS (List.take 3 (List.drop 0 ((Ty.str.pair (Ty.str.pair (Ty.int IntKind.i64))).cells (a.getD x1.val ([],[],0))))) (List.take 3 (List.drop 0 ((Ty.str.pair (Ty.str.pair (Ty.int IntKind.i64))).cells (b.getD x1.val ([],[],0))))))=true →
           (false=decide (a=b))) ∧
         (¬(!sameS (List.take 3 (List.drop 0 ((Ty.str.pair (Ty.str.pair (Ty.int IntKind.i64))).cells (a.getD x1.val ([], [], 0))))) (List.take 3 (List.drop 0 ((Ty.str.pair (Ty.str.pair (Ty.int IntKind.i64))).cells (b.getD x1.val ([], [], 0)))))) = true →
          ((i64R ((↑x1.val:Int)+1)) ∧
          (∃ x2 : { i : Nat // i ≤ a.length ∧ List.take i a = List.take i b },
           ((a.length - x2.val < a.length - x1.val) ∧
           ((a=a) ∧
           ((b=b) ∧
           (((↑a.length:Int)=(↑a.length:Int)) ∧
           ((↑x1.val:Int)+1=(↑x2.val:Int))))))))))))) ∧
       (¬(↑x1.val : Int) < (↑a.length : Int) →
        (true=decide (a=b))))))) ∧
    (¬(↑a.length : Int) = (↑b.length : Int) →
     (false=decide (a=b))))) (by kernel_rfl) ?_
  refine ⟨fun hl=>⟨⟨⟨0,by omega,rfl⟩,rfl,rfl,rfl,rfl⟩,?_⟩,fun h=>(decide_eq_false (fun e=>h (by rw [e]))).symm⟩
  rintro ⟨i,hi,ht⟩
  dsimp only at hi ht ⊢
  refine ⟨fun h=>⟨by omega,by omega,fun h1=>?_,fun h1=>⟨by unfold i64R;omega,⟨⟨i+1,by omega,take_same ht (by omega) (by omega) (same_cells.1 (by simpa using h1))⟩,by dsimp only;omega,rfl,rfl,rfl,by push_cast;rfl⟩⟩⟩,fun h=>?_⟩
  · refine (decide_eq_false fun e=>?_).symm
    subst e
    rw [same_cells.2 rfl] at h1
    cases h1
  · refine (decide_eq_true ?_).symm
    rwa [List.take_of_length_le (by omega),List.take_of_length_le (by omega)] at ht
end Go.EA
