/- Layer 1: the reference. Conditions: none. (Printed by a program of this project's own.) -/
import Derived.Test.YtmfjbaepgfdfpaaDoorEAf1
import Derived.Test.YtmfjbaepgfdfpaaDoorEK9
import Derived.Test.YtmfjbaepgfdfpaaDoorEMean6
import Derived.Test.YtmfjbaepgfdfpaaDoorERx
import Derived.Test.YtmfjbaepgfdfpaaDoorECmp
import Derived.KernelRfl
set_option linter.unusedVariables false
set_option linter.unusedSimpArgs false
set_option maxRecDepth 100000
set_option maxHeartbeats 0
namespace Go.EA
open F
def P57 : Int → List SV := fun r => [.one (.int .i32 r)]
def R57 : Int → SV × List Prop := fun r => (.one (.bool (Utf8.valid r)), [])
def K57 : Con := ⟨true, [none], fun xs => match xs with | [.one (.int .i32 r)] => some (R57 r) | _ => none⟩
noncomputable def G57 : GP := conG P57 R57
theorem P57_inj : ∀ a b, (P57 a).map den0 = (P57 b).map den0 → a = b := by
  rintro a0 b0 h
  simp only [P57, List.map_cons, List.map_nil, den0, den0L, List.cons.injEq, AV.one.injEq, AV.agg.injEq, Lf.int.injEq, Lf.str.injEq, Lf.bool.injEq, Lf.vrow.injEq, and_true, true_and] at h
  exact h
theorem K57_ok : ConG G57 K57 := conG_of P57_inj (fun _ _ => rfl) (fun _ => rfl) fun xs r h => by
  simp only [K57] at h
  split at h
  · cases h; rename_i r; exact ⟨r, rfl, rfl⟩
  · cases h
theorem pr57 {S : SC} (hB : SB S)  (h57 : S.has 57 f57) : PrOk S 57 (pureP G57) := by
  refine prM hB [] [] trivial trivial h57 (fun _ => ⟨rfl, rfl, rfl⟩) (fun r => fun _ _ _ _ => none) 400 ?_
  rintro r hc
  refine VC.use (p :=
    ((0 ≤ r →
      ((r ≤ 1114111 →
        ((55296 ≤ r →
          ((!decide (r ≤ 57343)) = Utf8.valid r)) ∧
        (¬55296 ≤ r →
         (true = Utf8.valid r)))) ∧
      (¬r ≤ 1114111 →
       (false = Utf8.valid r)))) ∧
    (¬0 ≤ r →
     (false = Utf8.valid r)))) (by kernel_rfl) ?_
  refine ⟨fun h => ⟨fun h1 => ⟨fun h2 => ?_, fun h2 => ?_⟩, fun h1 => ?_⟩, fun h => ?_⟩ <;> (rw [Bool.eq_iff_iff]; simp [valid_iff]; omega)
def P58 : Int → List SV := fun r => [.one (.int .i32 r)]
def R58 : Int → SV × List Prop := fun r => (.one (.row (.int .u8) (encI r)), [Utf8.valid r = true])
def K58 : Con := ⟨false, [none], fun xs => match xs with | [.one (.int .i32 r)] => some (R58 r) | _ => none⟩
noncomputable def G58 : GP := conG P58 R58
theorem P58_inj : ∀ a b, (P58 a).map den0 = (P58 b).map den0 → a = b := by
  rintro a0 b0 h
  simp only [P58, List.map_cons, List.map_nil, den0, den0L, List.cons.injEq, AV.one.injEq, AV.agg.injEq, Lf.int.injEq, Lf.str.injEq, Lf.bool.injEq, Lf.vrow.injEq, and_true, true_and] at h
  exact h
theorem K58_ok : ConG G58 K58 := conG_of P58_inj (fun _ _ => rfl) (fun _ => rfl) fun xs r h => by
  simp only [K58] at h
  split at h
  · cases h; rename_i r; exact ⟨r, rfl, rfl⟩
  · cases h
theorem pr58 {S : SC} (hB : SB S)  (h58 : S.has 58 f58) : PrOk S 58 (pureP G58) := by
  refine prM hB [] [] trivial trivial h58 (fun _ => ⟨rfl, rfl, rfl⟩) (fun r => fun _ _ _ _ => none) 400 ?_
  rintro r hc
  have hc1 : Utf8.valid r = true := hc.1
  refine VC.use (p :=
    ((r < 128 →
      ([IntKind.u8.wrap r] = encI r)) ∧
    (¬r < 128 →
     ((r < 2048 →
       (((64 : Int) ≠ (0 : Int)) ∧
       (((64 : Int) ≠ (0 : Int)) ∧
       ([IntKind.u8.wrap (IntKind.i32.wrap (192 + IntKind.i32.wrap (r.tdiv 64))), IntKind.u8.wrap (IntKind.i32.wrap (128 + r.tmod 64))] = encI r)))) ∧
     (¬r < 2048 →
      ((r < 65536 →
        (((4096 : Int) ≠ (0 : Int)) ∧
        (((64 : Int) ≠ (0 : Int)) ∧
        (((64 : Int) ≠ (0 : Int)) ∧
        (((64 : Int) ≠ (0 : Int)) ∧
        ([IntKind.u8.wrap (IntKind.i32.wrap (224 + IntKind.i32.wrap (r.tdiv 4096))), IntKind.u8.wrap (IntKind.i32.wrap (128 + (IntKind.i32.wrap (r.tdiv 64)).tmod 64)), IntKind.u8.wrap (IntKind.i32.wrap (128 + r.tmod 64))] = encI r)))))) ∧
      (¬r < 65536 →
       (((262144 : Int) ≠ (0 : Int)) ∧
       (((4096 : Int) ≠ (0 : Int)) ∧
       (((64 : Int) ≠ (0 : Int)) ∧
       (((64 : Int) ≠ (0 : Int)) ∧
       (((64 : Int) ≠ (0 : Int)) ∧
       (((64 : Int) ≠ (0 : Int)) ∧
       ([IntKind.u8.wrap (IntKind.i32.wrap (240 + IntKind.i32.wrap (r.tdiv 262144))), IntKind.u8.wrap (IntKind.i32.wrap (128 + (IntKind.i32.wrap (r.tdiv 4096)).tmod 64)), IntKind.u8.wrap (IntKind.i32.wrap (128 + (IntKind.i32.wrap (r.tdiv 64)).tmod 64)), IntKind.u8.wrap (IntKind.i32.wrap (128 + r.tmod 64))] = encI r)))))))))))))) (by kernel_rfl) ?_
  have hv2 := valid_iff.1 hc1
  have e1 : r.tdiv 64 = r / 64 := Int.tdiv_eq_ediv_of_nonneg (by omega)
  have e2 : r.tdiv 4096 = r / 4096 := Int.tdiv_eq_ediv_of_nonneg (by omega)
  have e3 : r.tdiv 262144 = r / 262144 := Int.tdiv_eq_ediv_of_nonneg (by omega)
  have e4 : r.tmod 64 = r % 64 := Int.tmod_eq_emod_of_nonneg (by omega)
  have e5 : (r / 64).tmod 64 = r / 64 % 64 := Int.tmod_eq_emod_of_nonneg (by omega)
  have e6 : (r / 4096).tmod 64 = r / 4096 % 64 := Int.tmod_eq_emod_of_nonneg (by omega)
  have k : (64 : Int) ≠ 0 := by decide
  have k2 : (4096 : Int) ≠ 0 := by decide
  have k3 : (262144 : Int) ≠ 0 := by decide
  refine ⟨fun h => ?_, fun h => ⟨fun h1 => ⟨k, k, ?_⟩, fun h1 => ⟨fun h2 => ⟨k2, k, k, k, ?_⟩, fun h2 => ⟨k3, k2, k, k, k, k, ?_⟩⟩⟩⟩
  · rw [encI1 hc1 h, wrap8 (by omega)]
  · rw [encI2 hc1 (by omega) h1]; simp only [e1, e4]; simp (disch := omega) only [wrap32, wrap8]
  · rw [encI3 hc1 (by omega) h2]; simp only [e1, e2, e4]; simp (disch := omega) only [wrap32, e5]; simp (disch := omega) only [wrap32, wrap8]
  · rw [encI4 hc1 (by omega)]; simp only [e1, e2, e3, e4]; simp (disch := omega) only [wrap32, e5, e6]; simp (disch := omega) only [wrap32, wrap8]
def P34 : List Int → List SV := fun l => [.one (.row (.int .i32) l)]
def R34 : List Int → SV × List Prop := fun l => (.tup [.o (.str (encT l)), .o (.int .i64 (encE l))], [l.length ≤ 1099511627776])
def K34 : Con := ⟨true, [some (.int .i32)], fun xs => match xs with | [.one (.row (.int .i32) l)] => some (R34 l) | _ => none⟩
noncomputable def G34 : GP := conG P34 R34
theorem P34_inj : ∀ a b, (P34 a).map den0 = (P34 b).map den0 → a = b := by
  rintro a0 b0 h
  simp only [P34, List.map_cons, List.map_nil, den0, den0L, List.cons.injEq, AV.one.injEq, AV.agg.injEq, Lf.int.injEq, Lf.str.injEq, Lf.bool.injEq, Lf.vrow.injEq, and_true, true_and] at h
  exact row_inj h
theorem K34_ok : ConG G34 K34 := conG_of P34_inj (fun _ _ => rfl) (fun _ => rfl) fun xs r h => by
  simp only [K34] at h
  split at h
  · cases h; rename_i l; exact ⟨l, rfl, rfl⟩
  · cases h
theorem pr34 {S : SC} (hB : SB S) (q57 : PrOk S 57 (pureP G57)) (q58 : PrOk S 58 (pureP G58)) (h34 : S.has 34 f34) : PrOk S 34 (pureP G34) := by
  refine prM hB [] [⟨57, G57, K57⟩, ⟨58, G58, K58⟩] trivial ⟨⟨q57, K57_ok⟩, ⟨q58, K58_ok⟩, trivial⟩ h34 (fun _ => ⟨rfl, rfl, rfl⟩) (fun l => fun f id T L => match f, id with
      | 34, 0 => some (.inv { p : Nat × List Int // p.1 ≤ l.length ∧ (l.take p.1).all Utf8.valid = true ∧ p.2 = encLI (l.take p.1) } (fun x => ([(9, .one (.int .i64 x.1.1)), (4, .one (.osl 0))], [(0, .row (.int .u8) x.1.2)])) (fun x => l.length - x.1.1))
      | _, _ => none) 400 ?_
  rintro l hc
  have hc1 : l.length ≤ 1099511627776 := hc.1
  refine VC.use (p :=
    ((∃ x1 : { p : Nat × List Int // p.fst ≤ l.length ∧ (List.take p.fst l).all Utf8.valid = true ∧ p.snd = encLI (List.take p.fst l) },
      ((x1.val.snd = []) ∧
      ((l = l) ∧
      (((↑l.length : Int) = (↑l.length : Int)) ∧
      ((0 = (↑x1.val.fst : Int)) ∧
      (x1.val.snd = [])))))) ∧
    (∀ x1 : { p : Nat × List Int // p.fst ≤ l.length ∧ (List.take p.fst l).all Utf8.valid = true ∧ p.snd = encLI (List.take p.fst l) },
     (((↑x1.val.fst : Int) < (↑l.length : Int) →
       ((0 ≤ (↑x1.val.fst : Int) ∧ (↑x1.val.fst : Int) < (↑l.length : Int)) ∧
       (((!Utf8.valid (l.getD x1.val.fst 0)) = true →
         (([] = encT l) ∧
         (3 = encE l))) ∧
       (¬(!Utf8.valid (l.getD x1.val.fst 0)) = true →
        ((Utf8.valid (l.getD x1.val.fst 0) = true) ∧
        (((x1.val.snd.length + (encI (l.getD x1.val.fst 0)).length) * 1 ≤ 140737488355328) ∧
        ((i64R ((↑x1.val.fst : Int) + 1)) ∧
        (∃ x2 : { p : Nat × List Int // p.fst ≤ l.length ∧ (List.take p.fst l).all Utf8.valid = true ∧ p.snd = encLI (List.take p.fst l) },
         ((l.length - x2.val.fst < l.length - x1.val.fst) ∧
         ((l = l) ∧
         (((↑l.length : Int) = (↑l.length : Int)) ∧
         (((↑x1.val.fst : Int) + 1 = (↑x2.val.fst : Int)) ∧
         (x1.val.snd ++ encI (l.getD x1.val.fst 0) = x2.val.snd))))))))))))) ∧
     (¬(↑x1.val.fst : Int) < (↑l.length : Int) →
      ((List.map (fun z => UInt8.ofNat (Int.toNat z)) x1.val.snd = encT l) ∧
      (0 = encE l))))))) (by kernel_rfl) ?_
  refine ⟨⟨⟨(0, []), by omega, rfl, rfl⟩, rfl, rfl, rfl, rfl, rfl⟩, ?_⟩
  rintro ⟨⟨i, o⟩, hi, ha, ho⟩
  dsimp only at hi ha ho ⊢
  have hol : o.length ≤ 4398046511104 := by rw [ho, encLI_eq, List.length_map]; exact encL_le ha hc1 rfl
  refine ⟨fun h => ⟨by omega, fun h1 => ?_, fun h1 => ?_⟩, fun h => ?_⟩
  · obtain ⟨e1, e2⟩ := encT_at h (by simpa using h1)
    exact ⟨e1.symm, e2.symm⟩
  · have hv : Utf8.valid (l.getD i 0) = true := by simpa using h1
    have hb := encB_len hv
    refine ⟨hv, ?_, by unfold i64R; omega, ⟨(i + 1, o ++ encI (l.getD i 0)), by show i + 1 ≤ l.length; omega, bad_step h hv ha, ?_⟩, by show l.length - (i + 1) < l.length - i; omega, rfl, rfl, by show _ = ((i + 1 : Nat) : Int); omega, rfl⟩
    · unfold encI; rw [List.length_map]; omega
    · rw [encLI_step h, ← ho]
  · obtain ⟨e1, e2⟩ := encT_all h ha rfl
    rw [e1, e2, ho, encLI_eq, List.map_map]
    exact ⟨by conv => { rhs; rw [← List.map_id (encL _)] }; exact List.map_congr_left fun x _ => by simp, rfl⟩
end Go.EA

