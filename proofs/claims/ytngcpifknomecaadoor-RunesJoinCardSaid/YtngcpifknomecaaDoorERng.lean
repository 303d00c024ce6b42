/- Ranges over functions, by the machine. Conditions: none. -/
import Derived.Test.YtngcpifknomecaaDoorENorm
set_option linter.unusedVariables false
set_option linter.unusedSimpArgs false
namespace Go.EA
def setPsL (T : List AV) : List Nat → List AV → List AV
  | p :: ps, v :: vs => setPsL (T.set p v) ps vs
  | _, _ => T
theorem setPsL_eq : ∀ (ps : List Nat) (xs : List AV) (T : List AV), ltAll T.length ps = true → setPs (tmL T) ps xs = tmL (setPsL T ps xs)
  | [], xs, T, _ => by cases xs <;> rfl
  | p :: ps, [], T, _ => rfl
  | p :: ps, x :: xs, T, h => by
    simp only [ltAll, Bool.and_eq_true] at h
    have hp : p < T.length := Nat.le_of_ble_eq_true h.1
    show setPs (put (tmL T) p x) ps xs = tmL (setPsL (T.set p x) ps xs)
    have := putT_tmL (v := x) hp
    unfold putT at this
    simp only at this
    rw [this]
    exact setPsL_eq ps xs (T.set p x) (by rw [List.length_set]; exact h.2)
section
variable {S : SC} {X : Cx} {m : Nat}
theorem SemS.rangeF (hS : S.Good X) {f : Opd} {ps : List Nat} {as bd : AC} {k : List Kt} {T : List AV} {L : List AO} {Q : Ex → Tm → Heap → Prop} {i : Nat} {cap : List (Nat × Nat × Nat)} (hfv : f.ev (tmL T) = .one (.fn i cap))
    (h : MF S i cap [.one (.yld L.length)] (hl (L ++ [.loop .ready none (tmL T) ps as bd])) fun _ H' => ∃ st pend T0 ps0 as0 bd0 L', H' = hl L' ∧ L'.getD L.length .dead = .loop st pend T0 ps0 as0 bd0 ∧ st ≠ .busy ∧
      (match pend with | none => SemS S X m ⟨.normal, k, T, L'.set L.length .dead⟩ Q | some e => SemS S X m ⟨e, k, T, L'.set L.length .dead⟩ Q)) : SemS S X m ⟨.normal, .code (.rangeF f ps as bd) :: k, T, L⟩ Q := by
  show MC S m (.rangeF f ps as bd) _ _ _
  refine MC.rangeF hS.ok hfv ?_
  rw [hl_push]
  refine MF.mono h ?_
  rintro v H' ⟨st, pend, T0, ps0, as0, bd0, L', rfl, hL, hst, hq⟩
  have hlt : L.length < L'.length := hl_lt (by rw [hL]; simp)
  refine ⟨st, pend, T0, ps0, as0, bd0, hL, hst, ?_⟩
  cases pend with
  | none =>
    simp only at hq ⊢
    show Sem S X m k Q .normal (tmL T) ((hl L').set L.length .dead)
    rw [hl_set L' hlt]; exact hq
  | some e =>
    simp only at hq ⊢
    show Sem S X m k Q e (tmL T) ((hl L').set L.length .dead)
    rw [hl_set L' hlt]; exact hq

theorem MCall.yldS (_hS : S.Good X) {l : Nat} {L : List AO} {xs : List AV} {Q : AV → Heap → Prop} {pend : Option Ex} {T : List AV} {ps : List Nat} {as bd : AC} (hol : L.getD l .dead = .loop .ready pend (tmL T) ps as bd) (hlen : xs.length = ps.length) (hps : ltAll T.length ps = true)
    (h : SemS S X L.length ⟨.normal, [.code as], setPsL T ps xs, L⟩ fun e T' H' => e = .normal ∧ ∃ T1 L1, T' = tmL T1 ∧ H' = hl L1 ∧ L1.getD l .dead = .loop .ready pend (tmL T) ps as bd ∧
      SemS S X L.length ⟨.normal, [.code bd], T1, L1.set l (.loop .busy pend (tmL T) ps as bd)⟩ fun e T' H' => ∃ L2 pend2 T2 ps2 as2 bd2, H' = hl L2 ∧ L2.getD l .dead = .loop .busy pend2 T2 ps2 as2 bd2 ∧
        (match e with | .normal => Q (.one (.bool true)) (hl (L2.set l (.loop .ready none T2 ps2 as2 bd2))) | e => Q (.one (.bool false)) (hl (L2.set l (.loop .done (some e) T2 ps2 as2 bd2))))) : MCall S (.one (.yld l)) xs (hl L) Q := by
  refine MCall.yld hol hlen ?_
  rw [setPsL_eq _ _ _ hps]
  refine MC.mono (show MC S L.length as _ _ (Sem S X L.length [] _) from h) fun e T' H' hh => ?_
  obtain ⟨rfl, T1, L1, rfl, rfl, hL1, hb⟩ := hh
  refine ⟨rfl, pend, tmL T, ps, as, bd, hL1, ?_⟩
  rw [hl_set L1 (hl_lt (by rw [hL1]; simp))]
  refine MC.mono (show MC S L.length bd _ _ (Sem S X L.length [] _) from hb) fun e T' H' hh => ?_
  obtain ⟨L2, pend2, T2, ps2, as2, bd2, rfl, hL2, hq⟩ := hh
  refine ⟨pend2, T2, ps2, as2, bd2, hL2, ?_⟩
  have hlt := hl_lt (L := L2) (b := l) (by rw [hL2]; simp)
  cases e <;> (simp only at hq ⊢; rw [hl_set L2 hlt]; exact hq)
end
end Go.EA
