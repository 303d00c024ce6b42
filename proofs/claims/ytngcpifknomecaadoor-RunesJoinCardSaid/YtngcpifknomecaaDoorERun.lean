/- The machine, and what its runs are for the model. Conditions: none. -/
import Derived.Test.YtngcpifknomecaaDoorEMach2
set_option linter.unusedVariables false
set_option linter.unusedSimpArgs false
namespace Go.EA

/-- What is left to do. -/
inductive Kt where
  | code (c : AC)
  | ops (l : List AI) (i : Nat)
  | dops (l : List AI) (i : Nat)
  | blk (id : Nat)
  /-- Here the round ends. -/
  | stop (R : Tm → Heap → Prop)

structure St where
  e : Ex
  k : List Kt
  T : List AV
  L : List AO

def setD (T : List AV) (d : Option Nat) (v : AV) : Option (List AV) :=
  match d with
  | none => some T
  | some d => match Nat.blt d T.length with
    | true => some (T.set d v)
    | false => none

/-- Is it known whether an operation is wanted, and is it? -/
def gdS (T : List AV) : Option (Nat × Bool) → Option Bool
  | none => some true
  | some (d, b) => match tmL T d with
    | .one (.bool x) => some (x == b)
    | .tup [] => some false
    | _ => none

def stepO (T : List AV) (L : List AO) (i : AI) : Option (List AV × List AO × List Prop) :=
  match gdS T i.gd with
  | some true => match callOp i.op with
    | true => none
    | false => match opS T L i.op with
      | some (v, L', c) => match setD T i.dst v with
        | some T' => some (T', L', c)
        | none => none
      | none => none
  | some false => match setD T i.dst und with
    | some T' => some (T', L, [])
    | none => none
  | none => none

/-- One step, and what must hold for it. -/
def stepK : St → Option (St × List Prop)
  | ⟨.normal, .ops l q :: k, T, L⟩ => match l[q]? with
    | none => some (⟨.normal, k, T, L⟩, [])
    | some i => match stepO T L i with
      | some (T', L', c) => some (⟨.normal, .ops l (q + 1) :: k, T', L'⟩, c)
      | none => none
  | ⟨.normal, .dops l q :: k, T, L⟩ => match l[q]? with
    | none => some (⟨.normal, k, T, L⟩, [])
    | some i => match stepO T L i with
      | some (T', L', c) => some (⟨.normal, .dops l (q + 1) :: k, T', L'⟩, c)
      | none => none
  | ⟨.normal, .blk _ :: k, T, L⟩ => some (⟨.normal, k, T, L⟩, [])
  | ⟨.normal, .code c :: k, T, L⟩ => match c with
    | .skip => some (⟨.normal, k, T, L⟩, [])
    | .reg l => some (⟨.normal, .ops l 0 :: k, T, L⟩, [])
    | .dreg l => some (⟨.normal, .dops l 0 :: k, T, L⟩, [])
    | .seq a b => match a with
      | .skip => some (⟨.normal, .code b :: k, T, L⟩, [])
      | a => some (⟨.normal, .code a :: .code b :: k, T, L⟩, [])
    | .cond c a b => match c.ev (tmL T) with
      | .one (.bool true) => some (⟨.normal, .code a :: k, T, L⟩, [])
      | .one (.bool false) => some (⟨.normal, .code b :: k, T, L⟩, [])
      | _ => none
    | .block id b => some (⟨.normal, .code b :: .blk id :: k, T, L⟩, [])
    | .exit id => some (⟨.exit id, k, T, L⟩, [])
    | .ret => some (⟨.ret, [], T, L⟩, [])
    | _ => none
  | ⟨.exit id, .blk id' :: k, T, L⟩ => match Nat.beq id id' with
    | true => some (⟨.normal, k, T, L⟩, [])
    | false => some (⟨.exit id, k, T, L⟩, [])
  | ⟨.exit id, _ :: k, T, L⟩ => some (⟨.exit id, k, T, L⟩, [])
  | _ => none

def appP : List Prop → List Prop → List Prop
  | [], r => r
  | p :: l, r => p :: appP l r
theorem AllT.app : ∀ {a b : List Prop}, AllT (appP a b) → AllT a ∧ AllT b
  | [], b, h => ⟨trivial, h⟩
  | p :: a, b, h => ⟨⟨h.1, (AllT.app h.2).1⟩, (AllT.app h.2).2⟩
def run : Nat → St → Option (St × List Prop)
  | 0, s => some (s, [])
  | n + 1, s => match stepK s with
    | some (s', c) => match run n s' with
      | some (s'', c') => some (s'', appP c c')
      | none => none
    | none => none

/-- What is needed of the temporaries. -/
def tl (n : Nat) (l : List (Nat × AV)) : List AV := (List.range n).map fun i => match l.find? (fun p => Nat.beq p.1 i) with | some p => p.2 | none => junk
def keepT (m : List Bool) : List AV → List AV
  | [] => []
  | v :: r => match m with
    | [] => v :: keepT [] r
    | true :: m => v :: keepT m r
    | false :: m => junk :: keepT m r

section
variable (S : SC) (X : Cx) (m : Nat)
/-- What operations that may come in any order come to. -/
def DO (r : List AI) (T : Tm) (H : Heap) (Q : Tm → Heap → Prop) : Prop := ∃ T' H', evOps (callP X) r T H = some (T', H') ∧ Q T' H'

/-- What it comes to, arriving before k in the way e. -/
def Sem : List Kt → (Ex → Tm → Heap → Prop) → Ex → Tm → Heap → Prop
  | [], Q, e, T, H => Q e T H
  | .code c :: k, Q, .normal, T, H => MC S m c T H (Sem k Q)
  | .ops l i :: k, Q, .normal, T, H => MO S m (l.drop i) T H (Sem k Q .normal)
  | .dops l i :: k, Q, .normal, T, H => DO X (l.drop i) T H (Sem k Q .normal)
  | .blk _ :: k, Q, .normal, T, H => Sem k Q .normal T H
  | .stop R :: _, _, .normal, T, H => R T H
  | .blk id :: k, Q, .exit id', T, H => if id' = id then Sem k Q .normal T H else Sem k Q (.exit id') T H
  | _ :: k, Q, e, T, H => Sem k Q e T H
def SemS (s : St) (Q : Ex → Tm → Heap → Prop) : Prop := Sem S X m s.k Q s.e (tmL s.T) (hl s.L)
end

section
variable {S : SC} {X : Cx} {m : Nat}
theorem Sem.ret : ∀ {k : List Kt} {Q : Ex → Tm → Heap → Prop} {T : Tm} {H : Heap}, Q .ret T H → Sem S X m k Q .ret T H
  | [], Q, T, H, h => h
  | .code c :: k, Q, T, H, h => Sem.ret (k := k) h
  | .ops l i :: k, Q, T, H, h => Sem.ret (k := k) h
  | .dops l i :: k, Q, T, H, h => Sem.ret (k := k) h
  | .blk id :: k, Q, T, H, h => Sem.ret (k := k) h
  | .stop R :: k, Q, T, H, h => Sem.ret (k := k) h

theorem setD_eq {T : List AV} {d : Option Nat} {v : AV} {T' : List AV} (h : setD T d v = some T') : putT (tmL T) d v = tmL T' := by
  unfold setD at h
  split at h
  · cases h; rfl
  · rename_i d
    split at h
    · rename_i hb
      cases h
      exact putT_tmL (Nat.le_of_ble_eq_true hb)
    · cases h

theorem gdS_ok {T : List AV} {g : Option (Nat × Bool)} {b : Bool} (h : gdS T g = some b) : known (tmL T) g = true ∧ wanted (tmL T) g = b := by
  unfold gdS at h
  split at h
  · cases h; exact ⟨rfl, rfl⟩
  · rename_i d b'
    split at h
    · rename_i x hx
      cases h
      simp [known, wanted, hx, AV.isJ]
    · rename_i hx
      cases h
      simp [known, wanted, hx, AV.isJ]
    · cases h

/-- One operation of a region that goes in order. -/
theorem stepO_ok (hok : S.Ok) {l : List AI} {q : Nat} {i : AI} {T T' : List AV} {L L' : List AO} {c : List Prop} {Q : Tm → Heap → Prop} (hi : l[q]? = some i) (h : stepO T L i = some (T', L', c)) (hc : AllT c) (hq : MO S m (l.drop (q + 1)) (tmL T') (hl L') Q) : MO S m (l.drop q) (tmL T) (hl L) Q := by
  obtain ⟨hlt, hget⟩ := List.getElem?_eq_some_iff.1 hi
  rw [List.drop_eq_getElem_cons hlt, hget]
  unfold stepO at h
  split at h
  · rename_i hg
    obtain ⟨g1, g2⟩ := gdS_ok hg
    split at h
    · cases h
    · rename_i hcall
      split at h
      · rename_i v L1 c1 ho
        split at h
        · rename_i T1 hT
          cases h
          refine MO.cons hok g1 (.inr (.inl ⟨g2, hcall, v, hl L', opS_ok ho hc, ?_⟩))
          rw [setD_eq hT]; exact hq
        · cases h
      · cases h
  · rename_i hg
    obtain ⟨g1, g2⟩ := gdS_ok hg
    split at h
    · rename_i T1 hT
      cases h
      refine MO.cons hok g1 (.inl ⟨g2, ?_⟩)
      rw [setD_eq hT]; exact hq
    · cases h
  · cases h
theorem DO.cons {i : AI} {r : List AI} {T : Tm} {H : Heap} {Q : Tm → Heap → Prop} (hkn : known T i.gd = true)
    (hh : (wanted T i.gd = false ∧ DO X r (putT T i.dst und) H Q) ∨
      (wanted T i.gd = true ∧ callOp i.op = false ∧ ∃ v H1, evOp T H i.op = some (v, H1) ∧ DO X r (putT T i.dst v) H1 Q) ∨
      (wanted T i.gd = true ∧ ∃ f xs v H1, i.op = .call f xs ∧ callP X (f.ev T) (xs.map (·.ev T)) H = some (v, H1) ∧ DO X r (putT T i.dst v) H1 Q)) : DO X (i :: r) T H Q := by
  rcases hh with ⟨hw, T', H', h1, h2⟩ | ⟨hw, hc, v, H1, he, T', H', h1, h2⟩ | ⟨hw, f, xs, v, H1, ho, he, T', H', h1, h2⟩
  · refine ⟨T', H', ?_, h2⟩
    simp only [evOps, hkn, hw]; exact h1
  · refine ⟨T', H', ?_, h2⟩
    obtain ⟨d, op, g⟩ := i
    cases op with
    | call f xs => cases hc
    | _ =>
      simp only [evOps, hkn, hw] at he ⊢
      simp only [Bool.true_eq_false, if_false, if_true, he]
      exact h1
  · refine ⟨T', H', ?_, h2⟩
    simp only [evOps, hkn, hw, ho, Bool.true_eq_false, if_false, if_true, he]
    exact h1
theorem stepO_okD {l : List AI} {q : Nat} {i : AI} {T T' : List AV} {L L' : List AO} {c : List Prop} {Q : Tm → Heap → Prop} (hi : l[q]? = some i) (h : stepO T L i = some (T', L', c)) (hc : AllT c) (hq : DO X (l.drop (q + 1)) (tmL T') (hl L') Q) : DO X (l.drop q) (tmL T) (hl L) Q := by
  obtain ⟨hlt, hget⟩ := List.getElem?_eq_some_iff.1 hi
  rw [List.drop_eq_getElem_cons hlt, hget]
  unfold stepO at h
  split at h
  · rename_i hg
    obtain ⟨g1, g2⟩ := gdS_ok hg
    split at h
    · cases h
    · rename_i hcall
      split at h
      · rename_i v L1 c1 ho
        split at h
        · rename_i T1 hT
          cases h
          refine DO.cons g1 (.inr (.inl ⟨g2, hcall, v, hl L', opS_ok ho hc, ?_⟩))
          rw [setD_eq hT]; exact hq
        · cases h
      · cases h
  · rename_i hg
    obtain ⟨g1, g2⟩ := gdS_ok hg
    split at h
    · rename_i T1 hT
      cases h
      refine DO.cons g1 (.inl ⟨g2, ?_⟩)
      rw [setD_eq hT]; exact hq
    · cases h
  · cases h

theorem stepK_sound (hS : S.Good X) {s s' : St} {c : List Prop} {Q : Ex → Tm → Heap → Prop} (h : stepK s = some (s', c)) (hc : AllT c) (hq : SemS S X m s' Q) : SemS S X m s Q := by
  obtain ⟨e, k, T, L⟩ := s
  unfold stepK at h
  split at h
  · rename_i l q k T L heq
    cases heq
    split at h
    · rename_i hq0
      cases h
      show MO S m (l.drop q) _ _ _
      rw [List.drop_eq_nil_of_le (List.getElem?_eq_none_iff.1 hq0)]
      exact MO.nil hq
    · rename_i i hi
      split at h
      · rename_i T' L' c' hs
        cases h
        exact stepO_ok hS.ok hi hs hc hq
      · cases h
  · rename_i l q k T L heq
    cases heq
    split at h
    · rename_i hq0
      cases h
      show DO X (l.drop q) _ _ _
      rw [List.drop_eq_nil_of_le (List.getElem?_eq_none_iff.1 hq0)]
      exact ⟨_, _, rfl, hq⟩
    · rename_i i hi
      split at h
      · rename_i T' L' c' hs
        cases h
        exact stepO_okD hi hs hc hq
      · cases h
  · rename_i heq; cases heq; cases h; exact hq
  · rename_i c k T L heq
    cases heq
    cases c with
    | skip => cases h; exact MC.skip hq
    | reg l => cases h; exact MC.reg hq
    | dreg l =>
      cases h
      show MC S m (.dreg l) _ _ _
      obtain ⟨T', H', h1, h2⟩ := (show DO X (l.drop 0) _ _ _ from hq)
      exact MC.dreg hS h1 h2
    | seq a b =>
      simp only at h
      split at h
      · cases h; exact MC.skip_seq hq
      · rename_i hne
        cases h
        refine MC.seq (fun h => hne h) (MC.mono (show MC S m a _ _ (Sem S X m (.code b :: k) Q) from hq) fun e T' H' hh => ?_)
        cases e <;> exact hh
    | cond c a b =>
      simp only at h
      split at h
      · rename_i hcv; cases h; exact MC.cond true hcv hS.ok hq
      · rename_i hcv; cases h; exact MC.cond false hcv hS.ok hq
      · cases h
    | block id b =>
      cases h
      refine MC.block (MC.mono (show MC S m b _ _ (Sem S X m (.blk id :: k) Q) from hq) fun e T' H' hh => ?_)
      cases e <;> exact hh
    | exit id => cases h; exact MC.exit hq
    | ret => cases h; exact MC.ret (Sem.ret hq)
    | loop b => cases h
    | rangeF f ps as bd => cases h
  · rename_i id id' k T L heq
    cases heq
    show if id = id' then _ else _
    split at h
    · rename_i hb; cases h; rw [if_pos (Nat.eq_of_beq_eq_true hb)]; exact hq
    · rename_i hb; cases h; rw [if_neg (Nat.ne_of_beq_eq_false hb)]; exact hq
  · rename_i id x k T L hx heq
    cases heq; cases h
    cases x with
    | code c => exact hq
    | ops l i => exact hq
    | dops l i => exact hq
    | blk id' => exact absurd rfl (hx id')
    | stop R => exact hq
  · cases h

/-- Many steps. -/
theorem run_sound0 (hS : S.Good X) : ∀ {n : Nat} {s s' : St} {c : List Prop} {Q : Ex → Tm → Heap → Prop}, run n s = some (s', c) → AllT c → SemS S X m s' Q → SemS S X m s Q
  | 0, s, s', c, Q, h, hc, hq => by cases h; exact hq
  | n + 1, s, s', c, Q, h, hc, hq => by
    simp only [run] at h
    split at h
    · rename_i s1 c1 h1
      split at h
      · rename_i s2 c2 h2
        cases h
        obtain ⟨a, b⟩ := AllT.app hc
        exact stepK_sound hS h1 a (run_sound0 hS h2 b hq)
      · cases h
    · cases h

/-- Temporaries may be left out. -/
theorem keepT_abs {H : Heap} : ∀ (l : List Bool) (T : List AV) (k : Nat), tmL (keepT l T) k = junk ∨ tmL (keepT l T) k = tmL T k
  | l, [], k => .inr rfl
  | [], v :: r, k => by
    cases k with
    | zero => exact .inr rfl
    | succ k => simpa [keepT, tmL] using keepT_abs (H := H) [] r k
  | true :: l, v :: r, k => by
    cases k with
    | zero => exact .inr rfl
    | succ k => simpa [keepT, tmL] using keepT_abs (H := H) l r k
  | false :: l, v :: r, k => by
    cases k with
    | zero => exact .inl rfl
    | succ k => simpa [keepT, tmL] using keepT_abs (H := H) l r k
theorem Abs.junk {T T1 : Tm} {H : Heap} (h : ∀ k, T1 k = EA.junk ∨ T1 k = T k) : Abs S m T H T1 H := by
  intro hm ρ w tmps hT hH
  refine ⟨ρ, fun k v hk => ?_, hH, (Frm.refl _ _ _).weak hm⟩
  rcases h k with h | h
  · rw [h]; exact .inl rfl
  · rw [h]; exact hT k v hk

/-- A state may be put in another's stead that it stands for. -/
theorem SemS.abs {c : AC} {k : List Kt} {T T1 : List AV} {L L1 : List AO} {Q : Ex → Tm → Heap → Prop} (ha : Abs S m (tmL T) (hl L) (tmL T1) (hl L1)) (h : SemS S X m ⟨.normal, .code c :: k, T1, L1⟩ Q) : SemS S X m ⟨.normal, .code c :: k, T, L⟩ Q := MC.abs ha h
theorem SemS.absO {l : List AI} {i : Nat} {k : List Kt} {T T1 : List AV} {L L1 : List AO} {Q : Ex → Tm → Heap → Prop} (ha : Abs S m (tmL T) (hl L) (tmL T1) (hl L1)) (h : SemS S X m ⟨.normal, .ops l i :: k, T1, L1⟩ Q) : SemS S X m ⟨.normal, .ops l i :: k, T, L⟩ Q := MO.abs ha h
end
end Go.EA
