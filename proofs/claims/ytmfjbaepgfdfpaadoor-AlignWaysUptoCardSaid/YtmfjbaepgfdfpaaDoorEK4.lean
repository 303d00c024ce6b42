/- Texts of the core, one behind the other. Conditions: none. -/
import Derived.Test.YtmfjbaepgfdfpaaDoorEK3
section
/- The machine, and what its runs are for the model. Conditions: none. -/
set_option linter.unusedVariables false
set_option linter.unusedSimpArgs false
namespace Go.EA

/-- What is left to do. -/
inductive Kt where
  | code (c : AC)
  | ops (l : List AI) (i : Nat)
  | dops (l : List AI) (i : Nat)
  | blk (id : Nat)
  /-- Here the round ends. -/
  | stop (R : Tm → Heap → Prop)
  /-- At most so many rounds. -/
  | rnd (x : AC) (n : Nat)

structure St where
  e : Ex
  k : List Kt
  T : List AV
  L : List AO

def setD (T : List AV) (d : Option Nat) (v : AV) : Option (List AV) :=
  match d with
  | none => some T
  | some d => match Nat.blt d T.length with
    | true => some (T.set d v)
    | false => none

/-- Is it known whether an operation is wanted, and is it? -/
def gdS (T : List AV) : Option (Nat × Bool) → Option Bool
  | none => some true
  | some (d, b) => match tmL T d with
    | .one (.bool x) => some (x == b)
    | .tup [] => some false
    | _ => none

def stepO (T : List AV) (L : List AO) (i : AI) : Option (List AV × List AO × List Prop) :=
  match gdS T i.gd with
  | some true => match callOp i.op with
    | true => none
    | false => match opS T L i.op with
      | some (v, L', c) => match setD T i.dst v with
        | some T' => some (T', L', c)
        | none => none
      | none => none
  | some false => match setD T i.dst und with
    | some T' => some (T', L, [])
    | none => none
  | none => none

/-- One step, and what must hold for it. -/
def stepK : St → Option (St × List Prop)
  | ⟨.normal, .ops l q :: k, T, L⟩ => match l[q]? with
    | none => some (⟨.normal, k, T, L⟩, [])
    | some i => match stepO T L i with
      | some (T', L', c) => some (⟨.normal, .ops l (q + 1) :: k, T', L'⟩, c)
      | none => none
  | ⟨.normal, .dops l q :: k, T, L⟩ => match l[q]? with
    | none => some (⟨.normal, k, T, L⟩, [])
    | some i => match stepO T L i with
      | some (T', L', c) => some (⟨.normal, .dops l (q + 1) :: k, T', L'⟩, c)
      | none => none
  | ⟨.normal, .blk _ :: k, T, L⟩ => some (⟨.normal, k, T, L⟩, [])
  | ⟨.normal, .rnd x n :: k, T, L⟩ => match n with
    | 0 => none
    | n + 1 => some (⟨.normal, .code x :: .rnd x n :: k, T, L⟩, [])
  | ⟨.normal, .code c :: k, T, L⟩ => match c with
    | .skip => some (⟨.normal, k, T, L⟩, [])
    | .reg l => some (⟨.normal, .ops l 0 :: k, T, L⟩, [])
    | .dreg l => some (⟨.normal, .dops l 0 :: k, T, L⟩, [])
    | .seq a b => match a with
      | .skip => some (⟨.normal, .code b :: k, T, L⟩, [])
      | a => some (⟨.normal, .code a :: .code b :: k, T, L⟩, [])
    | .cond c a b => match c.ev (tmL T) with
      | .one (.bool true) => some (⟨.normal, .code a :: k, T, L⟩, [])
      | .one (.bool false) => some (⟨.normal, .code b :: k, T, L⟩, [])
      | _ => none
    | .block id b => some (⟨.normal, .code b :: .blk id :: k, T, L⟩, [])
    | .exit id => some (⟨.exit id, k, T, L⟩, [])
    | .ret => some (⟨.ret, [], T, L⟩, [])
    | _ => none
  | ⟨.exit id, .blk id' :: k, T, L⟩ => match Nat.beq id id' with
    | true => some (⟨.normal, k, T, L⟩, [])
    | false => some (⟨.exit id, k, T, L⟩, [])
  | ⟨.exit id, _ :: k, T, L⟩ => some (⟨.exit id, k, T, L⟩, [])
  | _ => none

def appP : List Prop → List Prop → List Prop
  | [], r => r
  | p :: l, r => p :: appP l r
theorem AllT.app : ∀ {a b : List Prop}, AllT (appP a b) → AllT a ∧ AllT b
  | [], b, h => ⟨trivial, h⟩
  | p :: a, b, h => ⟨⟨h.1, (AllT.app h.2).1⟩, (AllT.app h.2).2⟩
def run : Nat → St → Option (St × List Prop)
  | 0, s => some (s, [])
  | n + 1, s => match stepK s with
    | some (s', c) => match run n s' with
      | some (s'', c') => some (s'', appP c c')
      | none => none
    | none => none

/-- What is needed of the temporaries. -/
def tl (n : Nat) (l : List (Nat × AV)) : List AV := (List.range n).map fun i => match l.find? (fun p => Nat.beq p.1 i) with | some p => p.2 | none => junk
def keepT (m : List Bool) : List AV → List AV
  | [] => []
  | v :: r => match m with
    | [] => v :: keepT [] r
    | true :: m => v :: keepT m r
    | false :: m => junk :: keepT m r

section
variable (S : SC) (X : Cx) (m : Nat)
/-- What operations that may come in any order come to. -/
def DO (r : List AI) (T : Tm) (H : Heap) (Q : Tm → Heap → Prop) : Prop := ∃ T' H', evOps (callP X) r T H = some (T', H') ∧ Q T' H'

/-- What it comes to, arriving before k in the way e. -/
def Sem : List Kt → (Ex → Tm → Heap → Prop) → Ex → Tm → Heap → Prop
  | [], Q, e, T, H => Q e T H
  | .code c :: k, Q, .normal, T, H => MC S m c T H (Sem k Q)
  | .ops l i :: k, Q, .normal, T, H => MO S m (l.drop i) T H (Sem k Q .normal)
  | .dops l i :: k, Q, .normal, T, H => DO X (l.drop i) T H (Sem k Q .normal)
  | .blk _ :: k, Q, .normal, T, H => Sem k Q .normal T H
  | .stop R :: _, _, .normal, T, H => R T H
  | .rnd x n :: k, Q, .normal, T, H => MR S m x n T H (Sem k Q)
  | .blk id :: k, Q, .exit id', T, H => if id' = id then Sem k Q .normal T H else Sem k Q (.exit id') T H
  | _ :: k, Q, e, T, H => Sem k Q e T H
def SemS (s : St) (Q : Ex → Tm → Heap → Prop) : Prop := Sem S X m s.k Q s.e (tmL s.T) (hl s.L)
end

section
variable {S : SC} {X : Cx} {m : Nat}
theorem Sem.ret : ∀ {k : List Kt} {Q : Ex → Tm → Heap → Prop} {T : Tm} {H : Heap}, Q .ret T H → Sem S X m k Q .ret T H
  | [], Q, T, H, h => h
  | .code c :: k, Q, T, H, h => Sem.ret (k := k) h
  | .ops l i :: k, Q, T, H, h => Sem.ret (k := k) h
  | .dops l i :: k, Q, T, H, h => Sem.ret (k := k) h
  | .blk id :: k, Q, T, H, h => Sem.ret (k := k) h
  | .stop R :: k, Q, T, H, h => Sem.ret (k := k) h
  | .rnd x n :: k, Q, T, H, h => Sem.ret (k := k) h

theorem setD_eq {T : List AV} {d : Option Nat} {v : AV} {T' : List AV} (h : setD T d v = some T') : putT (tmL T) d v = tmL T' := by
  unfold setD at h
  split at h
  · cases h; rfl
  · rename_i d
    split at h
    · rename_i hb
      cases h
      exact putT_tmL (Nat.le_of_ble_eq_true hb)
    · cases h

theorem gdS_ok {T : List AV} {g : Option (Nat × Bool)} {b : Bool} (h : gdS T g = some b) : known (tmL T) g = true ∧ wanted (tmL T) g = b := by
  unfold gdS at h
  split at h
  · cases h; exact ⟨rfl, rfl⟩
  · rename_i d b'
    split at h
    · rename_i x hx
      cases h
      simp [known, wanted, hx, AV.isJ]
    · rename_i hx
      cases h
      simp [known, wanted, hx, AV.isJ]
    · cases h

/-- One operation of a region that goes in order. -/
theorem stepO_ok (hok : S.Ok) {l : List AI} {q : Nat} {i : AI} {T T' : List AV} {L L' : List AO} {c : List Prop} {Q : Tm → Heap → Prop} (hi : l[q]? = some i) (h : stepO T L i = some (T', L', c)) (hc : AllT c) (hq : MO S m (l.drop (q + 1)) (tmL T') (hl L') Q) : MO S m (l.drop q) (tmL T) (hl L) Q := by
  obtain ⟨hlt, hget⟩ := List.getElem?_eq_some_iff.1 hi
  rw [List.drop_eq_getElem_cons hlt, hget]
  unfold stepO at h
  split at h
  · rename_i hg
    obtain ⟨g1, g2⟩ := gdS_ok hg
    split at h
    · cases h
    · rename_i hcall
      split at h
      · rename_i v L1 c1 ho
        split at h
        · rename_i T1 hT
          cases h
          refine MO.cons hok g1 (.inr (.inl ⟨g2, hcall, v, hl L', opS_ok ho hc, ?_⟩))
          rw [setD_eq hT]; exact hq
        · cases h
      · cases h
  · rename_i hg
    obtain ⟨g1, g2⟩ := gdS_ok hg
    split at h
    · rename_i T1 hT
      cases h
      refine MO.cons hok g1 (.inl ⟨g2, ?_⟩)
      rw [setD_eq hT]; exact hq
    · cases h
  · cases h
theorem DO.cons {i : AI} {r : List AI} {T : Tm} {H : Heap} {Q : Tm → Heap → Prop} (hkn : known T i.gd = true)
    (hh : (wanted T i.gd = false ∧ DO X r (putT T i.dst und) H Q) ∨
      (wanted T i.gd = true ∧ callOp i.op = false ∧ ∃ v H1, evOp T H i.op = some (v, H1) ∧ DO X r (putT T i.dst v) H1 Q) ∨
      (wanted T i.gd = true ∧ ∃ f xs v H1, i.op = .call f xs ∧ callP X (f.ev T) (xs.map (·.ev T)) H = some (v, H1) ∧ DO X r (putT T i.dst v) H1 Q)) : DO X (i :: r) T H Q := by
  rcases hh with ⟨hw, T', H', h1, h2⟩ | ⟨hw, hc, v, H1, he, T', H', h1, h2⟩ | ⟨hw, f, xs, v, H1, ho, he, T', H', h1, h2⟩
  · refine ⟨T', H', ?_, h2⟩
    simp only [evOps, hkn, hw]; exact h1
  · refine ⟨T', H', ?_, h2⟩
    obtain ⟨d, op, g⟩ := i
    cases op with
    | call f xs => cases hc
    | _ =>
      simp only [evOps, hkn, hw] at he ⊢
      simp only [Bool.true_eq_false, if_false, if_true, he]
      exact h1
  · refine ⟨T', H', ?_, h2⟩
    simp only [evOps, hkn, hw, ho, Bool.true_eq_false, if_false, if_true, he]
    exact h1
theorem stepO_okD {l : List AI} {q : Nat} {i : AI} {T T' : List AV} {L L' : List AO} {c : List Prop} {Q : Tm → Heap → Prop} (hi : l[q]? = some i) (h : stepO T L i = some (T', L', c)) (hc : AllT c) (hq : DO X (l.drop (q + 1)) (tmL T') (hl L') Q) : DO X (l.drop q) (tmL T) (hl L) Q := by
  obtain ⟨hlt, hget⟩ := List.getElem?_eq_some_iff.1 hi
  rw [List.drop_eq_getElem_cons hlt, hget]
  unfold stepO at h
  split at h
  · rename_i hg
    obtain ⟨g1, g2⟩ := gdS_ok hg
    split at h
    · cases h
    · rename_i hcall
      split at h
      · rename_i v L1 c1 ho
        split at h
        · rename_i T1 hT
          cases h
          refine DO.cons g1 (.inr (.inl ⟨g2, hcall, v, hl L', opS_ok ho hc, ?_⟩))
          rw [setD_eq hT]; exact hq
        · cases h
      · cases h
  · rename_i hg
    obtain ⟨g1, g2⟩ := gdS_ok hg
    split at h
    · rename_i T1 hT
      cases h
      refine DO.cons g1 (.inl ⟨g2, ?_⟩)
      rw [setD_eq hT]; exact hq
    · cases h
  · cases h

theorem stepK_sound (hS : S.Good X) {s s' : St} {c : List Prop} {Q : Ex → Tm → Heap → Prop} (h : stepK s = some (s', c)) (hc : AllT c) (hq : SemS S X m s' Q) : SemS S X m s Q := by
  obtain ⟨e, k, T, L⟩ := s
  unfold stepK at h
  split at h
  · rename_i l q k T L heq
    cases heq
    split at h
    · rename_i hq0
      cases h
      show MO S m (l.drop q) _ _ _
      rw [List.drop_eq_nil_of_le (List.getElem?_eq_none_iff.1 hq0)]
      exact MO.nil hq
    · rename_i i hi
      split at h
      · rename_i T' L' c' hs
        cases h
        exact stepO_ok hS.ok hi hs hc hq
      · cases h
  · rename_i l q k T L heq
    cases heq
    split at h
    · rename_i hq0
      cases h
      show DO X (l.drop q) _ _ _
      rw [List.drop_eq_nil_of_le (List.getElem?_eq_none_iff.1 hq0)]
      exact ⟨_, _, rfl, hq⟩
    · rename_i i hi
      split at h
      · rename_i T' L' c' hs
        cases h
        exact stepO_okD hi hs hc hq
      · cases h
  · rename_i heq; cases heq; cases h; exact hq
  · rename_i x n k T L heq
    cases heq
    split at h
    · cases h
    · cases h
      refine MR.succ (MC.mono (show MC S m x _ _ (Sem S X m (.rnd x _ :: k) Q) from hq) fun e T' H' hh => ?_)
      cases e <;> exact hh
  · rename_i c k T L heq
    cases heq
    cases c with
    | skip => cases h; exact MC.skip hq
    | reg l => cases h; exact MC.reg hq
    | dreg l =>
      cases h
      show MC S m (.dreg l) _ _ _
      obtain ⟨T', H', h1, h2⟩ := (show DO X (l.drop 0) _ _ _ from hq)
      exact MC.dreg hS (hl_hd _) h1 h2
    | dalt ls => cases h
    | dtl ls tl => cases h
    | seq a b =>
      simp only at h
      split at h
      · cases h; exact MC.skip_seq hq
      · rename_i hne
        cases h
        refine MC.seq (fun h => hne h) (MC.mono (show MC S m a _ _ (Sem S X m (.code b :: k) Q) from hq) fun e T' H' hh => ?_)
        cases e <;> exact hh
    | cond c a b =>
      simp only at h
      split at h
      · rename_i hcv; cases h; exact MC.cond true hcv hS.ok hq
      · rename_i hcv; cases h; exact MC.cond false hcv hS.ok hq
      · cases h
    | block id b =>
      cases h
      refine MC.block (MC.mono (show MC S m b _ _ (Sem S X m (.blk id :: k) Q) from hq) fun e T' H' hh => ?_)
      cases e <;> exact hh
    | exit id => cases h; exact MC.exit hq
    | ret => cases h; exact MC.ret (Sem.ret hq)
    | loop b => cases h
    | rangeF f ps as bd => cases h
  · rename_i id id' k T L heq
    cases heq
    show if id = id' then _ else _
    split at h
    · rename_i hb; cases h; rw [if_pos (Nat.eq_of_beq_eq_true hb)]; exact hq
    · rename_i hb; cases h; rw [if_neg (Nat.ne_of_beq_eq_false hb)]; exact hq
  · rename_i id x k T L hx heq
    cases heq; cases h
    cases x with
    | code c => exact hq
    | ops l i => exact hq
    | dops l i => exact hq
    | blk id' => exact absurd rfl (hx id')
    | stop R => exact hq
    | rnd x n => exact hq
  · cases h

/-- Many steps. -/
theorem run_sound0 (hS : S.Good X) : ∀ {n : Nat} {s s' : St} {c : List Prop} {Q : Ex → Tm → Heap → Prop}, run n s = some (s', c) → AllT c → SemS S X m s' Q → SemS S X m s Q
  | 0, s, s', c, Q, h, hc, hq => by cases h; exact hq
  | n + 1, s, s', c, Q, h, hc, hq => by
    simp only [run] at h
    split at h
    · rename_i s1 c1 h1
      split at h
      · rename_i s2 c2 h2
        cases h
        obtain ⟨a, b⟩ := AllT.app hc
        exact stepK_sound hS h1 a (run_sound0 hS h2 b hq)
      · cases h
    · cases h

/-- Temporaries may be left out. -/
theorem keepT_abs {H : Heap} : ∀ (l : List Bool) (T : List AV) (k : Nat), tmL (keepT l T) k = junk ∨ tmL (keepT l T) k = tmL T k
  | l, [], k => .inr rfl
  | [], v :: r, k => by
    cases k with
    | zero => exact .inr rfl
    | succ k => simpa [keepT, tmL] using keepT_abs (H := H) [] r k
  | true :: l, v :: r, k => by
    cases k with
    | zero => exact .inr rfl
    | succ k => simpa [keepT, tmL] using keepT_abs (H := H) l r k
  | false :: l, v :: r, k => by
    cases k with
    | zero => exact .inl rfl
    | succ k => simpa [keepT, tmL] using keepT_abs (H := H) l r k
theorem Abs.junk {T T1 : Tm} {H : Heap} (h : ∀ k, T1 k = EA.junk ∨ T1 k = T k) : Abs S m T H T1 H := by
  intro hm ρ w tmps hT hH
  refine ⟨ρ, fun k v hk => ?_, hH, (Frm.refl _ _ _).weak hm⟩
  rcases h k with h | h
  · rw [h]; exact .inl rfl
  · rw [h]; exact hT k v hk

/-- A state may be put in another's stead that it stands for. -/
theorem SemS.abs {c : AC} {k : List Kt} {T T1 : List AV} {L L1 : List AO} {Q : Ex → Tm → Heap → Prop} (ha : Abs S m (tmL T) (hl L) (tmL T1) (hl L1)) (h : SemS S X m ⟨.normal, .code c :: k, T1, L1⟩ Q) : SemS S X m ⟨.normal, .code c :: k, T, L⟩ Q := MC.abs ha h
theorem SemS.absO {l : List AI} {i : Nat} {k : List Kt} {T T1 : List AV} {L L1 : List AO} {Q : Ex → Tm → Heap → Prop} (ha : Abs S m (tmL T) (hl L) (tmL T1) (hl L1)) (h : SemS S X m ⟨.normal, .ops l i :: k, T1, L1⟩ Q) : SemS S X m ⟨.normal, .ops l i :: k, T, L⟩ Q := MO.abs ha h
end
end Go.EA
end
section
/- The machine's stops: calls, loops, ranges, the end; functions without addresses. Conditions: none. -/
set_option linter.unusedVariables false
set_option linter.unusedSimpArgs false
namespace Go.EA

/-- Which are kept. -/
def inB (i : Nat) : List Nat → Bool
  | [] => false
  | j :: l => Nat.beq i j || inB i l
def bm (n : Nat) (l : List Nat) : List Bool := (List.range n).map fun i => inB i l
def keepS (b : List Bool) (s : St) : St :=
  match s with
  | ⟨.normal, .code c :: k, T, L⟩ => ⟨.normal, .code c :: k, keepT b T, L⟩
  | ⟨.normal, .ops l i :: k, T, L⟩ => ⟨.normal, .ops l i :: k, keepT b T, L⟩
  | s => s
def runB (n : Nat) (b : List Bool) (s : St) : Option (St × List Prop) :=
  match run n s with
  | some (s', c) => some (keepS b s', c)
  | none => none

section
variable {S : SC} {X : Cx} {m : Nat}
theorem keepS_ok {b : List Bool} {s : St} {Q : Ex → Tm → Heap → Prop} (h : SemS S X m (keepS b s) Q) : SemS S X m s Q := by
  obtain ⟨e, k, T, L⟩ := s
  unfold keepS at h
  split at h
  · rename_i heq; cases heq
    exact SemS.abs (Abs.junk fun k => keepT_abs (H := hl L) b T k) h
  · rename_i heq; cases heq
    exact SemS.absO (Abs.junk fun k => keepT_abs (H := hl L) b T k) h
  · exact h
theorem run_sound (hS : S.Good X) {n : Nat} {b : List Bool} {s s' : St} {c : List Prop} {Q : Ex → Tm → Heap → Prop} (h : runB n b s = some (s', c)) (hc : AllT c) (hq : SemS S X m s' Q) : SemS S X m s Q := by
  unfold runB at h
  split at h
  · rename_i s1 c1 h1
    cases h
    exact run_sound0 hS h1 hc (keepS_ok hq)
  · cases h

/-- One operation, whose answer is shown by hand. -/
theorem SemS.step (hS : S.Good X) {l : List AI} {q : Nat} {k : List Kt} {T : List AV} {L : List AO} {Q : Ex → Tm → Heap → Prop} {i : AI} (hi : l[q]? = some i) (hg : gdS T i.gd = some true) (hc : callOp i.op = false) {v : AV} {L1 : List AO} (he : evOp (tmL T) (hl L) i.op = some (v, hl L1))
    {T' : List AV} (hT : setD T i.dst v = some T') (h : SemS S X m ⟨.normal, .ops l (q + 1) :: k, T', L1⟩ Q) : SemS S X m ⟨.normal, .ops l q :: k, T, L⟩ Q := by
  obtain ⟨hlt, hget⟩ := List.getElem?_eq_some_iff.1 hi
  obtain ⟨g1, g2⟩ := gdS_ok hg
  show MO S m (l.drop q) _ _ _
  rw [List.drop_eq_getElem_cons hlt, hget]
  refine MO.cons hS.ok g1 (.inr (.inl ⟨g2, hc, v, hl L1, he, ?_⟩))
  rw [setD_eq hT]
  exact h
theorem SemS.stepD {l : List AI} {q : Nat} {k : List Kt} {T : List AV} {L : List AO} {Q : Ex → Tm → Heap → Prop} {i : AI} (hi : l[q]? = some i) (hg : gdS T i.gd = some true) (hc : callOp i.op = false) {v : AV} {L1 : List AO} (he : evOp (tmL T) (hl L) i.op = some (v, hl L1))
    {T' : List AV} (hT : setD T i.dst v = some T') (h : SemS S X m ⟨.normal, .dops l (q + 1) :: k, T', L1⟩ Q) : SemS S X m ⟨.normal, .dops l q :: k, T, L⟩ Q := by
  obtain ⟨hlt, hget⟩ := List.getElem?_eq_some_iff.1 hi
  obtain ⟨g1, g2⟩ := gdS_ok hg
  show DO X (l.drop q) _ _ _
  rw [List.drop_eq_getElem_cons hlt, hget]
  refine DO.cons g1 (.inr (.inl ⟨g2, hc, v, hl L1, he, ?_⟩))
  rw [setD_eq hT]
  exact h

/-- The machine stands before a call. -/
theorem SemS.call (hS : S.Good X) {l : List AI} {q : Nat} {k : List Kt} {T : List AV} {L : List AO} {Q : Ex → Tm → Heap → Prop} {d : Option Nat} {f : Opd} {xs : List Opd} {g : Option (Nat × Bool)} (hi : l[q]? = some ⟨d, .call f xs, g⟩) (hg : gdS T g = some true) {fv : AV} {vs : List AV}
    (hf : f.ev (tmL T) = fv) (hx : xs.map (·.ev (tmL T)) = vs) (h : MCall S fv vs (hl L) fun v H1 => ∃ T', setD T d v = some T' ∧ Sem S X m (.ops l (q + 1) :: k) Q .normal (tmL T') H1) : SemS S X m ⟨.normal, .ops l q :: k, T, L⟩ Q := by
  obtain ⟨hlt, hget⟩ := List.getElem?_eq_some_iff.1 hi
  obtain ⟨g1, g2⟩ := gdS_ok hg
  show MO S m (l.drop q) _ _ _
  rw [List.drop_eq_getElem_cons hlt, hget]
  refine MO.cons hS.ok g1 (.inr (.inr ⟨g2, f, xs, rfl, ?_⟩))
  rw [hf, hx]
  refine h.mono fun v H1 h => ?_
  obtain ⟨T', hT, h⟩ := h
  show MO S m _ (putT (tmL T) d v) _ _
  rw [setD_eq hT]
  exact h
/-- The machine stands before a call of a function with a given meaning. -/
theorem SemS.callPr (hS : S.Good X) {l : List AI} {q : Nat} {k : List Kt} {T : List AV} {L : List AO} {Q : Ex → Tm → Heap → Prop} {i : Nat} {p : List AV → Heap → Option (AV × Heap)} (hp : X.pr i = some p) {d : Option Nat} {f : Opd} {xs : List Opd} {g : Option (Nat × Bool)}
    (hi : l[q]? = some ⟨d, .call f xs, g⟩) (hg : gdS T g = some true) (hf : f.ev (tmL T) = .one (.fn i [])) {v : AV} {L1 : List AO} (he : p (xs.map (·.ev (tmL T))) (hl L) = some (v, hl L1)) {T' : List AV} (hT : setD T d v = some T')
    (h : SemS S X m ⟨.normal, .ops l (q + 1) :: k, T', L1⟩ Q) : SemS S X m ⟨.normal, .ops l q :: k, T, L⟩ Q :=
  SemS.call hS hi hg hf rfl (MCall.pr (hS.prs i p hp) he ⟨T', hT, h⟩)
theorem SemS.callPrD (_hS : S.Good X) {l : List AI} {q : Nat} {k : List Kt} {T : List AV} {L : List AO} {Q : Ex → Tm → Heap → Prop} {i : Nat} {p : List AV → Heap → Option (AV × Heap)} (hp : X.pr i = some p) {d : Option Nat} {f : Opd} {xs : List Opd} {g : Option (Nat × Bool)}
    (hi : l[q]? = some ⟨d, .call f xs, g⟩) (hg : gdS T g = some true) (hf : f.ev (tmL T) = .one (.fn i [])) {v : AV} {L1 : List AO} (he : p (xs.map (·.ev (tmL T))) (hl L) = some (v, hl L1)) {T' : List AV} (hT : setD T d v = some T')
    (h : SemS S X m ⟨.normal, .dops l (q + 1) :: k, T', L1⟩ Q) : SemS S X m ⟨.normal, .dops l q :: k, T, L⟩ Q := by
  obtain ⟨hlt, hget⟩ := List.getElem?_eq_some_iff.1 hi
  obtain ⟨g1, g2⟩ := gdS_ok hg
  show DO X (l.drop q) _ _ _
  rw [List.drop_eq_getElem_cons hlt, hget]
  refine DO.cons g1 (.inr (.inr ⟨g2, f, xs, v, hl L1, rfl, ?_, ?_⟩))
  · rw [hf]
    simp only [callP, callV, hp, List.isEmpty_nil, if_true]
    exact he
  · rw [setD_eq hT]; exact h

/-- A loop: what its state is at the head of each round, and a bound of the rounds to come. -/
theorem SemS.loop {α : Type} (I : α → List AV × List AO) (μ : α → Nat) (x0 : α) {b : AC} {k : List Kt} {T : List AV} {L : List AO} {Q : Ex → Tm → Heap → Prop} (h0 : Abs S m (tmL T) (hl L) (tmL (I x0).1) (hl (I x0).2))
    (h : ∀ x (R : Tm → Heap → Prop), (∀ x' T' H', μ x' < μ x → Abs S m T' H' (tmL (I x').1) (hl (I x').2) → R T' H') → SemS S X m ⟨.normal, .code b :: .stop R :: k, (I x).1, (I x).2⟩ Q) : SemS S X m ⟨.normal, .code (.loop b) :: k, T, L⟩ Q := by
  refine MC.abs h0 (MC.loop (fun n T H => ∃ x, μ x = n ∧ Abs S m T H (tmL (I x).1) (hl (I x).2)) ?_ (k := μ x0) ⟨x0, rfl, Abs.refl⟩)
  rintro n T H ⟨x, rfl, ha⟩
  refine MC.abs ha (MC.mono (h x (fun T' H' => ∃ x', μ x' < μ x ∧ Abs S m T' H' (tmL (I x').1) (hl (I x').2)) fun x' T' H' h1 h2 => ⟨x', h1, h2⟩) fun e T' H' hh => ?_)
  cases e with
  | normal =>
    obtain ⟨x', h1, h2⟩ : ∃ x', μ x' < μ x ∧ Abs S m T' H' (tmL (I x').1) (hl (I x').2) := hh
    exact ⟨μ x', h1, x', rfl, h2⟩
  | exit id => exact hh
  | ret => exact hh
/-- A loop of at most so many rounds. -/
theorem SemS.rounds (n : Nat) {b : AC} {k : List Kt} {T : List AV} {L : List AO} {Q : Ex → Tm → Heap → Prop} (h : SemS S X m ⟨.normal, .rnd b n :: k, T, L⟩ Q) : SemS S X m ⟨.normal, .code (.loop b) :: k, T, L⟩ Q := MC.rounds n h
/-- The round's end. -/
theorem SemS.stop {k : List Kt} {T : List AV} {L : List AO} {Q : Ex → Tm → Heap → Prop} {R : Tm → Heap → Prop} (h : R (tmL T) (hl L)) : SemS S X m ⟨.normal, .stop R :: k, T, L⟩ Q := h

/-- The function's end, with a state that stands for the last one. -/
theorem SemS.done {T T1 : List AV} {e : Ex} {L L1 : List AO} {rs : List ARes} {Q : AV → Heap → Prop} (he : e = .ret ∨ e = .normal) (ha : Abs S m (tmL T) (hl L) (tmL T1) (hl L1)) {v : AV} (hv : evRes (tmL T1) (hl L1) rs = some v) (hq : Q v (hl L1)) :
    SemS S X m ⟨e, [], T, L⟩ fun e T' H' => ∃ T1 H1, Abs S m T' H' T1 H1 ∧ (e = .ret ∨ e = .normal) ∧ ∃ v, evRes T1 H1 rs = some v ∧ Q v H1 :=
  ⟨_, _, ha, he, v, hv, hq⟩

theorem args0_tmL (ys : List AV) (n : Nat) : args0 ys = tmL (ys ++ List.replicate n und) := by
  funext k
  induction ys generalizing k with
  | nil =>
    simp only [args0, tmL, List.nil_append, List.getD_eq_getElem?_getD, List.getElem?_replicate]
    split <;> rfl
  | cons y ys ih =>
    cases k with
    | zero => rfl
    | succ k => simpa [args0, tmL] using ih k

/-- A function, by the machine. -/
theorem MF.run (_hS : S.Good X) {f : Nat} {cap : List (Nat × Nat × Nat)} {xs : List AV} {L : List AO} {Q : AV → Heap → Prop} {af : AF} (hf : S.has f af) (T0 : List AV) (hlen : xs.length + cap.length = af.np)
    (hT : T0 = xs ++ (cap.map fun c => AV.one (.ptr c.1 c.2.1 c.2.2)) ++ List.replicate (af.nt - af.np) und)
    (h : SemS S X L.length ⟨.normal, [.code af.body], T0, L⟩ fun e T' H' => ∃ T1 H1, Abs S L.length T' H' T1 H1 ∧ (e = .ret ∨ e = .normal) ∧ ∃ v, evRes T1 H1 af.res = some v ∧ Q v H1) : MF S f cap xs (hl L) Q := by
  refine MF.of hf hlen ?_
  rw [args0_tmL _ (af.nt - af.np), ← hT]
  refine MC.post (MC.mono (show MC S L.length af.body (tmL T0) (hl L) (Sem S X L.length [] _) from h) fun e T' H' hh => ?_)
  obtain ⟨T1, H1, h1, h2⟩ := hh
  exact ⟨T1, H1, h1, h2⟩

theorem setPs_tmL : ∀ (ps : List Nat) (xs : List AV) (l : List AV), (∀ p ∈ ps, p < l.length) → ∃ l', setPs (tmL l) ps xs = tmL l' ∧ l'.length = l.length
  | [], xs, l, _ => ⟨l, by cases xs <;> rfl, rfl⟩
  | p :: ps, [], l, _ => ⟨l, rfl, rfl⟩
  | p :: ps, x :: xs, l, h => by
    obtain ⟨l', h1, h2⟩ := setPs_tmL ps xs (l.set p x) (fun q hq => by rw [List.length_set]; exact h q (by simp [hq]))
    refine ⟨l', ?_, by rw [h2, List.length_set]⟩
    rw [← h1]
    show setPs (put (tmL l) p x) ps xs = _
    have := putT_tmL (v := x) (h p (by simp))
    unfold putT at this
    simp only at this
    rw [this]

/-! ### Functions without addresses -/
/-- Its meaning: the answer, and what must hold for it. -/
abbrev GP := List AV → Option (AV × List Prop)
open Classical in
noncomputable def pureP (g : GP) : List AV → Heap → Option (AV × Heap) := fun xs H => match g xs with
  | some (v, c) => if AllT c then some (v, H) else none
  | none => none
theorem pureP_eq {g : GP} {xs : List AV} {v : AV} {c : List Prop} (h : g xs = some (v, c)) (hc : AllT c) (H : Heap) : pureP g xs H = some (v, H) := by unfold pureP; rw [h]; exact if_pos hc
theorem pureP_inv {g : GP} {xs : List AV} {v : AV} {H H' : Heap} (h : pureP g xs H = some (v, H')) : H' = H ∧ ∃ c, g xs = some (v, c) ∧ AllT c := by
  unfold pureP at h
  split at h
  · rename_i v0 c hg
    split at h
    · rename_i hc
      simp only [Option.some.injEq, Prod.mk.injEq] at h
      obtain ⟨rfl, rfl⟩ := h
      exact ⟨rfl, c, hg, hc⟩
    · cases h
  · cases h

theorem VRel.closed {ρ ρ' : Rho} {n n' : Nat} (e : ∀ k ob, ρ.fz k = some ob → ρ'.fz k = some ob) {x : AV} {u : Value} (hc : x.closed = true) (h : VRel S ρ n x u) : VRel S ρ' n' x u := by
  have leaf : ∀ {x : Lf} {u : Value}, x.closed = true → LRel S ρ n x u → LRel S ρ' n' x u := fun hc h => (CRel.mono e (h.crel hc)).lrel
  have v1 : ∀ {x : AV} {u : Value}, x.closed1 = true → VRel1 S ρ n x u → VRel1 S ρ' n' x u := by
    intro x u hc h
    cases x with
    | one x => exact leaf hc h
    | agg cs =>
      obtain ⟨arr, rfl, h⟩ := h
      exact ⟨arr, rfl, h.1, fun i x y hx hy => leaf (List.all_eq_true.1 hc x (List.mem_of_getElem? hx)) (h.2 i x y hx hy)⟩
    | tup vs => exact h
  cases x with
  | one x => exact leaf hc h
  | agg cs => exact v1 (x := .agg cs) hc h
  | tup vs =>
    by_cases hj : (AV.tup vs).isJ = true
    · exact .inl hj
    · rcases h with h | ⟨arr, rfl, h⟩
      · exact absurd h hj
      · have hc' : vs.all AV.closed1 = true := by
          simp only [AV.closed, Bool.or_eq_true] at hc
          exact hc.resolve_right hj
        exact .inr ⟨arr, rfl, h.1, fun i x y hx hy => v1 (List.all_eq_true.1 hc' x (List.mem_of_getElem? hx)) (h.2 i x y hx hy)⟩

/-- The machine stands before a call of a function without addresses. -/
theorem SemS.callP (hS : S.Good X) {l : List AI} {q : Nat} {k : List Kt} {T : List AV} {L : List AO} {Q : Ex → Tm → Heap → Prop} {i : Nat} {g : GP} (hp : X.pr i = some (pureP g)) {d : Option Nat} {f : Opd} {xs : List Opd} {gd : Option (Nat × Bool)}
    (hi : l[q]? = some ⟨d, .call f xs, gd⟩) (hg : gdS T gd = some true) (hf : f.ev (tmL T) = .one (.fn i [])) {vs : List AV} (hx : xs.map (·.ev (tmL T)) = vs) {v : AV} {c : List Prop} (he : g vs = some (v, c)) (hc : AllT c) {T' : List AV} (hT : setD T d v = some T')
    (h : SemS S X m ⟨.normal, .ops l (q + 1) :: k, T', L⟩ Q) : SemS S X m ⟨.normal, .ops l q :: k, T, L⟩ Q :=
  SemS.callPr hS hp hi hg hf (by rw [hx]; exact pureP_eq he hc _) hT h
theorem SemS.callPD (hS : S.Good X) {l : List AI} {q : Nat} {k : List Kt} {T : List AV} {L : List AO} {Q : Ex → Tm → Heap → Prop} {i : Nat} {g : GP} (hp : X.pr i = some (pureP g)) {d : Option Nat} {f : Opd} {xs : List Opd} {gd : Option (Nat × Bool)}
    (hi : l[q]? = some ⟨d, .call f xs, gd⟩) (hg : gdS T gd = some true) (hf : f.ev (tmL T) = .one (.fn i [])) {vs : List AV} (hx : xs.map (·.ev (tmL T)) = vs) {v : AV} {c : List Prop} (he : g vs = some (v, c)) (hc : AllT c) {T' : List AV} (hT : setD T d v = some T')
    (h : SemS S X m ⟨.normal, .dops l (q + 1) :: k, T', L⟩ Q) : SemS S X m ⟨.normal, .dops l q :: k, T, L⟩ Q :=
  SemS.callPrD hS hp hi hg hf (by rw [hx]; exact pureP_eq he hc _) hT h

/-- The block of every own object of the one heap is an old one of the other's, or new. -/
theorem pure_of (f : Nat) (g : GP) (h : ∀ xs v c, g xs = some (v, c) → AllT c → xs.all AV.closed = true ∧ v.closed = true ∧ MF S f [] xs (hl []) fun v' _ => v' = v) : PrOk S f (pureP g) := by
  intro xs H v H' hp ρ w vs hvs hH
  obtain ⟨hHH, c, hg, hc⟩ := pureP_inv hp
  subst H'
  obtain ⟨hx, hv, hm⟩ := h xs v c hg hc
  have hn : HRel S (hl []) ρ w := ⟨fun i hi => absurd hi (Nat.not_lt_zero _), fun i j hi => absurd hi (Nat.not_lt_zero _), fun k ob hk => ⟨(hH.fx k ob hk).1, fun i hi => absurd hi (Nat.not_lt_zero _)⟩,
    fun k ob hk => ⟨(hH.fz k ob hk).1, (hH.fz k ob hk).2.1, fun i hi => absurd hi (Nat.not_lt_zero _)⟩⟩
  have hvs' : All2 (VRel S ρ 0) xs vs := ⟨hvs.1, fun i x y hx' hy => VRel.closed (fun _ _ h => h) (List.all_eq_true.1 hx x (List.mem_of_getElem? hx')) (hvs.2 i x y hx' hy)⟩
  obtain ⟨h1, h2⟩ := hm ρ w vs (by simp) hvs' hn
  have e0 : vs.toArray ++ (List.map (capAddr ρ) ([] : List (Nat × Nat × Nat))).toArray = vs.toArray := by simp
  rw [e0] at h1 h2
  refine .inr (.inl ⟨_, _, w, ρ, h1, rfl, rfl, h2.mono fun e w' hr => ?_⟩)
  obtain ⟨_, H1, rfl, u, ρ', rfl, k1, k2, k3⟩ := hr
  have hno : ∀ k, NotImg (hl []) ρ k := fun k i hi => absurd hi (Nat.not_lt_zero _)
  have hE : Ext ρ H.n ⟨ρ.l, ρ'.fz⟩ H.n := ⟨Nat.le_refl _, fun _ _ => rfl, k2.fz⟩
  have hni : ∀ k, NotImg H ρ k → NotImg H ⟨ρ.l, ρ'.fz⟩ k := fun k h => h
  refine ⟨u, ⟨ρ.l, ρ'.fz⟩, rfl, ⟨fun i hi => ?_, fun i j hi hj hne hoi hlj => hH.ap i j hi hj hne hoi hlj, fun k ob hk => ⟨(k1.fx k ob hk).1, (hH.fx k ob hk).2⟩, fun k ob hk => ⟨(k1.fz k ob hk).1, (k1.fz k ob hk).2.1, fun i hi hoi hik => ?_⟩⟩,
    ⟨k2.sz, k2.os, k2.tape, k2.output, Nat.le_refl _, fun _ _ => rfl, fun k hk hn => ⟨(k2.keep k hk (hno k)).1, hn⟩, k2.fz, fun k hk hn => k2.fn k hk (hno k)⟩, VRel.closed (ρ := ρ') (ρ' := ⟨ρ.l, ρ'.fz⟩) (fun _ _ h => h) hv k3⟩
  · cases hd : live (H.o i) with
    | false =>
      have : H.o i = .dead := by revert hd; cases H.o i <;> simp [live]
      rw [this]; trivial
    | true =>
      have := (k2.keep _ (hH.lt' hi hd) (hno _)).1
      show ORel S _ H.n (ρ i) _ (w'.heap[(ρ i).g]?)
      rw [this]
      exact (hH.obj i hi).mono hE
  · have hlt := hH.lt hi hoi
    have hik' : (ρ i).g = k := hik
    subst hik'
    have := k2.fn _ hlt (hno _)
    have hk' : ρ'.fz (ρ i).g = some ob := hk
    rw [this] at hk'
    exact (hH.fz _ _ hk').2.2 i hi hoi rfl

/-! ### Meanings told by patterns -/
open Classical in
noncomputable def relG {α : Type} (pat : α → List AV) (res : α → AV × List Prop) : GP := fun xs => if h : ∃ a, pat a = xs then some (res h.choose) else none
theorem relG_eq {α : Type} {pat : α → List AV} {res : α → AV × List Prop} (inj : ∀ a b, pat a = pat b → a = b) (a : α) : relG pat res (pat a) = some (res a) := by
  unfold relG
  have h : ∃ b, pat b = pat a := ⟨a, rfl⟩
  rw [dif_pos h, inj _ _ h.choose_spec]
theorem pure_rel (f : Nat) {α : Type} {pat : α → List AV} {res : α → AV × List Prop} (h : ∀ a, AllT (res a).2 → (pat a).all AV.closed = true ∧ (res a).1.closed = true ∧ MF S f [] (pat a) (hl []) fun v' _ => v' = (res a).1) : PrOk S f (pureP (relG pat res)) := by
  refine pure_of f _ fun xs v c hg hc => ?_
  unfold relG at hg
  split at hg
  · rename_i hx
    have hp := hx.choose_spec
    generalize hx.choose = a at hg hp
    simp only [Option.some.injEq] at hg
    have h1 : (res a).1 = v := by rw [hg]
    have h2 : (res a).2 = c := by rw [hg]
    subst hp h1 h2
    exact h a hc
  · cases hg
end
end Go.EA
end
section
/- A state that stands for another one, both told as lists. Conditions: none. -/
set_option linter.unusedVariables false
set_option linter.unusedSimpArgs false
namespace Go.EA
section
variable {H : Heap} {fz : Nat → Prop} {π : Nat → Nat} {n1 : Nat}
theorem RV.eq1 {x y : Lf} (h : x = y) (hc : x.closed = true) : RV H fz π n1 (.one x) (.one y) := by subst h; exact .one (.same hc)
theorem RV.int {k : IntKind} {x y : Int} (h : x = y) : RV H fz π n1 (.one (.int k x)) (.one (.int k y)) := RV.eq1 (by rw [h]) rfl
theorem RV.str {x y : List UInt8} (h : x = y) : RV H fz π n1 (.one (.str x)) (.one (.str y)) := RV.eq1 (by rw [h]) rfl
theorem RV.bool {x y : Bool} (h : x = y) : RV H fz π n1 (.one (.bool x)) (.one (.bool y)) := RV.eq1 (by rw [h]) rfl
theorem RV.row {s : Nat} {x y : List (List Lf)} (h : x = y) : RV H fz π n1 (.one (.vrow s x)) (.one (.vrow s y)) := RV.eq1 (by rw [h]) rfl
theorem RV.sl {b b' i n n' : Nat} (h : n = n') (h1 : b < n1) (h2 : π b = b') : RV H fz π n1 (.one (.sl b i n)) (.one (.sl b' i n')) := by subst h; exact .one (.sl h1 h2)
theorem RL.row {b i n s : Nat} {els els' : List (List Lf)} (h1 : fz b) (h2 : H.o b = .blk s els true) (h3 : i + n ≤ els.length) (h4 : els' = (els.drop i).take n) : RL H fz π n1 (.vrow s els') (.sl b i n) := .frow h1 h2 h3 h4.symm
theorem RV.frow {b n s : Nat} {els els' : List (List Lf)} (h1 : fz b) (h2 : H.o b = .blk s els true) (h3 : n = els.length) (h4 : els' = els) : RV H fz π n1 (.one (.vrow s els')) (.one (.sl b 0 n)) :=
  .one (.row h1 h2 (by omega) (by subst h3 h4; simp))
theorem All2.eq {α : Type} {R : α → α → Prop} {xs ys : List α} (h : xs = ys) (hr : ∀ x ∈ xs, R x x) : All2 R xs ys := by
  subst h
  exact ⟨rfl, fun i x y hx hy => by rw [hx] at hy; cases hy; exact hr x (List.mem_of_getElem? hx)⟩
theorem RO.eq {s : Nat} {x y : List (List Lf)} {o : Bool} (h : x = y) (hc : elsClosed x = true) : RO H fz π n1 (.blk s x o) (.blk s y o) :=
  .blk (All2.eq h fun e he => All2.eq rfl fun z hz => .same (List.all_eq_true.1 (List.all_eq_true.1 hc e he) z hz))
theorem RO.box {s : Nat} {x y : Lf} {o : Bool} (h : RL H fz π n1 x y) : RO H fz π n1 (.blk s [[x]] o) (.blk s [[y]] o) := .blk (All2.cons (All2.cons h All2.nil) All2.nil)

theorem RL.row0 {b n s : Nat} {els els' : List (List Lf)} (h1 : fz b) (h2 : H.o b = .blk s els true) (h3 : n = els.length) (h4 : els' = els) : RL H fz π n1 (.vrow s els') (.sl b 0 n) :=
  .row h1 h2 (by omega) (by subst h3 h4; simp)
theorem RL.slB {b b' i n n' : Nat} (h1 : Nat.blt b n1 = true) (h2 : π b = b') (h : n = n') : RL H fz π n1 (.sl b i n) (.sl b' i n') := by subst h; exact .sl (Nat.le_of_ble_eq_true h1) h2
theorem RL.ptrB {b b' i j : Nat} (h1 : Nat.blt b n1 = true) (h2 : π b = b') : RL H fz π n1 (.ptr b i j) (.ptr b' i j) := .ptr (Nat.le_of_ble_eq_true h1) h2
theorem RV.ptrB {b b' i j : Nat} (h1 : Nat.blt b n1 = true) (h2 : π b = b') : RV H fz π n1 (.one (.ptr b i j)) (.one (.ptr b' i j)) := .one (.ptrB h1 h2)
theorem RV.slB {b b' i n n' : Nat} (h1 : Nat.blt b n1 = true) (h2 : π b = b') (h : n = n') : RV H fz π n1 (.one (.sl b i n)) (.one (.sl b' i n')) := .one (.slB h1 h2 h)
theorem RV.yldB {b b' : Nat} (h1 : Nat.blt b n1 = true) (h2 : π b = b') : RV H fz π n1 (.one (.yld b)) (.one (.yld b')) := .one (.yld (Nat.le_of_ble_eq_true h1) h2)
theorem RV.fn1 {f b b' i j : Nat} (h1 : Nat.blt b n1 = true) (h2 : π b = b') : RV H fz π n1 (.one (.fn f [(b, i, j)])) (.one (.fn f [(b', i, j)])) :=
  .one (.fn (fun c hc => by simp only [List.mem_singleton] at hc; subst hc; exact Nat.le_of_ble_eq_true h1) (by simp [h2]))

/-- Entry by entry. -/
def AllE (R : Nat → AV → Prop) : List (Nat × AV) → Prop
  | [] => True
  | p :: r => R p.1 p.2 ∧ AllE R r
theorem AllE.mem {R : Nat → AV → Prop} : ∀ {l : List (Nat × AV)} {p : Nat × AV}, AllE R l → p ∈ l → R p.1 p.2
  | _ :: _, _, h, hp => by
    rcases List.mem_cons.1 hp with rfl | hp
    · exact h.1
    · exact AllE.mem h.2 hp
theorem tl_get (n : Nat) (l : List (Nat × AV)) (k : Nat) : (n ≤ k ∧ tmL (tl n l) k = und) ∨ (k < n ∧ (tmL (tl n l) k = junk ∨ ∃ v, (k, v) ∈ l ∧ tmL (tl n l) k = v)) := by
  rcases Nat.lt_or_ge k n with h | h
  · refine .inr ⟨h, ?_⟩
    have : tmL (tl n l) k = match l.find? (fun p => Nat.beq p.1 k) with | some p => p.2 | none => junk := by
      first
        | (simp [tmL, tl, h]; done)
        | (simp [tmL, tl, h]; rfl)
    rw [this]
    split
    · rename_i p hp
      have h1 := List.find?_some hp
      have h2 := List.mem_of_find?_eq_some hp
      have h3 : p.1 = k := Nat.eq_of_beq_eq_true h1
      exact .inr ⟨p.2, by rw [← h3]; exact h2, rfl⟩
    · exact .inl rfl
  · refine .inl ⟨h, ?_⟩
    simp [tmL, tl, List.getElem?_eq_none, h]

theorem RO.loopL {H : Heap} {fz : Nat → Prop} {π : Nat → Nat} {n1 : Nat} {st : LSt} {pend : Option Ex} {ps : List Nat} {as bd : AC} {n : Nat} {l : List (Nat × AV)} {T : List AV} (hn : Nat.beq n T.length = true)
    (h : AllE (fun i v => RV H fz π n1 v (tmL T i)) l) : RO H fz π n1 (.loop st pend (tmL (tl n l)) ps as bd) (.loop st pend (tmL T) ps as bd) :=
  .loop fun k => by
    have hn : n = T.length := Nat.eq_of_beq_eq_true hn
    rcases tl_get n l k with ⟨hk, e⟩ | ⟨hk, e | ⟨v, hv, e⟩⟩
    · rw [e]
      have : tmL T k = und := by simp [tmL, List.getElem?_eq_none, ← hn, hk]
      rw [this]; exact .und
    · rw [e]; exact .junk
    · rw [e]; exact AllE.mem h hv
def AllO (R : AO → AO → Prop) (L : List AO) : List Nat → List AO → Prop
  | [], [] => True
  | i :: l, x :: r => R x (L.getD i .dead) ∧ AllO R L l r
  | _, _ => False
theorem AllO.get {R : AO → AO → Prop} {L : List AO} : ∀ {l : List Nat} {r : List AO}, AllO R L l r → l.length = r.length ∧ ∀ i, i < r.length → R (r.getD i .dead) (L.getD (l.getD i 0) .dead)
  | [], [], _ => ⟨rfl, fun i hi => absurd hi (Nat.not_lt_zero _)⟩
  | i :: l, x :: r, h => by
    obtain ⟨h1, h2⟩ := AllO.get h.2
    refine ⟨by simp [h1], fun k hk => ?_⟩
    cases k with
    | zero => simpa using h.1
    | succ k => simpa using h2 k (by simpa using hk)
  | [], _ :: _, h => h.elim
  | _ :: _, [], h => h.elim

def ltAll (n : Nat) : List Nat → Bool
  | [] => true
  | i :: l => Nat.blt i n && ltAll n l
theorem ltAll_ok {n : Nat} : ∀ {l : List Nat}, ltAll n l = true → ∀ i, i < l.length → l.getD i 0 < n
  | [], _, i, hi => absurd hi (Nat.not_lt_zero _)
  | x :: l, h, i, hi => by
    simp only [ltAll, Bool.and_eq_true] at h
    cases i with
    | zero => exact Nat.le_of_ble_eq_true h.1
    | succ i => simpa using ltAll_ok h.2 i (by simpa using hi)
def ltAllV (n : Nat) : List Nat → List AO → Bool
  | i :: l, x :: r => (!(live x) || Nat.blt i n) && ltAllV n l r
  | _, _ => true
theorem ltAllV_ok {n : Nat} : ∀ {l : List Nat} {r : List AO}, ltAllV n l r = true → ∀ i, i < l.length → i < r.length → live (r.getD i .dead) = true → l.getD i 0 < n
  | [], _, _, i, hi, _, _ => absurd hi (Nat.not_lt_zero _)
  | _ :: _, [], _, i, _, hi, _ => absurd hi (Nat.not_lt_zero _)
  | x :: l, y :: r, h, i, hi, hj, hl => by
    simp only [ltAllV, Bool.and_eq_true, Bool.or_eq_true, Bool.not_eq_true'] at h
    cases i with
    | zero =>
      simp only [List.getD_cons_zero] at hl ⊢
      rcases h.1 with h1 | h1
      · rw [hl] at h1; cases h1
      · exact Nat.le_of_ble_eq_true h1
    | succ i => simpa using ltAllV_ok h.2 i (by simpa using hi) (by simpa using hj) (by simpa using hl)
def notIn (x : Nat) : List Nat → Bool
  | [] => true
  | i :: l => !(Nat.beq x i) && notIn x l
def nodupB : List Nat → Bool
  | [] => true
  | i :: l => notIn i l && nodupB l
theorem notIn_ok {x : Nat} : ∀ {l : List Nat}, notIn x l = true → ∀ i, i < l.length → l.getD i 0 ≠ x
  | [], _, i, hi => absurd hi (Nat.not_lt_zero _)
  | y :: l, h, i, hi => by
    simp only [notIn, Bool.and_eq_true, Bool.not_eq_true'] at h
    cases i with
    | zero => intro e; simp only [List.getD_cons_zero] at e; subst e; have := Nat.ne_of_beq_eq_false h.1; exact this rfl
    | succ i => simpa using notIn_ok h.2 i (by simpa using hi)
theorem nodupB_ok : ∀ {l : List Nat}, nodupB l = true → ∀ i j, i < l.length → j < l.length → l.getD i 0 = l.getD j 0 → i = j
  | [], _, i, j, hi, _, _ => absurd hi (Nat.not_lt_zero _)
  | x :: l, h, i, j, hi, hj, e => by
    simp only [nodupB, Bool.and_eq_true] at h
    cases i with
    | zero => cases j with
      | zero => rfl
      | succ j => exact absurd e.symm (by simpa using notIn_ok h.1 j (by simpa using hj))
    | succ i => cases j with
      | zero => exact absurd e (by simpa using notIn_ok h.1 i (by simpa using hi))
      | succ j => rw [nodupB_ok h.2 i j (by simpa using hi) (by simpa using hj) (by simpa using e)]
def idAll (m : Nat) : Nat → List Nat → Bool
  | k, [] => Nat.ble m k
  | k, i :: l => (Nat.ble m k || Nat.beq i k) && idAll m (k + 1) l
theorem idAll_ok {m : Nat} : ∀ {k : Nat} {l : List Nat}, idAll m k l = true → m ≤ k + l.length ∧ ∀ i, k + i < m → l.getD i 0 = k + i
  | k, [], h => by
    have := Nat.le_of_ble_eq_true h
    exact ⟨by simpa using this, fun i hi => by omega⟩
  | k, x :: l, h => by
    simp only [idAll, Bool.and_eq_true, Bool.or_eq_true] at h
    obtain ⟨h1, h2⟩ := idAll_ok h.2
    refine ⟨by simp; omega, fun i hi => ?_⟩
    cases i with
    | zero =>
      rcases h.1 with h3 | h3
      · have := Nat.le_of_ble_eq_true h3; omega
      · simpa using Nat.eq_of_beq_eq_true h3
    | succ i => have := h2 i (by omega); simp only [List.getD_cons_succ]; omega

/-- What is frozen. -/
def AllF (L : List AO) : List Nat → Prop
  | [] => True
  | b :: r => (∃ s els, L.getD b .dead = .blk s els true ∧ elsClosed els = true) ∧ AllF L r
theorem AllF.mem {L : List AO} : ∀ {l : List Nat} {b : Nat}, AllF L l → b ∈ l → ∃ s els, L.getD b .dead = .blk s els true ∧ elsClosed els = true
  | _ :: _, _, h, hb => by
    rcases List.mem_cons.1 hb with rfl | hb
    · exact h.1
    · exact AllF.mem h.2 hb
def outAll (l : List Nat) : List Nat → Bool
  | [] => true
  | b :: r => notIn b l && outAll l r
theorem outAll_ok {l : List Nat} : ∀ {r : List Nat}, outAll l r = true → ∀ b ∈ r, ∀ i, i < l.length → l.getD i 0 ≠ b
  | [], _, b, hb => by simp at hb
  | x :: r, h, b, hb => by
    simp only [outAll, Bool.and_eq_true] at h
    rcases List.mem_cons.1 hb with rfl | hb
    · exact notIn_ok h.1
    · exact outAll_ok h.2 b hb
end

section
variable {S : SC} {m : Nat} {T : List AV} {L L1 : List AO}
/-- One state in another's stead: 'pi' tells, of each object kept, its old number; 'fr' those that stay as they are from now on. -/
theorem abs_l (pi fr : List Nat) (n : Nat) (l : List (Nat × AV)) (hc : (ltAllV L.length pi L1 && nodupB pi && idAll m 0 pi && outAll pi fr && Nat.beq n T.length) = true) (hf : AllF L fr)
    (hO : AllO (RO (hl L) (· ∈ fr) (fun i => pi.getD i 0) L1.length) L pi L1) (hT : AllE (fun i v => RV (hl L) (· ∈ fr) (fun i => pi.getD i 0) L1.length v (tmL T i)) l) : Abs S m (tmL T) (hl L) (tmL (tl n l)) (hl L1) := by
  simp only [Bool.and_eq_true] at hc
  obtain ⟨⟨⟨⟨h1, h2⟩, h3⟩, h4⟩, h5⟩ := hc
  have h5 : n = T.length := Nat.eq_of_beq_eq_true h5
  obtain ⟨o1, o2⟩ := AllO.get hO
  have h3' := idAll_ok h3
  refine abs_of (fz := (· ∈ fr)) (π := fun i => pi.getD i 0) ⟨fun i hi hlv => ltAllV_ok h1 i (by rw [o1]; exact hi) hi hlv, fun i j hi hj _ _ e => nodupB_ok h2 i j (by rw [o1]; exact hi) (by rw [o1]; exact hj) e, fun i hi => o2 i hi, fun b hb => ?_, fun b i hb hi _ => outAll_ok h4 b hb i (by rw [o1]; exact hi)⟩ ?_ ?_ ?_
  · obtain ⟨s, els, e1, e2⟩ := AllF.mem hf hb
    exact ⟨hl_lt (by rw [e1]; simp), s, els, e1, e2⟩
  · have := h3'.1; simpa [o1, hl] using this
  · intro i hi; have := h3'.2 i (by omega); simpa using this
  · intro k
    rcases tl_get n l k with ⟨hk, e⟩ | ⟨hk, e | ⟨v, hv, e⟩⟩
    · rw [e]
      have : tmL T k = und := by simp [tmL, List.getElem?_eq_none, ← h5, hk]
      rw [this]; exact .und
    · rw [e]; exact .junk
    · rw [e]; exact AllE.mem hT hv
end
/-! ### Variables of one cell -/
section
variable {T : List AV} {L : List AO}
theorem load1 {a : Opd} {b s : Nat} {x : Lf} {o : Bool} (ha : a.ev (tmL T) = .one (.ptr b 0 0)) (hb : L.getD b .dead = .blk s [[x]] o) : evOp (tmL T) (hl L) (.load false 1 a) = some (.one x, hl L) := by
  have hob : (hl L).o b = .blk s [[x]] o := hb
  simp only [evOp, ha, Heap.cells, hob]
  rfl
theorem store1 {a y : Opd} {b s : Nat} {x z : Lf} (ha : a.ev (tmL T) = .one (.ptr b 0 0)) (hy : y.ev (tmL T) = .one z) (hb : L.getD b .dead = .blk s [[x]] true) : evOp (tmL T) (hl L) (.store 1 a y) = some (und, hl (L.set b (.blk s [[z]] true))) := by
  have hob : (hl L).o b = .blk s [[x]] true := hb
  have e : evOp (tmL T) (hl L) (.store 1 a y) = some (und, (hl L).set b (.blk s [[z]] true)) := by
    simp only [evOp, ha, hy, AV.cells?, Heap.storeC, hob]
    rfl
  rw [e, hl_set L (hl_lt (by rw [hb]; simp))]
end
/-! ### Rows that are a list's image -/
section
variable {α : Type} {T : List AV} {L : List AO} {s : Nat} {f : α → List Lf} {l : List α} (d : α)
theorem iaddr_map {H : Heap} {x i : Opd} {kd : IntKind} {k : Int} (hx : x.ev (tmL T) = .one (.vrow s (List.map f l))) (hi : i.ev (tmL T) = .one (.int kd k)) (h : 0 ≤ k ∧ k < l.length) : evOp (tmL T) H (.iaddr s x i) = some (.one (.vptr (f (l.getD k.toNat d))), H) := by
  have hk : k.toNat < l.length := by omega
  simp only [evOp, hx, idx_of hi h.1, if_true]
  rw [List.getElem?_map, List.getElem?_eq_getElem hk, List.getD_eq_getElem?_getD, List.getElem?_eq_getElem hk]
  rfl
theorem load_map {o : Bool} {ag : Bool} {n b i j : Nat} {a : Opd} {v : AV} (ha : a.ev (tmL T) = .one (.ptr b i j)) (hb : L.getD b .dead = .blk s (List.map f l) o) (h : i < l.length)
    (hv : (if j + n ≤ (f (l.getD i d)).length then asOne ag (((f (l.getD i d)).drop j).take n) else none) = some v) : evOp (tmL T) (hl L) (.load ag n a) = some (v, hl L) := by
  have hob : (hl L).o b = .blk s (List.map f l) o := hb
  rw [List.getD_eq_getElem?_getD, List.getElem?_eq_getElem h] at hv
  simp only [evOp, ha, Heap.cells, hob, List.getElem?_map, List.getElem?_eq_getElem h, Option.map_some]
  simp only [Option.getD_some] at hv
  split at hv
  · rename_i hc
    rw [if_pos hc]
    simp only [Option.bind_some, hv, Option.map_some]
  · cases hv
theorem store_map {n b i j : Nat} {a x : Opd} {p : List Lf} (x' : α) (ha : a.ev (tmL T) = .one (.ptr b i j)) (hx : (x.ev (tmL T)).cells? = some p) (hn : p.length = n) (hb : L.getD b .dead = .blk s (List.map f l) true) (h : i < l.length)
    (hl : j + p.length ≤ (f (l.getD i d)).length) (he : (f (l.getD i d)).take j ++ p ++ (f (l.getD i d)).drop (j + p.length) = f x') : evOp (tmL T) (EA.hl L) (.store n a x) = some (und, EA.hl (L.set b (.blk s (List.map f (l.set i x')) true))) := by
  have hob : (EA.hl L).o b = .blk s (List.map f l) true := hb
  rw [List.getD_eq_getElem?_getD, List.getElem?_eq_getElem h, Option.getD_some] at hl he
  simp only [evOp, ha, hx, if_pos hn, Heap.storeC, hob, List.getElem?_map, List.getElem?_eq_getElem h, Option.map_some, if_pos hl, he]
  rw [← List.map_set, hl_set L (hl_lt (by rw [hb]; simp))]
theorem app_map {bytes b n : Nat} {x y : Opd} {l2 : List α} (hx : x.ev (tmL T) = .one (.sl b 0 n)) (hb : L.getD b .dead = .blk s (List.map f l) true) (hy : srcRow (hl L) s (y.ev (tmL T)) = some (List.map f l2)) (hne : l2 ≠ []) (hn : n = l.length)
    (hroom : (l.length + l2.length) * bytes ≤ 140737488355328) {v : AV} {L1 : List AO} (hv : AV.one (.sl L.length 0 (l.length + l2.length)) = v) (hL : L.set b .dead ++ [.blk s (List.map f (l ++ l2)) true] = L1) : evOp (tmL T) (hl L) (.app s bytes x y) = some (v, hl L1) := by
  subst hv hL
  have hob : (hl L).o b = .blk s (List.map f l) true := hb
  obtain ⟨z, l3, rfl⟩ : ∃ z l3, l2 = z :: l3 := by cases l2 with | nil => exact absurd rfl hne | cons z l3 => exact ⟨z, l3, rfl⟩
  have hr : roomB = 140737488355328 := rfl
  simp only [evOp, evApp, hy, List.map_cons, hx, hob]
  simp only [List.length_cons] at hroom
  rw [if_pos ⟨trivial, by rw [List.length_map]; omega, by rw [hr, List.length_map, hn]; exact hroom⟩, hl_set L (hl_lt (by rw [hb]; simp)), hl_push, hn]
  simp [hl, List.take_of_length_le]
theorem slice_map {H : Heap} {x : Opd} {lo hi : Option Opd} {a b : Int} (hx : x.ev (tmL T) = .one (.vrow s (List.map f l))) (ha : boundS T 0 lo = some a) (hb : boundS T l.length hi = some b) (h : 0 ≤ a ∧ a ≤ b ∧ b ≤ l.length) :
    evOp (tmL T) H (.slice .slc s x lo hi none) = some (.one (.vrow s (List.map f ((l.drop a.toNat).take (b.toNat - a.toNat)))), H) := by
  have hb' : bound (tmL T) (List.map f l).length hi = some b.toNat := by rw [List.length_map]; exact bound_of hb (by omega)
  simp only [evOp, hx, evSlice, bound_of ha h.1, hb', if_true]
  rw [if_pos ⟨by omega, by rw [List.length_map]; omega⟩]
  simp
end
/-- Bytes as a row. -/
abbrev RB (s : List UInt8) : List (List Lf) := List.map (fun b => [Lf.int IntKind.u8 (b.toNat : Int)]) s
theorem toBytes_RB : ∀ s : List UInt8, toBytes (RB s) = some s
  | [] => rfl
  | b :: s => by
    show (toBytes (RB s)).map _ = _
    rw [toBytes_RB s]
    simp
section
variable {T : List AV} {L : List AO} {l : List UInt8}
theorem b2s_vrow {H : Heap} {x : Opd} (hx : x.ev (tmL T) = .one (.vrow 1 (RB l))) : evOp (tmL T) H (.b2s x) = some (.one (.str l), H) := by
  simp only [evOp, hx, Heap.row, if_true, Option.bind_some, toBytes_RB, Option.map_some]
theorem b2s_own {x : Opd} {b n : Nat} {o : Bool} (hx : x.ev (tmL T) = .one (.sl b 0 n)) (hb : L.getD b .dead = .blk 1 (RB l) o) (hn : n = l.length) : evOp (tmL T) (hl L) (.b2s x) = some (.one (.str l), hl L) := by
  have hob : (hl L).o b = .blk 1 (RB l) o := hb
  simp only [evOp, hx, Heap.row, hob]
  rw [if_pos ⟨trivial, by rw [List.length_map]; omega⟩, List.drop_zero, List.take_of_length_le (by rw [List.length_map]; omega)]
  simp only [Option.bind_some, toBytes_RB, Option.map_some]
end
end Go.EA
end
