/- A drawing region whose operations that are in no order may change places: every schedule comes to the same. Conditions: none. -/
import Derived.Test.YtngcpifknomecaaDoorEDraw1
import Derived.Test.YtngcpifknomecaaDoorESound1
import Derived.Orders
set_option linter.unusedVariables false
set_option linter.unusedSimpArgs false
namespace Go.EA

def AI.reads (i : AI) : List Nat := (match i.gd with | some (d, _) => [d] | none => []) ++ i.op.uses
def AI.writes (i : AI) : List Nat := match i.dst with | some d => [d] | none => []
/-- These two may change places. -/
def mayswap (pp : Nat → Bool) (x y : AI) : Bool :=
  x.writes.all (fun d => !y.reads.contains d && !y.writes.contains d) && y.writes.all (fun d => !x.reads.contains d) &&
  ((x.op.keeps pp && y.op.keeps pp) || x.op.blind || y.op.blind)

/-- The calls that are said to keep the heap do. -/
def KeepOk (pp : Nat → Bool) (call : AV → List AV → Heap → Option (AV × Heap)) : Prop := ∀ f xs H v H', pp f = true → call (.one (.fn f [])) xs H = some (v, H') → H' = H

section
variable {pp : Nat → Bool} {call : AV → List AV → Heap → Option (AV × Heap)}

def opval (call : AV → List AV → Heap → Option (AV × Heap)) (op : AOp) (T : Tm) (H : Heap) : Option (AV × Heap) :=
  match op with
  | .call f xs => call (f.ev T) (xs.map (·.ev T)) H
  | op => evOp T H op
def valI (call : AV → List AV → Heap → Option (AV × Heap)) (i : AI) (T : Tm) (H : Heap) : Option (AV × Heap) := if known T i.gd = false then none else if wanted T i.gd then opval call i.op T H else some (und, H)

theorem evOps_cons (i : AI) (r : List AI) (T : Tm) (H : Heap) : evOps call (i :: r) T H = (valI call i T H).bind fun p => evOps call r (putT T i.dst p.1) p.2 := by
  obtain ⟨d, op, g⟩ := i
  simp only [evOps, valI]
  by_cases hkn : known T g = false
  · rw [if_pos hkn, if_pos hkn]; rfl
  rw [if_neg hkn, if_neg hkn]
  by_cases hw : wanted T g = true
  · rw [if_pos hw, if_pos hw]
    cases op with
    | call f xs =>
      simp only [opval]
      cases call (f.ev T) (xs.map (·.ev T)) H with
      | none => rfl
      | some p => rfl
    | _ =>
      simp only [opval]
      first
        | rfl
        | (generalize evOp T H _ = z; cases z <;> rfl)
  · rw [if_neg hw, if_neg hw]; rfl

theorem wanted_congr {T T' : Tm} {g : Option (Nat × Bool)} (h : ∀ d b, g = some (d, b) → T d = T' d) : wanted T g = wanted T' g := by
  cases g with
  | none => rfl
  | some p => obtain ⟨d, b⟩ := p; simp only [wanted]; rw [h d b rfl]
theorem known_congr {T T' : Tm} {g : Option (Nat × Bool)} (h : ∀ d b, g = some (d, b) → T d = T' d) : known T g = known T' g := by
  cases g with
  | none => rfl
  | some p => obtain ⟨d, b⟩ := p; simp only [known]; rw [h d b rfl]
theorem opval_congr {op : AOp} {T T' : Tm} {H : Heap} (h : ∀ n ∈ op.uses, T n = T' n) : opval call op T H = opval call op T' H := by
  cases op with
  | call f xs =>
    simp only [opval]
    simp only [AOp.uses] at h
    rw [ev_congr (x := f) fun n hn => h n (by simp [hn]), evL_congr (xs := xs) fun n hn => h n (by simp [hn])]
  | _ => exact evOp_congr h
theorem valI_congr {i : AI} {T T' : Tm} {H : Heap} (h : ∀ n ∈ i.reads, T n = T' n) : valI call i T H = valI call i T' H := by
  have hw : wanted T i.gd = wanted T' i.gd := wanted_congr fun d b e => h d (by simp [AI.reads, e])
  have ho : opval call i.op T H = opval call i.op T' H := opval_congr fun n hn => h n (by simp [AI.reads, hn])
  have hk : known T i.gd = known T' i.gd := known_congr fun d b e => h d (by simp [AI.reads, e])
  simp only [valI, hk, hw, ho]

theorem opval_keeps (hk : KeepOk pp call) {op : AOp} {T : Tm} {H H' : Heap} {v : AV} (h : op.keeps pp = true) (he : opval call op T H = some (v, H')) : H' = H := by
  cases op with
  | call f xs =>
    simp only [opval] at he
    cases f with
    | t n => simp [AOp.keeps] at h
    | c w =>
      cases w with
      | agg cs => simp [AOp.keeps] at h
      | tup vs => simp [AOp.keeps] at h
      | one z =>
        cases z
        case fn f cap =>
          cases cap with
          | nil => exact hk f _ H v H' (by simpa [AOp.keeps] using h) he
          | cons c cs => simp [AOp.keeps] at h
        all_goals simp [AOp.keeps] at h
  | _ => exact evOp_keeps (T := T) h he
theorem opval_blind {op : AOp} {T : Tm} {H H' : Heap} {v : AV} (h : op.blind = true) (he : opval call op T H = some (v, H')) : H' = H ∧ ∀ H2, opval call op T H2 = some (v, H2) := by
  cases op with
  | call f xs => simp [AOp.blind] at h
  | _ => exact evOp_blind (T := T) h he
theorem valI_keeps (hk : KeepOk pp call) {i : AI} {T : Tm} {H H' : Heap} {v : AV} (h : i.op.keeps pp = true) (he : valI call i T H = some (v, H')) : H' = H := by
  unfold valI at he
  split at he
  · cases he
  split at he
  · exact opval_keeps hk h he
  · simp only [Option.some.injEq, Prod.mk.injEq] at he; exact he.2.symm
theorem valI_blind {i : AI} {T : Tm} {H H' : Heap} {v : AV} (h : i.op.blind = true) (he : valI call i T H = some (v, H')) : H' = H ∧ ∀ H2, valI call i T H2 = some (v, H2) := by
  unfold valI at he ⊢
  split at he
  · cases he
  rename_i hkn
  simp only [if_neg hkn]
  split at he
  · rename_i hw
    simp only [hw, if_true]
    exact opval_blind h he
  · rename_i hw
    simp only [Option.some.injEq, Prod.mk.injEq] at he
    obtain ⟨rfl, rfl⟩ := he
    exact ⟨rfl, fun H2 => by simp [hw]⟩

theorem putT_ne {T : Tm} {d : Option Nat} {v : AV} {n : Nat} (h : ∀ k, d = some k → n ≠ k) : putT T d v n = T n := by
  cases d with
  | none => rfl
  | some k => simp only [putT, EA.put]; rw [if_neg (h k rfl)]
theorem putT_comm {T : Tm} {d e : Option Nat} {v u : AV} (h : ∀ a b, d = some a → e = some b → a ≠ b) : putT (putT T d v) e u = putT (putT T e u) d v := by
  cases d with
  | none => rfl
  | some a =>
    cases e with
    | none => rfl
    | some b =>
      have hab := h a b rfl rfl
      funext n
      simp only [putT, EA.put]
      by_cases h1 : n = b
      · subst h1; rw [if_pos rfl, if_neg (Ne.symm hab), if_pos rfl]
      · rw [if_neg h1]
        by_cases h2 : n = a
        · rw [if_pos h2, if_pos h2]
        · rw [if_neg h2, if_neg h2, if_neg h1]

/-- Two neighbours change places. -/
theorem swap (hk : KeepOk pp call) {x y : AI} (hs : mayswap pp x y = true) {r : List AI} {T : Tm} {H : Heap} {z : Tm × Heap} (he : evOps call (x :: y :: r) T H = some z) : evOps call (y :: x :: r) T H = some z := by
  simp only [mayswap, Bool.and_eq_true, Bool.or_eq_true, List.all_eq_true, Bool.not_eq_true'] at hs
  obtain ⟨⟨h1, h2⟩, h3⟩ := hs
  have hd : ∀ k, x.dst = some k → k ∉ y.reads ∧ k ∉ y.writes := fun k hk => by
    have := h1 k (by simp [AI.writes, hk])
    simpa using this
  have he2 : ∀ k, y.dst = some k → k ∉ x.reads := fun k hk => by
    have := h2 k (by simp [AI.writes, hk])
    simpa using this
  have hne : ∀ a b, x.dst = some a → y.dst = some b → a ≠ b := fun a b ha hb e => by
    subst e
    exact (hd a ha).2 (by simp [AI.writes, hb])
  rw [evOps_cons] at he
  obtain ⟨⟨v, H1⟩, hx, he⟩ := Option.bind_eq_some_iff.1 he
  rw [evOps_cons] at he
  obtain ⟨⟨u, H2⟩, hy, he⟩ := Option.bind_eq_some_iff.1 he
  simp only at he hy
  rw [valI_congr (T' := T) fun n hn => putT_ne fun k hk e => (hd k hk).1 (e ▸ hn)] at hy
  have hxc : ∀ Hc, valI call x (putT T y.dst u) Hc = valI call x T Hc := fun Hc => valI_congr fun n hn => putT_ne fun k hk e => he2 k hk (e ▸ hn)
  have fin : ∀ Hm, valI call y T H = some (u, Hm) → valI call x T Hm = some (v, H2) → evOps call (y :: x :: r) T H = some z := by
    intro Hm ha hb
    rw [evOps_cons, ha]
    simp only [Option.bind_some]
    rw [evOps_cons, hxc, hb]
    simp only [Option.bind_some]
    rw [← putT_comm hne]
    exact he
  rcases h3 with (⟨a, b⟩ | a) | b
  · obtain rfl := valI_keeps hk a hx
    obtain rfl := valI_keeps hk b hy
    exact fin _ hy hx
  · obtain ⟨rfl, hall⟩ := valI_blind a hx
    exact fin _ hy (hall H2)
  · obtain ⟨rfl, hall⟩ := valI_blind b hy
    exact fin _ (hall H) hx

/-- One moves ahead of all that it may change places with. -/
theorem front (hk : KeepOk pp call) {y : AI} {r : List AI} : ∀ {l : List AI} {T : Tm} {H : Heap} {z : Tm × Heap}, (∀ x ∈ l, mayswap pp x y = true) → evOps call (l ++ y :: r) T H = some z → evOps call (y :: (l ++ r)) T H = some z
  | [], T, H, z, _, he => he
  | x :: l, T, H, z, hs, he => by
    refine swap hk (hs x (by simp)) ?_
    rw [List.cons_append, evOps_cons] at he
    obtain ⟨p, hp, he⟩ := Option.bind_eq_some_iff.1 he
    have := front hk (l := l) (fun x hx => hs x (by simp [hx])) he
    rw [evOps_cons, hp]
    exact this
end
end Go.EA
