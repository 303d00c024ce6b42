/- A look's answer: there is but one; an object more changes nothing. Conditions: none. -/
import Derived.Test.YtmfjbaepgfdfpaaDoorELook
import Derived.Test.YtmfjbaepgfdfpaaDoorEK5
set_option linter.unusedVariables false
set_option linter.unusedSimpArgs false
namespace Go.EA

/- Of one sort. -/
mutual
def ShF : Lf → Lf → Prop
  | .vrow s els, y => ∃ els', y = .vrow s els' ∧ ∀ e' ∈ els', ShR els e'
  | .vptr cs, y => ∃ cs', y = .vptr cs' ∧ ShC cs cs'
  | .int k _, y => ∃ z, y = .int k z
  | .bool _, y => ∃ b, y = .bool b
  | .str _, y => ∃ s, y = .str s
  | .fn f c, y => y = .fn f c
  | .nilp, y => y = .nilp
  | .nils, y => y = .nils
  | .slz, y => y = .slz
  | .nilf, y => y = .nilf
  | .nilm, y => y = .nilm
  | .nili, y => y = .nili
  | .ptr _ _ _, _ => False
  | .sl _ _ _, _ => False
  | .yld _, _ => False
  | .mp _, _ => False
def ShC : List Lf → List Lf → Prop
  | [], ys => ys = []
  | x :: r, ys => match ys with | [] => False | y :: q => ShF x y ∧ ShC r q
def ShR : List (List Lf) → List Lf → Prop
  | [], _ => True
  | e :: r, e' => ShC e e' ∧ ShR r e'
end
section
variable {H : Heap}
mutual
theorem im_un : ∀ (x : Lf) {y z : Lf}, ShF x y → Im H x z → Im H y z → x = y
  | .int k a, y, z, hs, h1, h2 => by
    simp only [ShF] at hs; obtain ⟨b, rfl⟩ := hs
    simp only [Im] at h1 h2; rw [h1] at h2; exact h2
  | .bool a, y, z, hs, h1, h2 => by
    simp only [ShF] at hs; obtain ⟨b, rfl⟩ := hs
    simp only [Im] at h1 h2; rw [h1] at h2; exact h2
  | .str a, y, z, hs, h1, h2 => by
    simp only [ShF] at hs; obtain ⟨b, rfl⟩ := hs
    simp only [Im] at h1 h2; rw [h1] at h2; exact h2
  | .fn f c, y, z, hs, h1, h2 => by simp only [ShF] at hs; exact hs.symm
  | .nilp, y, z, hs, h1, h2 => by simp only [ShF] at hs; exact hs.symm
  | .nils, y, z, hs, h1, h2 => by simp only [ShF] at hs; exact hs.symm
  | .slz, y, z, hs, h1, h2 => by simp only [ShF] at hs; exact hs.symm
  | .nilf, y, z, hs, h1, h2 => by simp only [ShF] at hs; exact hs.symm
  | .nilm, y, z, hs, h1, h2 => by simp only [ShF] at hs; exact hs.symm
  | .nili, y, z, hs, h1, h2 => by simp only [ShF] at hs; exact hs.symm
  | .ptr _ _ _, y, z, hs, h1, h2 => by simp only [ShF] at hs
  | .sl _ _ _, y, z, hs, h1, h2 => by simp only [ShF] at hs
  | .yld _, y, z, hs, h1, h2 => by simp only [ShF] at hs
  | .mp _, y, z, hs, h1, h2 => by simp only [ShF] at hs
  | .vrow s els, y, z, hs, h1, h2 => by
    simp only [ShF] at hs
    obtain ⟨els', rfl, hs⟩ := hs
    simp only [Im] at h1 h2
    rcases h1 with rfl | ⟨rfl, h1⟩ | ⟨b, i, es, rfl, ho, hr⟩
    · rcases h2 with h2 | ⟨_, h2 | h2⟩ | ⟨b, i, es, h2, _⟩
      · exact h2
      · cases h2
      · cases h2
      · cases h2
    · rcases h2 with rfl | ⟨rfl, h2⟩ | ⟨b, i, es, rfl, _⟩
      · rcases h1 with h1 | h1 <;> cases h1
      · rfl
      · rcases h1 with h1 | h1 <;> cases h1
    · rcases h2 with h2 | ⟨_, h2 | h2⟩ | ⟨b', i', es', h2, ho', hr'⟩
      · cases h2
      · cases h2
      · cases h2
      · simp only [Lf.sl.injEq] at h2
        obtain ⟨rfl, rfl, hl⟩ := h2
        rw [ho] at ho'
        cases ho'
        rw [imR_un els hl hs hr hr']
  | .vptr cs, y, z, hs, h1, h2 => by
    simp only [ShF] at hs
    obtain ⟨cs', rfl, hs⟩ := hs
    simp only [Im] at h1 h2
    rcases h1 with rfl | ⟨b, i, j, s, es, e, rfl, ho, he, hr⟩
    · rcases h2 with h2 | ⟨b, i, j, s, es, e, h2, _⟩
      · exact h2
      · cases h2
    · rcases h2 with h2 | ⟨b', i', j', s', es', e', h2, ho', he', hr'⟩
      · cases h2
      · simp only [Lf.ptr.injEq] at h2
        obtain ⟨rfl, rfl, rfl⟩ := h2
        rw [ho] at ho'
        cases ho'
        rw [he] at he'
        cases he'
        rw [imC_un cs hs hr hr']
theorem imC_un : ∀ (cs : List Lf) {cs' zs : List Lf}, ShC cs cs' → ImC H cs zs → ImC H cs' zs → cs = cs'
  | [], cs', zs, hs, h1, h2 => by simp only [ShC] at hs; exact hs.symm
  | x :: r, [], zs, hs, h1, h2 => by simp only [ShC] at hs
  | x :: r, y :: q, [], hs, h1, h2 => by simp only [ImC] at h1
  | x :: r, y :: q, z :: zs, hs, h1, h2 => by
    simp only [ShC] at hs
    simp only [ImC] at h1 h2
    rw [im_un x hs.1 h1.1 h2.1, imC_un r hs.2 h1.2 h2.2]
theorem imR_un {s : Nat} : ∀ (els : List (List Lf)) {els' zs : List (List Lf)}, els.length = els'.length → (∀ e' ∈ els', ShR els e') → ImR H s els zs → ImR H s els' zs → els = els'
  | [], els', zs, hl, hs, h1, h2 => by
    cases els' with
    | nil => rfl
    | cons _ _ => cases hl
  | x :: r, [], zs, hl, hs, h1, h2 => by cases hl
  | x :: r, y :: q, [], hl, hs, h1, h2 => by simp only [ImR] at h1
  | x :: r, y :: q, z :: zs, hl, hs, h1, h2 => by
    simp only [ImR] at h1 h2
    have hx := hs y (by simp)
    simp only [ShR] at hx
    rw [imC_un x hx.1 h1.2.1 h2.2.1, imR_un r (by simpa using hl) (fun e' he' => by
      have := hs e' (by simp [he'])
      simp only [ShR] at this
      exact this.2) h1.2.2 h2.2.2]
end
def ShV : AV → AV → Prop
  | .one x, y => ∃ y', y = .one y' ∧ ShF x y'
  | .agg xs, y => ∃ ys, y = .agg ys ∧ ShC xs ys
  | .tup _, _ => False
theorem imV_un {x y z : AV} (hs : ShV x y) (h1 : ImV H x z) (h2 : ImV H y z) : x = y := by
  cases x with
  | one x =>
    obtain ⟨y', rfl, hs⟩ := hs
    obtain ⟨z', rfl, h1⟩ := h1
    obtain ⟨z2, e, h2⟩ := h2
    cases e
    rw [im_un x hs h1 h2]
  | agg x =>
    obtain ⟨y', rfl, hs⟩ := hs
    obtain ⟨z', rfl, _, h1⟩ := h1
    obtain ⟨z2, e, _, h2⟩ := h2
    cases e
    rw [imC_un x hs h1 h2]
  | tup x => exact hs.elim

/-! ### An object more -/
mutual
theorem im_push (hd : H.Hd) (o : AO) : ∀ (x : Lf) {z : Lf}, Im H x z → Im (H.push o) x z
  | .int k a, z, h => by simp only [Im] at h ⊢; exact h
  | .bool a, z, h => by simp only [Im] at h ⊢; exact h
  | .str a, z, h => by simp only [Im] at h ⊢; exact h
  | .fn f c, z, h => by simp only [Im] at h ⊢; exact h
  | .nilp, z, h => by simp only [Im] at h ⊢; exact h
  | .nils, z, h => by simp only [Im] at h ⊢; exact h
  | .slz, z, h => by simp only [Im] at h ⊢; exact h
  | .nilf, z, h => by simp only [Im] at h ⊢; exact h
  | .nilm, z, h => by simp only [Im] at h ⊢; exact h
  | .nili, z, h => by simp only [Im] at h ⊢; exact h
  | .ptr _ _ _, z, h => by simp only [Im] at h
  | .sl _ _ _, z, h => by simp only [Im] at h
  | .yld _, z, h => by simp only [Im] at h
  | .mp _, z, h => by simp only [Im] at h
  | .vrow s els, z, h => by
    simp only [Im] at h ⊢
    rcases h with h | h | ⟨b, i, es, e, ho, hr⟩
    · exact .inl h
    · exact .inr (.inl h)
    · exact .inr (.inr ⟨b, i, es, e, by rw [push_o (Hd.lt hd (by rw [ho]; simp))]; exact ho, imR_push hd o els hr⟩)
  | .vptr cs, z, h => by
    simp only [Im] at h ⊢
    rcases h with h | ⟨b, i, j, s, es, e, hz, ho, he, hr⟩
    · exact .inl h
    · exact .inr ⟨b, i, j, s, es, e, hz, by rw [push_o (Hd.lt hd (by rw [ho]; simp))]; exact ho, he, imC_push hd o cs hr⟩
theorem imC_push (hd : H.Hd) (o : AO) : ∀ (cs : List Lf) {zs : List Lf}, ImC H cs zs → ImC (H.push o) cs zs
  | [], zs, h => by simp only [ImC]
  | x :: r, [], h => by simp only [ImC] at h
  | x :: r, z :: zs, h => by
    simp only [ImC] at h ⊢
    exact ⟨im_push hd o x h.1, imC_push hd o r h.2⟩
theorem imR_push (hd : H.Hd) (o : AO) {s : Nat} : ∀ (els : List (List Lf)) {zs : List (List Lf)}, ImR H s els zs → ImR (H.push o) s els zs
  | [], zs, h => by simp only [ImR]
  | x :: r, [], h => by simp only [ImR] at h
  | x :: r, z :: zs, h => by
    simp only [ImR] at h ⊢
    exact ⟨h.1, imC_push hd o x h.2.1, imR_push hd o r h.2.2⟩
end
theorem imV_push (hd : H.Hd) (o : AO) {x z : AV} (h : ImV H x z) : ImV (H.push o) x z := by
  cases x with
  | one x => obtain ⟨y, rfl, h⟩ := h; exact ⟨y, rfl, im_push hd o x h⟩
  | agg x => obtain ⟨y, rfl, hl, h⟩ := h; exact ⟨y, rfl, hl, imC_push hd o x h⟩
  | tup x => exact h.elim

/-! ### The meaning of a call that may look -/
def LookR (g : GP) (H : Heap) (xs : List AV) (v : AV) : Prop := (∃ c, g xs = some (v, c) ∧ AllT c) ∨ (scA v = true ∧ ∃ ys c, All2 (ImV H) ys xs ∧ g ys = some (v, c) ∧ AllT c)
open Classical in
noncomputable def lookP (g : GP) (xs : List AV) (H : Heap) : Option (AV × Heap) := if h : ∃ v, LookR g H xs v then some (h.choose, H) else none
/-- There is but one answer. -/
def UnG (g : GP) : Prop := ∀ H xs v v', LookR g H xs v → LookR g H xs v' → v = v'
theorem lookP_inv {g : GP} {xs : List AV} {v : AV} {H' : Heap} (h : lookP g xs H = some (v, H')) : H' = H ∧ LookR g H xs v := by
  unfold lookP at h
  split at h
  · rename_i hh
    simp only [Option.some.injEq, Prod.mk.injEq] at h
    obtain ⟨rfl, rfl⟩ := h
    exact ⟨rfl, hh.choose_spec⟩
  · cases h
theorem lookP_eq {g : GP} (hu : UnG g) {xs : List AV} {v : AV} (h : LookR g H xs v) : lookP g xs H = some (v, H) := by
  have hh : ∃ v, LookR g H xs v := ⟨v, h⟩
  unfold lookP
  rw [dif_pos hh, hu H xs _ _ hh.choose_spec h]
theorem LookR.push {g : GP} (hd : H.Hd) (o : AO) {xs : List AV} {v : AV} (h : LookR g H xs v) : LookR g (H.push o) xs v := by
  rcases h with h | ⟨hs, ys, c, hi, hg, hc⟩
  · exact .inl h
  · exact .inr ⟨hs, ys, c, ⟨hi.1, fun k y x hy hx => imV_push hd o (hi.2 k y x hy hx)⟩, hg, hc⟩
theorem lookP_push {g : GP} (hu : UnG g) (hd : H.Hd) (o : AO) {xs : List AV} {v : AV} {H' : Heap} (h : lookP g xs H = some (v, H')) : lookP g xs (H.push o) = some (v, H.push o) :=
  lookP_eq hu ((lookP_inv h).2.push hd o)
theorem look_prOk {S : SC} {i : Nat} {g : GP} (hp : PrOk S i (pureP g)) : PrOk S i (lookP g) := by
  intro xs H v H' h ρ w vs hv hH
  obtain ⟨rfl, h⟩ := lookP_inv h
  rcases h with ⟨c, hg, hc⟩ | ⟨hs, ys, c, hi, hg, hc⟩
  · exact hp xs _ v _ (pureP_eq hg hc _) ρ w vs hv hH
  · exact look_ok hp hg hc hs hi hv hH
end
end Go.EA

