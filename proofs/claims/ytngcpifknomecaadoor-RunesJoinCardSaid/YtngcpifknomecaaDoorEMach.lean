/- A machine that carries out abstract code, for the kernel to reckon with: it tells what must hold on the way; it stops at calls, loops, ranges. Conditions: none. -/
import Derived.Test.YtngcpifknomecaaDoorEM4
set_option linter.unusedVariables false
set_option linter.unusedSimpArgs false
namespace Go.EA

/-- The temporaries as a list; the heap as one. -/
def tmL (l : List AV) : Tm := fun n => l.getD n und
def hl (L : List AO) : Heap := ⟨L.length, fun i => L.getD i .dead⟩
def tabN (o : Nat → AO) : Nat → List AO → List AO
  | 0, r => r
  | n + 1, r => tabN o n (o n :: r)
def tab (H : Heap) : List AO := tabN H.o H.n []
def Heap.Hd (H : Heap) : Prop := ∀ i, H.n ≤ i → H.o i = .dead

theorem putT_tmL {l : List AV} {d : Nat} {v : AV} (h : d < l.length) : putT (tmL l) (some d) v = tmL (l.set d v) := by
  funext n
  simp only [putT, EA.put, tmL, List.getD_eq_getElem?_getD]
  by_cases e : n = d
  · subst e; rw [if_pos rfl, List.getElem?_set_self h]; rfl
  · rw [if_neg e, List.getElem?_set_ne (Ne.symm e)]

theorem tabN_eq (o : Nat → AO) : ∀ (n : Nat) (r : List AO), tabN o n r = (List.range n).map o ++ r
  | 0, r => rfl
  | n + 1, r => by rw [tabN, tabN_eq o n, List.range_succ]; simp
theorem hl_hd (L : List AO) : (hl L).Hd := fun i hi => by
  show L.getD i .dead = .dead
  rw [List.getD_eq_getElem?_getD, List.getElem?_eq_none hi]; rfl
theorem hl_tab {H : Heap} (h : H.Hd) : hl (tab H) = H := by
  obtain ⟨n, o⟩ := H
  have hlen : (tab ⟨n, o⟩).length = n := by simp [tab, tabN_eq]
  unfold hl
  rw [hlen]
  congr
  funext i
  rw [List.getD_eq_getElem?_getD]
  by_cases hi : i < n
  · simp [tab, tabN_eq, hi]
  · rw [List.getElem?_eq_none (by omega)]
    exact (h i (by simpa using hi)).symm

theorem Hd.push {H : Heap} (h : H.Hd) (x : AO) : (H.push x).Hd := fun i hi => by
  have hi' : H.n + 1 ≤ i := hi
  show EA.put H.o H.n x i = .dead
  unfold EA.put
  rw [if_neg (by omega)]; exact h i (by omega)
theorem Hd.set {H : Heap} (h : H.Hd) {b : Nat} (hb : b < H.n) (x : AO) : (H.set b x).Hd := fun i hi => by
  have hi' : H.n ≤ i := hi
  show EA.put H.o b x i = .dead
  unfold EA.put
  rw [if_neg (by omega)]; exact h i (by omega)
theorem Hd.lt {H : Heap} (h : H.Hd) {b : Nat} (hb : H.o b ≠ .dead) : b < H.n := by
  apply Decidable.byContradiction
  intro hn
  exact hb (h b (by omega))

theorem evOp_hd {T : Tm} {H H' : Heap} {op : AOp} {v : AV} (h : H.Hd) (he : evOp T H op = some (v, H')) : H'.Hd := by
  have same : ∀ {x : Option AV}, x.map (·, H) = some (v, H') → H'.Hd := fun hx => by
    obtain ⟨_, _, e⟩ := Option.map_eq_some_iff.1 hx
    simp only [Prod.mk.injEq] at e
    rw [← e.2]; exact h
  cases op with
  | store n a x =>
    simp only [evOp] at he
    split at he
    · split at he
      · obtain ⟨H2, h2, e⟩ := Option.map_eq_some_iff.1 he
        simp only [Prod.mk.injEq] at e
        rw [← e.2]
        unfold Heap.storeC at h2
        split at h2
        · rename_i hb
          split at h2
          · split at h2
            · simp only [Option.some.injEq] at h2
              rw [← h2]
              exact Hd.set h (Hd.lt h (by rw [hb]; simp)) _
            · cases h2
          · cases h2
        · cases h2
      · cases he
    · cases he
  | app s b x y =>
    simp only [evOp, evApp] at he
    split at he
    · cases he
    · split at he <;> first | (simp only [Option.some.injEq, Prod.mk.injEq] at he; rw [← he.2]; exact h) | cases he
    · split at he
      · split at he
        · simp only [Option.some.injEq, Prod.mk.injEq] at he; rw [← he.2]; exact Hd.push h _
        · cases he
      · split at he
        · simp only [Option.some.injEq, Prod.mk.injEq] at he; rw [← he.2]; exact Hd.push h _
        · cases he
      · split at he
        · rename_i hb
          split at he
          · simp only [Option.some.injEq, Prod.mk.injEq] at he; rw [← he.2]; exact Hd.push (Hd.set h (Hd.lt h (by rw [hb]; simp)) _) _
          · cases he
        · cases he
      · cases he
  | mapset m k w =>
    simp only [evOp] at he
    split at he
    · split at he
      · rename_i hb
        split at he
        · simp only [Option.some.injEq, Prod.mk.injEq] at he; rw [← he.2]; exact Hd.set h (Hd.lt h (by rw [hb]; simp)) _
        · cases he
      · cases he
    · cases he
  | nxt x =>
    simp only [evOp] at he
    split at he
    · split at he
      · rename_i hb
        split at he
        · simp only [Option.some.injEq, Prod.mk.injEq] at he; rw [← he.2]; exact Hd.set h (Hd.lt h (by rw [hb]; simp)) _
        · simp only [Option.some.injEq, Prod.mk.injEq] at he; rw [← he.2]; exact h
      · cases he
    · cases he
  | rowLit s z n parts =>
    simp only [evOp] at he
    obtain ⟨_, _, e⟩ := Option.map_eq_some_iff.1 he
    simp only [Prod.mk.injEq] at e
    rw [← e.2]; exact Hd.push h _
  | new z => simp only [evOp, Option.some.injEq, Prod.mk.injEq] at he; rw [← he.2]; exact Hd.push h _
  | mkmap => simp only [evOp, Option.some.injEq, Prod.mk.injEq] at he; rw [← he.2]; exact Hd.push h _
  | mov x => simp only [evOp, Option.some.injEq, Prod.mk.injEq] at he; rw [← he.2]; exact h
  | bin op x y => simp only [evOp] at he; exact same he
  | eqv k n x y => simp only [evOp] at he; exact same he
  | un op x => simp only [evOp] at he; exact same he
  | build z ps =>
    simp only [evOp] at he
    obtain ⟨_, _, e⟩ := Option.map_eq_some_iff.1 he
    simp only [Prod.mk.injEq] at e
    rw [← e.2]; exact h
  | slice k s x lo hi mx => simp only [evOp] at he; exact same he
  | mkfn f caps =>
    simp only [evOp] at he
    obtain ⟨_, _, e⟩ := Option.map_eq_some_iff.1 he
    simp only [Prod.mk.injEq] at e
    rw [← e.2]; exact h
  | b2s x =>
    simp only [evOp] at he
    split at he
    · obtain ⟨_, _, e⟩ := Option.map_eq_some_iff.1 he
      simp only [Prod.mk.injEq] at e
      rw [← e.2]; exact h
    · cases he
  | call f xs => simp [evOp] at he
  | _ =>
    simp only [evOp] at he
    repeat' split at he
    all_goals first
      | (cases he; done)
      | (simp only [Option.some.injEq, Prod.mk.injEq] at he; rw [← he.2]; first | exact h | exact Hd.push h _)
      | (obtain ⟨_, _, e⟩ := Option.map_eq_some_iff.1 he
         simp only [Prod.mk.injEq] at e
         rw [← e.2]; exact h)

/-- Operations that leave the heap. -/
def pureOp : AOp → Bool
  | .mov _ | .eqv _ _ _ _ | .un _ _ | .s2s _ | .i2s _ | .b2s _ | .pick _ _ _ | .build _ _ | .load _ _ _ | .nilck _ | .faddr _ _ | .fld _ _ _ _ | .aaddr _ _ _ _ | .aidx _ _ _ _ _ | .mkfn _ _ | .lookup _ _ _ _ | .ext _ _ | .len _ _ | .best _ _ => true
  | _ => false
theorem evOp_pure {T : Tm} {H H' : Heap} {op : AOp} {v : AV} (hp : pureOp op = true) (he : evOp T H op = some (v, H')) : H' = H := by
  cases op <;> first | (cases hp; done) | skip
  all_goals
    simp only [evOp] at he
    repeat' split at he
    all_goals first
      | (cases he; done)
      | (simp only [Option.some.injEq, Prod.mk.injEq] at he; exact he.2.symm)
      | (obtain ⟨_, _, e⟩ := Option.map_eq_some_iff.1 he
         simp only [Prod.mk.injEq] at e
         exact e.2.symm)

/-- An answer, the heap, what must hold for it. -/
abbrev OpS := Option (AV × List AO × List Prop)

def AllT : List Prop → Prop
  | [] => True
  | p :: r => p ∧ AllT r
def i64R (z : Int) : Prop := -9223372036854775808 ≤ z ∧ z ≤ 9223372036854775807
def binS (op : BinOp) (k : IntKind) (a : Int) (k' : IntKind) (b : Int) : Option (AV × List Prop) :=
  match op with
  | .add => match k, k' with
    | .i64, .i64 => some (.one (.int .i64 (a + b)), [i64R (a + b)])
    | _, _ => (evBin op (.one (.int k a)) (.one (.int k' b))).map (·, [])
  | .sub => match k, k' with
    | .i64, .i64 => some (.one (.int .i64 (a - b)), [i64R (a - b)])
    | _, _ => (evBin op (.one (.int k a)) (.one (.int k' b))).map (·, [])
  | .mul => match k, k' with
    | .i64, .i64 => some (.one (.int .i64 (a * b)), [i64R (a * b)])
    | _, _ => (evBin op (.one (.int k a)) (.one (.int k' b))).map (·, [])
  | .quo => match k, k' with
    | .i64, .i64 => some (.one (.int .i64 (a.tdiv b)), [b ≠ 0, i64R (a.tdiv b)])
    | _, _ => if k = k' then some (.one (.int k (k.wrap (a.tdiv b))), [b ≠ 0]) else none
  | .rem => if k = k' then some (.one (.int k (a.tmod b)), [b ≠ 0]) else none
  | op => (evBin op (.one (.int k a)) (.one (.int k' b))).map (·, [])

theorem wrap64 {z : Int} (h : i64R z) : IntKind.i64.wrap z = z := by
  obtain ⟨h1, h2⟩ := h
  have e : IntKind.i64.wrap z = (if z % 18446744073709551616 ≥ 9223372036854775808 then z % 18446744073709551616 - 18446744073709551616 else z % 18446744073709551616) := by
    show (if (true && decide _) = true then _ else _) = _
    simp only [Bool.true_and, decide_eq_true_eq]
    rfl
  rw [e]
  split <;> omega

theorem binS_ok {op : BinOp} {k k' : IntKind} {a b : Int} {v : AV} {c : List Prop} (h : binS op k a k' b = some (v, c)) (hc : AllT c) : evBin op (.one (.int k a)) (.one (.int k' b)) = some v := by
  have dflt : (evBin op (.one (.int k a)) (.one (.int k' b))).map (·, []) = some (v, c) → evBin op (.one (.int k a)) (.one (.int k' b)) = some v := fun h => by
    obtain ⟨w, hw, e⟩ := Option.map_eq_some_iff.1 h
    cases e; exact hw
  unfold binS at h
  cases op with
  | add =>
    simp only at h
    split at h
    · cases h; simp only [evBin, evInt, if_true, wrap64 hc.1]
    · exact dflt h
  | sub =>
    simp only at h
    split at h
    · cases h; simp only [evBin, evInt, if_true, wrap64 hc.1]
    · exact dflt h
  | mul =>
    simp only at h
    split at h
    · cases h; simp only [evBin, evInt, if_true, wrap64 hc.1]
    · exact dflt h
  | quo =>
    simp only at h
    split at h
    · cases h; simp only [evBin, evInt, if_true, if_neg hc.1, wrap64 hc.2.1]
    · split at h
      · rename_i hk; cases h; subst hk; simp only [evBin, evInt, if_true, if_neg hc.1]
      · cases h
  | rem =>
    simp only at h
    split at h
    · rename_i hk; cases h; subst hk; simp only [evBin, evInt, if_true, if_neg hc.1]
    · cases h
  | _ => exact dflt h

def boundS (T : List AV) (d : Int) : Option Opd → Option Int
  | none => some d
  | some x => match x.ev (tmL T) with
    | .one (.int _ n) => some n
    | _ => none

def opS (T : List AV) (L : List AO) (op : AOp) : OpS :=
  match op with
  | .bin o x y => match x.ev (tmL T), y.ev (tmL T) with
    | .one (.int k a), .one (.int k' b) => match binS o k a k' b with
      | some (v, c) => some (v, L, c)
      | none => none
    | .one (.str a), .one (.str b) => match o with
      | .add => some (.one (.str (a ++ b)), L, [a.length + b.length ≤ 9223372036854775807])
      | o => match evStr o a b with
        | some v => some (v, L, [])
        | none => none
    | _, _ => none
  | .wrapI k x => match x.ev (tmL T) with
    | .one (.int _ n) => match k with
      | .i64 => some (.one (.int .i64 n), L, [i64R n])
      | k => some (.one (.int k (k.wrap n)), L, [])
    | _ => none
  | .iaddr s x i => match x.ev (tmL T), i.ev (tmL T) with
    | .one (.sl b f n), .one (.int _ k) => match (hl L).isBlk s b with
      | true => some (.one (.ptr b (f + k.toNat) 0), L, [0 ≤ k ∧ k < n])
      | false => none
    | .one (.vrow s' els), .one (.int _ k) => match Nat.beq s' s with
      | true => some (.one (.vptr (els.getD k.toNat [])), L, [0 ≤ k ∧ k < els.length])
      | false => none
    | _, _ => none
  | .sidx x i => match x.ev (tmL T), i.ev (tmL T) with
    | .one (.str s), .one (.int _ k) => some (.one (.int .u8 (s.getD k.toNat 0).toNat), L, [0 ≤ k ∧ k < s.length])
    | _, _ => none
  | .slice k s x lo hi none => match k, x.ev (tmL T) with
    | .str, .one (.str s) => match boundS T 0 lo, boundS T s.length hi with
      | some l, some h => some (.one (.str ((s.drop l.toNat).take (h.toNat - l.toNat))), L, [0 ≤ l ∧ l ≤ h ∧ h ≤ s.length])
      | _, _ => none
    | .slc, .one (.sl b i n) => match (hl L).isBlk s b, boundS T 0 lo, boundS T n hi with
      | true, some l, some h => some (.one (.sl b (i + l.toNat) (h.toNat - l.toNat)), L, [0 ≤ l ∧ l ≤ h ∧ h ≤ n])
      | _, _, _ => none
    | .slc, .one (.vrow s' els) => match Nat.beq s' s, boundS T 0 lo, boundS T els.length hi with
      | true, some l, some h => some (.one (.vrow s ((els.drop l.toNat).take (h.toNat - l.toNat))), L, [0 ≤ l ∧ l ≤ h ∧ h ≤ els.length])
      | _, _, _ => none
    | k, v => match evSlice (tmL T) (hl L) k s v lo hi none with
      | some v => some (v, L, [])
      | none => none
  | .mksl s z bytes len cap => match len.ev (tmL T), cap.ev (tmL T) with
    | .one (.int _ l), .one (.int _ c) => some (.one (.sl L.length 0 l.toNat), L ++ [.blk s (List.replicate l.toNat z) true], [0 ≤ l ∧ l ≤ c ∧ c * bytes ≤ 140737488355328 ∧ c ≤ 140737488355328])
    | _, _ => none
  | .app s bytes x y => match srcRow (hl L) s (y.ev (tmL T)), x.ev (tmL T) with
    | some (e :: es), .one .nils | some (e :: es), .one .slz => some (.one (.sl L.length 0 (es.length + 1)), L ++ [.blk s (e :: es) true], [(es.length + 1) * bytes ≤ 140737488355328])
    | some (e :: es), .one (.sl b i n) => match L.getD b .dead with
      | .blk s' els true => match Nat.beq s' s with
        | true => some (.one (.sl L.length 0 (n + (es.length + 1))), L.set b .dead ++ [.blk s ((els.drop i).take n ++ e :: es) true], [i + n ≤ els.length ∧ (n + (es.length + 1)) * bytes ≤ 140737488355328])
        | false => none
      | _ => none
    | some [], x => match evApp (hl L) s bytes x (y.ev (tmL T)) with
      | some (v, _) => some (v, L, [])
      | none => none
    | _, _ => none
  | op => match evOp (tmL T) (hl L) op with
    | some (v, H) => some (v, match pureOp op with | true => L | false => tab H, [])
    | none => none
end Go.EA
