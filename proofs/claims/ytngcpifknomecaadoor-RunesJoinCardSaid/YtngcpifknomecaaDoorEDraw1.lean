/- Operations that may change places. Conditions: none. -/
import Derived.Test.YtngcpifknomecaaDoorESound1
set_option linter.unusedVariables false
set_option linter.unusedSimpArgs false
namespace Go.EA

def Opd.uses : Opd → List Nat
  | .t n => [n]
  | .c _ => []
def usesO : Option Opd → List Nat
  | some x => x.uses
  | none => []
def usesL : List Opd → List Nat
  | [] => []
  | x :: r => x.uses ++ usesL r
def usesP : List (Nat × Nat × Opd) → List Nat
  | [] => []
  | (_, _, x) :: r => x.uses ++ usesP r
def usesE : List (Nat × Opd) → List Nat
  | [] => []
  | (_, x) :: r => x.uses ++ usesE r
def AOp.uses : AOp → List Nat
  | .mov x | .un _ x | .wrapI _ x | .s2b x | .b2s x | .i2s x | .s2s x | .box x | .load _ _ x | .nilck x | .faddr _ x | .fld _ _ _ x | .rng x | .nxt x | .ext x _ | .len _ x => x.uses
  | .bin _ x y | .eqv _ _ x y | .store _ x y | .iaddr _ x y | .aaddr _ _ x y | .sidx x y | .aidx _ _ _ x y | .mksl _ _ _ x y | .lookup _ x y _ | .app _ _ x y => x.uses ++ y.uses
  | .pick c a b | .mapset c a b => c.uses ++ (a.uses ++ b.uses)
  | .new _ | .mkmap => []
  | .build _ ps => usesP ps
  | .rowLit _ _ _ ps => usesE ps
  | .slice _ _ x lo hi mx => x.uses ++ (usesO lo ++ (usesO hi ++ usesO mx))
  | .mkfn _ xs | .best _ xs => usesL xs
  | .call f xs => f.uses ++ usesL xs

section
variable {T T' : Tm}
theorem ev_congr {x : Opd} (h : ∀ n ∈ x.uses, T n = T' n) : x.ev T = x.ev T' := by
  cases x with
  | t n => exact h n (by simp [Opd.uses])
  | c v => rfl
theorem evL_congr : ∀ {xs : List Opd}, (∀ n ∈ usesL xs, T n = T' n) → xs.map (·.ev T) = xs.map (·.ev T')
  | [], _ => rfl
  | x :: r, h => by
    simp only [List.map_cons]
    rw [ev_congr (x := x) fun n hn => h n (by simp [usesL, hn]), evL_congr (xs := r) fun n hn => h n (by simp [usesL, hn])]
theorem fillC_congr : ∀ {ps : List (Nat × Nat × Opd)} {cs : List Lf}, (∀ n ∈ usesP ps, T n = T' n) → fillC T cs ps = fillC T' cs ps
  | [], cs, _ => rfl
  | (o, n, x) :: r, cs, h => by
    simp only [fillC]
    rw [ev_congr (x := x) fun n hn => h n (by simp [usesP, hn])]
    split
    · split
      · exact fillC_congr fun n hn => h n (by simp [usesP, hn])
      · rfl
    · rfl
theorem fillE_congr {s : Nat} : ∀ {ps : List (Nat × Opd)} {es : List (List Lf)}, (∀ n ∈ usesE ps, T n = T' n) → fillE T s es ps = fillE T' s es ps
  | [], es, _ => rfl
  | (i, x) :: r, es, h => by
    simp only [fillE]
    rw [ev_congr (x := x) fun n hn => h n (by simp [usesE, hn])]
    split
    · split
      · exact fillE_congr fun n hn => h n (by simp [usesE, hn])
      · rfl
    · rfl
theorem bound_congr {d : Nat} {x : Option Opd} (h : ∀ n ∈ usesO x, T n = T' n) : bound T d x = bound T' d x := by
  cases x with
  | none => rfl
  | some x => simp only [bound]; rw [ev_congr h]

theorem evOp_congr {H : Heap} {op : AOp} (h : ∀ n ∈ op.uses, T n = T' n) : evOp T H op = evOp T' H op := by
  have two : ∀ {x y : Opd}, (∀ n ∈ x.uses ++ y.uses, T n = T' n) → x.ev T = x.ev T' ∧ y.ev T = y.ev T' := fun h =>
    ⟨ev_congr fun n hn => h n (by simp [hn]), ev_congr fun n hn => h n (by simp [hn])⟩
  have three : ∀ {x y z : Opd}, (∀ n ∈ x.uses ++ (y.uses ++ z.uses), T n = T' n) → x.ev T = x.ev T' ∧ y.ev T = y.ev T' ∧ z.ev T = z.ev T' := fun h =>
    ⟨ev_congr fun n hn => h n (by simp [hn]), ev_congr fun n hn => h n (by simp [hn]), ev_congr fun n hn => h n (by simp [hn])⟩
  cases op
  case new => rfl
  case mkmap => rfl
  case call => rfl
  case build z ps => simp only [evOp]; rw [fillC_congr h]
  case rowLit s z n ps => simp only [evOp]; rw [fillE_congr h]
  case slice k s x lo hi mx =>
    simp only [AOp.uses] at h
    have h1 := bound_congr (T := T) (T' := T') (x := lo) (d := 0) fun n hn => h n (by simp [hn])
    have h2 : ∀ d, bound T d hi = bound T' d hi := fun d => bound_congr fun n hn => h n (by simp [hn])
    have h3 : ∀ m, mx = some m → m.ev T = m.ev T' := fun m e => ev_congr fun n hn => h n (by subst e; simp [usesO, hn])
    have h4 : x.ev T = x.ev T' := ev_congr fun n hn => h n (by simp [hn])
    simp only [evOp]
    rw [h4]
    congr 1
    unfold evSlice
    simp only [h1, h2]
    cases mx with
    | none =>
      cases k
      case map => cases x.ev T' with
        | one y => cases y <;> rfl
        | agg cs => rfl
        | tup vs => rfl
      case str => cases x.ev T' with
        | one y => cases y <;> rfl
        | agg cs => rfl
        | tup vs => rfl
      case slc =>
        have nn : ∀ (a b : Option Nat) (r : AV) (f f' : Opd → Option AV), (match a, b, (none : Option Opd) with | some 0, some 0, none => some r | some 0, some 0, some m => f m | _, _, _ => none) = (match a, b, (none : Option Opd) with | some 0, some 0, none => some r | some 0, some 0, some m => f' m | _, _, _ => none) := by
          intro a b r f f'
          cases a with
          | none => rfl
          | some p =>
            cases b with
            | none => cases p <;> rfl
            | some q => cases p <;> cases q <;> rfl
        cases x.ev T' with
        | agg cs => rfl
        | tup vs => rfl
        | one y =>
          cases y
          case sl b i n => dsimp only; cases bound T' 0 lo <;> cases bound T' n hi <;> rfl
          case vrow s' els => dsimp only; cases bound T' 0 lo <;> cases bound T' els.length hi <;> rfl
          case nils => exact nn _ _ _ _ _
          case slz => exact nn _ _ _ _ _
          all_goals rfl
    | some m =>
      have hm := h3 m rfl
      cases k
      case map => cases x.ev T' with
        | one y => cases y <;> rfl
        | agg cs => rfl
        | tup vs => rfl
      case str => cases x.ev T' with
        | one y => cases y <;> rfl
        | agg cs => rfl
        | tup vs => rfl
      case slc =>
        cases x.ev T' with
        | agg cs => rfl
        | tup vs => rfl
        | one y =>
          cases y
          case sl b i n => dsimp only; cases bound T' 0 lo <;> cases bound T' n hi <;> first | rfl | (dsimp only; rw [hm])
          case vrow s' els => dsimp only; cases bound T' 0 lo <;> cases bound T' els.length hi <;> first | rfl | (dsimp only; rw [hm])
          case nils =>
            dsimp only
            cases bound T' 0 lo with
            | none => rfl
            | some p => cases bound T' 0 hi with
              | none => cases p <;> rfl
              | some q => cases p <;> cases q <;> first | rfl | simp only [hm]
          case slz =>
            dsimp only
            cases bound T' 0 lo with
            | none => rfl
            | some p => cases bound T' 0 hi with
              | none => cases p <;> rfl
              | some q => cases p <;> cases q <;> first | rfl | simp only [hm]
          all_goals rfl
  case mkfn f xs =>
    simp only [evOp]
    have hl : ∀ (xs : List Opd), (∀ n ∈ usesL xs, T n = T' n) → ∀ (g : AV → Option (Nat × Nat × Nat)), (xs.mapM fun x => g (x.ev T)) = xs.mapM fun x => g (x.ev T') := by
      intro xs hx g
      induction xs with
      | nil => rfl
      | cons x r ih =>
        simp only [List.mapM_cons]
        rw [ev_congr (x := x) fun n hn => hx n (by simp [usesL, hn]), ih fun n hn => hx n (by simp [usesL, hn])]
    exact congrArg (Option.map _) (hl xs h capOf)
  case best mx xs =>
    simp only [evOp]
    cases xs with
    | nil => rfl
    | cons x r =>
      simp only [AOp.uses, usesL] at h
      dsimp only
      rw [ev_congr (x := x) fun n hn => h n (by simp [hn]), evL_congr (xs := r) fun n hn => h n (by simp [hn])]
  case pick c a b => obtain ⟨h1, h2, h3⟩ := three h; simp only [evOp, h1, h2, h3]
  case mapset c a b => obtain ⟨h1, h2, h3⟩ := three h; simp only [evOp, h1, h2, h3]
  all_goals first
    | (obtain ⟨h1, h2⟩ := two h; simp only [evOp, h1, h2]; done)
    | (have h1 := ev_congr h; simp only [evOp, h1]; done)
end

/-- It leaves the heap as it is. -/
def AOp.keeps (pp : Nat → Bool) : AOp → Bool
  | .s2b _ | .new _ | .box _ | .rowLit _ _ _ _ | .store _ _ _ | .mksl _ _ _ _ _ | .mkmap | .mapset _ _ _ | .rng _ | .nxt _ | .app _ _ _ _ => false
  | .call (.c (.one (.fn f []))) _ => pp f
  | .call _ _ => false
  | _ => true
/-- It does not look at the heap. -/
def AOp.blind : AOp → Bool
  | .mov _ | .bin _ _ _ | .eqv _ _ _ _ | .un _ _ | .wrapI _ _ | .i2s _ | .s2s _ | .pick _ _ _ | .build _ _ | .nilck _ | .faddr _ _ | .fld _ _ _ _ | .aaddr _ _ _ _ | .sidx _ _ | .aidx _ _ _ _ _ | .mkfn _ _ | .ext _ _ | .best _ _ => true
  | .len .str _ | .len .slc _ => true
  | _ => false

theorem evOp_keeps {pp : Nat → Bool} {T : Tm} {H H' : Heap} {op : AOp} {v : AV} (hk : op.keeps pp = true) (h : evOp T H op = some (v, H')) : H' = H := by
  cases op <;> simp only [AOp.keeps, Bool.false_eq_true] at hk <;> simp only [evOp] at h
  all_goals repeat' (split at h)
  all_goals first
    | (cases h; done)
    | (simp only [Option.some.injEq, Prod.mk.injEq] at h; exact h.2.symm)
    | (obtain ⟨r, _, hr⟩ := Option.map_eq_some_iff.1 h; simp only [Prod.mk.injEq] at hr; exact hr.2.symm)

theorem evOp_blind {T : Tm} {H H' : Heap} {op : AOp} {v : AV} (hk : op.blind = true) (h : evOp T H op = some (v, H')) : H' = H ∧ ∀ H2, evOp T H2 op = some (v, H2) := by
  have hH : H' = H := by
    refine evOp_keeps (pp := fun _ => false) ?_ h
    cases op <;> simp only [AOp.blind, Bool.false_eq_true] at hk <;> rfl
  refine ⟨hH, fun H2 => ?_⟩
  subst hH
  cases op <;> simp only [AOp.blind, Bool.false_eq_true] at hk <;> simp only [evOp] at h ⊢
  all_goals repeat' (split at h)
  all_goals first
    | (cases h; done)
    | (simp_all; done)
    | (obtain ⟨r, hr0, hr⟩ := Option.map_eq_some_iff.1 h; simp only [Prod.mk.injEq] at hr; rw [hr0]; simp [hr.1]; done)
    | (cases hk; done)
    | skip
end Go.EA
