/- Go's slices.Grow of a nil slice, as what makes an own empty row: the library's contract said in this project's terms. Conditions: none. -/
import Derived.Test.YtfkejbbajggmnaaDoorESo1
set_option linter.unusedVariables false
set_option linter.unusedSimpArgs false
namespace Go.EA
open Go.Proofs
def Cgrow (t:Ty) (bts:Nat):MCon:=⟨fun xs L=>match xs.map nrmV with
  | [.one .nils,.one (.int .i64 n)]=>some ⟨[0≤n,n*bts≤140737488355328,n≤4611686018427387904],Unit,fun _=>[],fun _=>.one (.osl L.length),fun _=>L++[.row t []]⟩
  | _=>none⟩
theorem mut_grow {S:SC} {i:Nat} {t:Ty} {bts:Nat} (hent:∀ args w,(callFunc (S.re i) args).run S.C.P w=.ok (.enter (S.re i) args) w)
    (h0:∀ w,Calls S.C.P (S.re i) #[.slice none 0 0,.int .i64 0] w fun e w'=>e=.returned (.slice none 0 0)∧w'=w)
    (h1:∀ (n:Nat) (w:World),0 < n→n*bts≤140737488355328→n≤4611686018427387904→Calls S.C.P (S.re i) #[.slice none 0 0,.int .i64 n] w fun e w'=>∃ cap C ty,e=.returned (.slice (some ⟨w.heap.size,0,none⟩) 0 cap)∧C.size=cap*t.size∧w'=w.drew.alloc (.cells C ty)) :
    MutOk S i (Cgrow t bts):=by
  intro c L H xs ys r hr hpre hH hxs
  simp only [Cgrow] at hr
  split at hr
  case h_2=>cases hr
  rename_i z he
  cases hr
  have hxs:All2 (RVS c L) [.one .nils,.one (.int .i64 z)] ys:=by
    rw [← he]
    refine ⟨by simpa using hxs.1,fun i x y hx hy=>?_⟩
    rw [List.getElem?_map,Option.map_eq_some_iff] at hx
    obtain ⟨x',hx',rfl⟩:=hx
    exact nrmV_rel (hxs.2 i x' y hx' hy)
  obtain ⟨a1,as1,rfl,k1,k2⟩:=hxs.cons_inv
  obtain ⟨a2,as2,rfl,k3,k4⟩:=k2.cons_inv
  obtain rfl:=k4.nil_inv
  obtain ⟨y1,rfl,hy⟩:=k1
  cases hy
  have k3:=k3.int
  subst k3
  obtain ⟨p1,p2,p3,_⟩:=hpre
  intro ρ w vs _ hvs hHR
  obtain ⟨v1,vs1,rfl,g1,g2⟩:=hvs.cons_inv
  obtain ⟨v2,vs2,rfl,g3,g4⟩:=g2.cons_inv
  obtain rfl:=g4.nil_inv
  have g1:v1=.slice none 0 0:=g1
  have g3:v2=.int .i64 z:=g3
  subst g1 g3
  have conv:([Value.slice none 0 0,Value.int .i64 z].toArray++(([]:List (Nat×Nat×Nat)).map (capAddr ρ)).toArray)=#[.slice none 0 0,.int .i64 z]:=by simp
  rw [conv]
  refine ⟨hent _ w,callsIn_wide.2 ?_⟩
  obtain ⟨n,rfl⟩:∃ n:Nat,z=n:=⟨z.toNat,by omega⟩
  rcases Nat.eq_zero_or_pos n with rfl | hn
  · refine Calls.mono (h0 w) fun e w' ⟨he,hw⟩=>?_
    subst he hw
    obtain ⟨av,H',c',e,kk,r1,r2⟩:=HOk.pushNil hH (t:=t) (z:=.nils) (.inl rfl) (w2:=some (.one .nils,H)) rfl
    cases e
    exact ⟨_,H,⟨(),trivial,c',r1,r2,kk.any fun _ h=>by cases h⟩,_,ρ,rfl,hHR,Frm.refl _ _ _,rfl⟩
  · refine Calls.mono (h1 n w hn (by have : ((n * bts : Nat) : Int) ≤ 140737488355328 := by rw [Int.natCast_mul]; exact p2
                                     omega) (by omega)) fun e w' ⟨cap,C,ty,he,hs,hw⟩=>?_
    subst he hw
    obtain ⟨av,H',c',e,kk,r1,r2⟩:=HOk.pushRow hH (t:=t) (l:=[]) (n:=0) rfl (w2:=some (.one (.sl H.n 0 0),H.push (.blk t.size [] true))) rfl
    cases e
    obtain ⟨q1,q2⟩:=hHR.drew.row' (s:=t.size) (els:=[]) (C:=C) (ty:=ty) (fr:=(0,0)) (fun k e he=>by simp at he) (by simp) (.inl (Nat.le_refl _))
    refine ⟨_,_,⟨(),trivial,c',r1,r2,kk.any fun _ h=>by cases h⟩,_,_,rfl,q1,Frm.drew.trans q2,?_⟩
    show LRel S _ _ (.sl H.n 0 0) _
    refine ⟨Nat.lt_succ_self _,_,cap,rfl,Nat.zero_le _,.inr ⟨?_,?_⟩⟩
    · rw [rput_self];simp [Loc.addr]
    · rw [rput_self]
      show 0+(0+cap)*t.size≤C.size
      rw [hs];simp
end Go.EA
