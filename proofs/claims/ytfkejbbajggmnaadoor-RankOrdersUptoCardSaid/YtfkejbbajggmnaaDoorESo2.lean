/- A function that means a value lays blocks, draws, and does nothing else: said of the world. Which of two words is more frequent is an order. Conditions: none. -/
import Derived.Test.YtfkejbbajggmnaaDoorESo1
import Derived.Test.YtfkejbbajggmnaaDoorELx3
set_option linter.unusedVariables false
set_option linter.unusedSimpArgs false
namespace Go.EA
open Go.Sort Go.Proofs
theorem world_grow {W w':World} (h1:W.drawn≤w'.drawn) (h2:w'.os=W.os) (h3:w'.tape=W.tape) (h4:w'.output=W.output) (h5:W.heap.size≤w'.heap.size) (h6:∀ k,k < W.heap.size→w'.heap[k]?=W.heap[k]?) :
    ∃ q os',w'=grow (W.drewN q) os':=by
  refine ⟨w'.drawn - W.drawn,w'.heap.extract W.heap.size w'.heap.size,?_⟩
  have hh:w'.heap=W.heap++w'.heap.extract W.heap.size w'.heap.size:=by
    apply Array.ext_getElem?
    intro k
    rcases Nat.lt_or_ge k W.heap.size with hk | hk
    · rw [Array.getElem?_append_left hk,h6 k hk]
    · rw [Array.getElem?_append_right hk,Array.getElem?_extract]
      split
      · rw [show W.heap.size+(k - W.heap.size)=k by omega]
      · rw [Array.getElem?_eq_none (by omega)]
  have hd:W.drawn+(w'.drawn - W.drawn)=w'.drawn:=by omega
  obtain ⟨a,b,c,d,e⟩:=w'
  unfold grow World.drewN
  simp only at *
  rw [hd,← hh,h2,h3,h4]
theorem calls_of_pr {S:SC} {i:Nat} {g:GP} (h:PrOk S i (pureP g)) (hent:∀ args w,(callFunc (S.re i) args).run S.C.P w=.ok (.enter (S.re i) args) w) {xs:List AV} {v:AV} {c:List Prop} (hg:g xs=some (v,c)) (hc:AllT c)
    {W:World} (hfx:∀ k ob,S.fx k=some ob→W.heap[k]?=some ob) (hd:S.d0=W.drawn) {vs:List Value} (hvs:All2 (VRel S (rho0 W) 0) xs vs) :
    Calls S.C.P (S.re i) vs.toArray W fun e w'=>∃ u ρ' n',e=.returned u∧VRel S ρ' n' v u∧∃ q os',w'=grow (W.drewN q) os':=by
  have h0:=h xs (hl []) v (hl []) (pureP_eq hg hc _) (rho0 W) W vs hvs (hrel0 hfx (Nat.le_of_eq hd))
  rw [hent] at h0
  rcases h0 with ⟨u,w',e,_⟩ | ⟨f,args,w1,ρ1,e,rfl,rfl,h0⟩ | ⟨l,f,tmps,as0,bd,e,_⟩
  · cases e
  · simp only [Result.ok.injEq,Next.enter.injEq,and_true] at e
    obtain ⟨rfl,rfl⟩:=e
    refine (callsIn_wide.1 h0).mono fun e w' hr=>?_
    obtain ⟨u,ρ',rfl,k1,k2,k3⟩:=hr
    exact ⟨u,ρ',_,rfl,k3,world_grow (by rw [← hd];exact k1.dr) k2.os k2.tape k2.output k2.sz fun k hk=>(k2.keep k hk fun i hi=>absurd hi (Nat.not_lt_zero _)).1⟩
  · cases e
instance:Inhabited WdT.den:=⟨(([],0):List UInt8×Int)⟩
end Go.EA
