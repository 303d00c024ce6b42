/- Texts of the core, one behind the other. Conditions: none. -/
import Derived.Test.YtfkejbbajggmnaaDoorEK12
import Derived.Test.YtfkejbbajggmnaaDoorESo2
set_option linter.unusedVariables false
set_option linter.unusedSimpArgs false
section
namespace Go.EA
open F
end Go.EA
end
section
namespace Go.EA
open F
def shf {α:Type} (s:List α) (w:α) (a:Nat):List α:=(s++[w]).take (a+1)++s.drop a
theorem shf_parts {α:Type} {p q:List α} {w:α}:∃ h,shf (p++q) w p.length=p++h::q∧(q++[w]).take 1=[h]:=by
  cases q with
  | nil=>exact ⟨w,by unfold shf;rw [List.append_nil,List.take_of_length_le (by simp),List.drop_of_length_le (Nat.le_refl _),List.append_nil],rfl⟩
  | cons x q=>exact ⟨x,by unfold shf;rw [List.append_assoc,List.drop_left,show p.length+1=p.length+1 from rfl,List.take_append,List.take_of_length_le (by omega)];simp,rfl⟩
theorem split_at {α:Type} {s:List α} {a:Nat} (ha:a≤s.length):∃ p q,s=p++q∧p.length=a:=⟨s.take a,s.drop a,(List.take_append_drop a s).symm,by rw [List.length_take];omega⟩
theorem shf_len {α:Type} {s:List α} {w:α} {a:Nat} (ha:a≤s.length):(shf s w a).length=s.length+1:=by
  obtain ⟨p,q,rfl,rfl⟩:=split_at ha
  obtain ⟨h,e,_⟩:=shf_parts (p:=p) (q:=q) (w:=w)
  rw [e];simp;omega
theorem shf_top {α:Type} (s:List α) (w:α):shf s w s.length=s++[w]:=by
  unfold shf;rw [List.take_of_length_le (by simp),List.drop_of_length_le (Nat.le_refl _),List.append_nil]
theorem shf_fin {α:Type} {s:List α} {w:α} {a:Nat} (ha:a≤s.length):(shf s w a).set a w=s.take a++w::s.drop a:=by
  obtain ⟨p,q,rfl,rfl⟩:=split_at ha
  obtain ⟨h,e,_⟩:=shf_parts (p:=p) (q:=q) (w:=w)
  rw [e,List.take_left,List.drop_left,List.set_append_right _ _ (Nat.le_refl _),Nat.sub_self];rfl
theorem shf_get {α:Type} {s:List α} {w d:α} {a:Nat} (h0:0 < a) (ha:a≤s.length):(shf s w a).getD (a - 1) d=s.getD (a - 1) d:=by
  obtain ⟨p,q,rfl,rfl⟩:=split_at ha
  obtain ⟨h,e,_⟩:=shf_parts (p:=p) (q:=q) (w:=w)
  rw [e,List.getD_eq_getElem?_getD,List.getD_eq_getElem?_getD,List.getElem?_append_left (by omega),List.getElem?_append_left (by omega)]
theorem shf_step {α:Type} {s:List α} {w d:α} {a:Nat} (h0:0 < a) (ha:a≤s.length):(shf s w a).set a (s.getD (a - 1) d)=shf s w (a - 1):=by
  obtain ⟨b,rfl⟩:∃ b,a=b+1:=⟨a - 1,by omega⟩
  obtain ⟨p,q,rfl,hp⟩:=split_at (s:=s) (a:=b) (by omega)
  obtain ⟨x,q,rfl⟩:∃ x q',q=x::q':=by
    cases q with
    | nil=>simp at ha;omega
    | cons x q=>exact ⟨x,q,rfl⟩
  subst hp
  obtain ⟨h,e,_⟩:=shf_parts (p:=p++[x]) (q:=q) (w:=w)
  rw [List.append_assoc,List.length_append] at e
  have e:shf (p++x::q) w (p.length+1)=p++[x]++h::q:=e
  obtain ⟨h2,e2,k⟩:=shf_parts (p:=p) (q:=x::q) (w:=w)
  have k:[x]=[h2]:=k
  cases k
  have g:(p++x::q).getD (p.length+1 - 1) d=x:=by rw [List.getD_eq_getElem?_getD];simp
  rw [e,g,show p.length+1 - 1=p.length from rfl,e2,List.set_append_right _ _ (by simp),List.length_append]
  simp
end Go.EA
end
