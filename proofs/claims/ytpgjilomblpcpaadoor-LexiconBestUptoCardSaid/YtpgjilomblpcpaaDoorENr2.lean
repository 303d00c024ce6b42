/- Layer 9, plain: where words stand. Conditions: none. -/
import Derived.Test.YtpgjilomblpcpaaDoorENrm
set_option linter.unusedVariables false
set_option linter.unusedSimpArgs false
namespace Go.EA
open F
def preB (a b:List UInt8):Bool:=decide (b.length≤a.length∧a.take b.length=b)
def posN (l:List Wd) (s:List UInt8):Nat:=(l.takeWhile fun w=>sless w.1 s).length
def posW (l:List Wd) (s:List UInt8):Int:=posN l s
def isW (l:List Wd) (s:List UInt8):Bool:=decide (posN l s < l.length∧(l.getD (posN l s) ([],0)).1=s)
def fndV (l:List Wd) (s:List UInt8):Int:=if isE l=0 then ((l.find? fun w=>decide (w.1=s)).map (·.2)).getD 0 else 0
def fndE (l:List Wd) (s:List UInt8):Int:=if isE l=0 then (if (l.find? fun w=>decide (w.1=s)).isSome then 0 else 10) else isE l
def endN (l:List Wd) (s:List UInt8):Nat:=posN l s+((l.drop (posN l s)).takeWhile fun w=>preB w.1 s).length
theorem tw_len {α:Type} {p:α→Bool} {d:α}:∀ {l:List α} {a:Nat},a≤l.length→(∀ k,k < a→p (l.getD k d)=true)→(a < l.length→p (l.getD a d)=false)→(l.takeWhile p).length=a
  | [],0,_,_,_=>rfl
  | [],a+1,h,_,_=>absurd h (by simp)
  | x::l,0,_,_,h=>by rw [List.takeWhile_cons,show p x=false from h (Nat.succ_pos _)];rfl
  | x::l,a+1,h,hk,hn=>by
    rw [List.takeWhile_cons,show p x=true from hk 0 (Nat.succ_pos a),if_pos rfl,List.length_cons,tw_len (l:=l) (a:=a) (d:=d) (Nat.le_of_succ_le_succ h) (fun k h1=>hk (k+1) (Nat.succ_lt_succ h1)) fun h1=>hn (Nat.succ_lt_succ h1)]
theorem tw_spec {α:Type} (p:α→Bool) (d:α):∀ (l:List α),(l.takeWhile p).length≤l.length∧(∀ k,k < (l.takeWhile p).length→p (l.getD k d)=true)∧((l.takeWhile p).length < l.length→p (l.getD (l.takeWhile p).length d)=false)
  | []=>⟨Nat.le_refl _,fun _ h=>absurd h (Nat.not_lt_zero _),fun h=>absurd h (Nat.lt_irrefl _)⟩
  | x::l=>by
    obtain ⟨h1,h2,h3⟩:=tw_spec p d l
    rw [List.takeWhile_cons]
    cases hx:p x with
    | false=>exact ⟨Nat.zero_le _,fun _ h=>absurd h (Nat.not_lt_zero _),fun _=>hx⟩
    | true=>
      rw [if_pos rfl,List.length_cons]
      refine ⟨Nat.succ_le_succ h1,fun k hk=>?_,fun h=>h3 (Nat.lt_of_succ_lt_succ h)⟩
      cases k with
      | zero=>exact hx
      | succ k=>exact h2 k (Nat.lt_of_succ_lt_succ hk)
theorem posN_lt {l:List Wd} {s:List UInt8} {k:Nat} (h:k < posN l s):sless (l.getD k ([],0)).1 s=true:=(tw_spec (fun w:Wd=>sless w.1 s) ([],0) l).2.1 k h
theorem posN_at {l:List Wd} {s:List UInt8} (h:posN l s < l.length):sless (l.getD (posN l s) ([],0)).1 s=false:=(tw_spec (fun w:Wd=>sless w.1 s) ([],0) l).2.2 h
theorem posN_eq {l:List Wd} {s:List UInt8} {a:Nat} (h:a≤l.length) (hk:∀ k,k < a→sless (l.getD k ([],0)).1 s=true) (hn:a < l.length→sless (l.getD a ([],0)).1 s=false):posN l s=a:=
  tw_len (p:=fun w:Wd=>sless w.1 s) (d:=([],0)) h hk hn
theorem find_hit {l:List Wd} {s:List UInt8} {i:Nat} (hi:i < l.length) (hn:∀ j,j < i→(l.getD j ([],0)).1≠s) (h:(l.getD i ([],0)).1=s):l.find? (fun w=>decide (w.1=s))=some (l.getD i ([],0)):=by
  rw [List.find?_eq_some_iff_getElem]
  refine ⟨by simpa using h,i,hi,(getD_lt hi).symm,fun j hj=>?_⟩
  have:=hn j hj
  rw [getD_lt (by omega)] at this
  simpa using this
theorem find_no {l:List Wd} {s:List UInt8} (hn:∀ j,j < l.length→(l.getD j ([],0)).1≠s):l.find? (fun w=>decide (w.1=s))=none:=by
  rw [List.find?_eq_none]
  intro w hw
  obtain ⟨j,hj,rfl⟩:=List.mem_iff_getElem.1 hw
  have:=hn j hj
  rw [getD_lt hj] at this
  simpa using this
theorem find_is {l:List Wd} {s:List UInt8} (h:isW l s=true):posN l s < l.length∧l.find? (fun w=>decide (w.1=s))=some (l.getD (posN l s) ([],0)):=by
  have h:=of_decide_eq_true h
  exact ⟨h.1,find_hit h.1 (fun j hj=>sl_ne (posN_lt hj)) h.2⟩
theorem find_not {l:List Wd} {s:List UInt8} (hr:RisP l) (h:isW l s=false):l.find? (fun w=>decide (w.1=s))=none:=by
  have h:=of_decide_eq_false h
  refine find_no fun j hj=>?_
  rcases Nat.lt_or_ge j (posN l s) with h1 | h1
  · exact sl_ne (posN_lt h1)
  · have h2:(l.getD (posN l s) ([],0)).1≠s:=fun e=>h ⟨by omega,e⟩
    have h3:=posN_at (l:=l) (s:=s) (by omega)
    have h4:sless s (l.getD (posN l s) ([],0)).1=true:=by
      rcases sl_tot s (l.getD (posN l s) ([],0)).1 with e | e | e
      · exact e
      · exact absurd e.symm h2
      · rw [h3] at e;cases e
    rcases Nat.lt_or_eq_of_le h1 with h5 | h5
    · exact fun e=>sl_ne (sl_trans h4 (hr.at h5 hj)) e.symm
    · rw [← h5];exact h2
theorem fnd_not {l:List Wd} {s:List UInt8} (he:isE l=0) (h:(!isW l s)=true):0=fndV l s∧10=fndE l s:=by
  have:=find_not (isE_zero.1 he).2.1 (s:=s) (by simpa using h)
  unfold fndV fndE
  rw [if_pos he,if_pos he,this]
  exact ⟨rfl,rfl⟩
theorem fnd_of {l:List Wd} {s:List UInt8} {w:Wd} (he:isE l=0) (h:l.find? (fun w=>decide (w.1=s))=some w):w.2=fndV l s∧0=fndE l s:=by
  unfold fndV fndE
  rw [if_pos he,if_pos he,h]
  exact ⟨rfl,rfl⟩
theorem fnd_bad {l:List Wd} {s:List UInt8} (he:¬ isE l=0):0=fndV l s∧isE l=fndE l s:=by
  unfold fndV fndE
  rw [if_neg he,if_neg he]
  exact ⟨rfl,rfl⟩
theorem cmp_zero {a b:List UInt8} (h:cmpS a b=0):a=b:=by
  unfold cmpS at h
  split at h
  · cases h
  · split at h
    · assumption
    · cases h
end Go.EA
