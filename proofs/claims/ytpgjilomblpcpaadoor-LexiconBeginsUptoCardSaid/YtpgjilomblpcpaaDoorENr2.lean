/- Layer 9, plain: where words stand. Conditions: none. -/
import Derived.Test.YtpgjilomblpcpaaDoorENrm
set_option linter.unusedVariables false
set_option linter.unusedSimpArgs false
namespace Go.EA
open F
def preB (a b:List UInt8):Bool:=decide (b.length≤a.length∧a.take b.length=b)
def posN (l:List Wd) (s:List UInt8):Nat:=(l.takeWhile fun w=>sless w.1 s).length
def posW (l:List Wd) (s:List UInt8):Int:=posN l s
def isW (l:List Wd) (s:List UInt8):Bool:=decide (posN l s < l.length∧(l.getD (posN l s) ([],0)).1=s)
def begA (l:List Wd) (s:List UInt8):Int:=if isE l=0 then posN l s else 0
def endN (l:List Wd) (s:List UInt8):Nat:=posN l s+((l.drop (posN l s)).takeWhile fun w=>preB w.1 s).length
def begB (l:List Wd) (s:List UInt8):Int:=if isE l=0 then endN l s else 0
theorem tw_len {α:Type} {p:α→Bool} {d:α}:∀ {l:List α} {a:Nat},a≤l.length→(∀ k,k < a→p (l.getD k d)=true)→(a < l.length→p (l.getD a d)=false)→(l.takeWhile p).length=a
  | [],0,_,_,_=>rfl
  | [],a+1,h,_,_=>absurd h (by simp)
  | x::l,0,_,_,h=>by rw [List.takeWhile_cons,show p x=false from h (Nat.succ_pos _)];rfl
  | x::l,a+1,h,hk,hn=>by
    rw [List.takeWhile_cons,show p x=true from hk 0 (Nat.succ_pos a),if_pos rfl,List.length_cons,tw_len (l:=l) (a:=a) (d:=d) (Nat.le_of_succ_le_succ h) (fun k h1=>hk (k+1) (Nat.succ_lt_succ h1)) fun h1=>hn (Nat.succ_lt_succ h1)]
theorem tw_spec {α:Type} (p:α→Bool) (d:α):∀ (l:List α),(l.takeWhile p).length≤l.length∧(∀ k,k < (l.takeWhile p).length→p (l.getD k d)=true)∧((l.takeWhile p).length < l.length→p (l.getD (l.takeWhile p).length d)=false)
  | []=>⟨Nat.le_refl _,fun _ h=>absurd h (Nat.not_lt_zero _),fun h=>absurd h (Nat.lt_irrefl _)⟩
  | x::l=>by
    obtain ⟨h1,h2,h3⟩:=tw_spec p d l
    rw [List.takeWhile_cons]
    cases hx:p x with
    | false=>exact ⟨Nat.zero_le _,fun _ h=>absurd h (Nat.not_lt_zero _),fun _=>hx⟩
    | true=>
      rw [if_pos rfl,List.length_cons]
      refine ⟨Nat.succ_le_succ h1,fun k hk=>?_,fun h=>h3 (Nat.lt_of_succ_lt_succ h)⟩
      cases k with
      | zero=>exact hx
      | succ k=>exact h2 k (Nat.lt_of_succ_lt_succ hk)
theorem posN_le (l:List Wd) (s:List UInt8):posN l s≤l.length:=(tw_spec _ ([],0) l).1
theorem posN_lt {l:List Wd} {s:List UInt8} {k:Nat} (h:k < posN l s):sless (l.getD k ([],0)).1 s=true:=(tw_spec (fun w:Wd=>sless w.1 s) ([],0) l).2.1 k h
theorem posN_at {l:List Wd} {s:List UInt8} (h:posN l s < l.length):sless (l.getD (posN l s) ([],0)).1 s=false:=(tw_spec (fun w:Wd=>sless w.1 s) ([],0) l).2.2 h
theorem posN_ge {l:List Wd} {s:List UInt8} (hr:RisP l) {k:Nat} (h:posN l s≤k) (hk:k < l.length):sless (l.getD k ([],0)).1 s=false:=by
  have h0:=posN_at (l:=l) (s:=s) (by omega)
  rcases Nat.lt_or_eq_of_le h with h1 | h1
  · cases hx:sless (l.getD k ([],0)).1 s with
    | false=>rfl
    | true=>rw [sl_trans (hr.at h1 hk) hx] at h0;cases h0
  · rw [← h1];exact h0
theorem posN_eq {l:List Wd} {s:List UInt8} {a:Nat} (h:a≤l.length) (hk:∀ k,k < a→sless (l.getD k ([],0)).1 s=true) (hn:a < l.length→sless (l.getD a ([],0)).1 s=false):posN l s=a:=
  tw_len (p:=fun w:Wd=>sless w.1 s) (d:=([],0)) h hk hn
theorem endN_eq {l:List Wd} {s:List UInt8} {i:Nat} (h0:posN l s≤i) (hi:i≤l.length) (hk:∀ j,posN l s≤j→j < i→preB (l.getD j ([],0)).1 s=true) (hn:i < l.length→preB (l.getD i ([],0)).1 s=false):endN l s=i:=by
  have hd:∀ k,(l.drop (posN l s)).getD k ([],0)=l.getD (posN l s+k) ([],0):=fun k=>by
    rw [List.getD_eq_getElem?_getD,List.getD_eq_getElem?_getD,List.getElem?_drop]
  have:=tw_len (p:=fun w:Wd=>preB w.1 s) (d:=([],0)) (l:=l.drop (posN l s)) (a:=i - posN l s) (by rw [List.length_drop];omega) (fun k h1=>by rw [hd];exact hk _ (by omega) (by omega)) (fun h1=>by
    rw [List.length_drop] at h1
    rw [hd,show posN l s+(i - posN l s)=i by omega];exact hn (by omega))
  unfold endN
  rw [this];omega
theorem beg_of {l:List Wd} {s:List UInt8} {i:Nat} (he:isE l=0) (h:endN l s=i):posW l s=begA l s∧(i:Int)=begB l s∧0=isE l:=by
  unfold begA begB posW
  rw [if_pos he,if_pos he,h]
  exact ⟨rfl,rfl,he.symm⟩
theorem beg_bad {l:List Wd} {s:List UInt8} (he:¬ isE l=0):0=begA l s∧0=begB l s:=by
  unfold begA begB
  rw [if_neg he,if_neg he]
  exact ⟨rfl,rfl⟩
theorem pre_step {l:List Wd} {s:List UInt8} {a i:Nat} (h:∀ j,a≤j→j < i→preB (l.getD j ([],0)).1 s=true) (hi:preB (l.getD i ([],0)).1 s=true):∀ j,a≤j→j < i+1→preB (l.getD j ([],0)).1 s=true:=fun j h1 h2=>by
  rcases Nat.lt_succ_iff_lt_or_eq.1 h2 with h3 | rfl
  · exact h j h1 h3
  · exact hi
theorem cut_take (a b:List UInt8):cutR a none (some (b.length:Int))=a.take b.length:=by
  unfold cutR
  simp
theorem pre_yes {a b:List UInt8} (h:(b.length:Int)≤a.length):decide (cutR a none (some (b.length:Int))=b)=preB a b:=by
  rw [cut_take]
  exact decide_eq_decide.2 ⟨fun e=>⟨by omega,e⟩,fun e=>e.2⟩
theorem pre_no {a b:List UInt8} (h:¬ (b.length:Int)≤a.length):false=preB a b:=by
  unfold preB
  rw [decide_eq_false]
  rintro ⟨h1,_⟩
  omega
theorem cmp_zero {a b:List UInt8} (h:cmpS a b=0):a=b:=by
  unfold cmpS at h
  split at h
  · cases h
  · split at h
    · assumption
    · cases h
end Go.EA
