/- Layer 9, plain: those that begin so stand together. Conditions: none. -/
import Derived.Test.YtpgjilomblpcpaaDoorENr2
set_option linter.unusedVariables false
set_option linter.unusedSimpArgs false
namespace Go.EA
open F
theorem insW_at {w:Wd}:∀ {o:List Wd} {n:Nat},(∀ j,j < n→sless (o.getD j ([],0)).1 w.1=true)→n < o.length→(o.getD n ([],0)).1=w.1→insW w o=o.set n ((o.getD n ([],0)).1,min 1073741824 ((o.getD n ([],0)).2+w.2))
  | [],_,_,h,_=>absurd h (Nat.not_lt_zero _)
  | x::o,0,_,_,e=>by
    have e:x.1=w.1:=e
    rw [insW,if_neg (by rw [e,sl_irr];decide),if_pos e]
    rfl
  | x::o,n+1,hj,hn,e=>by
    rw [insW,if_pos (show sless x.1 w.1=true from hj 0 (Nat.succ_pos n)),insW_at (o:=o) (n:=n) (fun j h=>hj (j+1) (Nat.succ_lt_succ h)) (Nat.lt_of_succ_lt_succ hn) e]
    rfl
theorem insW_in {w:Wd}:∀ {o:List Wd} {n:Nat},(∀ j,j < n→sless (o.getD j ([],0)).1 w.1=true)→n≤o.length→(n < o.length→sless (o.getD n ([],0)).1 w.1=false∧(o.getD n ([],0)).1≠w.1)→insW w o=o.take n++[w]++o.drop n
  | [],n,_,h,_=>by
    have:n=0:=by simpa using h
    subst this;rfl
  | x::o,0,_,_,e=>by
    obtain ⟨e1,e2⟩:=e (Nat.succ_pos _)
    have e1:sless x.1 w.1=false:=e1
    have e2:x.1≠w.1:=e2
    rw [insW,if_neg (by rw [e1];decide),if_neg e2]
    rfl
  | x::o,n+1,hj,hn,e=>by
    rw [insW,if_pos (show sless x.1 w.1=true from hj 0 (Nat.succ_pos n)),insW_in (o:=o) (n:=n) (fun j h=>hj (j+1) (Nat.succ_lt_succ h)) (Nat.le_of_succ_le_succ hn) fun h=>e (Nat.succ_lt_succ h)]
    rfl
theorem norm_more {l:List Wd} {i:Nat} (hi:i < l.length):normV (l.take (i+1))=insW (l.getD i ([],0)) (normV (l.take i)):=by
  rw [List.take_add_one,List.getElem?_eq_getElem hi,Option.toList_some,← getD_lt hi,normV_snoc]
end Go.EA
