/- Functions of Go's library by the shelf's contracts: DecodeRuneInString, ValidString, RuneCountInString, strings.Compare. Conditions: none. -/
import Derived.Test.YtmfjbaepgfdfpaaDoorEMean6
import Derived.Test.YtmfjbaepgfdfpaaDoorEValid
import Derived.Test.YtmfjbaepgfdfpaaDoorEK9
import Derived.Test.YtmfjbaepgfdfpaaDoorEOrder
import Derived.Lib.RuneCount
import Derived.Shelf.Unicode.ValidAny
set_option linter.unusedVariables false
set_option linter.unusedSimpArgs false
namespace Go.EA
open Go.RowKit
def P38:List UInt8→List SV:=fun s=>[.one (.str s)]
def R38:List UInt8→SV×List Prop:=fun s=>(.one (.bool (decOk s)),[s.length≤4611686018427387904])
noncomputable def G38:GP:=conG P38 R38
def R43:List UInt8→SV×List Prop:=fun s=>(.one (.int .i64 (runes s).length),[s.length≤4611686018427387904])
def K43:Con:=⟨true,[none],fun xs=>match xs with | [.one (.str s)]=>some (R43 s) | _=>none⟩
noncomputable def G43:GP:=conG P38 R43
theorem P38_inj:∀ a b,(P38 a).map den0=(P38 b).map den0→a=b:=by
  rintro a0 b0 h
  simp only [P38,List.map_cons,List.map_nil,den0,den0L,List.cons.injEq,AV.one.injEq,Lf.str.injEq,and_true] at h
  exact h
theorem K43_ok:ConG G43 K43:=conG_of P38_inj (fun _ _=>rfl) (fun _=>rfl) fun xs r h=>by
  simp only [K43] at h
  split at h
  · cases h;rename_i s;exact ⟨s,rfl,rfl⟩
  · cases h
theorem decode_drop (s:List UInt8) (i:Nat):Utf8.decode ⟨s.toArray⟩ i=Utf8.decode ⟨(s.drop i).toArray⟩ 0:=by
  have hg:∀ k,(ByteArray.mk s.toArray).get! (i+k)=(ByteArray.mk (s.drop i).toArray).get! (0+k):=fun k=>by
    show s.toArray.getD (i+k) default=(s.drop i).toArray.getD (0+k) default
    simp [Array.getD_eq_getD_getElem?]
  have hs:∀ k,decide (i+k < (ByteArray.mk s.toArray).size)=decide (0+k < (ByteArray.mk (s.drop i).toArray).size):=fun k=>by
    show decide (i+k < s.toArray.size)=decide (0+k < (s.drop i).toArray.size)
    rw [decide_eq_decide];simp;omega
  unfold Utf8.decode
  simp only [hg,hs]
theorem decode_dec {s:List UInt8} {i:Nat} (h:i < s.length):Utf8.decode ⟨s.toArray⟩ i=dec (s.drop i):=by
  unfold dec
  rw [if_neg (by simp;omega),decode_drop]
theorem count_from (s:List UInt8):∀ (n i:Nat),s.length - i≤n→Lib.runeCountFrom ⟨s.toArray⟩ n i=(runes (s.drop i)).length
  | 0,i,h=>by
    rw [List.drop_eq_nil_of_le (by omega),runes_nil];rfl
  | n+1,i,h=>by
    unfold Lib.runeCountFrom
    by_cases hi:i < s.length
    · rw [if_pos (show i < (ByteArray.mk s.toArray).size from by show i < s.toArray.size;simpa using hi),decode_dec hi]
      have hne:s.drop i≠[]:=by rw [Ne,List.drop_eq_nil_iff];omega
      have hw:=dec_width hne
      rw [count_from s n _ (by omega),runes_cons hne,List.length_cons,List.drop_drop];omega
    · rw [if_neg (show ¬ i < (ByteArray.mk s.toArray).size from by show ¬ i < s.toArray.size;simpa using hi),List.drop_eq_nil_of_le (by omega),runes_nil];rfl
theorem count_runes (s:List UInt8):Lib.runeCount ⟨s.toArray⟩=(runes s).length:=count_from s _ 0 (by show s.length - 0≤s.toArray.size;simp)
theorem str_args {S:SC} {ρ:Rho} {n:Nat} {s:List UInt8} {vs:List Value} (h:All2 (VRel S ρ n) [.one (.str s)] vs):vs=[.string ⟨s.toArray⟩]:=by
  obtain ⟨u,us,rfl,hu,ht⟩:=h.cons_inv
  obtain rfl:=ht.nil_inv
  have hu:u=.string ⟨s.toArray⟩:=hu
  rw [hu]
theorem pr_str {S:SC} {i:Nat} (hent:∀ args w,(callFunc (S.re i) args).run S.C.P w=.ok (.enter (S.re i) args) w) {res:List UInt8→SV×List Prop} {val:List UInt8→Value}
    (hv:∀ s ρ n,VRel S ρ n (den0 (res s).1) (val s)) (h:∀ s,AllT (res s).2→∀ H ρ w,HRel S H ρ w→Calls S.C.P (S.re i) #[.string ⟨s.toArray⟩] w fun e w'=>e=.returned (val s)∧Below w.heap.size w w'):PrOk S i (pureP (conG P38 res)):=by
  refine prOk_below hent _ fun xs v c hg hc H ρ w vs hvs hH=>?_
  unfold conG relG at hg
  split at hg
  · rename_i hx
    have hp:=hx.choose_spec
    generalize hx.choose=s at hg hp
    simp only [Option.some.injEq,Prod.mk.injEq] at hg
    obtain ⟨rfl,rfl⟩:=hg
    subst hp
    rw [str_args hvs]
    exact Calls.mono (h s hc H ρ w hH) fun e w' hh=>⟨_,hh.1,hv s _ _,hh.2⟩
  · cases hg
theorem pr38 {S:SC} {P:Program} {i:Nat} (hP:S.C.P=P) (hent:∀ args w,(callFunc (S.re i) args).run S.C.P w=.ok (.enter (S.re i) args) w) {ρl:Shelf.Ren} (hf:ρl.f 196=S.re i) (L:Proofs.Lays.n196 S.C.P ρl) (hT:∀ H ρ w,HRel S H ρ w→Lib.Utf8Tabs (ρl.g 3) (ρl.g 4) w):PrOk S i (pureP G38):=by
  refine pr_str hent (val:=fun s=>.bool (Lib.validD s)) (fun s ρ n=>by show Value.bool _=.bool _;rw [validD_dec]) fun s hc H ρ w hH=>?_
  rw [← hf]
  exact Proofs.Any.utf8_ValidString L ⟨s.toArray⟩ w (by have:=hc.1;show s.toArray.size≤_;simp;omega) (hT H ρ w hH)
theorem pr43 {S:SC} {i:Nat} (hent:∀ args w,(callFunc (S.re i) args).run S.C.P w=.ok (.enter (S.re i) args) w)
    (L:∀ (s:ByteArray) (w:World),s.size < 9223372036854775807→Calls S.C.P (S.re i) #[.string s] w fun e w'=>e=.returned (.int .i64 (Lib.runeCount s))∧∃ pos,w'=w.iter s pos):PrOk S i (pureP G43):=by
  refine pr_str hent (val:=fun s=>.int .i64 (Lib.runeCount ⟨s.toArray⟩)) (fun s ρ n=>by show Value.int _ _=.int _ _;rw [count_runes]) fun s hc H ρ w hH=>?_
  refine Calls.mono (L ⟨s.toArray⟩ w (by have:=hc.1;show s.toArray.size < _;simp;omega)) ?_
  rintro e w' ⟨rfl,pos,rfl⟩
  exact ⟨rfl,(Below.refl _ w).alloc (Nat.le_refl _) _⟩
end Go.EA
