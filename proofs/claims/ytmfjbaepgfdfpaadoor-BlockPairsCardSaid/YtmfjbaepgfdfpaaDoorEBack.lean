/- What is encoded is decoded, and the other way round. Conditions: none. -/
import Derived.Test.YtmfjbaepgfdfpaaDoorEBits
set_option linter.unusedVariables false
set_option linter.unusedSimpArgs false
namespace Go.EA
theorem runes_enc {r:Int} (hv:Utf8.valid r=true) (X:List UInt8):runes (encB r++X)=(r,true)::runes X:=by
  have hn:(encB r).length≤(encB r++X).length:=by rw [List.length_append];omega
  obtain ⟨h1,h2,h3⟩:=dec_hit (s:=encB r++X) hv hn (by rw [List.take_left])
  rw [runes_cons h1,h2,h3]
  have:=valid_iff.1 hv
  dsimp only
  rw [List.drop_left]
  congr 2
  omega
theorem encL_cons (r:Int) (l:List Int):encL (r::l)=encB r++encL l:=rfl
theorem runes_encL:∀ (l:List Int),l.all Utf8.valid=true→runes (encL l)=l.map fun r=>(r,true)
  | [],_=>rfl
  | r::l,h=>by
    rw [List.all_cons,Bool.and_eq_true] at h
    rw [encL_cons,runes_enc h.1,runes_encL l h.2]
    rfl
theorem dec_encL {l:List Int} (h:l.all Utf8.valid=true):decR (encL l)=l∧decE (encL l)=0∧decOk (encL l)=true:=by
  have hk:decOk (encL l)=true:=by
    unfold decOk
    rw [runes_encL l h]
    simp
  refine ⟨?_,?_,hk⟩
  · unfold decR
    rw [if_pos hk,runes_encL l h]
    simp [Function.comp_def]
  · unfold decE
    rw [if_pos hk]
theorem enc_runes:∀ (n:Nat) (s:List UInt8),s.length≤n→decOk s=true→encL ((runes s).map (·.1))=s∧((runes s).map (·.1)).all Utf8.valid=true
  | n,[],_,_=>⟨rfl,rfl⟩
  | 0,x::s,h,_=>by simp at h
  | n+1,x::s,h,hk=>by
    have hne:=List.cons_ne_nil x s
    generalize x::s=t at *
    rw [decOk_cons hne,Bool.and_eq_true] at hk
    have hw:=dec_width hne
    obtain ⟨e1,e2⟩:=enc_runes n (t.drop (dec t).2) (by rw [List.length_drop];omega) hk.2
    obtain ⟨f1,f2⟩:=enc_dec hne hk.1
    rw [runes_cons hne,List.map_cons]
    refine ⟨?_,?_⟩
    · rw [encL_cons,e1]
      show encB ((dec t).1:Int)++_=t
      rw [f2,List.take_append_drop]
    · rw [List.all_cons,e2]
      show (Utf8.valid ((dec t).1:Int)&&true)=true
      rw [f1];rfl
end Go.EA
