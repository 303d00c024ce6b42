/- What is encoded is decoded, and the other way round. Conditions: none. -/
import Derived.Test.YtpgjilomblpcpaaDoorEBits
set_option linter.unusedVariables false
set_option linter.unusedSimpArgs false
namespace Go.EA
theorem runes_enc {r:Int} (hv:Utf8.valid r=true) (X:List UInt8):runes (encB r++X)=(r,true)::runes X:=by
 have hn:(encB r).length<=(encB r++X).length:=by rw [zL];omega
 obtain ⟨h1,h2,h3⟩:=dec_hit (s:=encB r++X) hv hn (by rw [List.take_left])
 rw [runes_cons h1,h2,h3]
 have:=valid_iff.1 hv
 dsimp only
 rw [List.drop_left]
 congr 2
 omega
theorem encL_cons (r:Int) (l:List Int):encL (r::l)=encB r++encL l:=rfl
theorem enc_runes:∀ (n:Nat) (s:List UInt8),s.length<=n->decOk s=true->encL ((runes s).map (·.1))=s/\((runes s).map (·.1)).all Utf8.valid=true
 | n,[],_,_=>⟨rfl,rfl⟩
 | 0,x::s,h,_=>by simp at h
 | n+1,x::s,h,hk=>by
   have hne:=List.cons_ne_nil x s
   generalize x::s=t at *
   rw [decOk_cons hne,zH] at hk
   have hw:=dec_width hne
   obtain ⟨e1,e2⟩:=enc_runes n (t.drop (dec t).2) (by rw [List.length_drop];omega) hk.2
   obtain ⟨f1,f2⟩:=enc_dec hne hk.1
   rw [runes_cons hne,zK]
   refine ⟨?_,?_⟩
   ·rw [encL_cons,e1]
    show encB ((dec t).1:Int)++_=t
    rw [f2,List.take_append_drop]
   ·rw [List.all_cons,e2]
    show (Utf8.valid ((dec t).1:Int)&&true)=true
    rw [f1];rfl
end Go.EA
