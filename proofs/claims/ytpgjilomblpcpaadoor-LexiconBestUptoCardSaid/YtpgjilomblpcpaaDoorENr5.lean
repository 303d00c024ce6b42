/- Layer 9, plain: the most frequent words, each once, ever less frequent. Conditions: none. -/
import Derived.Test.YtpgjilomblpcpaaDoorENr4
set_option linter.unusedVariables false
set_option linter.unusedSimpArgs false
namespace Go.EA
open F
def metW (l:List Wd):List (List UInt8×Bool):=l.foldl (fun m w=>Ty.mput .str m w.1 true) []
theorem mget_put (q s:List UInt8) (v:Bool):∀ (es:List (List UInt8×Bool)),Ty.mget .str (Ty.mput .str es q v) s=if q=s then some v else Ty.mget .str es s
  | []=>by
    show (match decide (q=s) with | true=>some v | false=>none)=if q=s then some v else none
    by_cases h:q=s <;> simp [h]
  | (a,b)::es=>by
    have ih:=mget_put q s v es
    show Ty.mget .str (match decide (a=q) with | true=>(q,v)::es | false=>(a,b)::Ty.mput .str es q v) s=_
    by_cases h:a=q
    · subst h
      rw [decide_eq_true rfl]
      show (match decide (a=s) with | true=>some v | false=>Ty.mget .str es s)=if a=s then some v else (match decide (a=s) with | true=>some b | false=>Ty.mget .str es s)
      by_cases h2:a=s <;> simp [h2]
    · rw [decide_eq_false h]
      show (match decide (a=s) with | true=>some b | false=>Ty.mget .str (Ty.mput .str es q v) s)=if q=s then some v else (match decide (a=s) with | true=>some b | false=>Ty.mget .str es s)
      by_cases h2:a=s
      · subst h2
        simp [Ne.symm h]
      · simp only [decide_eq_false h2]
        exact ih
theorem met_get (s:List UInt8) (m:List Wd):((Ty.mget .str (metW m) s).getD false=true)↔∃ w∈m,w.1=s:=by
  have key:∀ (m:List Wd) (es:List (List UInt8×Bool)),((Ty.mget .str (m.foldl (fun m w=>Ty.mput .str m w.1 true) es) s).getD false=true)↔((Ty.mget .str es s).getD false=true)∨∃ w∈m,w.1=s:=by
    intro m
    induction m with
    | nil=>intro es;simp
    | cons w m ih=>
      intro es
      rw [List.foldl_cons,ih,mget_put]
      by_cases h:w.1=s
      · simp [h]
      · simp [h]
  have:=key m []
  rw [show (Ty.mget .str ([]:List (List UInt8×Bool)) s)=none from rfl] at this
  unfold metW
  simpa using this
theorem met_step {b:List Wd} {i:Nat} (h:i < b.length):Ty.mput .str (metW (b.take i)) (b.getD i ([],0)).1 true=metW (b.take (i+1)):=by
  rw [List.take_add_one,List.getElem?_eq_getElem h,Option.toList_some,← getD_lt h]
  unfold metW
  rw [List.foldl_append]
  rfl
theorem srt_key {a:List Wd} (hr:RisP a) {p q:Nat} (hpq:p < q) (hq:q < (srtB a).length):((srtB a).getD p ([],0)).1≠((srtB a).getD q ([],0)).1:=by
  have h1:(a.map (·.1)).Nodup:=by
    refine List.pairwise_map.2 (hr.imp fun h=>sl_ne h)
  have h2:((srtB a).map (·.1)).Nodup:=((srtB_perm a).map _).nodup_iff.2 h1
  have h3:=List.pairwise_iff_getElem.1 h2 p q (by simpa using Nat.lt_trans hpq hq) (by simpa using hq) hpq
  rw [getD_lt (Nat.lt_trans hpq hq),getD_lt hq]
  simpa using h3
theorem srt_lt {a:List Wd} (hr:RisP a) {p q:Nat} (hpq:p < q) (hq:q < (srtB a).length):ltB ((srtB a).getD p ([],0)) ((srtB a).getD q ([],0))=true:=by
  have h1:=List.pairwise_iff_getElem.1 (srtB_pw a) p q (Nat.lt_trans hpq hq) hq hpq
  rw [← getD_lt (Nat.lt_trans hpq hq),← getD_lt hq] at h1
  cases h:ltB ((srtB a).getD p ([],0)) ((srtB a).getD q ([],0)) with
  | true=>rfl
  | false=>
    have:=ltB_anti h (by simpa using h1)
    exact absurd (congrArg Prod.fst this) (srt_key hr hpq hq)
theorem fnd_mem {a:List Wd} (he:isE a=0) {w:Wd} (hw:w∈a):w.2=fndV a w.1∧0=fndE a w.1:=by
  obtain ⟨j,hj,rfl⟩:=List.mem_iff_getElem.1 hw
  have hr:=(isE_zero.1 he).2.1
  have:=find_hit (l:=a) (s:=a[j].1) hj (fun i hi=>by rw [← getD_lt hj];exact sl_ne (hr.at hi hj)) (by rw [getD_lt hj])
  rw [getD_lt hj] at this
  exact fnd_of he this
theorem srt_mem {a:List Wd} {n i:Nat} (hi:i < ((srtB a).take n).length):((srtB a).take n).getD i ([],0)∈a:=by
  rw [getD_lt hi]
  exact (srtB_perm a).mem_iff.1 (List.mem_of_mem_take (List.getElem_mem _))
theorem take_at {a:List Wd} {n i:Nat} (hi:i < (a.take n).length):(a.take n).getD i ([],0)=a.getD i ([],0):=by
  have h2:i < a.length:=by rw [List.length_take] at hi;omega
  rw [getD_lt hi,getD_lt h2];simp
theorem srt_out {a:List Wd} (hr:RisP a) {n:Nat} {w:Wd} (hw:w∈a) (ho:¬ ∃ x∈(srtB a).take n,x.1=w.1) (hn:0 < ((srtB a).take n).length):ltB (((srtB a).take n).getD (((srtB a).take n).length - 1) ([],0)) w=true:=by
  obtain ⟨q,hq,rfl⟩:=List.mem_iff_getElem.1 ((srtB_perm a).mem_iff.2 hw)
  have hnq:n≤q:=by
    rcases Nat.lt_or_ge q n with h | h
    · exact absurd ⟨_,List.mem_iff_getElem.2 ⟨q,by rw [List.length_take];omega,List.getElem_take ..⟩,rfl⟩ ho
    · exact h
  rw [take_at (by omega),← getD_lt hq]
  rw [List.length_take] at hn ⊢
  exact srt_lt hr (by omega) hq
end Go.EA
