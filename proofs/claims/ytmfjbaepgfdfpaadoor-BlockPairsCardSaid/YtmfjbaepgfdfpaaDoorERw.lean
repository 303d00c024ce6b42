/- Layer 5: the reference's rows of steps. Conditions: none. (Printed by a program of this project's own.) -/
import Derived.Test.YtmfjbaepgfdfpaaDoorEBl
import Derived.Test.YtmfjbaepgfdfpaaDoorELw31
import Derived.Test.YtmfjbaepgfdfpaaDoorEK9
import Derived.KernelRfl
set_option linter.unusedVariables false
set_option linter.unusedSimpArgs false
set_option maxRecDepth 100000
set_option maxHeartbeats 0
namespace Go.EA
open F
theorem runs_cons (s:Stp) (q:List Stp):runs' (s::q)=if nz s=true then (s::q.takeWhile nz)::runs' (q.dropWhile nz) else runs' q:=by
  show runsN (q.length+1) (s::q)=_
  simp only [runsN]
  split
  · rw [runsN_fuel q.length _ (List.dropWhile_sublist nz (l:=q)).length_le];rfl
  · rfl
def opn (l:List Stp) (p:Nat):Prop:=0 < p∧¬ (l.getD (p - 1) (0,0,0)).1=0
def Inv53 (l:List Stp) (p:Nat) (x:List (List Stp)×List Stp):Prop:=
  (opn l p→x.1≠[]∧x.1.set (x.1.length - 1) (x.2++(l.drop p).takeWhile nz)++runs' ((l.drop p).dropWhile nz)=runs' l) ∧
  (¬ opn l p→x.1.set (x.1.length - 1) x.2++runs' (l.drop p)=runs' l)
def Cut53 (l:List Stp) (p:Nat) (x:List (List Stp)×List Stp):Prop:=
  x.1≠[]∧x.1.set (x.1.length - 1) ((x.2++[l.getD p (0,0,0)])++(l.drop (p+1)).takeWhile nz)++runs' ((l.drop (p+1)).dropWhile nz)=runs' l
theorem nz_iff (s:Stp):nz s=true↔¬ s.1=0:=by unfold nz;simp
theorem drop_at {l:List Stp} {p:Nat} (hp:p < l.length):l.drop p=l.getD p (0,0,0)::l.drop (p+1):=by
  rw [List.drop_eq_getElem_cons hp,List.getD_eq_getElem?_getD,List.getElem?_eq_getElem hp];rfl
theorem inv53_len {l:List Stp} {p:Nat} {x:List (List Stp)×List Stp} (h:Inv53 l p x):x.1.length≤l.length:=by
  have hr:=runsN_len l.length l
  by_cases ho:opn l p
  · have:=congrArg List.length (h.1 ho).2
    rw [List.length_append,List.length_set] at this
    unfold runs' at *;omega
  · have:=congrArg List.length (h.2 ho)
    rw [List.length_append,List.length_set] at this
    unfold runs' at *;omega
theorem cut53_len {l:List Stp} {p:Nat} {x:List (List Stp)×List Stp} (h:Cut53 l p x):x.1.length≤l.length∧0 < x.1.length:=by
  have hr:=runsN_len l.length l
  have:=congrArg List.length h.2
  rw [List.length_append,List.length_set] at this
  refine ⟨by unfold runs' at *;omega,List.length_pos_iff.2 h.1⟩
theorem cut53_m {l:List Stp} {p:Nat} {x:List (List Stp)×List Stp} (h:Cut53 l p x):x.2.length≤l.length:=by
  have hm:((x.2++[l.getD p (0,0,0)])++(l.drop (p+1)).takeWhile nz)∈runs' l:=by
    rw [← h.2]
    refine List.mem_append_left _ (List.mem_of_getElem? (i:=x.1.length - 1) ?_)
    exact List.getElem?_set_self (by have:=List.length_pos_iff.2 h.1;omega)
  obtain ⟨_,_,a,b,e⟩:=(runs_spec l.length l (Nat.le_refl _)).2 _ hm
  have:=congrArg List.length e
  simp only [List.length_append] at this
  omega
theorem inv53_zero (l:List Stp):Inv53 l 0 ([],[]):=⟨fun h=>absurd h.1 (by omega),fun _=>rfl⟩
theorem inv53_match {l:List Stp} {p:Nat} {x:List (List Stp)×List Stp} (h:Inv53 l p x) (hp:p < l.length) (hs:(l.getD p (0,0,0)).1=0):Inv53 l (p+1) x:=by
  have hn:nz (l.getD p (0,0,0))=false:=by rw [Bool.eq_false_iff];intro e;exact (nz_iff _).1 e hs
  refine ⟨fun ho=>absurd hs ho.2,fun _=>?_⟩
  by_cases ho:opn l p
  · have h1:=(h.1 ho).2
    rw [drop_at hp,List.takeWhile_cons,List.dropWhile_cons,hn] at h1
    simp only [Bool.false_eq_true,if_false,List.append_nil] at h1
    rw [runs_cons,hn] at h1
    simpa using h1
  · have h1:=h.2 ho
    rw [drop_at hp,runs_cons,hn] at h1
    simpa using h1
theorem cut53_new {l:List Stp} {p:Nat} {x:List (List Stp)×List Stp} (h:Inv53 l p x) (hp:p < l.length) (hs:¬ (l.getD p (0,0,0)).1=0) (ho:¬ opn l p):Cut53 l p (x.1.set (x.1.length - 1) x.2++[[]],[]):=by
  have h1:=h.2 ho
  rw [drop_at hp,runs_cons,if_pos ((nz_iff _).2 hs)] at h1
  refine ⟨by simp,?_⟩
  dsimp only
  rw [List.length_append,List.length_singleton,Nat.add_sub_cancel,List.set_append_right _ _ (Nat.le_refl _),Nat.sub_self,List.set_cons_zero,← h1]
  simp
theorem cut53_more {l:List Stp} {p:Nat} {x:List (List Stp)×List Stp} (h:Inv53 l p x) (hp:p < l.length) (hs:¬ (l.getD p (0,0,0)).1=0) (ho:opn l p):Cut53 l p x:=by
  obtain ⟨h0,h1⟩:=h.1 ho
  have hn:=(nz_iff _).2 hs
  rw [drop_at hp,List.takeWhile_cons,List.dropWhile_cons,hn] at h1
  refine ⟨h0,?_⟩
  rw [List.append_assoc x.2]
  exact h1
theorem inv53_next {l:List Stp} {p:Nat} {x:List (List Stp)×List Stp} (h:Cut53 l p x) (hs:¬ (l.getD p (0,0,0)).1=0):Inv53 l (p+1) (x.1,x.2++[l.getD p (0,0,0)]):=
  ⟨fun _=>h,fun ho=>absurd ⟨Nat.succ_pos p,hs⟩ ho⟩
theorem inv53_end {l:List Stp} {p:Nat} {x:List (List Stp)×List Stp} (h:Inv53 l p x) (hp:l.length≤p):x.1.set (x.1.length - 1) x.2=runs' l:=by
  have hd:l.drop p=[]:=List.drop_of_length_le hp
  by_cases ho:opn l p
  · have h1:=(h.1 ho).2
    rw [hd] at h1
    simpa [runs',runsN] using h1
  · have h1:=h.2 ho
    rw [hd] at h1
    simpa [runs',runsN] using h1
def P253:(List (Int×Int×Int))→List SV:=fun l=>[.one (.row (.pair (.int .i64) (.pair (.int .i32) (.int .i32))) l)]
def R253:(List (Int×Int×Int))→SV×List Prop:=fun l=>(.one (.row (.row StpT) (runs' l)),[l.length≤1099511627776])
def K253:Con:=⟨false,[some (.pair (.int .i64) (.pair (.int .i32) (.int .i32)))],fun xs=>match xs with | [.one (.row (.pair (.int .i64) (.pair (.int .i32) (.int .i32))) l)]=>some (R253 l) | _=>none⟩
noncomputable def G253:GP:=conG P253 R253
theorem P253_inj:∀ a b,(P253 a).map den0=(P253 b).map den0→a=b:=by
  rintro a0 b0 h
  simp only [P253,List.map_cons,List.map_nil,den0,den0L,List.cons.injEq,AV.one.injEq,AV.agg.injEq,Lf.int.injEq,Lf.str.injEq,Lf.bool.injEq,Lf.vrow.injEq,and_true,true_and] at h
  exact row_inj h
theorem K253_ok:ConG G253 K253:=conG_of P253_inj (fun _ _=>rfl) (fun _=>rfl) fun xs r h=>by
  simp only [K253] at h
  split at h
  · cases h;rename_i l;exact ⟨l,rfl,rfl⟩
  · cases h
theorem pr253 {S:SC} (hB:SB S)  (h253:S.has 253 f253):PrOk S 253 (pureP G253):=by
  refine prM hB [] [] trivial trivial h253 (fun _=>⟨rfl,rfl,rfl⟩) (fun l=>fun f id T L=>match f,id with
      | 253,0=>some (.inv { x:Nat×List (List Stp)×List Stp // x.1≤l.length∧Inv53 l x.1 x.2 } (fun x=>([(9,.one (.int .i64 x.1.1)),(3,.one (.osl 0))],[(0,.rowh StpT x.1.2.1 (x.1.2.1.length - 1) (.osl 1)),(1,.row StpT x.1.2.2)])) (fun x=>l.length - x.1.1))
      | 253,1031=>match T.getD 9 .junk with | .one (.int .i64 p)=>some (.cut { x:List (List Stp)×List Stp // Cut53 l p.toNat x } (fun x=>([(3,.one (.osl 0)),(31,.one (.osl 0))],[(0,.rowh StpT x.1.1 (x.1.1.length - 1) (.osl 1)),(1,.row StpT x.1.2),(3,.dead)]))) | _=>none
      | 253,1045=>some (.cut Unit (fun _=>([(45,.one (.osl 0))],[(0,.row (.row StpT) (runs' l)),(1,.dead)])))
      | 253,2039=>some (.rnd 1)
      | _,_=>none) 1500 ?_
  rintro l hc
  have hc1:l.length≤1099511627776:=hc.1
  refine VC.use (p:=
    ((∃ x1:{ x:Nat×List (List Stp)×List Stp // x.fst≤l.length∧Inv53 l x.fst x.snd },
      ((l=l) ∧
      ((x1.val.snd.fst=[]) ∧
      ((l=l) ∧
      (((↑l.length:Int)=(↑l.length:Int)) ∧
      ((0=(↑x1.val.fst:Int)) ∧
      ((x1.val.snd.fst=[]) ∧
      (x1.val.snd.snd=[])))))))) ∧
    (∀ x1 : { x : Nat × List (List Stp) × List Stp // x.fst ≤ l.length ∧ Inv53 l x.fst x.snd },
     (((↑x1.val.fst:Int) < (↑l.length:Int) →
       ((0≤(↑x1.val.fst:Int)∧(↑x1.val.fst:Int) < (↑l.length:Int)) ∧
       (((l.getD x1.val.fst (0,0,0)).fst=0 →
         ((i64R ((↑x1.val.fst:Int)+1)) ∧
         (∃ x2 : { x : Nat × List (List Stp) × List Stp // x.fst ≤ l.length ∧ Inv53 l x.fst x.snd },
          ((l.length - x2.val.fst < l.length - x1.val.fst) ∧
          ((l=l) ∧
          ((l=l) ∧
          (((↑l.length:Int)=(↑l.length:Int)) ∧
          (((↑x1.val.fst:Int)+1=(↑x2.val.fst:Int)) ∧
          ((x1.val.snd.fst=x2.val.snd.fst) ∧
          ((x1.val.snd.fst.length - 1=x2.val.snd.fst.length - 1) ∧
          (x1.val.snd.snd=x2.val.snd.snd))))))))))) ∧
       (¬(l.getD x1.val.fst (0, 0, 0)).fst = 0 →
        (((↑x1.val.fst:Int)=0 →
          (((x1.val.snd.fst.length+1)*24≤140737488355328) ∧
          ((∃ x2:{ x:List (List Stp)×List Stp // Cut53 l x1.val.fst x },
            ((l=l) ∧
            ((l=l) ∧
            (((↑l.length:Int)=(↑l.length:Int)) ∧
            (((↑x1.val.fst:Int)=(↑x1.val.fst:Int)) ∧
            ((x1.val.snd.fst.set (x1.val.snd.fst.length - 1) x1.val.snd.snd++[[]]=x2.val.fst) ∧
            ((x1.val.snd.fst.length=x2.val.fst.length - 1) ∧
            ((x2.val.snd=[]) ∧
            ((x2.val.snd=[]) ∧
            (((l.getD x1.val.fst (0,0,0)).fst=(l.getD x1.val.fst (0,0,0)).fst) ∧
            (((l.getD x1.val.fst (0,0,0)).snd.fst=(l.getD x1.val.fst (0,0,0)).snd.fst) ∧
            ((l.getD x1.val.fst (0,0,0)).snd.snd=(l.getD x1.val.fst (0,0,0)).snd.snd)))))))))))) ∧
          (∀ x2 : { x : List (List Stp) × List Stp // Cut53 l x1.val.fst x },
           ((i64R ((↑x2.val.fst.length:Int) - 1)) ∧
           ((0≤(↑x2.val.fst.length:Int) - 1∧(↑x2.val.fst.length:Int) - 1 < (↑x2.val.fst.length:Int)) ∧
           ((((↑x2.val.fst.length:Int) - 1).toNat=x2.val.fst.length - 1) ∧
           ((((↑x2.val.fst.length:Int) - 1).toNat < x2.val.fst.length) ∧
           (((x2.val.snd.length+[((l.getD x1.val.fst (0,0,0)).fst,(l.getD x1.val.fst (0,0,0)).snd.fst,(l.getD x1.val.fst (0,0,0)).snd.snd)].length)*16≤140737488355328) ∧
           ((0≤(↑x2.val.fst.length:Int) - 1∧(↑x2.val.fst.length:Int) - 1 < (↑x2.val.fst.length:Int)) ∧
           ((((↑x2.val.fst.length:Int) - 1).toNat < x2.val.fst.length) ∧
           ((((↑x2.val.fst.length:Int) - 1).toNat=x2.val.fst.length - 1) ∧
           ((i64R ((↑x1.val.fst:Int)+1)) ∧
           (∃ x3 : { x : Nat × List (List Stp) × List Stp // x.fst ≤ l.length ∧ Inv53 l x.fst x.snd },
            ((l.length - x3.val.fst < l.length - x1.val.fst) ∧
            ((l=l) ∧
            ((l=l) ∧
            (((↑l.length:Int)=(↑l.length:Int)) ∧
            (((↑x1.val.fst:Int)+1=(↑x3.val.fst:Int)) ∧
            ((x2.val.fst=x3.val.snd.fst) ∧
            ((((↑x2.val.fst.length:Int) - 1).toNat=x3.val.snd.fst.length - 1) ∧
            (x2.val.snd++[((l.getD x1.val.fst (0,0,0)).fst,(l.getD x1.val.fst (0,0,0)).snd.fst,(l.getD x1.val.fst (0,0,0)).snd.snd)]=x3.val.snd.snd)))))))))))))))))))))) ∧
        (¬(↑x1.val.fst : Int) = 0 →
         ((i64R ((↑x1.val.fst:Int) - 1)) ∧
         ((0≤(↑x1.val.fst:Int) - 1∧(↑x1.val.fst:Int) - 1 < (↑l.length:Int)) ∧
         (((l.getD ((↑x1.val.fst:Int) - 1).toNat (0,0,0)).fst=0 →
           (((x1.val.snd.fst.length+1)*24≤140737488355328) ∧
           ((∃ x2:{ x:List (List Stp)×List Stp // Cut53 l x1.val.fst x },
             ((l=l) ∧
             ((l=l) ∧
             (((↑l.length:Int)=(↑l.length:Int)) ∧
             (((↑x1.val.fst:Int)=(↑x1.val.fst:Int)) ∧
             ((x1.val.snd.fst.set (x1.val.snd.fst.length - 1) x1.val.snd.snd++[[]]=x2.val.fst) ∧
             ((x1.val.snd.fst.length=x2.val.fst.length - 1) ∧
             ((x2.val.snd=[]) ∧
             ((x2.val.snd=[]) ∧
             (((l.getD x1.val.fst (0,0,0)).fst=(l.getD x1.val.fst (0,0,0)).fst) ∧
             (((l.getD x1.val.fst (0,0,0)).snd.fst=(l.getD x1.val.fst (0,0,0)).snd.fst) ∧
             ((l.getD x1.val.fst (0,0,0)).snd.snd=(l.getD x1.val.fst (0,0,0)).snd.snd)))))))))))) ∧
           (∀ x2 : { x : List (List Stp) × List Stp // Cut53 l x1.val.fst x },
            ((i64R ((↑x2.val.fst.length:Int) - 1)) ∧
            ((0≤(↑x2.val.fst.length:Int) - 1∧(↑x2.val.fst.length:Int) - 1 < (↑x2.val.fst.length:Int)) ∧
            ((((↑x2.val.fst.length:Int) - 1).toNat=x2.val.fst.length - 1) ∧
            ((((↑x2.val.fst.length:Int) - 1).toNat < x2.val.fst.length) ∧
            (((x2.val.snd.length+[((l.getD x1.val.fst (0,0,0)).fst,(l.getD x1.val.fst (0,0,0)).snd.fst,(l.getD x1.val.fst (0,0,0)).snd.snd)].length)*16≤140737488355328) ∧
            ((0≤(↑x2.val.fst.length:Int) - 1∧(↑x2.val.fst.length:Int) - 1 < (↑x2.val.fst.length:Int)) ∧
            ((((↑x2.val.fst.length:Int) - 1).toNat < x2.val.fst.length) ∧
            ((((↑x2.val.fst.length:Int) - 1).toNat=x2.val.fst.length - 1) ∧
            ((i64R ((↑x1.val.fst:Int)+1)) ∧
            (∃ x3 : { x : Nat × List (List Stp) × List Stp // x.fst ≤ l.length ∧ Inv53 l x.fst x.snd },
             ((l.length - x3.val.fst < l.length - x1.val.fst) ∧
             ((l=l) ∧
             ((l=l) ∧
             (((↑l.length:Int)=(↑l.length:Int)) ∧
             (((↑x1.val.fst:Int)+1=(↑x3.val.fst:Int)) ∧
             ((x2.val.fst=x3.val.snd.fst) ∧
             ((((↑x2.val.fst.length:Int) - 1).toNat=x3.val.snd.fst.length - 1) ∧
             (x2.val.snd++[((l.getD x1.val.fst (0,0,0)).fst,(l.getD x1.val.fst (0,0,0)).snd.fst,(l.getD x1.val.fst (0,0,0)).snd.snd)]=x3.val.snd.snd)))))))))))))))))))))) ∧
         (¬(l.getD ((↑x1.val.fst : Int) - 1).toNat (0, 0, 0)).fst = 0 →
          ((∃ x2:{ x:List (List Stp)×List Stp // Cut53 l x1.val.fst x },
            ((l=l) ∧
            ((l=l) ∧
            (((↑l.length:Int)=(↑l.length:Int)) ∧
            (((↑x1.val.fst:Int)=(↑x1.val.fst:Int)) ∧
            ((x1.val.snd.fst=x2.val.fst) ∧
            ((x1.val.snd.fst.length - 1=x2.val.fst.length - 1) ∧
            ((x1.val.snd.snd=x2.val.snd) ∧
            (((l.getD x1.val.fst (0,0,0)).fst=(l.getD x1.val.fst (0,0,0)).fst) ∧
            (((l.getD x1.val.fst (0,0,0)).snd.fst=(l.getD x1.val.fst (0,0,0)).snd.fst) ∧
            ((l.getD x1.val.fst (0,0,0)).snd.snd=(l.getD x1.val.fst (0,0,0)).snd.snd))))))))))) ∧
          (∀ x2 : { x : List (List Stp) × List Stp // Cut53 l x1.val.fst x },
           ((i64R ((↑x2.val.fst.length:Int) - 1)) ∧
           ((0≤(↑x2.val.fst.length:Int) - 1∧(↑x2.val.fst.length:Int) - 1 < (↑x2.val.fst.length:Int)) ∧
           ((((↑x2.val.fst.length:Int) - 1).toNat=x2.val.fst.length - 1) ∧
           ((((↑x2.val.fst.length:Int) - 1).toNat < x2.val.fst.length) ∧
           (((x2.val.snd.length+[((l.getD x1.val.fst (0,0,0)).fst,(l.getD x1.val.fst (0,0,0)).snd.fst,(l.getD x1.val.fst (0,0,0)).snd.snd)].length)*16≤140737488355328) ∧
           ((0≤(↑x2.val.fst.length:Int) - 1∧(↑x2.val.fst.length:Int) - 1 < (↑x2.val.fst.length:Int)) ∧
           ((((↑x2.val.fst.length:Int) - 1).toNat < x2.val.fst.length) ∧
           ((((↑x2.val.fst.length:Int) - 1).toNat=x2.val.fst.length - 1) ∧
           ((i64R ((↑x1.val.fst:Int)+1)) ∧
           (∃ x3 : { x : Nat × List (List Stp) × List Stp // x.fst ≤ l.length ∧ Inv53 l x.fst x.snd },
            ((l.length - x3.val.fst < l.length - x1.val.fst) ∧
            ((l=l) ∧
            ((l=l) ∧
            (((↑l.length:Int)=(↑l.length:Int)) ∧
            (((↑x1.val.fst:Int)+1=(↑x3.val.fst:Int)) ∧
            ((x2.val.fst=x3.val.snd.fst) ∧
            ((((↑x2.val.fst.length:Int) - 1).toNat=x3.val.snd.fst.length - 1) ∧
            (x2.val.snd++[((l.getD x1.val.fst (0,0,0)).fst,(l.getD x1.val.fst (0,0,0)).snd.fst,(l.getD x1.val.fst (0,0,0)).snd.snd)]=x3.val.snd.snd)))))))))))))))))))))))))))))) ∧
     (¬(↑x1.val.fst : Int) < (↑l.length : Int) →
      ((∃ x2:Unit,
        (x1.val.snd.fst.set (x1.val.snd.fst.length - 1) x1.val.snd.snd=runs' l)) ∧
      (∀ x2 : Unit,
       (runs' l=runs' l)))))))) (by kernel_rfl) ?_
  refine ⟨⟨⟨(0,[],[]),Nat.zero_le _,inv53_zero l⟩,rfl,rfl,rfl,rfl,rfl,rfl,rfl⟩,?_⟩
  rintro ⟨⟨p,L,m⟩,hp,hI⟩
  have hL:=inv53_len hI
  dsimp only at hp hI hL ⊢
  refine ⟨fun h=>⟨by omega,fun h1=>⟨by unfold i64R;omega,⟨(p+1,L,m),by dsimp only;omega,inv53_match hI (by omega) h1⟩,by dsimp only;omega,rfl,rfl,rfl,by push_cast;rfl,rfl,rfl,rfl⟩,fun h1=>⟨fun h2=>⟨by omega,⟨⟨_,cut53_new hI (by omega) h1 (fun ho=>by have:=ho.1;omega)⟩,rfl,rfl,rfl,rfl,rfl,by simp,rfl,rfl,rfl,rfl,rfl⟩,?_⟩,fun h2=>⟨by unfold i64R;omega,by omega,fun h3=>⟨by omega,⟨⟨_,cut53_new hI (by omega) h1 (fun ho=>ho.2 (by rw [show p - 1=((p:Int) - 1).toNat by omega];exact h3))⟩,rfl,rfl,rfl,rfl,rfl,by simp,rfl,rfl,rfl,rfl,rfl⟩,?_⟩,fun h3=>⟨⟨⟨(L,m),cut53_more hI (by omega) h1 ⟨by omega,by rw [show p - 1=((p:Int) - 1).toNat by omega];exact h3⟩⟩,rfl,rfl,rfl,rfl,rfl,rfl,rfl,rfl,rfl,rfl⟩,?_⟩⟩⟩⟩,fun h=>⟨⟨(),inv53_end hI (by omega)⟩,fun _=>rfl⟩⟩
  · rintro ⟨⟨L2,m2⟩,h2⟩
    dsimp only at h2 ⊢
    obtain ⟨c1,c2⟩:=cut53_len h2
    have c3:=cut53_m h2
    dsimp only at c1 c2 c3
    have hx:∀ x:Stp,(x.1,x.2.1,x.2.2)=x:=fun _=>rfl
    have hn:=inv53_next h2 h1
    rw [hx]
    generalize l.getD p (0,0,0)=s at hn ⊢
    exact ⟨by unfold i64R;omega,by omega,by omega,by omega,by simp only [List.length_cons,List.length_nil];omega,by omega,by omega,by omega,by unfold i64R;omega,⟨⟨(p+1,L2,m2++[s]),by dsimp only;omega,hn⟩,by dsimp only;omega,rfl,rfl,rfl,by push_cast;rfl,rfl,by dsimp only;omega,rfl⟩⟩
  · rintro ⟨⟨L2,m2⟩,h2⟩
    dsimp only at h2 ⊢
    obtain ⟨c1,c2⟩:=cut53_len h2
    have c3:=cut53_m h2
    dsimp only at c1 c2 c3
    have hx:∀ x:Stp,(x.1,x.2.1,x.2.2)=x:=fun _=>rfl
    have hn:=inv53_next h2 h1
    rw [hx]
    generalize l.getD p (0,0,0)=s at hn ⊢
    exact ⟨by unfold i64R;omega,by omega,by omega,by omega,by simp only [List.length_cons,List.length_nil];omega,by omega,by omega,by omega,by unfold i64R;omega,⟨⟨(p+1,L2,m2++[s]),by dsimp only;omega,hn⟩,by dsimp only;omega,rfl,rfl,rfl,by push_cast;rfl,rfl,by dsimp only;omega,rfl⟩⟩
  · rintro ⟨⟨L2,m2⟩,h2⟩
    dsimp only at h2 ⊢
    obtain ⟨c1,c2⟩:=cut53_len h2
    have c3:=cut53_m h2
    dsimp only at c1 c2 c3
    have hx:∀ x:Stp,(x.1,x.2.1,x.2.2)=x:=fun _=>rfl
    have hn:=inv53_next h2 h1
    rw [hx]
    generalize l.getD p (0,0,0)=s at hn ⊢
    exact ⟨by unfold i64R;omega,by omega,by omega,by omega,by simp only [List.length_cons,List.length_nil];omega,by omega,by omega,by omega,by unfold i64R;omega,⟨⟨(p+1,L2,m2++[s]),by dsimp only;omega,hn⟩,by dsimp only;omega,rfl,rfl,rfl,by push_cast;rfl,rfl,by dsimp only;omega,rfl⟩⟩
end Go.EA
