/- Layer 4: steps that may be, what they are of, what they cost. Conditions: none. (Printed by a program of this project's own.) -/
import Derived.Test.YtmfjbaepgfdfpaaDoorEWk
import Derived.Test.YtmfjbaepgfdfpaaDoorERu
import Derived.Test.YtmfjbaepgfdfpaaDoorESp1
import Derived.Test.YtmfjbaepgfdfpaaDoorEK9
import Derived.KernelRfl
set_option linter.unusedVariables false
set_option linter.unusedSimpArgs false
set_option maxRecDepth 100000
set_option maxHeartbeats 0
namespace Go.EA
open F
def okS (s:Stp):Bool:=Utf8.valid s.2.1&&Utf8.valid s.2.2&&(if s.1=0 then decide (s.2.1=s.2.2) else if s.1=1 then !decide (s.2.1=s.2.2) else if s.1=2 then decide (s.2.2=0) else if s.1=3 then decide (s.2.1=0) else false)
def chkE (l:List Stp):Int:=if l.all okS=true then 0 else 7
def rdA (l:List Stp):List Int:=(l.filter fun s=>!decide (s.1=3)).map (·.2.1)
def rdB (l:List Stp):List Int:=(l.filter fun s=>!decide (s.1=2)).map (·.2.2)
def costL (l:List Stp):Int:=((l.filter fun s=>!decide (s.1=0)).length:Int)
def readA (l:List Stp):List UInt8:=if l.all okS=true then encL (rdA l) else []
def readB (l:List Stp):List UInt8:=if l.all okS=true then encL (rdB l) else []
theorem take_all {α:Type} {p:α→Bool} {l:List α} {d:α} {i:Nat} (h:(l.take i).all p=true) (hi:i < l.length) (hp:p (l.getD i d)=true):(l.take (i+1)).all p=true:=by
  rw [List.take_add_one,List.getElem?_eq_getElem hi,List.all_append,h]
  rw [List.getD_eq_getElem?_getD,List.getElem?_eq_getElem hi] at hp
  simpa using hp
theorem not_all {α:Type} {p:α→Bool} {l:List α} {d:α} {i:Nat} (hi:i < l.length) (hp:p (l.getD i d)=false):l.all p=false:=by
  rw [Bool.eq_false_iff]
  intro h
  rw [List.all_eq_true] at h
  rw [List.getD_eq_getElem?_getD,List.getElem?_eq_getElem hi] at hp
  have:=h _ (List.getElem_mem hi)
  simp [this] at hp
theorem all_take {α:Type} {p:α→Bool} {l:List α} {i:Nat} (h:(l.take i).all p=true) (hi:l.length≤i):l.all p=true:=by rwa [List.take_of_length_le hi] at h
theorem chk_bad {l:List Stp} {i:Nat} (hi:i < l.length) (h:okS (l.getD i (0,0,0))=false):7=chkE l:=by
  unfold chkE;rw [not_all hi h];rfl
theorem chk_ok {l:List Stp} (h:l.all okS=true):0=chkE l:=by unfold chkE;rw [if_pos h]
theorem costL_compl (l:List Stp):costL l+((l.filter fun s=>decide (s.1=0)).length:Int)=l.length:=by
  unfold costL
  induction l with
  | nil=>rfl
  | cons x l ih=>
    rw [List.filter_cons,List.filter_cons]
    by_cases h:x.1=0
    · simp only [h,decide_true,Bool.not_true,Bool.false_eq_true,if_false,if_true,List.length_cons];push_cast;omega
    · simp only [h,decide_false,Bool.not_false,Bool.false_eq_true,if_false,if_true,List.length_cons];push_cast;omega
theorem rdA_step {l:List Stp} {i:Nat} (hi:i < l.length):rdA (l.take (i+1))=rdA (l.take i)++if (l.getD i (0,0,0)).1=3 then [] else [(l.getD i (0,0,0)).2.1]:=by
  unfold rdA
  rw [List.take_add_one,List.getElem?_eq_getElem hi,List.filter_append,List.map_append,List.getD_eq_getElem?_getD,List.getElem?_eq_getElem hi]
  simp only [Option.toList_some,Option.getD_some,List.filter_cons,List.filter_nil]
  by_cases h:l[i].1=3
  · simp [h]
  · simp [h]
theorem rdB_step {l:List Stp} {i:Nat} (hi:i < l.length):rdB (l.take (i+1))=rdB (l.take i)++if (l.getD i (0,0,0)).1=2 then [] else [(l.getD i (0,0,0)).2.2]:=by
  unfold rdB
  rw [List.take_add_one,List.getElem?_eq_getElem hi,List.filter_append,List.map_append,List.getD_eq_getElem?_getD,List.getElem?_eq_getElem hi]
  simp only [Option.toList_some,Option.getD_some,List.filter_cons,List.filter_nil]
  by_cases h:l[i].1=2
  · simp [h]
  · simp [h]
theorem okS_valid {s:Stp} (h:okS s=true):Utf8.valid s.2.1=true∧Utf8.valid s.2.2=true:=by
  unfold okS at h
  simp only [Bool.and_eq_true] at h
  exact h.1
theorem rdA_valid {l:List Stp} (h:l.all okS=true):(rdA l).all Utf8.valid=true:=by
  unfold rdA
  rw [List.all_map,List.all_eq_true]
  exact fun x hx=>(okS_valid (List.all_eq_true.1 h x (List.mem_filter.1 hx).1)).1
theorem rdB_valid {l:List Stp} (h:l.all okS=true):(rdB l).all Utf8.valid=true:=by
  unfold rdB
  rw [List.all_map,List.all_eq_true]
  exact fun x hx=>(okS_valid (List.all_eq_true.1 h x (List.mem_filter.1 hx).1)).2
theorem rdA_len (l:List Stp):(rdA l).length≤l.length:=by unfold rdA;rw [List.length_map];exact List.length_filter_le _ _
theorem rdB_len (l:List Stp):(rdB l).length≤l.length:=by unfold rdB;rw [List.length_map];exact List.length_filter_le _ _
theorem all_taken {l:List Stp} (h:l.all okS=true) (i:Nat):(l.take i).all okS=true:=by
  rw [List.all_eq_true] at h ⊢
  exact fun x hx=>h x (List.mem_of_mem_take hx)
theorem chk_all {l:List Stp} (h:chkE l=0):l.all okS=true:=by
  unfold chkE at h
  split at h
  · assumption
  · cases h
theorem chk_no {l:List Stp} (h:¬ chkE l=0):[]=readA l∧[]=readB l:=by
  have:¬ l.all okS=true:=fun h1=>h (chk_ok h1).symm
  exact ⟨by unfold readA;rw [if_neg this],by unfold readB;rw [if_neg this]⟩
theorem encLI_add (a b:List Int):encLI (a++b)=encLI a++encLI b:=by simp [encLI]
theorem encLI_one (r:Int):encLI [r]=encI r:=by simp [encLI]
theorem unI_enc (l:List Int):List.map (fun z:Int=>UInt8.ofNat z.toNat) (encLI l)=encL l:=encLI_end (l:=l) (i:=l.length) (by omega) (by rw [List.take_length])
theorem readA_ok {l:List Stp} (h:l.all okS=true):readA l=encL (rdA l):=by unfold readA;rw [if_pos h]
theorem readB_ok {l:List Stp} (h:l.all okS=true):readB l=encL (rdB l):=by unfold readB;rw [if_pos h]
def P248:Int×Int×Int→List SV:=fun (s0,s1,s2)=>[.agg [.int .i64 s0,.int .i32 s1,.int .i32 s2]]
def R248:Int×Int×Int→SV×List Prop:=fun (s0,s1,s2)=>(.one (.bool (okS (s0,s1,s2))),[])
def K248:Con:=⟨true,[none],fun xs=>match xs with | [.agg [.int .i64 s0,.int .i32 s1,.int .i32 s2]]=>some (R248 (s0,s1,s2)) | _=>none⟩
noncomputable def G248:GP:=conG P248 R248
theorem P248_inj:∀ a b,(P248 a).map den0=(P248 b).map den0→a=b:=by
  rintro ⟨a0,a1,a2⟩ ⟨b0,b1,b2⟩ h
  simp only [P248,List.map_cons,List.map_nil,den0,den0L,List.cons.injEq,AV.one.injEq,AV.agg.injEq,Lf.int.injEq,Lf.str.injEq,Lf.bool.injEq,Lf.vrow.injEq,and_true,true_and,and_assoc] at h
  obtain ⟨h0,h1,h2⟩:=h
  subst h0 h1 h2
  rfl
theorem K248_ok:ConG G248 K248:=conG_of P248_inj (fun ⟨_,_,_⟩ ⟨_,_,_⟩=>rfl) (fun ⟨_,_,_⟩=>rfl) fun xs r h=>by
  simp only [K248] at h
  split at h
  · cases h;rename_i s0 s1 s2;exact ⟨(s0,s1,s2),rfl,rfl⟩
  · cases h
theorem pr248 {S:SC} (hB:SB S) (q55:PrOk S 55 (pureP G55)) (h248:S.has 248 f248):PrOk S 248 (pureP G248):=by
  refine prM hB [] [⟨55,G55,K55⟩] trivial ⟨⟨q55,K55_ok⟩,trivial⟩ h248 (fun ⟨s0,s1,s2⟩=>⟨rfl,rfl,rfl⟩) (fun (s0,s1,s2)=>fun _ _ _ _=>none) 400 ?_
  rintro ⟨s0,s1,s2⟩ hc
  refine VC.use (p:=
    (((!Utf8.valid s1)=true →
      (false=okS (s0,s1,s2))) ∧
    (¬(!Utf8.valid s1) = true →
     (((!Utf8.valid s2)=true →
       (false=okS (s0,s1,s2))) ∧
     (¬(!Utf8.valid s2) = true →
      ((s0=0 →
        (decide (s1=s2)=okS (s0,s1,s2))) ∧
      (¬s0 = 0 →
       ((s0=1 →
         ((!decide (s1=s2))=okS (s0,s1,s2))) ∧
       (¬s0 = 1 →
        ((s0=2 →
          (decide (s2=0)=okS (s0,s1,s2))) ∧
        (¬s0 = 2 →
         ((s0=3 →
           (decide (s1=0)=okS (s0,s1,s2))) ∧
         (¬s0 = 3 →
          (false=okS (s0,s1,s2))))))))))))))) (by kernel_rfl) ?_
  cases h1:Utf8.valid s1 <;> cases h2:Utf8.valid s2
  all_goals
    unfold okS
    dsimp only
    simp only [h1,h2]
  repeat' (first | intro _ | apply And.intro)
  all_goals first
    | (exfalso;simp_all;done)
    | (simp_all;done)
    | (simp_all;omega)
def P247:Int×Int×Int→List SV:=fun (s0,s1,s2)=>[.agg [.int .i64 s0,.int .i32 s1,.int .i32 s2]]
def R247:Int×Int×Int→SV×List Prop:=fun (s0,s1,s2)=>(.one (.bool (!okS (s0,s1,s2))),[])
def K247:Con:=⟨true,[none],fun xs=>match xs with | [.agg [.int .i64 s0,.int .i32 s1,.int .i32 s2]]=>some (R247 (s0,s1,s2)) | _=>none⟩
noncomputable def G247:GP:=conG P247 R247
theorem P247_inj:∀ a b,(P247 a).map den0=(P247 b).map den0→a=b:=by
  rintro ⟨a0,a1,a2⟩ ⟨b0,b1,b2⟩ h
  simp only [P247,List.map_cons,List.map_nil,den0,den0L,List.cons.injEq,AV.one.injEq,AV.agg.injEq,Lf.int.injEq,Lf.str.injEq,Lf.bool.injEq,Lf.vrow.injEq,and_true,true_and,and_assoc] at h
  obtain ⟨h0,h1,h2⟩:=h
  subst h0 h1 h2
  rfl
theorem K247_ok:ConG G247 K247:=conG_of P247_inj (fun ⟨_,_,_⟩ ⟨_,_,_⟩=>rfl) (fun ⟨_,_,_⟩=>rfl) fun xs r h=>by
  simp only [K247] at h
  split at h
  · cases h;rename_i s0 s1 s2;exact ⟨(s0,s1,s2),rfl,rfl⟩
  · cases h
theorem pr247 {S:SC} (hB:SB S) (q248:PrOk S 248 (pureP G248)) (h247:S.has 247 f247):PrOk S 247 (pureP G247):=by
  refine prM hB [] [⟨248,G248,K248⟩] trivial ⟨⟨q248,K248_ok⟩,trivial⟩ h247 (fun ⟨s0,s1,s2⟩=>⟨rfl,rfl,rfl⟩) (fun (s0,s1,s2)=>fun _ _ _ _=>none) 400 ?_
  rintro ⟨s0,s1,s2⟩ hc
  refine VC.use (p:=
    ((!okS (s0,s1,s2))=!okS (s0,s1,s2))) (by kernel_rfl) ?_
  rfl
def P222:(List (Int×Int×Int))→List SV:=fun l=>[.one (.row (.pair (.int .i64) (.pair (.int .i32) (.int .i32))) l)]
def R222:(List (Int×Int×Int))→SV×List Prop:=fun l=>(.one (.int .i64 (chkE l)),[l.length≤1099511627776])
def K222:Con:=⟨true,[some (.pair (.int .i64) (.pair (.int .i32) (.int .i32)))],fun xs=>match xs with | [.one (.row (.pair (.int .i64) (.pair (.int .i32) (.int .i32))) l)]=>some (R222 l) | _=>none⟩
noncomputable def G222:GP:=conG P222 R222
theorem P222_inj:∀ a b,(P222 a).map den0=(P222 b).map den0→a=b:=by
  rintro a0 b0 h
  simp only [P222,List.map_cons,List.map_nil,den0,den0L,List.cons.injEq,AV.one.injEq,AV.agg.injEq,Lf.int.injEq,Lf.str.injEq,Lf.bool.injEq,Lf.vrow.injEq,and_true,true_and] at h
  exact row_inj h
theorem K222_ok:ConG G222 K222:=conG_of P222_inj (fun _ _=>rfl) (fun _=>rfl) fun xs r h=>by
  simp only [K222] at h
  split at h
  · cases h;rename_i l;exact ⟨l,rfl,rfl⟩
  · cases h
theorem pr222 {S:SC} (hB:SB S) (q247:PrOk S 247 (pureP G247)) (h246:S.has 246 f246) (h259:S.has 259 f259) (h222:S.has 222 f222):PrOk S 222 (pureP G222):=by
  refine prM hB [(246,f246),(259,f259)] [⟨247,G247,K247⟩] ⟨h246,h259,trivial⟩ ⟨⟨q247,K247_ok⟩,trivial⟩ h222 (fun _=>⟨rfl,rfl,rfl⟩) (fun l=>fun f id T L=>match f,id with
      | 259,0=>some (.inv { i:Nat // i≤l.length∧(l.take i).all okS=true } (fun x=>([(8,.one (.int .i64 x.1))],[])) (fun x=>l.length - x.1))
      | _,_=>none) 400 ?_
  rintro l hc
  have hc1:l.length≤1099511627776:=hc.1
  refine VC.use (p:=
    ((∃ x1:{ i:Nat // i≤l.length∧(List.take i l).all okS=true },
      ((l=l) ∧
      (((↑l.length:Int)=(↑l.length:Int)) ∧
      (0=(↑x1.val:Int))))) ∧
    (∀ x1 : { i : Nat // i ≤ l.length ∧ (List.take i l).all okS = true },
     (((↑x1.val:Int) < (↑l.length:Int) →
       ((0≤(↑x1.val:Int)∧(↑x1.val:Int) < (↑l.length:Int)) ∧
       (((!okS ((l.getD x1.val (0,0,0)).fst,(l.getD x1.val (0,0,0)).snd.fst,(l.getD x1.val (0,0,0)).snd.snd))=true →
         ((0≤(↑x1.val:Int) →
           (7=chkE l)) ∧
         (¬0 ≤ (↑x1.val : Int) →
          (0=chkE l)))) ∧
       (¬(!okS ((l.getD x1.val (0, 0, 0)).fst, (l.getD x1.val (0, 0, 0)).snd.fst, (l.getD x1.val (0, 0, 0)).snd.snd)) = true →
        ((i64R ((↑x1.val:Int)+1)) ∧
        (∃ x2 : { i : Nat // i ≤ l.length ∧ (List.take i l).all okS = true },
         ((l.length - x2.val < l.length - x1.val) ∧
         ((l=l) ∧
         (((↑l.length:Int)=(↑l.length:Int)) ∧
         ((↑x1.val:Int)+1=(↑x2.val:Int))))))))))) ∧
     (¬(↑x1.val : Int) < (↑l.length : Int) →
      (0=chkE l)))))) (by kernel_rfl) ?_
  refine ⟨⟨⟨0,by omega,rfl⟩,rfl,rfl,rfl⟩,?_⟩
  rintro ⟨i,hi,ha⟩
  dsimp only at hi ha ⊢
  exact ⟨fun h=>⟨by omega,fun h1=>⟨fun _=>chk_bad (i:=i) (by omega) (by simpa using h1),fun h2=>by omega⟩,fun h1=>⟨by unfold i64R;omega,⟨⟨i+1,by omega,take_all ha (by omega) (by simpa using h1)⟩,by dsimp only;omega,rfl,rfl,by push_cast;rfl⟩⟩⟩,fun h=>chk_ok (all_take ha (by omega))⟩
def P223:(List (Int×Int×Int))→List SV:=fun l=>[.one (.row (.pair (.int .i64) (.pair (.int .i32) (.int .i32))) l)]
def R223:(List (Int×Int×Int))→SV×List Prop:=fun l=>(.one (.int .i64 (chkE l)),[l.length≤1099511627776])
def K223:Con:=⟨true,[some (.pair (.int .i64) (.pair (.int .i32) (.int .i32)))],fun xs=>match xs with | [.one (.row (.pair (.int .i64) (.pair (.int .i32) (.int .i32))) l)]=>some (R223 l) | _=>none⟩
noncomputable def G223:GP:=conG P223 R223
theorem P223_inj:∀ a b,(P223 a).map den0=(P223 b).map den0→a=b:=by
  rintro a0 b0 h
  simp only [P223,List.map_cons,List.map_nil,den0,den0L,List.cons.injEq,AV.one.injEq,AV.agg.injEq,Lf.int.injEq,Lf.str.injEq,Lf.bool.injEq,Lf.vrow.injEq,and_true,true_and] at h
  exact row_inj h
theorem K223_ok:ConG G223 K223:=conG_of P223_inj (fun _ _=>rfl) (fun _=>rfl) fun xs r h=>by
  simp only [K223] at h
  split at h
  · cases h;rename_i l;exact ⟨l,rfl,rfl⟩
  · cases h
theorem pr223 {S:SC} (hB:SB S) (q57:PrOk S 57 (pureP G57)) (h223:S.has 223 f223):PrOk S 223 (pureP G223):=by
  refine prM hB [] [⟨57,G57,K57⟩] trivial ⟨⟨q57,K57_ok⟩,trivial⟩ h223 (fun _=>⟨rfl,rfl,rfl⟩) (fun l=>fun f id T L=>match f,id with
      | 223,0=>some (.inv { i:Nat // i≤l.length∧(l.take i).all okS=true } (fun x=>([(8,.one (.int .i64 x.1))],[])) (fun x=>l.length - x.1))
      | _,_=>none) 600 ?_
  rintro l hc
  have hc1:l.length≤1099511627776:=hc.1
  refine VC.use (p:=
    ((∃ x1:{ i:Nat // i≤l.length∧(List.take i l).all okS=true },
      ((l=l) ∧
      (((↑l.length:Int)=(↑l.length:Int)) ∧
      (0=(↑x1.val:Int))))) ∧
    (∀ x1 : { i : Nat // i ≤ l.length ∧ (List.take i l).all okS = true },
     (((↑x1.val:Int) < (↑l.length:Int) →
       ((0≤(↑x1.val:Int)∧(↑x1.val:Int) < (↑l.length:Int)) ∧
       ((Utf8.valid (l.getD x1.val (0,0,0)).snd.fst=true →
         (((l.getD x1.val (0,0,0)).fst=0 →
           ((Utf8.valid (l.getD x1.val (0,0,0)).snd.snd=true →
             (((l.getD x1.val (0,0,0)).snd.fst=(l.getD x1.val (0,0,0)).snd.snd →
               ((i64R ((↑x1.val:Int)+1)) ∧
               (∃ x2 : { i : Nat // i ≤ l.length ∧ (List.take i l).all okS = true },
                ((l.length - x2.val < l.length - x1.val) ∧
                ((l=l) ∧
                (((↑l.length:Int)=(↑l.length:Int)) ∧
                ((↑x1.val:Int)+1=(↑x2.val:Int)))))))) ∧
             (¬(l.getD x1.val (0, 0, 0)).snd.fst = (l.getD x1.val (0, 0, 0)).snd.snd →
              (7=chkE l)))) ∧
           (¬Utf8.valid (l.getD x1.val (0, 0, 0)).snd.snd = true →
            (7=chkE l)))) ∧
         (¬(l.getD x1.val (0, 0, 0)).fst = 0 →
          (((l.getD x1.val (0,0,0)).fst=1 →
            ((Utf8.valid (l.getD x1.val (0,0,0)).snd.snd=true →
              (((l.getD x1.val (0,0,0)).snd.fst=(l.getD x1.val (0,0,0)).snd.snd →
                (7=chkE l)) ∧
              (¬(l.getD x1.val (0, 0, 0)).snd.fst = (l.getD x1.val (0, 0, 0)).snd.snd →
               ((i64R ((↑x1.val:Int)+1)) ∧
               (∃ x2 : { i : Nat // i ≤ l.length ∧ (List.take i l).all okS = true },
                ((l.length - x2.val < l.length - x1.val) ∧
                ((l=l) ∧
                (((↑l.length:Int)=(↑l.length:Int)) ∧
                ((↑x1.val:Int)+1=(↑x2.val:Int)))))))))) ∧
            (¬Utf8.valid (l.getD x1.val (0, 0, 0)).snd.snd = true →
             (7=chkE l)))) ∧
          (¬(l.getD x1.val (0, 0, 0)).fst = 1 →
           (((l.getD x1.val (0,0,0)).fst=2 →
             ((Utf8.valid (l.getD x1.val (0,0,0)).snd.snd=true →
               (((l.getD x1.val (0,0,0)).snd.snd=0 →
                 ((i64R ((↑x1.val:Int)+1)) ∧
                 (∃ x2 : { i : Nat // i ≤ l.length ∧ (List.take i l).all okS = true },
                  ((l.length - x2.val < l.length - x1.val) ∧
                  ((l=l) ∧
                  (((↑l.length:Int)=(↑l.length:Int)) ∧
                  ((↑x1.val:Int)+1=(↑x2.val:Int)))))))) ∧
               (¬(l.getD x1.val (0, 0, 0)).snd.snd = 0 →
                (7=chkE l)))) ∧
             (¬Utf8.valid (l.getD x1.val (0, 0, 0)).snd.snd = true →
              (7=chkE l)))) ∧
           (¬(l.getD x1.val (0, 0, 0)).fst = 2 →
            (((l.getD x1.val (0,0,0)).fst=3 →
              ((Utf8.valid (l.getD x1.val (0,0,0)).snd.snd=true →
                (((l.getD x1.val (0,0,0)).snd.fst=0 →
                  ((i64R ((↑x1.val:Int)+1)) ∧
                  (∃ x2 : { i : Nat // i ≤ l.length ∧ (List.take i l).all okS = true },
                   ((l.length - x2.val < l.length - x1.val) ∧
                   ((l=l) ∧
                   (((↑l.length:Int)=(↑l.length:Int)) ∧
                   ((↑x1.val:Int)+1=(↑x2.val:Int)))))))) ∧
                (¬(l.getD x1.val (0, 0, 0)).snd.fst = 0 →
                 (7=chkE l)))) ∧
              (¬Utf8.valid (l.getD x1.val (0, 0, 0)).snd.snd = true →
               (7=chkE l)))) ∧
            (¬(l.getD x1.val (0, 0, 0)).fst = 3 →
             (7=chkE l)))))))))) ∧
       (¬Utf8.valid (l.getD x1.val (0, 0, 0)).snd.fst = true →
        (((l.getD x1.val (0,0,0)).fst=0 →
          (7=chkE l)) ∧
        (¬(l.getD x1.val (0, 0, 0)).fst = 0 →
         (((l.getD x1.val (0,0,0)).fst=1 →
           (7=chkE l)) ∧
         (¬(l.getD x1.val (0, 0, 0)).fst = 1 →
          (((l.getD x1.val (0,0,0)).fst=2 →
            (7=chkE l)) ∧
          (¬(l.getD x1.val (0, 0, 0)).fst = 2 →
           (((l.getD x1.val (0,0,0)).fst=3 →
             (7=chkE l)) ∧
           (¬(l.getD x1.val (0, 0, 0)).fst = 3 →
            (7=chkE l))))))))))))) ∧
     (¬(↑x1.val : Int) < (↑l.length : Int) →
      (0=chkE l)))))) (by kernel_rfl) ?_
  refine ⟨⟨⟨0,by omega,rfl⟩,rfl,rfl,rfl⟩,?_⟩
  rintro ⟨i,hi,ha⟩
  dsimp only at hi ha ⊢
  refine ⟨fun h=>⟨by omega,?_⟩,fun h=>chk_ok (all_take ha (by omega))⟩
  have hb:okS (l.getD i (0,0,0))=false→7=chkE l:=chk_bad (by omega)
  have hg:okS (l.getD i (0,0,0))=true→(i64R ((i:Int)+1))∧(∃ x2:{ i:Nat // i≤l.length∧(List.take i l).all okS=true },((l.length - x2.val < l.length - i)∧((l=l)∧(((↑l.length:Int)=(↑l.length:Int))∧((i:Int)+1=(↑x2.val:Int)))))):=fun h1=>
    ⟨by unfold i64R;omega,⟨⟨i+1,by omega,take_all ha (by omega) h1⟩,by dsimp only;omega,rfl,rfl,by push_cast;rfl⟩⟩
  generalize l.getD i (0,0,0)=x at *
  unfold okS at hb hg
  repeat' (first | exact hb (by simp_all;done) | exact hg (by simp_all;done) | intro _ | apply And.intro)
def P220:(List (Int×Int×Int))→List SV:=fun l=>[.one (.row (.pair (.int .i64) (.pair (.int .i32) (.int .i32))) l)]
def R220:(List (Int×Int×Int))→SV×List Prop:=fun l=>(.tup [.o (.str (readA l)),.o (.str (readB l)),.o (.int .i64 (chkE l))],[l.length≤1099511627776])
def K220:Con:=⟨true,[some (.pair (.int .i64) (.pair (.int .i32) (.int .i32)))],fun xs=>match xs with | [.one (.row (.pair (.int .i64) (.pair (.int .i32) (.int .i32))) l)]=>some (R220 l) | _=>none⟩
noncomputable def G220:GP:=conG P220 R220
theorem P220_inj:∀ a b,(P220 a).map den0=(P220 b).map den0→a=b:=by
  rintro a0 b0 h
  simp only [P220,List.map_cons,List.map_nil,den0,den0L,List.cons.injEq,AV.one.injEq,AV.agg.injEq,Lf.int.injEq,Lf.str.injEq,Lf.bool.injEq,Lf.vrow.injEq,and_true,true_and] at h
  exact row_inj h
theorem K220_ok:ConG G220 K220:=conG_of P220_inj (fun _ _=>rfl) (fun _=>rfl) fun xs r h=>by
  simp only [K220] at h
  split at h
  · cases h;rename_i l;exact ⟨l,rfl,rfl⟩
  · cases h
theorem pr220 {S:SC} (hB:SB S) (q222:PrOk S 222 (pureP G222)) (h56:S.has 56 f56) (h75:S.has 75 f75) (h220:S.has 220 f220):PrOk S 220 (pureP G220):=by
  refine prM hB [(56,f56),(75,f75)] [⟨222,G222,K222⟩] ⟨h56,h75,trivial⟩ ⟨⟨q222,K222_ok⟩,trivial⟩ h220 (fun _=>⟨rfl,rfl,rfl⟩) (fun l=>fun f id T L=>match f,id with
      | 220,0=>some (.inv { p:Nat×List Int×List Int // p.1≤l.length∧p.2.1=encLI (rdA (l.take p.1))∧p.2.2=encLI (rdB (l.take p.1)) } (fun x=>([(17,.one (.int .i64 x.1.1)),(6,.one (.osl 0)),(7,.one (.osl 1))],[(0,.row (.int .u8) x.1.2.1),(1,.row (.int .u8) x.1.2.2)])) (fun x=>l.length - x.1.1))
      | 220,1027=>match T.getD 26 .junk,getO L 0 with | .one (.int _ r),.row (.int .u8) o=>some (.cut Unit fun _=>([(27,.one (.osl 0))],[(0,.row (.int .u8) (o++encI r))])) | _,_=>none
      | 220,1034=>match T.getD 33 .junk,getO L 1 with | .one (.int _ r),.row (.int .u8) o=>some (.cut Unit fun _=>([(34,.one (.osl 1))],[(1,.row (.int .u8) (o++encI r))])) | _,_=>none
      | _,_=>none) 900 ?_
  rintro l hc
  have hc1:l.length≤1099511627776:=hc.1
  refine VC.use (p:=
    ((l.length≤1099511627776) ∧
    ((chkE l=0 →
      ((∃ x1:{ p:Nat×List Int×List Int // p.fst≤l.length∧p.snd.fst=encLI (rdA (List.take p.fst l))∧p.snd.snd=encLI (rdB (List.take p.fst l)) },
        ((x1.val.snd.fst=[]) ∧
        ((x1.val.snd.snd=[]) ∧
        ((l=l) ∧
        (((↑l.length:Int)=(↑l.length:Int)) ∧
        ((0=(↑x1.val.fst:Int)) ∧
        ((x1.val.snd.fst=[]) ∧
        (x1.val.snd.snd=[])))))))) ∧
      (∀ x1 : { p : Nat × List Int × List Int // p.fst ≤ l.length ∧ p.snd.fst = encLI (rdA (List.take p.fst l)) ∧ p.snd.snd = encLI (rdB (List.take p.fst l)) },
       (((↑x1.val.fst:Int) < (↑l.length:Int) →
         ((0≤(↑x1.val.fst:Int)∧(↑x1.val.fst:Int) < (↑l.length:Int)) ∧
         (((l.getD x1.val.fst (0,0,0)).fst=3 →
           (((l.getD x1.val.fst (0,0,0)).fst=2 →
             ((i64R ((↑x1.val.fst:Int)+1)) ∧
             (∃ x2 : { p : Nat × List Int × List Int // p.fst ≤ l.length ∧ p.snd.fst = encLI (rdA (List.take p.fst l)) ∧ p.snd.snd = encLI (rdB (List.take p.fst l)) },
              ((l.length - x2.val.fst < l.length - x1.val.fst) ∧
              ((l=l) ∧
              (((↑l.length:Int)=(↑l.length:Int)) ∧
              (((↑x1.val.fst:Int)+1=(↑x2.val.fst:Int)) ∧
              ((x1.val.snd.fst=x2.val.snd.fst) ∧
              (x1.val.snd.snd=x2.val.snd.snd))))))))) ∧
           (¬(l.getD x1.val.fst (0, 0, 0)).fst = 2 →
            (((IntKind.u32.wrap (l.getD x1.val.fst (0, 0, 0)).snd.snd ≤ 127 →
               (((x1.val.snd.snd.length+[IntKind.u8.wrap (l.getD x1.val.fst (0,0,0)).snd.snd].length)*1≤140737488355328) ∧
               (∃ x2 : Unit,
                ((l=l) ∧
                (((↑l.length:Int)=(↑l.length:Int)) ∧
                (((↑x1.val.fst:Int)=(↑x1.val.fst:Int)) ∧
                ((x1.val.snd.fst=x1.val.snd.fst) ∧
                ((x1.val.snd.snd++[IntKind.u8.wrap (l.getD x1.val.fst (0,0,0)).snd.snd]=x1.val.snd.snd++encI (l.getD x1.val.fst (0,0,0)).snd.snd) ∧
                (((l.getD x1.val.fst (0,0,0)).fst=(l.getD x1.val.fst (0,0,0)).fst) ∧
                (((l.getD x1.val.fst (0,0,0)).snd.fst=(l.getD x1.val.fst (0,0,0)).snd.fst) ∧
                ((l.getD x1.val.fst (0,0,0)).snd.snd=(l.getD x1.val.fst (0,0,0)).snd.snd))))))))))) ∧
             (¬IntKind.u32.wrap (l.getD x1.val.fst (0, 0, 0)).snd.snd ≤ 127 →
              ((IntKind.u32.wrap (l.getD x1.val.fst (0,0,0)).snd.snd≤2047 →
                (((x1.val.snd.snd.length+[IntKind.u8.wrap (↑(BitVec.ofInt 8 192 ||| BitVec.ofInt 8 (IntKind.u8.wrap (Int.fdiv (l.getD x1.val.fst (0,0,0)).snd.snd 64))).toNat:Int),IntKind.u8.wrap (↑(BitVec.ofInt 8 128 ||| BitVec.ofInt 8 (IntKind.u8.wrap (↑(BitVec.ofInt 8 (IntKind.u8.wrap (l.getD x1.val.fst (0,0,0)).snd.snd) &&& BitVec.ofInt 8 63).toNat:Int))).toNat:Int)].length)*1≤140737488355328) ∧
                (∃ x2 : Unit,
                 ((l=l) ∧
                 (((↑l.length:Int)=(↑l.length:Int)) ∧
                 (((↑x1.val.fst:Int)=(↑x1.val.fst:Int)) ∧
                 ((x1.val.snd.fst=x1.val.snd.fst) ∧
                 ((x1.val.snd.snd++[IntKind.u8.wrap (↑(BitVec.ofInt 8 192 ||| BitVec.ofInt 8 (IntKind.u8.wrap (Int.fdiv (l.getD x1.val.fst (0,0,0)).snd.snd 64))).toNat:Int),IntKind.u8.wrap (↑(BitVec.ofInt 8 128 ||| BitVec.ofInt 8 (IntKind.u8.wrap (↑(BitVec.ofInt 8 (IntKind.u8.wrap (l.getD x1.val.fst (0,0,0)).snd.snd) &&& BitVec.ofInt 8 63).toNat:Int))).toNat:Int)]=x1.val.snd.snd++encI (l.getD x1.val.fst (0,0,0)).snd.snd) ∧
                 (((l.getD x1.val.fst (0,0,0)).fst=(l.getD x1.val.fst (0,0,0)).fst) ∧
                 (((l.getD x1.val.fst (0,0,0)).snd.fst=(l.getD x1.val.fst (0,0,0)).snd.fst) ∧
                 ((l.getD x1.val.fst (0,0,0)).snd.snd=(l.getD x1.val.fst (0,0,0)).snd.snd))))))))))) ∧
              (¬IntKind.u32.wrap (l.getD x1.val.fst (0, 0, 0)).snd.snd ≤ 2047 →
               ((IntKind.u32.wrap (l.getD x1.val.fst (0,0,0)).snd.snd < 55296 →
                 ((IntKind.u32.wrap (l.getD x1.val.fst (0,0,0)).snd.snd < 55296 →
                   (((x1.val.snd.snd.length+[IntKind.u8.wrap (↑(BitVec.ofInt 8 224 ||| BitVec.ofInt 8 (IntKind.u8.wrap (Int.fdiv (l.getD x1.val.fst (0,0,0)).snd.snd 4096))).toNat:Int),IntKind.u8.wrap (↑(BitVec.ofInt 8 128 ||| BitVec.ofInt 8 (IntKind.u8.wrap (↑(BitVec.ofInt 8 (IntKind.u8.wrap (Int.fdiv (l.getD x1.val.fst (0,0,0)).snd.snd 64)) &&& BitVec.ofInt 8 63).toNat:Int))).toNat:Int),IntKind.u8.wrap (↑(BitVec.ofInt 8 128 ||| BitVec.ofInt 8 (IntKind.u8.wrap (↑(BitVec.ofInt 8 (IntKind.u8.wrap (l.getD x1.val.fst (0,0,0)).snd.snd) &&& BitVec.ofInt 8 63).toNat:Int))).toNat:Int)].length)*1≤140737488355328) ∧
                   (∃ x2 : Unit,
                    ((l=l) ∧
                    (((↑l.length:Int)=(↑l.length:Int)) ∧
                    (((↑x1.val.fst:Int)=(↑x1.val.fst:Int)) ∧
                    ((x1.val.snd.fst=x1.val.snd.fst) ∧
                    ((x1.val.snd.snd++[IntKind.u8.wrap (↑(BitVec.ofInt 8 224 ||| BitVec.ofInt 8 (IntKind.u8.wrap (Int.fdiv (l.getD x1.val.fst (0,0,0)).snd.snd 4096))).toNat:Int),IntKind.u8.wrap (↑(BitVec.ofInt 8 128 ||| BitVec.ofInt 8 (IntKind.u8.wrap (↑(BitVec.ofInt 8 (IntKind.u8.wrap (Int.fdiv (l.getD x1.val.fst (0,0,0)).snd.snd 64)) &&& BitVec.ofInt 8 63).toNat:Int))).toNat:Int),IntKind.u8.wrap (↑(BitVec.ofInt 8 128 ||| BitVec.ofInt 8 (IntKind.u8.wrap (↑(BitVec.ofInt 8 (IntKind.u8.wrap (l.getD x1.val.fst (0,0,0)).snd.snd) &&& BitVec.ofInt 8 63).toNat:Int))).toNat:Int)]=x1.val.snd.snd++encI (l.getD x1.val.fst (0,0,0)).snd.snd) ∧
                    (((l.getD x1.val.fst (0,0,0)).fst=(l.getD x1.val.fst (0,0,0)).fst) ∧
                    (((l.getD x1.val.fst (0,0,0)).snd.fst=(l.getD x1.val.fst (0,0,0)).snd.fst) ∧
                    ((l.getD x1.val.fst (0,0,0)).snd.snd=(l.getD x1.val.fst (0,0,0)).snd.snd))))))))))) ∧
                 (¬IntKind.u32.wrap (l.getD x1.val.fst (0, 0, 0)).snd.snd < 55296 →
                  ((65535 < IntKind.u32.wrap (l.getD x1.val.fst (0,0,0)).snd.snd →
                    ((IntKind.u32.wrap (l.getD x1.val.fst (0,0,0)).snd.snd≤1114111 →
                      (((x1.val.snd.snd.length+[IntKind.u8.wrap (↑(BitVec.ofInt 8 240 ||| BitVec.ofInt 8 (IntKind.u8.wrap (Int.fdiv (l.getD x1.val.fst (0,0,0)).snd.snd 262144))).toNat:Int),IntKind.u8.wrap (↑(BitVec.ofInt 8 128 ||| BitVec.ofInt 8 (IntKind.u8.wrap (↑(BitVec.ofInt 8 (IntKind.u8.wrap (Int.fdiv (l.getD x1.val.fst (0,0,0)).snd.snd 4096)) &&& BitVec.ofInt 8 63).toNat:Int))).toNat:Int),IntKind.u8.wrap (↑(BitVec.ofInt 8 128 ||| BitVec.ofInt 8 (IntKind.u8.wrap (↑(BitVec.ofInt 8 (IntKind.u8.wrap (Int.fdiv (l.getD x1.val.fst (0,0,0)).snd.snd 64)) &&& BitVec.ofInt 8 63).toNat:Int))).toNat:Int),IntKind.u8.wrap (↑(BitVec.ofInt 8 128 ||| BitVec.ofInt 8 (IntKind.u8.wrap (↑(BitVec.ofInt 8 (IntKind.u8.wrap (l.getD x1.val.fst (0,0,0)).snd.snd) &&& BitVec.ofInt 8 63).toNat:Int))).toNat:Int)].length)*1≤140737488355328) ∧
                      (∃ x2 : Unit,
                       ((l=l) ∧
                       (((↑l.length:Int)=(↑l.length:Int)) ∧
                       (((↑x1.val.fst:Int)=(↑x1.val.fst:Int)) ∧
                       ((x1.val.snd.fst=x1.val.snd.fst) ∧
                       ((x1.val.snd.snd++[IntKind.u8.wrap (↑(BitVec.ofInt 8 240 ||| BitVec.ofInt 8 (IntKind.u8.wrap (Int.fdiv (l.getD x1.val.fst (0,0,0)).snd.snd 262144))).toNat:Int),IntKind.u8.wrap (↑(BitVec.ofInt 8 128 ||| BitVec.ofInt 8 (IntKind.u8.wrap (↑(BitVec.ofInt 8 (IntKind.u8.wrap (Int.fdiv (l.getD x1.val.fst (0,0,0)).snd.snd 4096)) &&& BitVec.ofInt 8 63).toNat:Int))).toNat:Int),IntKind.u8.wrap (↑(BitVec.ofInt 8 128 ||| BitVec.ofInt 8 (IntKind.u8.wrap (↑(BitVec.ofInt 8 (IntKind.u8.wrap (Int.fdiv (l.getD x1.val.fst (0,0,0)).snd.snd 64)) &&& BitVec.ofInt 8 63).toNat:Int))).toNat:Int),IntKind.u8.wrap (↑(BitVec.ofInt 8 128 ||| BitVec.ofInt 8 (IntKind.u8.wrap (↑(BitVec.ofInt 8 (IntKind.u8.wrap (l.getD x1.val.fst (0,0,0)).snd.snd) &&& BitVec.ofInt 8 63).toNat:Int))).toNat:Int)]=x1.val.snd.snd++encI (l.getD x1.val.fst (0,0,0)).snd.snd) ∧
                       (((l.getD x1.val.fst (0,0,0)).fst=(l.getD x1.val.fst (0,0,0)).fst) ∧
                       (((l.getD x1.val.fst (0,0,0)).snd.fst=(l.getD x1.val.fst (0,0,0)).snd.fst) ∧
                       ((l.getD x1.val.fst (0,0,0)).snd.snd=(l.getD x1.val.fst (0,0,0)).snd.snd))))))))))) ∧
                    (¬IntKind.u32.wrap (l.getD x1.val.fst (0, 0, 0)).snd.snd ≤ 1114111 →
                     (((x1.val.snd.snd.length+3)*1≤140737488355328) ∧
                     (∃ x2 : Unit,
                      ((l=l) ∧
                      (((↑l.length:Int)=(↑l.length:Int)) ∧
                      (((↑x1.val.fst:Int)=(↑x1.val.fst:Int)) ∧
                      ((x1.val.snd.fst=x1.val.snd.fst) ∧
                      ((x1.val.snd.snd++[239,191,189]=x1.val.snd.snd++encI (l.getD x1.val.fst (0,0,0)).snd.snd) ∧
                      (((l.getD x1.val.fst (0,0,0)).fst=(l.getD x1.val.fst (0,0,0)).fst) ∧
                      (((l.getD x1.val.fst (0,0,0)).snd.fst=(l.getD x1.val.fst (0,0,0)).snd.fst) ∧
                      ((l.getD x1.val.fst (0,0,0)).snd.snd=(l.getD x1.val.fst (0,0,0)).snd.snd))))))))))))) ∧
                  (¬65535 < IntKind.u32.wrap (l.getD x1.val.fst (0, 0, 0)).snd.snd →
                   (((x1.val.snd.snd.length+3)*1≤140737488355328) ∧
                   (∃ x2 : Unit,
                    ((l=l) ∧
                    (((↑l.length:Int)=(↑l.length:Int)) ∧
                    (((↑x1.val.fst:Int)=(↑x1.val.fst:Int)) ∧
                    ((x1.val.snd.fst=x1.val.snd.fst) ∧
                    ((x1.val.snd.snd++[239,191,189]=x1.val.snd.snd++encI (l.getD x1.val.fst (0,0,0)).snd.snd) ∧
                    (((l.getD x1.val.fst (0,0,0)).fst=(l.getD x1.val.fst (0,0,0)).fst) ∧
                    (((l.getD x1.val.fst (0,0,0)).snd.fst=(l.getD x1.val.fst (0,0,0)).snd.fst) ∧
                    ((l.getD x1.val.fst (0,0,0)).snd.snd=(l.getD x1.val.fst (0,0,0)).snd.snd))))))))))))))) ∧
               (¬IntKind.u32.wrap (l.getD x1.val.fst (0, 0, 0)).snd.snd < 55296 →
                ((57343 < IntKind.u32.wrap (l.getD x1.val.fst (0,0,0)).snd.snd →
                  ((IntKind.u32.wrap (l.getD x1.val.fst (0,0,0)).snd.snd≤65535 →
                    (((x1.val.snd.snd.length+[IntKind.u8.wrap (↑(BitVec.ofInt 8 224 ||| BitVec.ofInt 8 (IntKind.u8.wrap (Int.fdiv (l.getD x1.val.fst (0,0,0)).snd.snd 4096))).toNat:Int),IntKind.u8.wrap (↑(BitVec.ofInt 8 128 ||| BitVec.ofInt 8 (IntKind.u8.wrap (↑(BitVec.ofInt 8 (IntKind.u8.wrap (Int.fdiv (l.getD x1.val.fst (0,0,0)).snd.snd 64)) &&& BitVec.ofInt 8 63).toNat:Int))).toNat:Int),IntKind.u8.wrap (↑(BitVec.ofInt 8 128 ||| BitVec.ofInt 8 (IntKind.u8.wrap (↑(BitVec.ofInt 8 (IntKind.u8.wrap (l.getD x1.val.fst (0,0,0)).snd.snd) &&& BitVec.ofInt 8 63).toNat:Int))).toNat:Int)].length)*1≤140737488355328) ∧
                    (∃ x2 : Unit,
                     ((l=l) ∧
                     (((↑l.length:Int)=(↑l.length:Int)) ∧
                     (((↑x1.val.fst:Int)=(↑x1.val.fst:Int)) ∧
                     ((x1.val.snd.fst=x1.val.snd.fst) ∧
                     ((x1.val.snd.snd++[IntKind.u8.wrap (↑(BitVec.ofInt 8 224 ||| BitVec.ofInt 8 (IntKind.u8.wrap (Int.fdiv (l.getD x1.val.fst (0,0,0)).snd.snd 4096))).toNat:Int),IntKind.u8.wrap (↑(BitVec.ofInt 8 128 ||| BitVec.ofInt 8 (IntKind.u8.wrap (↑(BitVec.ofInt 8 (IntKind.u8.wrap (Int.fdiv (l.getD x1.val.fst (0,0,0)).snd.snd 64)) &&& BitVec.ofInt 8 63).toNat:Int))).toNat:Int),IntKind.u8.wrap (↑(BitVec.ofInt 8 128 ||| BitVec.ofInt 8 (IntKind.u8.wrap (↑(BitVec.ofInt 8 (IntKind.u8.wrap (l.getD x1.val.fst (0,0,0)).snd.snd) &&& BitVec.ofInt 8 63).toNat:Int))).toNat:Int)]=x1.val.snd.snd++encI (l.getD x1.val.fst (0,0,0)).snd.snd) ∧
                     (((l.getD x1.val.fst (0,0,0)).fst=(l.getD x1.val.fst (0,0,0)).fst) ∧
                     (((l.getD x1.val.fst (0,0,0)).snd.fst=(l.getD x1.val.fst (0,0,0)).snd.fst) ∧
                     ((l.getD x1.val.fst (0,0,0)).snd.snd=(l.getD x1.val.fst (0,0,0)).snd.snd))))))))))) ∧
                  (¬IntKind.u32.wrap (l.getD x1.val.fst (0, 0, 0)).snd.snd ≤ 65535 →
                   ((65535 < IntKind.u32.wrap (l.getD x1.val.fst (0,0,0)).snd.snd →
                     ((IntKind.u32.wrap (l.getD x1.val.fst (0,0,0)).snd.snd≤1114111 →
                       (((x1.val.snd.snd.length+[IntKind.u8.wrap (↑(BitVec.ofInt 8 240 ||| BitVec.ofInt 8 (IntKind.u8.wrap (Int.fdiv (l.getD x1.val.fst (0,0,0)).snd.snd 262144))).toNat:Int),IntKind.u8.wrap (↑(BitVec.ofInt 8 128 ||| BitVec.ofInt 8 (IntKind.u8.wrap (↑(BitVec.ofInt 8 (IntKind.u8.wrap (Int.fdiv (l.getD x1.val.fst (0,0,0)).snd.snd 4096)) &&& BitVec.ofInt 8 63).toNat:Int))).toNat:Int),IntKind.u8.wrap (↑(BitVec.ofInt 8 128 ||| BitVec.ofInt 8 (IntKind.u8.wrap (↑(BitVec.ofInt 8 (IntKind.u8.wrap (Int.fdiv (l.getD x1.val.fst (0,0,0)).snd.snd 64)) &&& BitVec.ofInt 8 63).toNat:Int))).toNat:Int),IntKind.u8.wrap (↑(BitVec.ofInt 8 128 ||| BitVec.ofInt 8 (IntKind.u8.wrap (↑(BitVec.ofInt 8 (IntKind.u8.wrap (l.getD x1.val.fst (0,0,0)).snd.snd) &&& BitVec.ofInt 8 63).toNat:Int))).toNat:Int)].length)*1≤140737488355328) ∧
                       (∃ x2 : Unit,
                        ((l=l) ∧
                        (((↑l.length:Int)=(↑l.length:Int)) ∧
                        (((↑x1.val.fst:Int)=(↑x1.val.fst:Int)) ∧
                        ((x1.val.snd.fst=x1.val.snd.fst) ∧
                        ((x1.val.snd.snd++[IntKind.u8.wrap (↑(BitVec.ofInt 8 240 ||| BitVec.ofInt 8 (IntKind.u8.wrap (Int.fdiv (l.getD x1.val.fst (0,0,0)).snd.snd 262144))).toNat:Int),IntKind.u8.wrap (↑(BitVec.ofInt 8 128 ||| BitVec.ofInt 8 (IntKind.u8.wrap (↑(BitVec.ofInt 8 (IntKind.u8.wrap (Int.fdiv (l.getD x1.val.fst (0,0,0)).snd.snd 4096)) &&& BitVec.ofInt 8 63).toNat:Int))).toNat:Int),IntKind.u8.wrap (↑(BitVec.ofInt 8 128 ||| BitVec.ofInt 8 (IntKind.u8.wrap (↑(BitVec.ofInt 8 (IntKind.u8.wrap (Int.fdiv (l.getD x1.val.fst (0,0,0)).snd.snd 64)) &&& BitVec.ofInt 8 63).toNat:Int))).toNat:Int),IntKind.u8.wrap (↑(BitVec.ofInt 8 128 ||| BitVec.ofInt 8 (IntKind.u8.wrap (↑(BitVec.ofInt 8 (IntKind.u8.wrap (l.getD x1.val.fst (0,0,0)).snd.snd) &&& BitVec.ofInt 8 63).toNat:Int))).toNat:Int)]=x1.val.snd.snd++encI (l.getD x1.val.fst (0,0,0)).snd.snd) ∧
                        (((l.getD x1.val.fst (0,0,0)).fst=(l.getD x1.val.fst (0,0,0)).fst) ∧
                        (((l.getD x1.val.fst (0,0,0)).snd.fst=(l.getD x1.val.fst (0,0,0)).snd.fst) ∧
                        ((l.getD x1.val.fst (0,0,0)).snd.snd=(l.getD x1.val.fst (0,0,0)).snd.snd))))))))))) ∧
                     (¬IntKind.u32.wrap (l.getD x1.val.fst (0, 0, 0)).snd.snd ≤ 1114111 →
                      (((x1.val.snd.snd.length+3)*1≤140737488355328) ∧
                      (∃ x2 : Unit,
                       ((l=l) ∧
                       (((↑l.length:Int)=(↑l.length:Int)) ∧
                       (((↑x1.val.fst:Int)=(↑x1.val.fst:Int)) ∧
                       ((x1.val.snd.fst=x1.val.snd.fst) ∧
                       ((x1.val.snd.snd++[239,191,189]=x1.val.snd.snd++encI (l.getD x1.val.fst (0,0,0)).snd.snd) ∧
                       (((l.getD x1.val.fst (0,0,0)).fst=(l.getD x1.val.fst (0,0,0)).fst) ∧
                       (((l.getD x1.val.fst (0,0,0)).snd.fst=(l.getD x1.val.fst (0,0,0)).snd.fst) ∧
                       ((l.getD x1.val.fst (0,0,0)).snd.snd=(l.getD x1.val.fst (0,0,0)).snd.snd))))))))))))) ∧
                   (¬65535 < IntKind.u32.wrap (l.getD x1.val.fst (0, 0, 0)).snd.snd →
                    (((x1.val.snd.snd.length+3)*1≤140737488355328) ∧
                    (∃ x2 : Unit,
                     ((l=l) ∧
                     (((↑l.length:Int)=(↑l.length:Int)) ∧
                     (((↑x1.val.fst:Int)=(↑x1.val.fst:Int)) ∧
                     ((x1.val.snd.fst=x1.val.snd.fst) ∧
                     ((x1.val.snd.snd++[239,191,189]=x1.val.snd.snd++encI (l.getD x1.val.fst (0,0,0)).snd.snd) ∧
                     (((l.getD x1.val.fst (0,0,0)).fst=(l.getD x1.val.fst (0,0,0)).fst) ∧
                     (((l.getD x1.val.fst (0,0,0)).snd.fst=(l.getD x1.val.fst (0,0,0)).snd.fst) ∧
                     ((l.getD x1.val.fst (0,0,0)).snd.snd=(l.getD x1.val.fst (0,0,0)).snd.snd))))))))))))))) ∧
                (¬57343 < IntKind.u32.wrap (l.getD x1.val.fst (0, 0, 0)).snd.snd →
                 ((65535 < IntKind.u32.wrap (l.getD x1.val.fst (0,0,0)).snd.snd →
                   ((IntKind.u32.wrap (l.getD x1.val.fst (0,0,0)).snd.snd≤1114111 →
                     (((x1.val.snd.snd.length+[IntKind.u8.wrap (↑(BitVec.ofInt 8 240 ||| BitVec.ofInt 8 (IntKind.u8.wrap (Int.fdiv (l.getD x1.val.fst (0,0,0)).snd.snd 262144))).toNat:Int),IntKind.u8.wrap (↑(BitVec.ofInt 8 128 ||| BitVec.ofInt 8 (IntKind.u8.wrap (↑(BitVec.ofInt 8 (IntKind.u8.wrap (Int.fdiv (l.getD x1.val.fst (0,0,0)).snd.snd 4096)) &&& BitVec.ofInt 8 63).toNat:Int))).toNat:Int),IntKind.u8.wrap (↑(BitVec.ofInt 8 128 ||| BitVec.ofInt 8 (IntKind.u8.wrap (↑(BitVec.ofInt 8 (IntKind.u8.wrap (Int.fdiv (l.getD x1.val.fst (0,0,0)).snd.snd 64)) &&& BitVec.ofInt 8 63).toNat:Int))).toNat:Int),IntKind.u8.wrap (↑(BitVec.ofInt 8 128 ||| BitVec.ofInt 8 (IntKind.u8.wrap (↑(BitVec.ofInt 8 (IntKind.u8.wrap (l.getD x1.val.fst (0,0,0)).snd.snd) &&& BitVec.ofInt 8 63).toNat:Int))).toNat:Int)].length)*1≤140737488355328) ∧
                     (∃ x2 : Unit,
                      ((l=l) ∧
                      (((↑l.length:Int)=(↑l.length:Int)) ∧
                      (((↑x1.val.fst:Int)=(↑x1.val.fst:Int)) ∧
                      ((x1.val.snd.fst=x1.val.snd.fst) ∧
                      ((x1.val.snd.snd++[IntKind.u8.wrap (↑(BitVec.ofInt 8 240 ||| BitVec.ofInt 8 (IntKind.u8.wrap (Int.fdiv (l.getD x1.val.fst (0,0,0)).snd.snd 262144))).toNat:Int),IntKind.u8.wrap (↑(BitVec.ofInt 8 128 ||| BitVec.ofInt 8 (IntKind.u8.wrap (↑(BitVec.ofInt 8 (IntKind.u8.wrap (Int.fdiv (l.getD x1.val.fst (0,0,0)).snd.snd 4096)) &&& BitVec.ofInt 8 63).toNat:Int))).toNat:Int),IntKind.u8.wrap (↑(BitVec.ofInt 8 128 ||| BitVec.ofInt 8 (IntKind.u8.wrap (↑(BitVec.ofInt 8 (IntKind.u8.wrap (Int.fdiv (l.getD x1.val.fst (0,0,0)).snd.snd 64)) &&& BitVec.ofInt 8 63).toNat:Int))).toNat:Int),IntKind.u8.wrap (↑(BitVec.ofInt 8 128 ||| BitVec.ofInt 8 (IntKind.u8.wrap (↑(BitVec.ofInt 8 (IntKind.u8.wrap (l.getD x1.val.fst (0,0,0)).snd.snd) &&& BitVec.ofInt 8 63).toNat:Int))).toNat:Int)]=x1.val.snd.snd++encI (l.getD x1.val.fst (0,0,0)).snd.snd) ∧
                      (((l.getD x1.val.fst (0,0,0)).fst=(l.getD x1.val.fst (0,0,0)).fst) ∧
                      (((l.getD x1.val.fst (0,0,0)).snd.fst=(l.getD x1.val.fst (0,0,0)).snd.fst) ∧
                      ((l.getD x1.val.fst (0,0,0)).snd.snd=(l.getD x1.val.fst (0,0,0)).snd.snd))))))))))) ∧
                   (¬IntKind.u32.wrap (l.getD x1.val.fst (0, 0, 0)).snd.snd ≤ 1114111 →
                    (((x1.val.snd.snd.length+3)*1≤140737488355328) ∧
                    (∃ x2 : Unit,
                     ((l=l) ∧
                     (((↑l.length:Int)=(↑l.length:Int)) ∧
                     (((↑x1.val.fst:Int)=(↑x1.val.fst:Int)) ∧
                     ((x1.val.snd.fst=x1.val.snd.fst) ∧
                     ((x1.val.snd.snd++[239,191,189]=x1.val.snd.snd++encI (l.getD x1.val.fst (0,0,0)).snd.snd) ∧
                     (((l.getD x1.val.fst (0,0,0)).fst=(l.getD x1.val.fst (0,0,0)).fst) ∧
                     (((l.getD x1.val.fst (0,0,0)).snd.fst=(l.getD x1.val.fst (0,0,0)).snd.fst) ∧
                     ((l.getD x1.val.fst (0,0,0)).snd.snd=(l.getD x1.val.fst (0,0,0)).snd.snd))))))))))))) ∧
                 (¬65535 < IntKind.u32.wrap (l.getD x1.val.fst (0, 0, 0)).snd.snd →
                  (((x1.val.snd.snd.length+3)*1≤140737488355328) ∧
                  (∃ x2 : Unit,
                   ((l=l) ∧
                   (((↑l.length:Int)=(↑l.length:Int)) ∧
                   (((↑x1.val.fst:Int)=(↑x1.val.fst:Int)) ∧
                   ((x1.val.snd.fst=x1.val.snd.fst) ∧
                   ((x1.val.snd.snd++[239,191,189]=x1.val.snd.snd++encI (l.getD x1.val.fst (0,0,0)).snd.snd) ∧
                   (((l.getD x1.val.fst (0,0,0)).fst=(l.getD x1.val.fst (0,0,0)).fst) ∧
                   (((l.getD x1.val.fst (0,0,0)).snd.fst=(l.getD x1.val.fst (0,0,0)).snd.fst) ∧
                   ((l.getD x1.val.fst (0,0,0)).snd.snd=(l.getD x1.val.fst (0,0,0)).snd.snd)))))))))))))))))))) ∧
            (∀ x2 : Unit,
             ((i64R ((↑x1.val.fst:Int)+1)) ∧
             (∃ x3 : { p : Nat × List Int × List Int // p.fst ≤ l.length ∧ p.snd.fst = encLI (rdA (List.take p.fst l)) ∧ p.snd.snd = encLI (rdB (List.take p.fst l)) },
              ((l.length - x3.val.fst < l.length - x1.val.fst) ∧
              ((l=l) ∧
              (((↑l.length:Int)=(↑l.length:Int)) ∧
              (((↑x1.val.fst:Int)+1=(↑x3.val.fst:Int)) ∧
              ((x1.val.snd.fst=x3.val.snd.fst) ∧
              (x1.val.snd.snd++encI (l.getD x1.val.fst (0,0,0)).snd.snd=x3.val.snd.snd))))))))))))) ∧
         (¬(l.getD x1.val.fst (0, 0, 0)).fst = 3 →
          (((IntKind.u32.wrap (l.getD x1.val.fst (0, 0, 0)).snd.fst ≤ 127 →
             (((x1.val.snd.fst.length+[IntKind.u8.wrap (l.getD x1.val.fst (0,0,0)).snd.fst].length)*1≤140737488355328) ∧
             (∃ x2 : Unit,
              ((l=l) ∧
              (((↑l.length:Int)=(↑l.length:Int)) ∧
              (((↑x1.val.fst:Int)=(↑x1.val.fst:Int)) ∧
              ((x1.val.snd.fst++[IntKind.u8.wrap (l.getD x1.val.fst (0,0,0)).snd.fst]=x1.val.snd.fst++encI (l.getD x1.val.fst (0,0,0)).snd.fst) ∧
              ((x1.val.snd.snd=x1.val.snd.snd) ∧
              (((l.getD x1.val.fst (0,0,0)).fst=(l.getD x1.val.fst (0,0,0)).fst) ∧
              (((l.getD x1.val.fst (0,0,0)).snd.fst=(l.getD x1.val.fst (0,0,0)).snd.fst) ∧
              ((l.getD x1.val.fst (0,0,0)).snd.snd=(l.getD x1.val.fst (0,0,0)).snd.snd))))))))))) ∧
           (¬IntKind.u32.wrap (l.getD x1.val.fst (0, 0, 0)).snd.fst ≤ 127 →
            ((IntKind.u32.wrap (l.getD x1.val.fst (0,0,0)).snd.fst≤2047 →
              (((x1.val.snd.fst.length+[IntKind.u8.wrap (↑(BitVec.ofInt 8 192 ||| BitVec.ofInt 8 (IntKind.u8.wrap (Int.fdiv (l.getD x1.val.fst (0,0,0)).snd.fst 64))).toNat:Int),IntKind.u8.wrap (↑(BitVec.ofInt 8 128 ||| BitVec.ofInt 8 (IntKind.u8.wrap (↑(BitVec.ofInt 8 (IntKind.u8.wrap (l.getD x1.val.fst (0,0,0)).snd.fst) &&& BitVec.ofInt 8 63).toNat:Int))).toNat:Int)].length)*1≤140737488355328) ∧
              (∃ x2 : Unit,
               ((l=l) ∧
               (((↑l.length:Int)=(↑l.length:Int)) ∧
               (((↑x1.val.fst:Int)=(↑x1.val.fst:Int)) ∧
               ((x1.val.snd.fst++[IntKind.u8.wrap (↑(BitVec.ofInt 8 192 ||| BitVec.ofInt 8 (IntKind.u8.wrap (Int.fdiv (l.getD x1.val.fst (0,0,0)).snd.fst 64))).toNat:Int),IntKind.u8.wrap (↑(BitVec.ofInt 8 128 ||| BitVec.ofInt 8 (IntKind.u8.wrap (↑(BitVec.ofInt 8 (IntKind.u8.wrap (l.getD x1.val.fst (0,0,0)).snd.fst) &&& BitVec.ofInt 8 63).toNat:Int))).toNat:Int)]=x1.val.snd.fst++encI (l.getD x1.val.fst (0,0,0)).snd.fst) ∧
               ((x1.val.snd.snd=x1.val.snd.snd) ∧
               (((l.getD x1.val.fst (0,0,0)).fst=(l.getD x1.val.fst (0,0,0)).fst) ∧
               (((l.getD x1.val.fst (0,0,0)).snd.fst=(l.getD x1.val.fst (0,0,0)).snd.fst) ∧
               ((l.getD x1.val.fst (0,0,0)).snd.snd=(l.getD x1.val.fst (0,0,0)).snd.snd))))))))))) ∧
            (¬IntKind.u32.wrap (l.getD x1.val.fst (0, 0, 0)).snd.fst ≤ 2047 →
             ((IntKind.u32.wrap (l.getD x1.val.fst (0,0,0)).snd.fst < 55296 →
               ((IntKind.u32.wrap (l.getD x1.val.fst (0,0,0)).snd.fst < 55296 →
                 (((x1.val.snd.fst.length+[IntKind.u8.wrap (↑(BitVec.ofInt 8 224 ||| BitVec.ofInt 8 (IntKind.u8.wrap (Int.fdiv (l.getD x1.val.fst (0,0,0)).snd.fst 4096))).toNat:Int),IntKind.u8.wrap (↑(BitVec.ofInt 8 128 ||| BitVec.ofInt 8 (IntKind.u8.wrap (↑(BitVec.ofInt 8 (IntKind.u8.wrap (Int.fdiv (l.getD x1.val.fst (0,0,0)).snd.fst 64)) &&& BitVec.ofInt 8 63).toNat:Int))).toNat:Int),IntKind.u8.wrap (↑(BitVec.ofInt 8 128 ||| BitVec.ofInt 8 (IntKind.u8.wrap (↑(BitVec.ofInt 8 (IntKind.u8.wrap (l.getD x1.val.fst (0,0,0)).snd.fst) &&& BitVec.ofInt 8 63).toNat:Int))).toNat:Int)].length)*1≤140737488355328) ∧
                 (∃ x2 : Unit,
                  ((l=l) ∧
                  (((↑l.length:Int)=(↑l.length:Int)) ∧
                  (((↑x1.val.fst:Int)=(↑x1.val.fst:Int)) ∧
                  ((x1.val.snd.fst++[IntKind.u8.wrap (↑(BitVec.ofInt 8 224 ||| BitVec.ofInt 8 (IntKind.u8.wrap (Int.fdiv (l.getD x1.val.fst (0,0,0)).snd.fst 4096))).toNat:Int),IntKind.u8.wrap (↑(BitVec.ofInt 8 128 ||| BitVec.ofInt 8 (IntKind.u8.wrap (↑(BitVec.ofInt 8 (IntKind.u8.wrap (Int.fdiv (l.getD x1.val.fst (0,0,0)).snd.fst 64)) &&& BitVec.ofInt 8 63).toNat:Int))).toNat:Int),IntKind.u8.wrap (↑(BitVec.ofInt 8 128 ||| BitVec.ofInt 8 (IntKind.u8.wrap (↑(BitVec.ofInt 8 (IntKind.u8.wrap (l.getD x1.val.fst (0,0,0)).snd.fst) &&& BitVec.ofInt 8 63).toNat:Int))).toNat:Int)]=x1.val.snd.fst++encI (l.getD x1.val.fst (0,0,0)).snd.fst) ∧
                  ((x1.val.snd.snd=x1.val.snd.snd) ∧
                  (((l.getD x1.val.fst (0,0,0)).fst=(l.getD x1.val.fst (0,0,0)).fst) ∧
                  (((l.getD x1.val.fst (0,0,0)).snd.fst=(l.getD x1.val.fst (0,0,0)).snd.fst) ∧
                  ((l.getD x1.val.fst (0,0,0)).snd.snd=(l.getD x1.val.fst (0,0,0)).snd.snd))))))))))) ∧
               (¬IntKind.u32.wrap (l.getD x1.val.fst (0, 0, 0)).snd.fst < 55296 →
                ((65535 < IntKind.u32.wrap (l.getD x1.val.fst (0,0,0)).snd.fst →
                  ((IntKind.u32.wrap (l.getD x1.val.fst (0,0,0)).snd.fst≤1114111 →
                    (((x1.val.snd.fst.length+[IntKind.u8.wrap (↑(BitVec.ofInt 8 240 ||| BitVec.ofInt 8 (IntKind.u8.wrap (Int.fdiv (l.getD x1.val.fst (0,0,0)).snd.fst 262144))).toNat:Int),IntKind.u8.wrap (↑(BitVec.ofInt 8 128 ||| BitVec.ofInt 8 (IntKind.u8.wrap (↑(BitVec.ofInt 8 (IntKind.u8.wrap (Int.fdiv (l.getD x1.val.fst (0,0,0)).snd.fst 4096)) &&& BitVec.ofInt 8 63).toNat:Int))).toNat:Int),IntKind.u8.wrap (↑(BitVec.ofInt 8 128 ||| BitVec.ofInt 8 (IntKind.u8.wrap (↑(BitVec.ofInt 8 (IntKind.u8.wrap (Int.fdiv (l.getD x1.val.fst (0,0,0)).snd.fst 64)) &&& BitVec.ofInt 8 63).toNat:Int))).toNat:Int),IntKind.u8.wrap (↑(BitVec.ofInt 8 128 ||| BitVec.ofInt 8 (IntKind.u8.wrap (↑(BitVec.ofInt 8 (IntKind.u8.wrap (l.getD x1.val.fst (0,0,0)).snd.fst) &&& BitVec.ofInt 8 63).toNat:Int))).toNat:Int)].length)*1≤140737488355328) ∧
                    (∃ x2 : Unit,
                     ((l=l) ∧
                     (((↑l.length:Int)=(↑l.length:Int)) ∧
                     (((↑x1.val.fst:Int)=(↑x1.val.fst:Int)) ∧
                     ((x1.val.snd.fst++[IntKind.u8.wrap (↑(BitVec.ofInt 8 240 ||| BitVec.ofInt 8 (IntKind.u8.wrap (Int.fdiv (l.getD x1.val.fst (0,0,0)).snd.fst 262144))).toNat:Int),IntKind.u8.wrap (↑(BitVec.ofInt 8 128 ||| BitVec.ofInt 8 (IntKind.u8.wrap (↑(BitVec.ofInt 8 (IntKind.u8.wrap (Int.fdiv (l.getD x1.val.fst (0,0,0)).snd.fst 4096)) &&& BitVec.ofInt 8 63).toNat:Int))).toNat:Int),IntKind.u8.wrap (↑(BitVec.ofInt 8 128 ||| BitVec.ofInt 8 (IntKind.u8.wrap (↑(BitVec.ofInt 8 (IntKind.u8.wrap (Int.fdiv (l.getD x1.val.fst (0,0,0)).snd.fst 64)) &&& BitVec.ofInt 8 63).toNat:Int))).toNat:Int),IntKind.u8.wrap (↑(BitVec.ofInt 8 128 ||| BitVec.ofInt 8 (IntKind.u8.wrap (↑(BitVec.ofInt 8 (IntKind.u8.wrap (l.getD x1.val.fst (0,0,0)).snd.fst) &&& BitVec.ofInt 8 63).toNat:Int))).toNat:Int)]=x1.val.snd.fst++encI (l.getD x1.val.fst (0,0,0)).snd.fst) ∧
                     ((x1.val.snd.snd=x1.val.snd.snd) ∧
                     (((l.getD x1.val.fst (0,0,0)).fst=(l.getD x1.val.fst (0,0,0)).fst) ∧
                     (((l.getD x1.val.fst (0,0,0)).snd.fst=(l.getD x1.val.fst (0,0,0)).snd.fst) ∧
                     ((l.getD x1.val.fst (0,0,0)).snd.snd=(l.getD x1.val.fst (0,0,0)).snd.snd))))))))))) ∧
                  (¬IntKind.u32.wrap (l.getD x1.val.fst (0, 0, 0)).snd.fst ≤ 1114111 →
                   (((x1.val.snd.fst.length+3)*1≤140737488355328) ∧
                   (∃ x2 : Unit,
                    ((l=l) ∧
                    (((↑l.length:Int)=(↑l.length:Int)) ∧
                    (((↑x1.val.fst:Int)=(↑x1.val.fst:Int)) ∧
                    ((x1.val.snd.fst++[239,191,189]=x1.val.snd.fst++encI (l.getD x1.val.fst (0,0,0)).snd.fst) ∧
                    ((x1.val.snd.snd=x1.val.snd.snd) ∧
                    (((l.getD x1.val.fst (0,0,0)).fst=(l.getD x1.val.fst (0,0,0)).fst) ∧
                    (((l.getD x1.val.fst (0,0,0)).snd.fst=(l.getD x1.val.fst (0,0,0)).snd.fst) ∧
                    ((l.getD x1.val.fst (0,0,0)).snd.snd=(l.getD x1.val.fst (0,0,0)).snd.snd))))))))))))) ∧
                (¬65535 < IntKind.u32.wrap (l.getD x1.val.fst (0, 0, 0)).snd.fst →
                 (((x1.val.snd.fst.length+3)*1≤140737488355328) ∧
                 (∃ x2 : Unit,
                  ((l=l) ∧
                  (((↑l.length:Int)=(↑l.length:Int)) ∧
                  (((↑x1.val.fst:Int)=(↑x1.val.fst:Int)) ∧
                  ((x1.val.snd.fst++[239,191,189]=x1.val.snd.fst++encI (l.getD x1.val.fst (0,0,0)).snd.fst) ∧
                  ((x1.val.snd.snd=x1.val.snd.snd) ∧
                  (((l.getD x1.val.fst (0,0,0)).fst=(l.getD x1.val.fst (0,0,0)).fst) ∧
                  (((l.getD x1.val.fst (0,0,0)).snd.fst=(l.getD x1.val.fst (0,0,0)).snd.fst) ∧
                  ((l.getD x1.val.fst (0,0,0)).snd.snd=(l.getD x1.val.fst (0,0,0)).snd.snd))))))))))))))) ∧
             (¬IntKind.u32.wrap (l.getD x1.val.fst (0, 0, 0)).snd.fst < 55296 →
              ((57343 < IntKind.u32.wrap (l.getD x1.val.fst (0,0,0)).snd.fst →
                ((IntKind.u32.wrap (l.getD x1.val.fst (0,0,0)).snd.fst≤65535 →
                  (((x1.val.snd.fst.length+[IntKind.u8.wrap (↑(BitVec.ofInt 8 224 ||| BitVec.ofInt 8 (IntKind.u8.wrap (Int.fdiv (l.getD x1.val.fst (0,0,0)).snd.fst 4096))).toNat:Int),IntKind.u8.wrap (↑(BitVec.ofInt 8 128 ||| BitVec.ofInt 8 (IntKind.u8.wrap (↑(BitVec.ofInt 8 (IntKind.u8.wrap (Int.fdiv (l.getD x1.val.fst (0,0,0)).snd.fst 64)) &&& BitVec.ofInt 8 63).toNat:Int))).toNat:Int),IntKind.u8.wrap (↑(BitVec.ofInt 8 128 ||| BitVec.ofInt 8 (IntKind.u8.wrap (↑(BitVec.ofInt 8 (IntKind.u8.wrap (l.getD x1.val.fst (0,0,0)).snd.fst) &&& BitVec.ofInt 8 63).toNat:Int))).toNat:Int)].length)*1≤140737488355328) ∧
                  (∃ x2 : Unit,
                   ((l=l) ∧
                   (((↑l.length:Int)=(↑l.length:Int)) ∧
                   (((↑x1.val.fst:Int)=(↑x1.val.fst:Int)) ∧
                   ((x1.val.snd.fst++[IntKind.u8.wrap (↑(BitVec.ofInt 8 224 ||| BitVec.ofInt 8 (IntKind.u8.wrap (Int.fdiv (l.getD x1.val.fst (0,0,0)).snd.fst 4096))).toNat:Int),IntKind.u8.wrap (↑(BitVec.ofInt 8 128 ||| BitVec.ofInt 8 (IntKind.u8.wrap (↑(BitVec.ofInt 8 (IntKind.u8.wrap (Int.fdiv (l.getD x1.val.fst (0,0,0)).snd.fst 64)) &&& BitVec.ofInt 8 63).toNat:Int))).toNat:Int),IntKind.u8.wrap (↑(BitVec.ofInt 8 128 ||| BitVec.ofInt 8 (IntKind.u8.wrap (↑(BitVec.ofInt 8 (IntKind.u8.wrap (l.getD x1.val.fst (0,0,0)).snd.fst) &&& BitVec.ofInt 8 63).toNat:Int))).toNat:Int)]=x1.val.snd.fst++encI (l.getD x1.val.fst (0,0,0)).snd.fst) ∧
                   ((x1.val.snd.snd=x1.val.snd.snd) ∧
                   (((l.getD x1.val.fst (0,0,0)).fst=(l.getD x1.val.fst (0,0,0)).fst) ∧
                   (((l.getD x1.val.fst (0,0,0)).snd.fst=(l.getD x1.val.fst (0,0,0)).snd.fst) ∧
                   ((l.getD x1.val.fst (0,0,0)).snd.snd=(l.getD x1.val.fst (0,0,0)).snd.snd))))))))))) ∧
                (¬IntKind.u32.wrap (l.getD x1.val.fst (0, 0, 0)).snd.fst ≤ 65535 →
                 ((65535 < IntKind.u32.wrap (l.getD x1.val.fst (0,0,0)).snd.fst →
                   ((IntKind.u32.wrap (l.getD x1.val.fst (0,0,0)).snd.fst≤1114111 →
                     (((x1.val.snd.fst.length+[IntKind.u8.wrap (↑(BitVec.ofInt 8 240 ||| BitVec.ofInt 8 (IntKind.u8.wrap (Int.fdiv (l.getD x1.val.fst (0,0,0)).snd.fst 262144))).toNat:Int),IntKind.u8.wrap (↑(BitVec.ofInt 8 128 ||| BitVec.ofInt 8 (IntKind.u8.wrap (↑(BitVec.ofInt 8 (IntKind.u8.wrap (Int.fdiv (l.getD x1.val.fst (0,0,0)).snd.fst 4096)) &&& BitVec.ofInt 8 63).toNat:Int))).toNat:Int),IntKind.u8.wrap (↑(BitVec.ofInt 8 128 ||| BitVec.ofInt 8 (IntKind.u8.wrap (↑(BitVec.ofInt 8 (IntKind.u8.wrap (Int.fdiv (l.getD x1.val.fst (0,0,0)).snd.fst 64)) &&& BitVec.ofInt 8 63).toNat:Int))).toNat:Int),IntKind.u8.wrap (↑(BitVec.ofInt 8 128 ||| BitVec.ofInt 8 (IntKind.u8.wrap (↑(BitVec.ofInt 8 (IntKind.u8.wrap (l.getD x1.val.fst (0,0,0)).snd.fst) &&& BitVec.ofInt 8 63).toNat:Int))).toNat:Int)].length)*1≤140737488355328) ∧
                     (∃ x2 : Unit,
                      ((l=l) ∧
                      (((↑l.length:Int)=(↑l.length:Int)) ∧
                      (((↑x1.val.fst:Int)=(↑x1.val.fst:Int)) ∧
                      ((x1.val.snd.fst++[IntKind.u8.wrap (↑(BitVec.ofInt 8 240 ||| BitVec.ofInt 8 (IntKind.u8.wrap (Int.fdiv (l.getD x1.val.fst (0,0,0)).snd.fst 262144))).toNat:Int),IntKind.u8.wrap (↑(BitVec.ofInt 8 128 ||| BitVec.ofInt 8 (IntKind.u8.wrap (↑(BitVec.ofInt 8 (IntKind.u8.wrap (Int.fdiv (l.getD x1.val.fst (0,0,0)).snd.fst 4096)) &&& BitVec.ofInt 8 63).toNat:Int))).toNat:Int),IntKind.u8.wrap (↑(BitVec.ofInt 8 128 ||| BitVec.ofInt 8 (IntKind.u8.wrap (↑(BitVec.ofInt 8 (IntKind.u8.wrap (Int.fdiv (l.getD x1.val.fst (0,0,0)).snd.fst 64)) &&& BitVec.ofInt 8 63).toNat:Int))).toNat:Int),IntKind.u8.wrap (↑(BitVec.ofInt 8 128 ||| BitVec.ofInt 8 (IntKind.u8.wrap (↑(BitVec.ofInt 8 (IntKind.u8.wrap (l.getD x1.val.fst (0,0,0)).snd.fst) &&& BitVec.ofInt 8 63).toNat:Int))).toNat:Int)]=x1.val.snd.fst++encI (l.getD x1.val.fst (0,0,0)).snd.fst) ∧
                      ((x1.val.snd.snd=x1.val.snd.snd) ∧
                      (((l.getD x1.val.fst (0,0,0)).fst=(l.getD x1.val.fst (0,0,0)).fst) ∧
                      (((l.getD x1.val.fst (0,0,0)).snd.fst=(l.getD x1.val.fst (0,0,0)).snd.fst) ∧
                      ((l.getD x1.val.fst (0,0,0)).snd.snd=(l.getD x1.val.fst (0,0,0)).snd.snd))))))))))) ∧
                   (¬IntKind.u32.wrap (l.getD x1.val.fst (0, 0, 0)).snd.fst ≤ 1114111 →
                    (((x1.val.snd.fst.length+3)*1≤140737488355328) ∧
                    (∃ x2 : Unit,
                     ((l=l) ∧
                     (((↑l.length:Int)=(↑l.length:Int)) ∧
                     (((↑x1.val.fst:Int)=(↑x1.val.fst:Int)) ∧
                     ((x1.val.snd.fst++[239,191,189]=x1.val.snd.fst++encI (l.getD x1.val.fst (0,0,0)).snd.fst) ∧
                     ((x1.val.snd.snd=x1.val.snd.snd) ∧
                     (((l.getD x1.val.fst (0,0,0)).fst=(l.getD x1.val.fst (0,0,0)).fst) ∧
                     (((l.getD x1.val.fst (0,0,0)).snd.fst=(l.getD x1.val.fst (0,0,0)).snd.fst) ∧
                     ((l.getD x1.val.fst (0,0,0)).snd.snd=(l.getD x1.val.fst (0,0,0)).snd.snd))))))))))))) ∧
                 (¬65535 < IntKind.u32.wrap (l.getD x1.val.fst (0, 0, 0)).snd.fst →
                  (((x1.val.snd.fst.length+3)*1≤140737488355328) ∧
                  (∃ x2 : Unit,
                   ((l=l) ∧
                   (((↑l.length:Int)=(↑l.length:Int)) ∧
                   (((↑x1.val.fst:Int)=(↑x1.val.fst:Int)) ∧
                   ((x1.val.snd.fst++[239,191,189]=x1.val.snd.fst++encI (l.getD x1.val.fst (0,0,0)).snd.fst) ∧
                   ((x1.val.snd.snd=x1.val.snd.snd) ∧
                   (((l.getD x1.val.fst (0,0,0)).fst=(l.getD x1.val.fst (0,0,0)).fst) ∧
                   (((l.getD x1.val.fst (0,0,0)).snd.fst=(l.getD x1.val.fst (0,0,0)).snd.fst) ∧
                   ((l.getD x1.val.fst (0,0,0)).snd.snd=(l.getD x1.val.fst (0,0,0)).snd.snd))))))))))))))) ∧
              (¬57343 < IntKind.u32.wrap (l.getD x1.val.fst (0, 0, 0)).snd.fst →
               ((65535 < IntKind.u32.wrap (l.getD x1.val.fst (0,0,0)).snd.fst →
                 ((IntKind.u32.wrap (l.getD x1.val.fst (0,0,0)).snd.fst≤1114111 →
                   (((x1.val.snd.fst.length+[IntKind.u8.wrap (↑(BitVec.ofInt 8 240 ||| BitVec.ofInt 8 (IntKind.u8.wrap (Int.fdiv (l.getD x1.val.fst (0,0,0)).snd.fst 262144))).toNat:Int),IntKind.u8.wrap (↑(BitVec.ofInt 8 128 ||| BitVec.ofInt 8 (IntKind.u8.wrap (↑(BitVec.ofInt 8 (IntKind.u8.wrap (Int.fdiv (l.getD x1.val.fst (0,0,0)).snd.fst 4096)) &&& BitVec.ofInt 8 63).toNat:Int))).toNat:Int),IntKind.u8.wrap (↑(BitVec.ofInt 8 128 ||| BitVec.ofInt 8 (IntKind.u8.wrap (↑(BitVec.ofInt 8 (IntKind.u8.wrap (Int.fdiv (l.getD x1.val.fst (0,0,0)).snd.fst 64)) &&& BitVec.ofInt 8 63).toNat:Int))).toNat:Int),IntKind.u8.wrap (↑(BitVec.ofInt 8 128 ||| BitVec.ofInt 8 (IntKind.u8.wrap (↑(BitVec.ofInt 8 (IntKind.u8.wrap (l.getD x1.val.fst (0,0,0)).snd.fst) &&& BitVec.ofInt 8 63).toNat:Int))).toNat:Int)].length)*1≤140737488355328) ∧
                   (∃ x2 : Unit,
                    ((l=l) ∧
                    (((↑l.length:Int)=(↑l.length:Int)) ∧
                    (((↑x1.val.fst:Int)=(↑x1.val.fst:Int)) ∧
                    ((x1.val.snd.fst++[IntKind.u8.wrap (↑(BitVec.ofInt 8 240 ||| BitVec.ofInt 8 (IntKind.u8.wrap (Int.fdiv (l.getD x1.val.fst (0,0,0)).snd.fst 262144))).toNat:Int),IntKind.u8.wrap (↑(BitVec.ofInt 8 128 ||| BitVec.ofInt 8 (IntKind.u8.wrap (↑(BitVec.ofInt 8 (IntKind.u8.wrap (Int.fdiv (l.getD x1.val.fst (0,0,0)).snd.fst 4096)) &&& BitVec.ofInt 8 63).toNat:Int))).toNat:Int),IntKind.u8.wrap (↑(BitVec.ofInt 8 128 ||| BitVec.ofInt 8 (IntKind.u8.wrap (↑(BitVec.ofInt 8 (IntKind.u8.wrap (Int.fdiv (l.getD x1.val.fst (0,0,0)).snd.fst 64)) &&& BitVec.ofInt 8 63).toNat:Int))).toNat:Int),IntKind.u8.wrap (↑(BitVec.ofInt 8 128 ||| BitVec.ofInt 8 (IntKind.u8.wrap (↑(BitVec.ofInt 8 (IntKind.u8.wrap (l.getD x1.val.fst (0,0,0)).snd.fst) &&& BitVec.ofInt 8 63).toNat:Int))).toNat:Int)]=x1.val.snd.fst++encI (l.getD x1.val.fst (0,0,0)).snd.fst) ∧
                    ((x1.val.snd.snd=x1.val.snd.snd) ∧
                    (((l.getD x1.val.fst (0,0,0)).fst=(l.getD x1.val.fst (0,0,0)).fst) ∧
                    (((l.getD x1.val.fst (0,0,0)).snd.fst=(l.getD x1.val.fst (0,0,0)).snd.fst) ∧
                    ((l.getD x1.val.fst (0,0,0)).snd.snd=(l.getD x1.val.fst (0,0,0)).snd.snd))))))))))) ∧
                 (¬IntKind.u32.wrap (l.getD x1.val.fst (0, 0, 0)).snd.fst ≤ 1114111 →
                  (((x1.val.snd.fst.length+3)*1≤140737488355328) ∧
                  (∃ x2 : Unit,
                   ((l=l) ∧
                   (((↑l.length:Int)=(↑l.length:Int)) ∧
                   (((↑x1.val.fst:Int)=(↑x1.val.fst:Int)) ∧
                   ((x1.val.snd.fst++[239,191,189]=x1.val.snd.fst++encI (l.getD x1.val.fst (0,0,0)).snd.fst) ∧
                   ((x1.val.snd.snd=x1.val.snd.snd) ∧
                   (((l.getD x1.val.fst (0,0,0)).fst=(l.getD x1.val.fst (0,0,0)).fst) ∧
                   (((l.getD x1.val.fst (0,0,0)).snd.fst=(l.getD x1.val.fst (0,0,0)).snd.fst) ∧
                   ((l.getD x1.val.fst (0,0,0)).snd.snd=(l.getD x1.val.fst (0,0,0)).snd.snd))))))))))))) ∧
               (¬65535 < IntKind.u32.wrap (l.getD x1.val.fst (0, 0, 0)).snd.fst →
                (((x1.val.snd.fst.length+3)*1≤140737488355328) ∧
                (∃ x2 : Unit,
                 ((l=l) ∧
                 (((↑l.length:Int)=(↑l.length:Int)) ∧
                 (((↑x1.val.fst:Int)=(↑x1.val.fst:Int)) ∧
                 ((x1.val.snd.fst++[239,191,189]=x1.val.snd.fst++encI (l.getD x1.val.fst (0,0,0)).snd.fst) ∧
                 ((x1.val.snd.snd=x1.val.snd.snd) ∧
                 (((l.getD x1.val.fst (0,0,0)).fst=(l.getD x1.val.fst (0,0,0)).fst) ∧
                 (((l.getD x1.val.fst (0,0,0)).snd.fst=(l.getD x1.val.fst (0,0,0)).snd.fst) ∧
                 ((l.getD x1.val.fst (0,0,0)).snd.snd=(l.getD x1.val.fst (0,0,0)).snd.snd)))))))))))))))))))) ∧
          (∀ x2 : Unit,
           (((l.getD x1.val.fst (0,0,0)).fst=2 →
             ((i64R ((↑x1.val.fst:Int)+1)) ∧
             (∃ x3 : { p : Nat × List Int × List Int // p.fst ≤ l.length ∧ p.snd.fst = encLI (rdA (List.take p.fst l)) ∧ p.snd.snd = encLI (rdB (List.take p.fst l)) },
              ((l.length - x3.val.fst < l.length - x1.val.fst) ∧
              ((l=l) ∧
              (((↑l.length:Int)=(↑l.length:Int)) ∧
              (((↑x1.val.fst:Int)+1=(↑x3.val.fst:Int)) ∧
              ((x1.val.snd.fst++encI (l.getD x1.val.fst (0,0,0)).snd.fst=x3.val.snd.fst) ∧
              (x1.val.snd.snd=x3.val.snd.snd))))))))) ∧
           (¬(l.getD x1.val.fst (0, 0, 0)).fst = 2 →
            (((IntKind.u32.wrap (l.getD x1.val.fst (0, 0, 0)).snd.snd ≤ 127 →
               (((x1.val.snd.snd.length+[IntKind.u8.wrap (l.getD x1.val.fst (0,0,0)).snd.snd].length)*1≤140737488355328) ∧
               (∃ x3 : Unit,
                ((l=l) ∧
                (((↑l.length:Int)=(↑l.length:Int)) ∧
                (((↑x1.val.fst:Int)=(↑x1.val.fst:Int)) ∧
                ((x1.val.snd.fst++encI (l.getD x1.val.fst (0,0,0)).snd.fst=x1.val.snd.fst++encI (l.getD x1.val.fst (0,0,0)).snd.fst) ∧
                ((x1.val.snd.snd++[IntKind.u8.wrap (l.getD x1.val.fst (0,0,0)).snd.snd]=x1.val.snd.snd++encI (l.getD x1.val.fst (0,0,0)).snd.snd) ∧
                (((l.getD x1.val.fst (0,0,0)).fst=(l.getD x1.val.fst (0,0,0)).fst) ∧
                (((l.getD x1.val.fst (0,0,0)).snd.fst=(l.getD x1.val.fst (0,0,0)).snd.fst) ∧
                ((l.getD x1.val.fst (0,0,0)).snd.snd=(l.getD x1.val.fst (0,0,0)).snd.snd))))))))))) ∧
             (¬IntKind.u32.wrap (l.getD x1.val.fst (0, 0, 0)).snd.snd ≤ 127 →
              ((IntKind.u32.wrap (l.getD x1.val.fst (0,0,0)).snd.snd≤2047 →
                (((x1.val.snd.snd.length+[IntKind.u8.wrap (↑(BitVec.ofInt 8 192 ||| BitVec.ofInt 8 (IntKind.u8.wrap (Int.fdiv (l.getD x1.val.fst (0,0,0)).snd.snd 64))).toNat:Int),IntKind.u8.wrap (↑(BitVec.ofInt 8 128 ||| BitVec.ofInt 8 (IntKind.u8.wrap (↑(BitVec.ofInt 8 (IntKind.u8.wrap (l.getD x1.val.fst (0,0,0)).snd.snd) &&& BitVec.ofInt 8 63).toNat:Int))).toNat:Int)].length)*1≤140737488355328) ∧
                (∃ x3 : Unit,
                 ((l=l) ∧
                 (((↑l.length:Int)=(↑l.length:Int)) ∧
                 (((↑x1.val.fst:Int)=(↑x1.val.fst:Int)) ∧
                 ((x1.val.snd.fst++encI (l.getD x1.val.fst (0,0,0)).snd.fst=x1.val.snd.fst++encI (l.getD x1.val.fst (0,0,0)).snd.fst) ∧
                 ((x1.val.snd.snd++[IntKind.u8.wrap (↑(BitVec.ofInt 8 192 ||| BitVec.ofInt 8 (IntKind.u8.wrap (Int.fdiv (l.getD x1.val.fst (0,0,0)).snd.snd 64))).toNat:Int),IntKind.u8.wrap (↑(BitVec.ofInt 8 128 ||| BitVec.ofInt 8 (IntKind.u8.wrap (↑(BitVec.ofInt 8 (IntKind.u8.wrap (l.getD x1.val.fst (0,0,0)).snd.snd) &&& BitVec.ofInt 8 63).toNat:Int))).toNat:Int)]=x1.val.snd.snd++encI (l.getD x1.val.fst (0,0,0)).snd.snd) ∧
                 (((l.getD x1.val.fst (0,0,0)).fst=(l.getD x1.val.fst (0,0,0)).fst) ∧
                 (((l.getD x1.val.fst (0,0,0)).snd.fst=(l.getD x1.val.fst (0,0,0)).snd.fst) ∧
                 ((l.getD x1.val.fst (0,0,0)).snd.snd=(l.getD x1.val.fst (0,0,0)).snd.snd))))))))))) ∧
              (¬IntKind.u32.wrap (l.getD x1.val.fst (0, 0, 0)).snd.snd ≤ 2047 →
               ((IntKind.u32.wrap (l.getD x1.val.fst (0,0,0)).snd.snd < 55296 →
                 ((IntKind.u32.wrap (l.getD x1.val.fst (0,0,0)).snd.snd < 55296 →
                   (((x1.val.snd.snd.length+[IntKind.u8.wrap (↑(BitVec.ofInt 8 224 ||| BitVec.ofInt 8 (IntKind.u8.wrap (Int.fdiv (l.getD x1.val.fst (0,0,0)).snd.snd 4096))).toNat:Int),IntKind.u8.wrap (↑(BitVec.ofInt 8 128 ||| BitVec.ofInt 8 (IntKind.u8.wrap (↑(BitVec.ofInt 8 (IntKind.u8.wrap (Int.fdiv (l.getD x1.val.fst (0,0,0)).snd.snd 64)) &&& BitVec.ofInt 8 63).toNat:Int))).toNat:Int),IntKind.u8.wrap (↑(BitVec.ofInt 8 128 ||| BitVec.ofInt 8 (IntKind.u8.wrap (↑(BitVec.ofInt 8 (IntKind.u8.wrap (l.getD x1.val.fst (0,0,0)).snd.snd) &&& BitVec.ofInt 8 63).toNat:Int))).toNat:Int)].length)*1≤140737488355328) ∧
                   (∃ x3 : Unit,
                    ((l=l) ∧
                    (((↑l.length:Int)=(↑l.length:Int)) ∧
                    (((↑x1.val.fst:Int)=(↑x1.val.fst:Int)) ∧
                    ((x1.val.snd.fst++encI (l.getD x1.val.fst (0,0,0)).snd.fst=x1.val.snd.fst++encI (l.getD x1.val.fst (0,0,0)).snd.fst) ∧
                    ((x1.val.snd.snd++[IntKind.u8.wrap (↑(BitVec.ofInt 8 224 ||| BitVec.ofInt 8 (IntKind.u8.wrap (Int.fdiv (l.getD x1.val.fst (0,0,0)).snd.snd 4096))).toNat:Int),IntKind.u8.wrap (↑(BitVec.ofInt 8 128 ||| BitVec.ofInt 8 (IntKind.u8.wrap (↑(BitVec.ofInt 8 (IntKind.u8.wrap (Int.fdiv (l.getD x1.val.fst (0,0,0)).snd.snd 64)) &&& BitVec.ofInt 8 63).toNat:Int))).toNat:Int),IntKind.u8.wrap (↑(BitVec.ofInt 8 128 ||| BitVec.ofInt 8 (IntKind.u8.wrap (↑(BitVec.ofInt 8 (IntKind.u8.wrap (l.getD x1.val.fst (0,0,0)).snd.snd) &&& BitVec.ofInt 8 63).toNat:Int))).toNat:Int)]=x1.val.snd.snd++encI (l.getD x1.val.fst (0,0,0)).snd.snd) ∧
                    (((l.getD x1.val.fst (0,0,0)).fst=(l.getD x1.val.fst (0,0,0)).fst) ∧
                    (((l.getD x1.val.fst (0,0,0)).snd.fst=(l.getD x1.val.fst (0,0,0)).snd.fst) ∧
                    ((l.getD x1.val.fst (0,0,0)).snd.snd=(l.getD x1.val.fst (0,0,0)).snd.snd))))))))))) ∧
                 (¬IntKind.u32.wrap (l.getD x1.val.fst (0, 0, 0)).snd.snd < 55296 →
                  ((65535 < IntKind.u32.wrap (l.getD x1.val.fst (0,0,0)).snd.snd →
                    ((IntKind.u32.wrap (l.getD x1.val.fst (0,0,0)).snd.snd≤1114111 →
                      (((x1.val.snd.snd.length+[IntKind.u8.wrap (↑(BitVec.ofInt 8 240 ||| BitVec.ofInt 8 (IntKind.u8.wrap (Int.fdiv (l.getD x1.val.fst (0,0,0)).snd.snd 262144))).toNat:Int),IntKind.u8.wrap (↑(BitVec.ofInt 8 128 ||| BitVec.ofInt 8 (IntKind.u8.wrap (↑(BitVec.ofInt 8 (IntKind.u8.wrap (Int.fdiv (l.getD x1.val.fst (0,0,0)).snd.snd 4096)) &&& BitVec.ofInt 8 63).toNat:Int))).toNat:Int),IntKind.u8.wrap (↑(BitVec.ofInt 8 128 ||| BitVec.ofInt 8 (IntKind.u8.wrap (↑(BitVec.ofInt 8 (IntKind.u8.wrap (Int.fdiv (l.getD x1.val.fst (0,0,0)).snd.snd 64)) &&& BitVec.ofInt 8 63).toNat:Int))).toNat:Int),IntKind.u8.wrap (↑(BitVec.ofInt 8 128 ||| BitVec.ofInt 8 (IntKind.u8.wrap (↑(BitVec.ofInt 8 (IntKind.u8.wrap (l.getD x1.val.fst (0,0,0)).snd.snd) &&& BitVec.ofInt 8 63).toNat:Int))).toNat:Int)].length)*1≤140737488355328) ∧
                      (∃ x3 : Unit,
                       ((l=l) ∧
                       (((↑l.length:Int)=(↑l.length:Int)) ∧
                       (((↑x1.val.fst:Int)=(↑x1.val.fst:Int)) ∧
                       ((x1.val.snd.fst++encI (l.getD x1.val.fst (0,0,0)).snd.fst=x1.val.snd.fst++encI (l.getD x1.val.fst (0,0,0)).snd.fst) ∧
                       ((x1.val.snd.snd++[IntKind.u8.wrap (↑(BitVec.ofInt 8 240 ||| BitVec.ofInt 8 (IntKind.u8.wrap (Int.fdiv (l.getD x1.val.fst (0,0,0)).snd.snd 262144))).toNat:Int),IntKind.u8.wrap (↑(BitVec.ofInt 8 128 ||| BitVec.ofInt 8 (IntKind.u8.wrap (↑(BitVec.ofInt 8 (IntKind.u8.wrap (Int.fdiv (l.getD x1.val.fst (0,0,0)).snd.snd 4096)) &&& BitVec.ofInt 8 63).toNat:Int))).toNat:Int),IntKind.u8.wrap (↑(BitVec.ofInt 8 128 ||| BitVec.ofInt 8 (IntKind.u8.wrap (↑(BitVec.ofInt 8 (IntKind.u8.wrap (Int.fdiv (l.getD x1.val.fst (0,0,0)).snd.snd 64)) &&& BitVec.ofInt 8 63).toNat:Int))).toNat:Int),IntKind.u8.wrap (↑(BitVec.ofInt 8 128 ||| BitVec.ofInt 8 (IntKind.u8.wrap (↑(BitVec.ofInt 8 (IntKind.u8.wrap (l.getD x1.val.fst (0,0,0)).snd.snd) &&& BitVec.ofInt 8 63).toNat:Int))).toNat:Int)]=x1.val.snd.snd++encI (l.getD x1.val.fst (0,0,0)).snd.snd) ∧
                       (((l.getD x1.val.fst (0,0,0)).fst=(l.getD x1.val.fst (0,0,0)).fst) ∧
                       (((l.getD x1.val.fst (0,0,0)).snd.fst=(l.getD x1.val.fst (0,0,0)).snd.fst) ∧
                       ((l.getD x1.val.fst (0,0,0)).snd.snd=(l.getD x1.val.fst (0,0,0)).snd.snd))))))))))) ∧
                    (¬IntKind.u32.wrap (l.getD x1.val.fst (0, 0, 0)).snd.snd ≤ 1114111 →
                     (((x1.val.snd.snd.length+3)*1≤140737488355328) ∧
                     (∃ x3 : Unit,
                      ((l=l) ∧
                      (((↑l.length:Int)=(↑l.length:Int)) ∧
                      (((↑x1.val.fst:Int)=(↑x1.val.fst:Int)) ∧
                      ((x1.val.snd.fst++encI (l.getD x1.val.fst (0,0,0)).snd.fst=x1.val.snd.fst++encI (l.getD x1.val.fst (0,0,0)).snd.fst) ∧
                      ((x1.val.snd.snd++[239,191,189]=x1.val.snd.snd++encI (l.getD x1.val.fst (0,0,0)).snd.snd) ∧
                      (((l.getD x1.val.fst (0,0,0)).fst=(l.getD x1.val.fst (0,0,0)).fst) ∧
                      (((l.getD x1.val.fst (0,0,0)).snd.fst=(l.getD x1.val.fst (0,0,0)).snd.fst) ∧
                      ((l.getD x1.val.fst (0,0,0)).snd.snd=(l.getD x1.val.fst (0,0,0)).snd.snd))))))))))))) ∧
                  (¬65535 < IntKind.u32.wrap (l.getD x1.val.fst (0, 0, 0)).snd.snd →
                   (((x1.val.snd.snd.length+3)*1≤140737488355328) ∧
                   (∃ x3 : Unit,
                    ((l=l) ∧
                    (((↑l.length:Int)=(↑l.length:Int)) ∧
                    (((↑x1.val.fst:Int)=(↑x1.val.fst:Int)) ∧
                    ((x1.val.snd.fst++encI (l.getD x1.val.fst (0,0,0)).snd.fst=x1.val.snd.fst++encI (l.getD x1.val.fst (0,0,0)).snd.fst) ∧
                    ((x1.val.snd.snd++[239,191,189]=x1.val.snd.snd++encI (l.getD x1.val.fst (0,0,0)).snd.snd) ∧
                    (((l.getD x1.val.fst (0,0,0)).fst=(l.getD x1.val.fst (0,0,0)).fst) ∧
                    (((l.getD x1.val.fst (0,0,0)).snd.fst=(l.getD x1.val.fst (0,0,0)).snd.fst) ∧
                    ((l.getD x1.val.fst (0,0,0)).snd.snd=(l.getD x1.val.fst (0,0,0)).snd.snd))))))))))))))) ∧
               (¬IntKind.u32.wrap (l.getD x1.val.fst (0, 0, 0)).snd.snd < 55296 →
                ((57343 < IntKind.u32.wrap (l.getD x1.val.fst (0,0,0)).snd.snd →
                  ((IntKind.u32.wrap (l.getD x1.val.fst (0,0,0)).snd.snd≤65535 →
                    (((x1.val.snd.snd.length+[IntKind.u8.wrap (↑(BitVec.ofInt 8 224 ||| BitVec.ofInt 8 (IntKind.u8.wrap (Int.fdiv (l.getD x1.val.fst (0,0,0)).snd.snd 4096))).toNat:Int),IntKind.u8.wrap (↑(BitVec.ofInt 8 128 ||| BitVec.ofInt 8 (IntKind.u8.wrap (↑(BitVec.ofInt 8 (IntKind.u8.wrap (Int.fdiv (l.getD x1.val.fst (0,0,0)).snd.snd 64)) &&& BitVec.ofInt 8 63).toNat:Int))).toNat:Int),IntKind.u8.wrap (↑(BitVec.ofInt 8 128 ||| BitVec.ofInt 8 (IntKind.u8.wrap (↑(BitVec.ofInt 8 (IntKind.u8.wrap (l.getD x1.val.fst (0,0,0)).snd.snd) &&& BitVec.ofInt 8 63).toNat:Int))).toNat:Int)].length)*1≤140737488355328) ∧
                    (∃ x3 : Unit,
                     ((l=l) ∧
                     (((↑l.length:Int)=(↑l.length:Int)) ∧
                     (((↑x1.val.fst:Int)=(↑x1.val.fst:Int)) ∧
                     ((x1.val.snd.fst++encI (l.getD x1.val.fst (0,0,0)).snd.fst=x1.val.snd.fst++encI (l.getD x1.val.fst (0,0,0)).snd.fst) ∧
                     ((x1.val.snd.snd++[IntKind.u8.wrap (↑(BitVec.ofInt 8 224 ||| BitVec.ofInt 8 (IntKind.u8.wrap (Int.fdiv (l.getD x1.val.fst (0,0,0)).snd.snd 4096))).toNat:Int),IntKind.u8.wrap (↑(BitVec.ofInt 8 128 ||| BitVec.ofInt 8 (IntKind.u8.wrap (↑(BitVec.ofInt 8 (IntKind.u8.wrap (Int.fdiv (l.getD x1.val.fst (0,0,0)).snd.snd 64)) &&& BitVec.ofInt 8 63).toNat:Int))).toNat:Int),IntKind.u8.wrap (↑(BitVec.ofInt 8 128 ||| BitVec.ofInt 8 (IntKind.u8.wrap (↑(BitVec.ofInt 8 (IntKind.u8.wrap (l.getD x1.val.fst (0,0,0)).snd.snd) &&& BitVec.ofInt 8 63).toNat:Int))).toNat:Int)]=x1.val.snd.snd++encI (l.getD x1.val.fst (0,0,0)).snd.snd) ∧
                     (((l.getD x1.val.fst (0,0,0)).fst=(l.getD x1.val.fst (0,0,0)).fst) ∧
                     (((l.getD x1.val.fst (0,0,0)).snd.fst=(l.getD x1.val.fst (0,0,0)).snd.fst) ∧
                     ((l.getD x1.val.fst (0,0,0)).snd.snd=(l.getD x1.val.fst (0,0,0)).snd.snd))))))))))) ∧
                  (¬IntKind.u32.wrap (l.getD x1.val.fst (0, 0, 0)).snd.snd ≤ 65535 →
                   ((65535 < IntKind.u32.wrap (l.getD x1.val.fst (0,0,0)).snd.snd →
                     ((IntKind.u32.wrap (l.getD x1.val.fst (0,0,0)).snd.snd≤1114111 →
                       (((x1.val.snd.snd.length+[IntKind.u8.wrap (↑(BitVec.ofInt 8 240 ||| BitVec.ofInt 8 (IntKind.u8.wrap (Int.fdiv (l.getD x1.val.fst (0,0,0)).snd.snd 262144))).toNat:Int),IntKind.u8.wrap (↑(BitVec.ofInt 8 128 ||| BitVec.ofInt 8 (IntKind.u8.wrap (↑(BitVec.ofInt 8 (IntKind.u8.wrap (Int.fdiv (l.getD x1.val.fst (0,0,0)).snd.snd 4096)) &&& BitVec.ofInt 8 63).toNat:Int))).toNat:Int),IntKind.u8.wrap (↑(BitVec.ofInt 8 128 ||| BitVec.ofInt 8 (IntKind.u8.wrap (↑(BitVec.ofInt 8 (IntKind.u8.wrap (Int.fdiv (l.getD x1.val.fst (0,0,0)).snd.snd 64)) &&& BitVec.ofInt 8 63).toNat:Int))).toNat:Int),IntKind.u8.wrap (↑(BitVec.ofInt 8 128 ||| BitVec.ofInt 8 (IntKind.u8.wrap (↑(BitVec.ofInt 8 (IntKind.u8.wrap (l.getD x1.val.fst (0,0,0)).snd.snd) &&& BitVec.ofInt 8 63).toNat:Int))).toNat:Int)].length)*1≤140737488355328) ∧
                       (∃ x3 : Unit,
                        ((l=l) ∧
                        (((↑l.length:Int)=(↑l.length:Int)) ∧
                        (((↑x1.val.fst:Int)=(↑x1.val.fst:Int)) ∧
                        ((x1.val.snd.fst++encI (l.getD x1.val.fst (0,0,0)).snd.fst=x1.val.snd.fst++encI (l.getD x1.val.fst (0,0,0)).snd.fst) ∧
                        ((x1.val.snd.snd++[IntKind.u8.wrap (↑(BitVec.ofInt 8 240 ||| BitVec.ofInt 8 (IntKind.u8.wrap (Int.fdiv (l.getD x1.val.fst (0,0,0)).snd.snd 262144))).toNat:Int),IntKind.u8.wrap (↑(BitVec.ofInt 8 128 ||| BitVec.ofInt 8 (IntKind.u8.wrap (↑(BitVec.ofInt 8 (IntKind.u8.wrap (Int.fdiv (l.getD x1.val.fst (0,0,0)).snd.snd 4096)) &&& BitVec.ofInt 8 63).toNat:Int))).toNat:Int),IntKind.u8.wrap (↑(BitVec.ofInt 8 128 ||| BitVec.ofInt 8 (IntKind.u8.wrap (↑(BitVec.ofInt 8 (IntKind.u8.wrap (Int.fdiv (l.getD x1.val.fst (0,0,0)).snd.snd 64)) &&& BitVec.ofInt 8 63).toNat:Int))).toNat:Int),IntKind.u8.wrap (↑(BitVec.ofInt 8 128 ||| BitVec.ofInt 8 (IntKind.u8.wrap (↑(BitVec.ofInt 8 (IntKind.u8.wrap (l.getD x1.val.fst (0,0,0)).snd.snd) &&& BitVec.ofInt 8 63).toNat:Int))).toNat:Int)]=x1.val.snd.snd++encI (l.getD x1.val.fst (0,0,0)).snd.snd) ∧
                        (((l.getD x1.val.fst (0,0,0)).fst=(l.getD x1.val.fst (0,0,0)).fst) ∧
                        (((l.getD x1.val.fst (0,0,0)).snd.fst=(l.getD x1.val.fst (0,0,0)).snd.fst) ∧
                        ((l.getD x1.val.fst (0,0,0)).snd.snd=(l.getD x1.val.fst (0,0,0)).snd.snd))))))))))) ∧
                     (¬IntKind.u32.wrap (l.getD x1.val.fst (0, 0, 0)).snd.snd ≤ 1114111 →
                      (((x1.val.snd.snd.length+3)*1≤140737488355328) ∧
                      (∃ x3 : Unit,
                       ((l=l) ∧
                       (((↑l.length:Int)=(↑l.length:Int)) ∧
                       (((↑x1.val.fst:Int)=(↑x1.val.fst:Int)) ∧
                       ((x1.val.snd.fst++encI (l.getD x1.val.fst (0,0,0)).snd.fst=x1.val.snd.fst++encI (l.getD x1.val.fst (0,0,0)).snd.fst) ∧
                       ((x1.val.snd.snd++[239,191,189]=x1.val.snd.snd++encI (l.getD x1.val.fst (0,0,0)).snd.snd) ∧
                       (((l.getD x1.val.fst (0,0,0)).fst=(l.getD x1.val.fst (0,0,0)).fst) ∧
                       (((l.getD x1.val.fst (0,0,0)).snd.fst=(l.getD x1.val.fst (0,0,0)).snd.fst) ∧
                       ((l.getD x1.val.fst (0,0,0)).snd.snd=(l.getD x1.val.fst (0,0,0)).snd.snd))))))))))))) ∧
                   (¬65535 < IntKind.u32.wrap (l.getD x1.val.fst (0, 0, 0)).snd.snd →
                    (((x1.val.snd.snd.length+3)*1≤140737488355328) ∧
                    (∃ x3 : Unit,
                     ((l=l) ∧
                     (((↑l.length:Int)=(↑l.length:Int)) ∧
                     (((↑x1.val.fst:Int)=(↑x1.val.fst:Int)) ∧
                     ((x1.val.snd.fst++encI (l.getD x1.val.fst (0,0,0)).snd.fst=x1.val.snd.fst++encI (l.getD x1.val.fst (0,0,0)).snd.fst) ∧
                     ((x1.val.snd.snd++[239,191,189]=x1.val.snd.snd++encI (l.getD x1.val.fst (0,0,0)).snd.snd) ∧
                     (((l.getD x1.val.fst (0,0,0)).fst=(l.getD x1.val.fst (0,0,0)).fst) ∧
                     (((l.getD x1.val.fst (0,0,0)).snd.fst=(l.getD x1.val.fst (0,0,0)).snd.fst) ∧
                     ((l.getD x1.val.fst (0,0,0)).snd.snd=(l.getD x1.val.fst (0,0,0)).snd.snd))))))))))))))) ∧
                (¬57343 < IntKind.u32.wrap (l.getD x1.val.fst (0, 0, 0)).snd.snd →
                 ((65535 < IntKind.u32.wrap (l.getD x1.val.fst (0,0,0)).snd.snd →
                   ((IntKind.u32.wrap (l.getD x1.val.fst (0,0,0)).snd.snd≤1114111 →
                     (((x1.val.snd.snd.length+[IntKind.u8.wrap (↑(BitVec.ofInt 8 240 ||| BitVec.ofInt 8 (IntKind.u8.wrap (Int.fdiv (l.getD x1.val.fst (0,0,0)).snd.snd 262144))).toNat:Int),IntKind.u8.wrap (↑(BitVec.ofInt 8 128 ||| BitVec.ofInt 8 (IntKind.u8.wrap (↑(BitVec.ofInt 8 (IntKind.u8.wrap (Int.fdiv (l.getD x1.val.fst (0,0,0)).snd.snd 4096)) &&& BitVec.ofInt 8 63).toNat:Int))).toNat:Int),IntKind.u8.wrap (↑(BitVec.ofInt 8 128 ||| BitVec.ofInt 8 (IntKind.u8.wrap (↑(BitVec.ofInt 8 (IntKind.u8.wrap (Int.fdiv (l.getD x1.val.fst (0,0,0)).snd.snd 64)) &&& BitVec.ofInt 8 63).toNat:Int))).toNat:Int),IntKind.u8.wrap (↑(BitVec.ofInt 8 128 ||| BitVec.ofInt 8 (IntKind.u8.wrap (↑(BitVec.ofInt 8 (IntKind.u8.wrap (l.getD x1.val.fst (0,0,0)).snd.snd) &&& BitVec.ofInt 8 63).toNat:Int))).toNat:Int)].length)*1≤140737488355328) ∧
                     (∃ x3 : Unit,
                      ((l=l) ∧
                      (((↑l.length:Int)=(↑l.length:Int)) ∧
                      (((↑x1.val.fst:Int)=(↑x1.val.fst:Int)) ∧
                      ((x1.val.snd.fst++encI (l.getD x1.val.fst (0,0,0)).snd.fst=x1.val.snd.fst++encI (l.getD x1.val.fst (0,0,0)).snd.fst) ∧
                      ((x1.val.snd.snd++[IntKind.u8.wrap (↑(BitVec.ofInt 8 240 ||| BitVec.ofInt 8 (IntKind.u8.wrap (Int.fdiv (l.getD x1.val.fst (0,0,0)).snd.snd 262144))).toNat:Int),IntKind.u8.wrap (↑(BitVec.ofInt 8 128 ||| BitVec.ofInt 8 (IntKind.u8.wrap (↑(BitVec.ofInt 8 (IntKind.u8.wrap (Int.fdiv (l.getD x1.val.fst (0,0,0)).snd.snd 4096)) &&& BitVec.ofInt 8 63).toNat:Int))).toNat:Int),IntKind.u8.wrap (↑(BitVec.ofInt 8 128 ||| BitVec.ofInt 8 (IntKind.u8.wrap (↑(BitVec.ofInt 8 (IntKind.u8.wrap (Int.fdiv (l.getD x1.val.fst (0,0,0)).snd.snd 64)) &&& BitVec.ofInt 8 63).toNat:Int))).toNat:Int),IntKind.u8.wrap (↑(BitVec.ofInt 8 128 ||| BitVec.ofInt 8 (IntKind.u8.wrap (↑(BitVec.ofInt 8 (IntKind.u8.wrap (l.getD x1.val.fst (0,0,0)).snd.snd) &&& BitVec.ofInt 8 63).toNat:Int))).toNat:Int)]=x1.val.snd.snd++encI (l.getD x1.val.fst (0,0,0)).snd.snd) ∧
                      (((l.getD x1.val.fst (0,0,0)).fst=(l.getD x1.val.fst (0,0,0)).fst) ∧
                      (((l.getD x1.val.fst (0,0,0)).snd.fst=(l.getD x1.val.fst (0,0,0)).snd.fst) ∧
                      ((l.getD x1.val.fst (0,0,0)).snd.snd=(l.getD x1.val.fst (0,0,0)).snd.snd))))))))))) ∧
                   (¬IntKind.u32.wrap (l.getD x1.val.fst (0, 0, 0)).snd.snd ≤ 1114111 →
                    (((x1.val.snd.snd.length+3)*1≤140737488355328) ∧
                    (∃ x3 : Unit,
                     ((l=l) ∧
                     (((↑l.length:Int)=(↑l.length:Int)) ∧
                     (((↑x1.val.fst:Int)=(↑x1.val.fst:Int)) ∧
                     ((x1.val.snd.fst++encI (l.getD x1.val.fst (0,0,0)).snd.fst=x1.val.snd.fst++encI (l.getD x1.val.fst (0,0,0)).snd.fst) ∧
                     ((x1.val.snd.snd++[239,191,189]=x1.val.snd.snd++encI (l.getD x1.val.fst (0,0,0)).snd.snd) ∧
                     (((l.getD x1.val.fst (0,0,0)).fst=(l.getD x1.val.fst (0,0,0)).fst) ∧
                     (((l.getD x1.val.fst (0,0,0)).snd.fst=(l.getD x1.val.fst (0,0,0)).snd.fst) ∧
                     ((l.getD x1.val.fst (0,0,0)).snd.snd=(l.getD x1.val.fst (0,0,0)).snd.snd))))))))))))) ∧
                 (¬65535 < IntKind.u32.wrap (l.getD x1.val.fst (0, 0, 0)).snd.snd →
                  (((x1.val.snd.snd.length+3)*1≤140737488355328) ∧
                  (∃ x3 : Unit,
                   ((l=l) ∧
                   (((↑l.length:Int)=(↑l.length:Int)) ∧
                   (((↑x1.val.fst:Int)=(↑x1.val.fst:Int)) ∧
                   ((x1.val.snd.fst++encI (l.getD x1.val.fst (0,0,0)).snd.fst=x1.val.snd.fst++encI (l.getD x1.val.fst (0,0,0)).snd.fst) ∧
                   ((x1.val.snd.snd++[239,191,189]=x1.val.snd.snd++encI (l.getD x1.val.fst (0,0,0)).snd.snd) ∧
                   (((l.getD x1.val.fst (0,0,0)).fst=(l.getD x1.val.fst (0,0,0)).fst) ∧
                   (((l.getD x1.val.fst (0,0,0)).snd.fst=(l.getD x1.val.fst (0,0,0)).snd.fst) ∧
                   ((l.getD x1.val.fst (0,0,0)).snd.snd=(l.getD x1.val.fst (0,0,0)).snd.snd)))))))))))))))))))) ∧
            (∀ x3 : Unit,
             ((i64R ((↑x1.val.fst:Int)+1)) ∧
             (∃ x4 : { p : Nat × List Int × List Int // p.fst ≤ l.length ∧ p.snd.fst = encLI (rdA (List.take p.fst l)) ∧ p.snd.snd = encLI (rdB (List.take p.fst l)) },
              ((l.length - x4.val.fst < l.length - x1.val.fst) ∧
              ((l=l) ∧
              (((↑l.length:Int)=(↑l.length:Int)) ∧
              (((↑x1.val.fst:Int)+1=(↑x4.val.fst:Int)) ∧
              ((x1.val.snd.fst++encI (l.getD x1.val.fst (0,0,0)).snd.fst=x4.val.snd.fst) ∧
              (x1.val.snd.snd++encI (l.getD x1.val.fst (0,0,0)).snd.snd=x4.val.snd.snd)))))))))))))))))) ∧
       (¬(↑x1.val.fst : Int) < (↑l.length : Int) →
        ((List.map (fun z=>UInt8.ofNat (Int.toNat z)) x1.val.snd.fst=readA l) ∧
        ((List.map (fun z=>UInt8.ofNat (Int.toNat z)) x1.val.snd.snd=readB l) ∧
        (0=chkE l)))))))) ∧
    (¬chkE l = 0 →
     (([]=readA l) ∧
     (([]=readB l) ∧
     (chkE l=chkE l))))))) (by kernel_rfl) ?_
  refine ⟨hc1,fun h0=>⟨⟨⟨(0,[],[]),by omega,rfl,rfl⟩,rfl,rfl,rfl,rfl,rfl,rfl,rfl⟩,?_⟩,fun h0=>⟨(chk_no h0).1,(chk_no h0).2,rfl⟩⟩
  have hall:=chk_all h0
  rintro ⟨⟨i,oa,ob⟩,hi,ea,eb⟩
  dsimp only at hi ea eb ⊢
  have va:=rdA_valid (all_taken hall i)
  have vb:=rdB_valid (all_taken hall i)
  have la:=encLI_len _ va
  have lb:=encLI_len _ vb
  have na:=rdA_len (l.take i)
  have nb:=rdB_len (l.take i)
  rw [List.length_take] at na nb
  rw [← ea] at la
  rw [← eb] at lb
  refine ⟨fun h=>?_,fun h=>⟨?_,?_,h0.symm⟩⟩
  · have sa:=rdA_step (l:=l) (i:=i) (by omega)
    have sb:=rdB_step (l:=l) (i:=i) (by omega)
    have hv:okS (l.getD i (0,0,0))=true:=by
      rw [List.getD_eq_getElem?_getD,List.getElem?_eq_getElem (by omega)]
      exact List.all_eq_true.1 hall _ (List.getElem_mem _)
    have hv:=okS_valid hv
    generalize l.getD i (0,0,0)=x at *
    refine ⟨by omega,fun h3=>⟨fun h2=>by omega,fun h2=>⟨app_rune hv.2 (by omega) (K:=fun o'=>∃ x2:Unit,l=l∧(l.length:Int)=l.length∧(i:Int)=i∧oa=oa∧o'=ob++encI x.2.2∧x.1=x.1∧x.2.1=x.2.1∧x.2.2=x.2.2) ⟨(),rfl,rfl,rfl,rfl,rfl,rfl,rfl,rfl⟩,fun _=>⟨by unfold i64R;omega,⟨⟨(i+1,oa,ob++encI x.2.2),by dsimp only;omega,by dsimp only;rw [sa,ea];simp [encLI_add,encLI_one,h3],by dsimp only;rw [sb,eb];simp [encLI_add,encLI_one,h2]⟩,by dsimp only;omega,rfl,rfl,by push_cast;rfl,rfl,rfl⟩⟩⟩⟩,fun h3=>⟨app_rune hv.1 (by omega) (K:=fun o'=>∃ x2:Unit,l=l∧(l.length:Int)=l.length∧(i:Int)=i∧o'=oa++encI x.2.1∧ob=ob∧x.1=x.1∧x.2.1=x.2.1∧x.2.2=x.2.2) ⟨(),rfl,rfl,rfl,rfl,rfl,rfl,rfl,rfl⟩,fun _=>⟨fun h2=>(fun _=>⟨by unfold i64R;omega,⟨⟨(i+1,oa++encI x.2.1,ob),by dsimp only;omega,by dsimp only;rw [sa,ea];simp [encLI_add,encLI_one,h3],by dsimp only;rw [sb,eb];simp [encLI_add,encLI_one,h2]⟩,by dsimp only;omega,rfl,rfl,by push_cast;rfl,rfl,rfl⟩⟩) (),fun h2=>⟨app_rune hv.2 (by omega) (K:=fun o'=>∃ x2:Unit,l=l∧(l.length:Int)=l.length∧(i:Int)=i∧oa++encI x.2.1=oa++encI x.2.1∧o'=ob++encI x.2.2∧x.1=x.1∧x.2.1=x.2.1∧x.2.2=x.2.2) ⟨(),rfl,rfl,rfl,rfl,rfl,rfl,rfl,rfl⟩,fun _=>⟨by unfold i64R;omega,⟨⟨(i+1,oa++encI x.2.1,ob++encI x.2.2),by dsimp only;omega,by dsimp only;rw [sa,ea];simp [encLI_add,encLI_one,h3],by dsimp only;rw [sb,eb];simp [encLI_add,encLI_one,h2]⟩,by dsimp only;omega,rfl,rfl,by push_cast;rfl,rfl,rfl⟩⟩⟩⟩⟩⟩
  · rw [ea,unI_enc,List.take_of_length_le (by omega),readA_ok hall]
  · rw [eb,unI_enc,List.take_of_length_le (by omega),readB_ok hall]
def P221:(List (Int×Int×Int))→List SV:=fun l=>[.one (.row (.pair (.int .i64) (.pair (.int .i32) (.int .i32))) l)]
def R221:(List (Int×Int×Int))→SV×List Prop:=fun l=>(.tup [.o (.str (readA l)),.o (.str (readB l)),.o (.int .i64 (chkE l))],[l.length≤1099511627776])
def K221:Con:=⟨true,[some (.pair (.int .i64) (.pair (.int .i32) (.int .i32)))],fun xs=>match xs with | [.one (.row (.pair (.int .i64) (.pair (.int .i32) (.int .i32))) l)]=>some (R221 l) | _=>none⟩
noncomputable def G221:GP:=conG P221 R221
theorem P221_inj:∀ a b,(P221 a).map den0=(P221 b).map den0→a=b:=by
  rintro a0 b0 h
  simp only [P221,List.map_cons,List.map_nil,den0,den0L,List.cons.injEq,AV.one.injEq,AV.agg.injEq,Lf.int.injEq,Lf.str.injEq,Lf.bool.injEq,Lf.vrow.injEq,and_true,true_and] at h
  exact row_inj h
theorem K221_ok:ConG G221 K221:=conG_of P221_inj (fun _ _=>rfl) (fun _=>rfl) fun xs r h=>by
  simp only [K221] at h
  split at h
  · cases h;rename_i l;exact ⟨l,rfl,rfl⟩
  · cases h
theorem pr221 {S:SC} (hB:SB S) (q223:PrOk S 223 (pureP G223)) (q51:PrOk S 51 (pureP G51)) (h221:S.has 221 f221):PrOk S 221 (pureP G221):=by
  refine prM hB [] [⟨223,G223,K223⟩,⟨51,G51,K51⟩] trivial ⟨⟨q223,K223_ok⟩,⟨q51,K51_ok⟩,trivial⟩ h221 (fun _=>⟨rfl,rfl,rfl⟩) (fun l=>fun f id T L=>match f,id with
      | 221,0=>some (.inv { i:Nat // i≤l.length } (fun x=>([(17,.one (.int .i64 x.1)),(6,.one (.osl 0)),(7,.one (.osl 1))],[(0,.row (.int .i32) (rdA (l.take x.1))),(1,.row (.int .i32) (rdB (l.take x.1)))])) (fun x=>l.length - x.1))
      | _,_=>none) 900 ?_
  rintro l hc
  have hc1:l.length≤1099511627776:=hc.1
  refine VC.use (p:=
    ((l.length≤1099511627776) ∧
    ((chkE l=0 →
      ((∃ x1:{ i:Nat // i≤l.length },
        ((rdA (List.take x1.val l)=[]) ∧
        ((rdB (List.take x1.val l)=[]) ∧
        ((l=l) ∧
        (((↑l.length:Int)=(↑l.length:Int)) ∧
        ((0=(↑x1.val:Int)) ∧
        ((rdA (List.take x1.val l)=[]) ∧
        (rdB (List.take x1.val l)=[])))))))) ∧
      (∀ x1 : { i : Nat // i ≤ l.length },
       (((↑x1.val:Int) < (↑l.length:Int) →
         ((0≤(↑x1.val:Int)∧(↑x1.val:Int) < (↑l.length:Int)) ∧
         (((l.getD x1.val (0,0,0)).fst=3 →
           (((l.getD x1.val (0,0,0)).fst=2 →
             ((i64R ((↑x1.val:Int)+1)) ∧
             (∃ x2 : { i : Nat // i ≤ l.length },
              ((l.length - x2.val < l.length - x1.val) ∧
              ((l=l) ∧
              (((↑l.length:Int)=(↑l.length:Int)) ∧
              (((↑x1.val:Int)+1=(↑x2.val:Int)) ∧
              ((rdA (List.take x1.val l)=rdA (List.take x2.val l)) ∧
              (rdB (List.take x1.val l)=rdB (List.take x2.val l)))))))))) ∧
           (¬(l.getD x1.val (0, 0, 0)).fst = 2 →
            ((((rdB (List.take x1.val l)).length+[(l.getD x1.val (0,0,0)).snd.snd].length)*4≤140737488355328) ∧
            ((i64R ((↑x1.val:Int)+1)) ∧
            (∃ x2 : { i : Nat // i ≤ l.length },
             ((l.length - x2.val < l.length - x1.val) ∧
             ((l=l) ∧
             (((↑l.length:Int)=(↑l.length:Int)) ∧
             (((↑x1.val:Int)+1=(↑x2.val:Int)) ∧
             ((rdA (List.take x1.val l)=rdA (List.take x2.val l)) ∧
             (rdB (List.take x1.val l)++[(l.getD x1.val (0,0,0)).snd.snd]=rdB (List.take x2.val l))))))))))))) ∧
         (¬(l.getD x1.val (0, 0, 0)).fst = 3 →
          ((((rdA (List.take x1.val l)).length+[(l.getD x1.val (0,0,0)).snd.fst].length)*4≤140737488355328) ∧
          (((l.getD x1.val (0,0,0)).fst=2 →
            ((i64R ((↑x1.val:Int)+1)) ∧
            (∃ x2 : { i : Nat // i ≤ l.length },
             ((l.length - x2.val < l.length - x1.val) ∧
             ((l=l) ∧
             (((↑l.length:Int)=(↑l.length:Int)) ∧
             (((↑x1.val:Int)+1=(↑x2.val:Int)) ∧
             ((rdA (List.take x1.val l)++[(l.getD x1.val (0,0,0)).snd.fst]=rdA (List.take x2.val l)) ∧
             (rdB (List.take x1.val l)=rdB (List.take x2.val l)))))))))) ∧
          (¬(l.getD x1.val (0, 0, 0)).fst = 2 →
           ((((rdB (List.take x1.val l)).length+[(l.getD x1.val (0,0,0)).snd.snd].length)*4≤140737488355328) ∧
           ((i64R ((↑x1.val:Int)+1)) ∧
           (∃ x2 : { i : Nat // i ≤ l.length },
            ((l.length - x2.val < l.length - x1.val) ∧
            ((l=l) ∧
            (((↑l.length:Int)=(↑l.length:Int)) ∧
            (((↑x1.val:Int)+1=(↑x2.val:Int)) ∧
            ((rdA (List.take x1.val l)++[(l.getD x1.val (0,0,0)).snd.fst]=rdA (List.take x2.val l)) ∧
            (rdB (List.take x1.val l)++[(l.getD x1.val (0,0,0)).snd.snd]=rdB (List.take x2.val l))))))))))))))))) ∧
       (¬(↑x1.val : Int) < (↑l.length : Int) →
        (((rdA (List.take x1.val l)).length≤1099511627776) ∧
        (((rdB (List.take x1.val l)).length≤1099511627776) ∧
        ((encT (rdA (List.take x1.val l))=readA l) ∧
        ((encT (rdB (List.take x1.val l))=readB l) ∧
        (0=chkE l)))))))))) ∧
    (¬chkE l = 0 →
     (([]=readA l) ∧
     (([]=readB l) ∧
     (chkE l=chkE l))))))) (by kernel_rfl) ?_
  refine ⟨hc1,fun h0=>⟨⟨⟨0,by omega⟩,rfl,rfl,rfl,rfl,rfl,rfl,rfl⟩,?_⟩,fun h0=>⟨(chk_no h0).1,(chk_no h0).2,rfl⟩⟩
  have hall:=chk_all h0
  rintro ⟨i,hi⟩
  dsimp only at hi ⊢
  have na:=rdA_len (l.take i)
  have nb:=rdB_len (l.take i)
  rw [List.length_take] at na nb
  refine ⟨fun h=>?_,fun h=>⟨by omega,by omega,?_,?_,h0.symm⟩⟩
  · have sa:=rdA_step (l:=l) (i:=i) (by omega)
    have sb:=rdB_step (l:=l) (i:=i) (by omega)
    generalize l.getD i (0,0,0)=x at *
    exact ⟨by omega,fun h3=>⟨fun h2=>by omega,fun h2=>⟨by simp only [List.length_cons,List.length_nil];omega,by unfold i64R;omega,⟨⟨i+1,by omega⟩,by dsimp only;omega,rfl,rfl,by push_cast;rfl,by dsimp only;rw [sa];simp [h3],by dsimp only;rw [sb];simp [h2]⟩⟩⟩,fun h3=>⟨by simp only [List.length_cons,List.length_nil];omega,fun h2=>⟨by unfold i64R;omega,⟨⟨i+1,by omega⟩,by dsimp only;omega,rfl,rfl,by push_cast;rfl,by dsimp only;rw [sa];simp [h3],by dsimp only;rw [sb];simp [h2]⟩⟩,fun h2=>⟨by simp only [List.length_cons,List.length_nil];omega,by unfold i64R;omega,⟨⟨i+1,by omega⟩,by dsimp only;omega,rfl,rfl,by push_cast;rfl,by dsimp only;rw [sa];simp [h3],by dsimp only;rw [sb];simp [h2]⟩⟩⟩⟩
  · rw [List.take_of_length_le (by omega),readA_ok hall,(encT_ok (rdA_valid hall)).1]
  · rw [List.take_of_length_le (by omega),readB_ok hall,(encT_ok (rdB_valid hall)).1]
end Go.EA
