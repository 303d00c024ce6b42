/- Layer 5: blocks. Conditions: none. (Printed by a program of this project's own.) -/
import Derived.Test.YtmfjbaepgfdfpaaDoorELw8
import Derived.Test.YtmfjbaepgfdfpaaDoorERd
import Derived.Test.YtmfjbaepgfdfpaaDoorEWl
import Derived.Test.YtmfjbaepgfdfpaaDoorELw14
import Derived.Test.YtmfjbaepgfdfpaaDoorEPrim2
import Derived.Test.YtmfjbaepgfdfpaaDoorEK9
import Derived.KernelRfl
set_option linter.unusedVariables false
set_option linter.unusedSimpArgs false
set_option maxRecDepth 100000
set_option maxHeartbeats 0
namespace Go.EA
open F
abbrev Blk:Type:=List UInt8×List UInt8×Int
abbrev BlkT:Ty:=.pair .str (.pair .str (.int .i64))
def cmpS (a b:List UInt8):Int:=if sless a b=true then -1 else if a=b then 0 else 1
def orV (l:List Int):Int:=(l.find? fun x=>!decide (x=0)).getD 0
def lessV (a b:Blk):Bool:=decide (orV [cmpS a.1 b.1,cmpS a.2.1 b.2.1] < 0)
def bigV (a b:List UInt8):Bool:=decide (3 < (max (runes a).length (runes b).length:Nat))
theorem orV_find {l:List Int} {i:Nat} (h:(l.take i).all (fun x=>decide (x=0))=true) (hi:i < l.length) (h0:¬ l.getD i 0=0):l.getD i 0=orV l:=by
  unfold orV
  have e:l=l.take i++(l.getD i 0::l.drop (i+1)):=by
    rw [List.getD_eq_getElem?_getD,List.getElem?_eq_getElem hi,Option.getD_some,← List.drop_eq_getElem_cons hi,List.take_append_drop]
  have:(l.find? fun x=>!decide (x=0))=some (l.getD i 0):=by
    conv=>lhs;rw [e]
    rw [List.find?_append,List.find?_eq_none.2 (fun x hx=>by have:=List.all_eq_true.1 h x hx;simp at this;simp [this])]
    simp only [Option.none_or,List.find?_cons]
    rw [decide_eq_false h0];rfl
  rw [this];rfl
theorem orV_none {l:List Int} (h:l.all (fun x=>decide (x=0))=true):0=orV l:=by
  unfold orV
  rw [List.find?_eq_none.2 (fun x hx=>by have:=List.all_eq_true.1 h x hx;simp at this;simp [this])];rfl
theorem big_iff (a b:List UInt8):3 < (if ((runes a).length:Int) < ((runes b).length:Int) then ((runes b).length:Int) else ((runes a).length:Int))↔bigV a b=true:=by
  unfold bigV
  rw [decide_eq_true_eq]
  split <;> omega
def nz (s:Stp):Bool:=!decide (s.1=0)
def runsN:Nat→List Stp→List (List Stp)
  | 0,_=>[]
  | _+1,[]=>[]
  | n+1,s::l=>if nz s=true then (s::l.takeWhile nz)::runsN n (l.dropWhile nz) else runsN n l
def runs' (l:List Stp):List (List Stp):=runsN l.length l
def longV (r:List Stp):Bool:=bigV (readA r) (readB r)
def blkOf (r:List Stp):List Blk:=if (!longV r&&!decide (readA r=readB r))=true then [(readA r,readB r,1)] else []
def blksV (l:List Stp):List Blk:=if chkE l=0 then ((runs' l).map blkOf).flatten else []
def longsV (l:List Stp):Int:=if chkE l=0 then (((runs' l).filter longV).length:Int) else 0
theorem runsN_nil (n:Nat):runsN n []=[]:=by cases n <;> rfl
theorem runsN_fuel:∀ (n:Nat) (l:List Stp),l.length≤n→runsN n l=runsN l.length l:=by
  intro n
  induction n using Nat.strongRecOn with
  | ind n ih=>
    intro l h
    cases l with
    | nil=>rw [runsN_nil,runsN_nil]
    | cons s l=>
      simp only [List.length_cons] at h ⊢
      obtain ⟨m,rfl⟩:∃ m,n=m+1:=⟨n - 1,by omega⟩
      simp only [runsN]
      have hd:=(List.dropWhile_sublist nz (l:=l)).length_le
      split
      · rw [ih m (by omega) _ (by omega),ih l.length (by omega) _ hd]
      · rw [ih m (by omega) l (by omega)]
theorem runs_match {l:List Stp} {i:Nat} (hi:i < l.length) (h:(l.getD i (0,0,0)).1=0):runsN (l.length - i) (l.drop i)=runsN (l.length - (i+1)) (l.drop (i+1)):=by
  rw [List.getD_eq_getElem?_getD,List.getElem?_eq_getElem hi,Option.getD_some] at h
  rw [List.drop_eq_getElem_cons hi,show l.length - i=(l.length - (i+1))+1 by omega]
  simp only [runsN]
  rw [if_neg (by simp [nz,h])]
theorem runs_end {l:List Stp} {j:Nat} (hj:j≤l.length) (he:l.length≤j∨(l.getD j (0,0,0)).1=0):runsN (l.length - j) (l.drop j)=runsN (l.length - (j+1)) (l.drop (j+1)):=by
  by_cases h:j < l.length
  · rcases he with he | he
    · omega
    · exact runs_match h he
  · rw [List.drop_of_length_le (by omega),List.drop_of_length_le (by omega),runsN_nil,runsN_nil]
theorem takeWhile_of {p:Stp→Bool}:∀ {a b:List Stp},a.all p=true→(b=[]∨∃ x r,b=x::r∧p x=false)→(a++b).takeWhile p=a∧(a++b).dropWhile p=b
  | [],b,_,hb=>by
    rcases hb with rfl | ⟨x,r,rfl,h⟩
    · exact ⟨rfl,rfl⟩
    · simp [List.takeWhile_cons,List.dropWhile_cons,h]
  | x::a,b,ha,hb=>by
    simp only [List.all_cons,Bool.and_eq_true] at ha
    obtain ⟨h1,h2⟩:=takeWhile_of ha.2 hb
    simp only [List.cons_append,List.takeWhile_cons,List.dropWhile_cons,ha.1,if_true,h1,h2]
    exact ⟨trivial,trivial⟩
theorem runs_row {l:List Stp} {i j:Nat} (hi:i < l.length) (h:¬ (l.getD i (0,0,0)).1=0) (hj:j≤l.length) (hij:i≤j) (ha:((l.drop i).take (j - i)).all nz=true) (he:l.length≤j∨(l.getD j (0,0,0)).1=0) :
    runsN (l.length - i) (l.drop i)=cutR l (some (i:Int)) (some (j:Int))::runsN (l.length - (j+1)) (l.drop (j+1)):=by
  have hlt:i < j:=by
    rcases Nat.lt_or_ge i j with h1 | h1
    · exact h1
    · have:i=j:=by omega
      subst this
      rcases he with he | he
      · omega
      · exact absurd he h
  have hs:l.drop i=(l.drop i).take (j - i)++l.drop j:=by
    conv=>lhs;rw [← List.take_append_drop (j - i) (l.drop i)]
    rw [List.drop_drop,show i+(j - i)=j by omega]
  have hc:cutR l (some (i:Int)) (some (j:Int))=(l.drop i).take (j - i):=by
    show (l.drop (i:Int).toNat).take ((j:Int).toNat - (i:Int).toNat)=_
    rw [Int.toNat_natCast,Int.toNat_natCast]
  rw [hc,← runs_end hj he]
  have hb:l.drop j=[]∨∃ x r,l.drop j=x::r∧nz x=false:=by
    by_cases h1:j < l.length
    · right
      refine ⟨l[j],l.drop (j+1),List.drop_eq_getElem_cons h1,?_⟩
      rcases he with he | he
      · omega
      · rw [List.getD_eq_getElem?_getD,List.getElem?_eq_getElem h1,Option.getD_some] at he
        simp [nz,he]
    · left;exact List.drop_of_length_le (by omega)
  have h1:(l.drop i).take (j - i)=l[i]::(l.drop (i+1)).take (j - (i+1)):=by
    rw [List.drop_eq_getElem_cons hi,show j - i=(j - (i+1))+1 by omega,List.take_succ_cons]
  have hd:l.drop i=l[i]::((l.drop (i+1)).take (j - (i+1))++l.drop j):=by rw [hs,h1];rfl
  rw [h1] at ha ⊢
  simp only [List.all_cons,Bool.and_eq_true] at ha
  obtain ⟨g1,g2⟩:=takeWhile_of ha.2 hb
  rw [hd,show l.length - i=(l.length - (i+1))+1 by omega]
  simp only [runsN]
  rw [if_pos ha.1,g1,g2,runsN_fuel (l.length - (i+1)) (l.drop j) (by rw [List.length_drop];omega),List.length_drop]
theorem runsN_len:∀ (n:Nat) (l:List Stp),(runsN n l).length≤n
  | 0,l=>by simp [runsN]
  | n+1,[]=>by simp [runsN]
  | n+1,s::l=>by
    simp only [runsN]
    split
    · simp only [List.length_cons];have:=runsN_len n (l.dropWhile nz);omega
    · have:=runsN_len n l;omega
theorem blkOf_len (r:List Stp):(blkOf r).length≤1:=by unfold blkOf; split <;> simp
theorem blks_len:∀ (rs:List (List Stp)),((rs.map blkOf).flatten).length≤rs.length
  | []=>by simp
  | r::rs=>by
    simp only [List.map_cons,List.flatten_cons,List.length_append,List.length_cons]
    have:=blkOf_len r
    have:=blks_len rs
    omega
theorem blks_room {l:List Stp} {o:List Blk} {q:List Blk} (h:o++q=((runs' l).map blkOf).flatten):o.length≤l.length:=by
  have h1:=congrArg List.length h
  have h2:=blks_len (runs' l)
  have h3:=runsN_len l.length l
  unfold runs' at h1 h2
  rw [List.length_append] at h1
  unfold runs' at *
  omega
theorem blk_step {l:List Stp} {o:List Blk} {i j:Nat} {b:List Blk} (h:o++((runsN (l.length - i) (l.drop i)).map blkOf).flatten=((runs' l).map blkOf).flatten) (hr:runsN (l.length - i) (l.drop i)=cutR l (some (i:Int)) (some (j:Int))::runsN (l.length - (j+1)) (l.drop (j+1)))
    (hb:blkOf (cutR l (some (i:Int)) (some (j:Int)))=b):(o++b)++((runsN (l.length - (j+1)) (l.drop (j+1))).map blkOf).flatten=((runs' l).map blkOf).flatten:=by
  rw [← h,hr,List.map_cons,List.flatten_cons,hb,List.append_assoc]
theorem take_step {l:List Stp} {i j:Nat} (hij:i≤j) (hj:j < l.length) (ha:((l.drop i).take (j - i)).all nz=true) (h:¬ (l.getD j (0,0,0)).1=0):((l.drop i).take (j+1 - i)).all nz=true:=by
  rw [show j+1 - i=(j - i)+1 by omega]
  refine take_all (d:=(0,0,0)) ha (by rw [List.length_drop];omega) ?_
  rw [List.getD_eq_getElem?_getD,List.getElem?_drop,show i+(j - i)=j by omega,← List.getD_eq_getElem?_getD]
  show (!decide ((l.getD j (0,0,0)).1=0))=true
  rw [decide_eq_false h];rfl
theorem cut_len (l:List Stp) (i j:Nat):(cutR l (some (i:Int)) (some (j:Int))).length≤l.length:=by
  show ((l.drop _).take _).length≤_
  rw [List.length_take,List.length_drop];omega
theorem blks_ok {l:List Stp} (h:chkE l=0):blksV l=((runs' l).map blkOf).flatten:=by unfold blksV;rw [if_pos h]
theorem blks_no {l:List Stp} (h:¬ chkE l=0):blksV l=[]:=by unfold blksV;rw [if_neg h]
def pairV (s t:List UInt8):List Blk:=if twoE s t=0 then blksV (stepsV s t) else []
def P252:List UInt8×List UInt8→List SV:=fun (a,b)=>[.one (.str a),.one (.str b)]
def R252:List UInt8×List UInt8→SV×List Prop:=fun (a,b)=>(.one (.int .i64 (cmpS a b)),[])
def K252:Con:=⟨true,[none,none],fun xs=>match xs with | [.one (.str a),.one (.str b)]=>some (R252 (a,b)) | _=>none⟩
noncomputable def G252:GP:=conG P252 R252
theorem P252_inj:∀ a b,(P252 a).map den0=(P252 b).map den0→a=b:=by
  rintro ⟨a0,a1⟩ ⟨b0,b1⟩ h
  simp only [P252,List.map_cons,List.map_nil,den0,den0L,List.cons.injEq,AV.one.injEq,AV.agg.injEq,Lf.int.injEq,Lf.str.injEq,Lf.bool.injEq,Lf.vrow.injEq,and_true,true_and,and_assoc] at h
  obtain ⟨h0,h1⟩:=h
  subst h0 h1
  rfl
theorem K252_ok:ConG G252 K252:=conG_of P252_inj (fun ⟨_,_⟩ ⟨_,_⟩=>rfl) (fun ⟨_,_⟩=>rfl) fun xs r h=>by
  simp only [K252] at h
  split at h
  · cases h;rename_i a b;exact ⟨(a,b),rfl,rfl⟩
  · cases h
theorem pr252 {S:SC} (hB:SB S)  (h261:S.has 261 f261) (h252:S.has 252 f252):PrOk S 252 (pureP G252):=by
  refine prM hB [(261,f261)] [] ⟨h261,trivial⟩ trivial h252 (fun ⟨a,b⟩=>⟨rfl,rfl,rfl⟩) (fun (a,b)=>fun _ _ _ _=>none) 400 ?_
  rintro ⟨a,b⟩ hc
  refine VC.use (p:=
    ((a=a →
      ((b=b →
        ((sless a b=true →
          (-1=cmpS a b)) ∧
        (¬sless a b = true →
         (((!(sless a b||decide (a=b)))=true →
           (1=cmpS a b)) ∧
         (¬(!(sless a b || decide (a = b))) = true →
          (0=cmpS a b)))))) ∧
      (¬b = b →
       (1=cmpS a b)))) ∧
    (¬a = a →
     ((b=b →
       (-1=cmpS a b)) ∧
     (¬b = b →
      (0=cmpS a b)))))) (by kernel_rfl) ?_
  unfold cmpS
  repeat' (first | intro _ | apply And.intro)
  all_goals first
    | (exfalso;simp_all;done)
    | (simp_all;done)
def P251:List Int→List SV:=fun l=>[.one (.row (.int .i64) l)]
def R251:List Int→SV×List Prop:=fun l=>(.one (.int .i64 (orV l)),[l.length≤1099511627776])
def K251:Con:=⟨true,[some (.int .i64)],fun xs=>match xs with | [.one (.row (.int .i64) l)]=>some (R251 l) | _=>none⟩
noncomputable def G251:GP:=conG P251 R251
theorem P251_inj:∀ a b,(P251 a).map den0=(P251 b).map den0→a=b:=by
  rintro a0 b0 h
  simp only [P251,List.map_cons,List.map_nil,den0,den0L,List.cons.injEq,AV.one.injEq,AV.agg.injEq,Lf.int.injEq,Lf.str.injEq,Lf.bool.injEq,Lf.vrow.injEq,and_true,true_and] at h
  exact row_inj h
theorem K251_ok:ConG G251 K251:=conG_of P251_inj (fun _ _=>rfl) (fun _=>rfl) fun xs r h=>by
  simp only [K251] at h
  split at h
  · cases h;rename_i l;exact ⟨l,rfl,rfl⟩
  · cases h
theorem pr251 {S:SC} (hB:SB S)  (h251:S.has 251 f251):PrOk S 251 (pureP G251):=by
  refine prM hB [] [] trivial trivial h251 (fun _=>⟨rfl,rfl,rfl⟩) (fun l=>fun f id T L=>match f,id with
      | 251,0=>some (.inv { i:Nat // i≤l.length∧(l.take i).all (fun x=>decide (x=0))=true } (fun x=>([(8,.one (.int .i64 x.1))],[])) (fun x=>l.length - x.1))
      | _,_=>none) 400 ?_
  rintro l hc
  have hc1:l.length≤1099511627776:=hc.1
  refine VC.use (p:=
    ((∃ x1:{ i:Nat // i≤l.length∧((List.take i l).all fun x=>decide (x=0))=true },
      (((0:Int)=(0:Int)) ∧
      ((l=l) ∧
      (((↑l.length:Int)=(↑l.length:Int)) ∧
      (0=(↑x1.val:Int)))))) ∧
    (∀ x1 : { i : Nat // i ≤ l.length ∧ ((List.take i l).all fun x => decide (x = 0)) = true },
     (((↑x1.val:Int) < (↑l.length:Int) →
       ((0≤(↑x1.val:Int)∧(↑x1.val:Int) < (↑l.length:Int)) ∧
       ((l.getD x1.val 0=0 →
         ((i64R ((↑x1.val:Int)+1)) ∧
         (∃ x2 : { i : Nat // i ≤ l.length ∧ ((List.take i l).all fun x => decide (x = 0)) = true },
          ((l.length - x2.val < l.length - x1.val) ∧
          (((0:Int)=(0:Int)) ∧
          ((l=l) ∧
          (((↑l.length:Int)=(↑l.length:Int)) ∧
          ((↑x1.val:Int)+1=(↑x2.val:Int))))))))) ∧
       (¬l.getD x1.val 0 = 0 →
        (l.getD x1.val 0=orV l))))) ∧
     (¬(↑x1.val : Int) < (↑l.length : Int) →
      (0=orV l)))))) (by kernel_rfl) ?_
  refine ⟨⟨⟨0,by omega,rfl⟩,rfl,rfl,rfl,rfl⟩,?_⟩
  rintro ⟨i,hi,ha⟩
  dsimp only at hi ha ⊢
  exact ⟨fun h=>⟨by omega,fun h1=>⟨by unfold i64R;omega,⟨⟨i+1,by omega,take_all ha (by omega) (by simpa using h1)⟩,by dsimp only;omega,rfl,rfl,rfl,by push_cast;rfl⟩⟩,fun h1=>orV_find ha (by omega) h1⟩,fun h=>orV_none (all_take ha (by omega))⟩
def P230:List UInt8×List UInt8×Int×List UInt8×List UInt8×Int→List SV:=fun (a0,a1,a2,b0,b1,b2)=>[.agg [.str a0,.str a1,.int .i64 a2],.agg [.str b0,.str b1,.int .i64 b2]]
def R230:List UInt8×List UInt8×Int×List UInt8×List UInt8×Int→SV×List Prop:=fun (a0,a1,a2,b0,b1,b2)=>(.one (.bool (lessV (a0,a1,a2) (b0,b1,b2))),[])
def K230:Con:=⟨true,[none,none],fun xs=>match xs with | [.agg [.str a0,.str a1,.int .i64 a2],.agg [.str b0,.str b1,.int .i64 b2]]=>some (R230 (a0,a1,a2,b0,b1,b2)) | _=>none⟩
noncomputable def G230:GP:=conG P230 R230
theorem P230_inj:∀ a b,(P230 a).map den0=(P230 b).map den0→a=b:=by
  rintro ⟨a0,a1,a2,a3,a4,a5⟩ ⟨b0,b1,b2,b3,b4,b5⟩ h
  simp only [P230,List.map_cons,List.map_nil,den0,den0L,List.cons.injEq,AV.one.injEq,AV.agg.injEq,Lf.int.injEq,Lf.str.injEq,Lf.bool.injEq,Lf.vrow.injEq,and_true,true_and,and_assoc] at h
  obtain ⟨h0,h1,h2,h3,h4,h5⟩:=h
  subst h0 h1 h2 h3 h4 h5
  rfl
theorem K230_ok:ConG G230 K230:=conG_of P230_inj (fun ⟨_,_,_,_,_,_⟩ ⟨_,_,_,_,_,_⟩=>rfl) (fun ⟨_,_,_,_,_,_⟩=>rfl) fun xs r h=>by
  simp only [K230] at h
  split at h
  · cases h;rename_i a0 a1 a2 b0 b1 b2;exact ⟨(a0,a1,a2,b0,b1,b2),rfl,rfl⟩
  · cases h
theorem pr230 {S:SC} (hB:SB S) (q251:PrOk S 251 (pureP G251)) (q252:PrOk S 252 (pureP G252)) (h230:S.has 230 f230):PrOk S 230 (pureP G230):=by
  refine prM hB [] [⟨251,G251,K251⟩,⟨252,G252,K252⟩] trivial ⟨⟨q251,K251_ok⟩,⟨q252,K252_ok⟩,trivial⟩ h230 (fun ⟨a0,a1,a2,b0,b1,b2⟩=>⟨rfl,rfl,rfl⟩) (fun (a0,a1,a2,b0,b1,b2)=>fun _ _ _ _=>none) 400 ?_
  rintro ⟨a0,a1,a2,b0,b1,b2⟩ hc
  refine VC.use (p:=
    (([cmpS a0 b0,cmpS a1 b1].length≤1099511627776) ∧
    (decide (orV [cmpS a0 b0,cmpS a1 b1] < 0)=lessV (a0,a1,a2) (b0,b1,b2)))) (by kernel_rfl) ?_
  exact ⟨by simp,rfl⟩
def P250:(List (Int×Int×Int))→List SV:=fun l=>[.one (.row (.pair (.int .i64) (.pair (.int .i32) (.int .i32))) l)]
def R250:(List (Int×Int×Int))→SV×List Prop:=fun l=>(.tup [.a [.str (readA l),.str (readB l),.int .i64 1],.o (.bool (longV l))],[l.length≤1099511627776])
def K250:Con:=⟨true,[some (.pair (.int .i64) (.pair (.int .i32) (.int .i32)))],fun xs=>match xs with | [.one (.row (.pair (.int .i64) (.pair (.int .i32) (.int .i32))) l)]=>some (R250 l) | _=>none⟩
noncomputable def G250:GP:=conG P250 R250
theorem P250_inj:∀ a b,(P250 a).map den0=(P250 b).map den0→a=b:=by
  rintro a0 b0 h
  simp only [P250,List.map_cons,List.map_nil,den0,den0L,List.cons.injEq,AV.one.injEq,AV.agg.injEq,Lf.int.injEq,Lf.str.injEq,Lf.bool.injEq,Lf.vrow.injEq,and_true,true_and] at h
  exact row_inj h
theorem K250_ok:ConG G250 K250:=conG_of P250_inj (fun _ _=>rfl) (fun _=>rfl) fun xs r h=>by
  simp only [K250] at h
  split at h
  · cases h;rename_i l;exact ⟨l,rfl,rfl⟩
  · cases h
theorem pr250 {S:SC} (hB:SB S) (q220:PrOk S 220 (pureP G220)) (q43:PrOk S 43 (pureP G43)) (h250:S.has 250 f250):PrOk S 250 (pureP G250):=by
  refine prM hB [] [⟨220,G220,K220⟩,⟨43,G43,K43⟩] trivial ⟨⟨q220,K220_ok⟩,⟨q43,K43_ok⟩,trivial⟩ h250 (fun _=>⟨rfl,rfl,rfl⟩) (fun l=>fun _ _ _ _=>none) 400 ?_
  rintro l hc
  have hc1:l.length≤1099511627776:=hc.1
  refine VC.use (p:=
    ((l.length≤1099511627776) ∧
    (((readA l).length≤4611686018427387904) ∧
    (((readB l).length≤4611686018427387904) ∧
    ((readA l=readA l) ∧
    ((readB l=readB l) ∧
    (((1:Int)=(1:Int)) ∧
    (decide     (3 <       (if (↑(runes (readA l)).length:Int) < (↑(runes (readB l)).length:Int) then (↑(runes (readB l)).length:Int) else (↑(runes (readA l)).length:Int))) =   longV l)))))))) (by kernel_rfl) ?_
  have k1:(readA l).length≤4*l.length∧(readB l).length≤4*l.length:=by
    by_cases h:chkE l=0
    · exact read_len h
    · rw [← (chk_no h).1,← (chk_no h).2];simp
  refine ⟨hc1,by omega,by omega,rfl,rfl,rfl,?_⟩
  unfold longV
  rw [Bool.eq_iff_iff,decide_eq_true_eq]
  exact big_iff _ _
def P229:(List (Int×Int×Int))→List SV:=fun l=>[.one (.row (.pair (.int .i64) (.pair (.int .i32) (.int .i32))) l)]
def R229:(List (Int×Int×Int))→SV×List Prop:=fun l=>(.tup [.o (.row BlkT (blksV l)),.o (.int .i64 (chkE l))],[l.length≤1099511627776])
def K229:Con:=⟨false,[some (.pair (.int .i64) (.pair (.int .i32) (.int .i32)))],fun xs=>match xs with | [.one (.row (.pair (.int .i64) (.pair (.int .i32) (.int .i32))) l)]=>some (R229 l) | _=>none⟩
noncomputable def G229:GP:=conG P229 R229
theorem P229_inj:∀ a b,(P229 a).map den0=(P229 b).map den0→a=b:=by
  rintro a0 b0 h
  simp only [P229,List.map_cons,List.map_nil,den0,den0L,List.cons.injEq,AV.one.injEq,AV.agg.injEq,Lf.int.injEq,Lf.str.injEq,Lf.bool.injEq,Lf.vrow.injEq,and_true,true_and] at h
  exact row_inj h
theorem K229_ok:ConG G229 K229:=conG_of P229_inj (fun _ _=>rfl) (fun _=>rfl) fun xs r h=>by
  simp only [K229] at h
  split at h
  · cases h;rename_i l;exact ⟨l,rfl,rfl⟩
  · cases h
theorem pr229 {S:SC} (hB:SB S) (q222:PrOk S 222 (pureP G222)) (q250:PrOk S 250 (pureP G250)) (h249:S.has 249 f249) (h260:S.has 260 f260) (h229:S.has 229 f229):PrOk S 229 (pureP G229):=by
  refine prM hB [(249,f249),(260,f260)] [⟨222,G222,K222⟩,⟨250,G250,K250⟩] ⟨h249,h260,trivial⟩ ⟨⟨q222,K222_ok⟩,⟨q250,K250_ok⟩,trivial⟩ h229 (fun _=>⟨rfl,rfl,rfl⟩) (fun l=>fun f id T L=>match f,id with
      | 260,0=>some (.inv { p:Nat×List Blk // p.1≤l.length+1∧p.2++((runsN (l.length - p.1) (l.drop p.1)).map blkOf).flatten=((runs' l).map blkOf).flatten } (fun x=>([(3,.one (.int .i64 x.1.1))],[(0,.cell [.osl 3]),(3,.row BlkT x.1.2)])) (fun x=>l.length+1 - x.1.1))
      | 260,2=>match T.getD 4 .junk with | .one (.int _ u)=>some (.inv { j:Nat // u.toNat≤j∧j≤l.length∧((l.drop u.toNat).take (j - u.toNat)).all nz=true } (fun x=>([(3,.one (.int .i64 x.1))],[])) (fun x=>l.length - x.1)) | _=>none
      | _,_=>none) 900 ?_
  rintro l hc
  have hc1:l.length≤1099511627776:=hc.1
  refine VC.use (p:=
    ((l.length≤1099511627776) ∧
    ((chkE l=0 →
      ((∃ x1:{ p:Nat×List Blk // p.fst≤l.length+1∧p.snd++(List.map blkOf (runsN (l.length - p.fst) (List.drop p.fst l))).flatten=(List.map blkOf (runs' l)).flatten },
        ((0=(↑x1.val.fst:Int)) ∧
        ((x1.val.snd=[]) ∧
        ((l=l) ∧
        (x1.val.snd=[]))))) ∧
      (∀ x1 : { p : Nat × List Blk // p.fst ≤ l.length + 1 ∧ p.snd ++ (List.map blkOf (runsN (l.length - p.fst) (List.drop p.fst l))).flatten = (List.map blkOf (runs' l)).flatten },
       (((↑x1.val.fst:Int) < (↑l.length:Int) →
         ((0≤(↑x1.val.fst:Int)∧(↑x1.val.fst:Int) < (↑l.length:Int)) ∧
         (((l.getD x1.val.fst (0,0,0)).fst=0 →
           ((i64R ((↑x1.val.fst:Int)+1)) ∧
           (∃ x2 : { p : Nat × List Blk // p.fst ≤ l.length + 1 ∧ p.snd ++ (List.map blkOf (runsN (l.length - p.fst) (List.drop p.fst l))).flatten = (List.map blkOf (runs' l)).flatten },
            ((l.length+1 - x2.val.fst < l.length+1 - x1.val.fst) ∧
            (((↑x1.val.fst:Int)+1=(↑x2.val.fst:Int)) ∧
            ((l=l) ∧
            (x1.val.snd=x2.val.snd))))))) ∧
         (¬(l.getD x1.val.fst (0, 0, 0)).fst = 0 →
          ((∃ x2:{ j:Nat // x1.val.fst≤j∧j≤l.length∧(List.take (j - x1.val.fst) (List.drop x1.val.fst l)).all nz=true },
            (((↑x1.val.fst:Int)=(↑x2.val:Int)) ∧
            (((↑x1.val.fst:Int)=(↑x1.val.fst:Int)) ∧
            ((l=l) ∧
            (x1.val.snd=x1.val.snd))))) ∧
          (∀ x2 : { j : Nat // x1.val.fst ≤ j ∧ j ≤ l.length ∧ (List.take (j - x1.val.fst) (List.drop x1.val.fst l)).all nz = true },
           (((↑x2.val:Int) < (↑l.length:Int) →
             ((0≤(↑x2.val:Int)∧(↑x2.val:Int) < (↑l.length:Int)) ∧
             (((l.getD x2.val (0,0,0)).fst=0 →
               ((0≤(↑x1.val.fst:Int)∧(↑x1.val.fst:Int)≤(↑x2.val:Int)∧(↑x2.val:Int)≤(↑l.length:Int)) ∧
               (((cutR l (some (↑x1.val.fst:Int)) (some (↑x2.val:Int))).length≤1099511627776) ∧
               (((!longV (cutR l (some (↑x1.val.fst:Int)) (some (↑x2.val:Int))))=true →
                 ((readA (cutR l (some (↑x1.val.fst:Int)) (some (↑x2.val:Int)))=readB (cutR l (some (↑x1.val.fst:Int)) (some (↑x2.val:Int))) →
                   ((i64R ((↑x2.val:Int)+1)) ∧
                   (∃ x3 : { p : Nat × List Blk // p.fst ≤ l.length + 1 ∧ p.snd ++ (List.map blkOf (runsN (l.length - p.fst) (List.drop p.fst l))).flatten = (List.map blkOf (runs' l)).flatten },
                    ((l.length+1 - x3.val.fst < l.length+1 - x1.val.fst) ∧
                    (((↑x2.val:Int)+1=(↑x3.val.fst:Int)) ∧
                    ((l=l) ∧
                    (x1.val.snd=x3.val.snd))))))) ∧
                 (¬readA (cutR l (some (↑x1.val.fst : Int)) (some (↑x2.val : Int))) = readB (cutR l (some (↑x1.val.fst : Int)) (some (↑x2.val : Int))) →
                  (((x1.val.snd.length+[(readA (cutR l (some (↑x1.val.fst:Int)) (some (↑x2.val:Int))),readB (cutR l (some (↑x1.val.fst:Int)) (some (↑x2.val:Int))),1)].length)*40≤140737488355328) ∧
                  ((i64R ((↑x2.val:Int)+1)) ∧
                  (∃ x3 : { p : Nat × List Blk // p.fst ≤ l.length + 1 ∧ p.snd ++ (List.map blkOf (runsN (l.length - p.fst) (List.drop p.fst l))).flatten = (List.map blkOf (runs' l)).flatten },
                   ((l.length+1 - x3.val.fst < l.length+1 - x1.val.fst) ∧
                   (((↑x2.val:Int)+1=(↑x3.val.fst:Int)) ∧
                   ((l=l) ∧
                   (x1.val.snd++[(readA (cutR l (some (↑x1.val.fst:Int)) (some (↑x2.val:Int))),readB (cutR l (some (↑x1.val.fst:Int)) (some (↑x2.val:Int))),1)]=x3.val.snd)))))))))) ∧
               (¬(!longV (cutR l (some (↑x1.val.fst : Int)) (some (↑x2.val : Int)))) = true →
                ((i64R ((↑x2.val:Int)+1)) ∧
                (∃ x3 : { p : Nat × List Blk // p.fst ≤ l.length + 1 ∧ p.snd ++ (List.map blkOf (runsN (l.length - p.fst) (List.drop p.fst l))).flatten = (List.map blkOf (runs' l)).flatten },
                 ((l.length+1 - x3.val.fst < l.length+1 - x1.val.fst) ∧
                 (((↑x2.val:Int)+1=(↑x3.val.fst:Int)) ∧
                 ((l=l) ∧
                 (x1.val.snd=x3.val.snd))))))))))) ∧
             (¬(l.getD x2.val (0, 0, 0)).fst = 0 →
              ((i64R ((↑x2.val:Int)+1)) ∧
              (∃ x3 : { j : Nat // x1.val.fst ≤ j ∧ j ≤ l.length ∧ (List.take (j - x1.val.fst) (List.drop x1.val.fst l)).all nz = true },
               ((l.length - x3.val < l.length - x2.val) ∧
               (((↑x2.val:Int)+1=(↑x3.val:Int)) ∧
               (((↑x1.val.fst:Int)=(↑x1.val.fst:Int)) ∧
               ((l=l) ∧
               (x1.val.snd=x1.val.snd))))))))))) ∧
           (¬(↑x2.val : Int) < (↑l.length : Int) →
            ((0≤(↑x1.val.fst:Int)∧(↑x1.val.fst:Int)≤(↑x2.val:Int)∧(↑x2.val:Int)≤(↑l.length:Int)) ∧
            (((cutR l (some (↑x1.val.fst:Int)) (some (↑x2.val:Int))).length≤1099511627776) ∧
            (((!longV (cutR l (some (↑x1.val.fst:Int)) (some (↑x2.val:Int))))=true →
              ((readA (cutR l (some (↑x1.val.fst:Int)) (some (↑x2.val:Int)))=readB (cutR l (some (↑x1.val.fst:Int)) (some (↑x2.val:Int))) →
                ((i64R ((↑x2.val:Int)+1)) ∧
                (∃ x3 : { p : Nat × List Blk // p.fst ≤ l.length + 1 ∧ p.snd ++ (List.map blkOf (runsN (l.length - p.fst) (List.drop p.fst l))).flatten = (List.map blkOf (runs' l)).flatten },
                 ((l.length+1 - x3.val.fst < l.length+1 - x1.val.fst) ∧
                 (((↑x2.val:Int)+1=(↑x3.val.fst:Int)) ∧
                 ((l=l) ∧
                 (x1.val.snd=x3.val.snd))))))) ∧
              (¬readA (cutR l (some (↑x1.val.fst : Int)) (some (↑x2.val : Int))) = readB (cutR l (some (↑x1.val.fst : Int)) (some (↑x2.val : Int))) →
               (((x1.val.snd.length+[(readA (cutR l (some (↑x1.val.fst:Int)) (some (↑x2.val:Int))),readB (cutR l (some (↑x1.val.fst:Int)) (some (↑x2.val:Int))),1)].length)*40≤140737488355328) ∧
               ((i64R ((↑x2.val:Int)+1)) ∧
               (∃ x3 : { p : Nat × List Blk // p.fst ≤ l.length + 1 ∧ p.snd ++ (List.map blkOf (runsN (l.length - p.fst) (List.drop p.fst l))).flatten = (List.map blkOf (runs' l)).flatten },
                ((l.length+1 - x3.val.fst < l.length+1 - x1.val.fst) ∧
                (((↑x2.val:Int)+1=(↑x3.val.fst:Int)) ∧
                ((l=l) ∧
                (x1.val.snd++[(readA (cutR l (some (↑x1.val.fst:Int)) (some (↑x2.val:Int))),readB (cutR l (some (↑x1.val.fst:Int)) (some (↑x2.val:Int))),1)]=x3.val.snd)))))))))) ∧
            (¬(!longV (cutR l (some (↑x1.val.fst : Int)) (some (↑x2.val : Int)))) = true →
             ((i64R ((↑x2.val:Int)+1)) ∧
             (∃ x3 : { p : Nat × List Blk // p.fst ≤ l.length + 1 ∧ p.snd ++ (List.map blkOf (runsN (l.length - p.fst) (List.drop p.fst l))).flatten = (List.map blkOf (runs' l)).flatten },
              ((l.length+1 - x3.val.fst < l.length+1 - x1.val.fst) ∧
              (((↑x2.val:Int)+1=(↑x3.val.fst:Int)) ∧
              ((l=l) ∧
              (x1.val.snd=x3.val.snd)))))))))))))))))) ∧
       (¬(↑x1.val.fst : Int) < (↑l.length : Int) →
        ((x1.val.snd=blksV l) ∧
        (0=chkE l))))))) ∧
    (¬chkE l = 0 →
     ((blksV l=[]) ∧
     (chkE l=chkE l)))))) (by kernel_rfl) ?_
  refine ⟨hc1,fun h0=>⟨⟨⟨(0,[]),by omega,by rw [List.drop_zero,Nat.sub_zero,List.nil_append];rfl⟩,rfl,rfl,rfl,rfl⟩,?_⟩,fun h0=>⟨blks_no h0,rfl⟩⟩
  rintro ⟨⟨i,o⟩,hi,hv⟩
  dsimp only at hi hv ⊢
  have hroom:=blks_room hv
  refine ⟨fun h=>⟨by omega,fun h1=>⟨by unfold i64R;omega,⟨⟨(i+1,o),by dsimp only;omega,by dsimp only;rw [← runs_match (by omega) h1];exact hv⟩,by dsimp only;omega,by push_cast;rfl,rfl,rfl⟩⟩,fun h1=>⟨⟨⟨i,Nat.le_refl _,by omega,by rw [Nat.sub_self,List.take_zero];rfl⟩,rfl,rfl,rfl,rfl⟩,?_⟩⟩,fun h=>⟨?_,h0.symm⟩⟩
  · rintro ⟨j,hij,hj,ha⟩
    dsimp only at hij hj ha ⊢
    exact ⟨fun h2=>⟨by omega,fun h3=>⟨by omega,by have:=cut_len l i j;omega,fun k1=>⟨fun k2=>⟨by unfold i64R;omega,⟨⟨(j+1,o),by dsimp only;omega,by have:=blk_step (b:=[]) hv (runs_row (by omega) h1 hj hij ha (.inr h3)) (by unfold blkOf;rw [if_neg (by simp [k2])]);simpa using this⟩,by dsimp only;omega,by push_cast;rfl,rfl,rfl⟩⟩,fun k2=>⟨by simp only [List.length_cons,List.length_nil];omega,by unfold i64R;omega,⟨⟨(j+1,_),by dsimp only;omega,blk_step hv (runs_row (by omega) h1 hj hij ha (.inr h3)) (by unfold blkOf;rw [if_pos (by simp [k2];simpa using k1)])⟩,by dsimp only;omega,by push_cast;rfl,rfl,rfl⟩⟩⟩,fun k1=>⟨by unfold i64R;omega,⟨⟨(j+1,o),by dsimp only;omega,by have:=blk_step (b:=[]) hv (runs_row (by omega) h1 hj hij ha (.inr h3)) (by unfold blkOf;rw [if_neg (by intro k;simp at k;exact k1 (by simpa using k.1))]);simpa using this⟩,by dsimp only;omega,by push_cast;rfl,rfl,rfl⟩⟩⟩,fun h3=>⟨by unfold i64R;omega,⟨⟨j+1,by omega,by omega,take_step hij (by omega) ha h3⟩,by dsimp only;omega,by push_cast;rfl,rfl,rfl,rfl⟩⟩⟩,fun h2=>⟨by omega,by have:=cut_len l i j;omega,fun k1=>⟨fun k2=>⟨by unfold i64R;omega,⟨⟨(j+1,o),by dsimp only;omega,by have:=blk_step (b:=[]) hv (runs_row (by omega) h1 hj hij ha (.inl (by omega))) (by unfold blkOf;rw [if_neg (by simp [k2])]);simpa using this⟩,by dsimp only;omega,by push_cast;rfl,rfl,rfl⟩⟩,fun k2=>⟨by simp only [List.length_cons,List.length_nil];omega,by unfold i64R;omega,⟨⟨(j+1,_),by dsimp only;omega,blk_step hv (runs_row (by omega) h1 hj hij ha (.inl (by omega))) (by unfold blkOf;rw [if_pos (by simp [k2];simpa using k1)])⟩,by dsimp only;omega,by push_cast;rfl,rfl,rfl⟩⟩⟩,fun k1=>⟨by unfold i64R;omega,⟨⟨(j+1,o),by dsimp only;omega,by have:=blk_step (b:=[]) hv (runs_row (by omega) h1 hj hij ha (.inl (by omega))) (by unfold blkOf;rw [if_neg (by intro k;simp at k;exact k1 (by simpa using k.1))]);simpa using this⟩,by dsimp only;omega,by push_cast;rfl,rfl,rfl⟩⟩⟩⟩
  · rw [blks_ok h0,← hv,List.drop_of_length_le (by omega),runsN_nil];simp
def P226:List UInt8×List UInt8→List SV:=fun (s,t)=>[.one (.str s),.one (.str t)]
def R226:List UInt8×List UInt8→SV×List Prop:=fun (s,t)=>(.tup [.o (.row BlkT (pairV s t)),.o (.int .i64 (twoE s t))],[s.length≤1099511627776,t.length≤1099511627776])
def K226:Con:=⟨false,[none,none],fun xs=>match xs with | [.one (.str s),.one (.str t)]=>some (R226 (s,t)) | _=>none⟩
noncomputable def G226:GP:=conG P226 R226
theorem P226_inj:∀ a b,(P226 a).map den0=(P226 b).map den0→a=b:=by
  rintro ⟨a0,a1⟩ ⟨b0,b1⟩ h
  simp only [P226,List.map_cons,List.map_nil,den0,den0L,List.cons.injEq,AV.one.injEq,AV.agg.injEq,Lf.int.injEq,Lf.str.injEq,Lf.bool.injEq,Lf.vrow.injEq,and_true,true_and,and_assoc] at h
  obtain ⟨h0,h1⟩:=h
  subst h0 h1
  rfl
theorem K226_ok:ConG G226 K226:=conG_of P226_inj (fun ⟨_,_⟩ ⟨_,_⟩=>rfl) (fun ⟨_,_⟩=>rfl) fun xs r h=>by
  simp only [K226] at h
  split at h
  · cases h;rename_i s t;exact ⟨(s,t),rfl,rfl⟩
  · cases h
theorem pr226 {S:SC} (hB:SB S) (q214:PrOk S 214 (pureP G214)) (q229:PrOk S 229 (pureP G229)) (h226:S.has 226 f226):PrOk S 226 (pureP G226):=by
  refine prM hB [] [⟨214,G214,K214⟩,⟨229,G229,K229⟩] trivial ⟨⟨q214,K214_ok⟩,⟨q229,K229_ok⟩,trivial⟩ h226 (fun ⟨s,t⟩=>⟨rfl,rfl,rfl⟩) (fun (s,t)=>fun _ _ _ _=>none) 600 ?_
  rintro ⟨s,t⟩ hc
  have hc1:s.length≤1099511627776:=hc.1
  have hc2:t.length≤1099511627776:=hc.2.1
  refine VC.use (p:=
    ((s.length≤1099511627776) ∧
    ((t.length≤1099511627776) ∧
    ((twoE s t=0 →
      (((stepsV s t).length≤1099511627776) ∧
      ((blksV (stepsV s t)=pairV s t) ∧
      (chkE (stepsV s t)=twoE s t)))) ∧
    (¬twoE s t = 0 →
     ((pairV s t=[]) ∧
     (twoE s t=twoE s t))))))) (by kernel_rfl) ?_
  refine ⟨hc1,hc2,fun h=>?_,fun h=>⟨by unfold pairV;rw [if_neg h],rfl⟩⟩
  obtain ⟨t1,t2⟩:=two_zero h
  exact ⟨by have:=(steps_cost t1 t2).2.2;omega,by unfold pairV;rw [if_pos h],by rw [(steps_ok t1 t2).1,h]⟩
def P225:Unit→List SV:=fun _=>[]
def R225:Unit→SV×List Prop:=fun _=>(.one (.bool true),[])
def K225:Con:=⟨true,[],fun xs=>match xs with | []=>some (R225 ()) | _=>none⟩
noncomputable def G225:GP:=conG P225 R225
theorem P225_inj:∀ a b,(P225 a).map den0=(P225 b).map den0→a=b:=by
  intro a b _;rfl
theorem K225_ok:ConG G225 K225:=conG_of P225_inj (fun _ _=>rfl) (fun _=>rfl) fun xs r h=>by
  simp only [K225] at h
  split at h
  · cases h;exact ⟨(),rfl,rfl⟩
  · cases h
theorem pr225 {S:SC} (hB:SB S) (q226:PrOk S 226 (pureP G226)) (q230:PrOk S 230 (pureP G230)) (h225:S.has 225 f225):PrOk S 225 (pureP G225):=by
  refine prM hB [] [⟨226,G226,K226⟩,⟨230,G230,K230⟩] trivial ⟨⟨q226,K226_ok⟩,⟨q230,K230_ok⟩,trivial⟩ h225 (fun _=>⟨rfl,rfl,rfl⟩) (fun _=>fun _ _ _ _=>none) 900 ?_
  rintro _ hc
  refine VC.use (p:=
    (((3:Nat)≤(1099511627776:Nat)) ∧
    (((2:Nat)≤(1099511627776:Nat)) ∧
    (((1:Int)=(1:Int) →
      (((0:Int)≤(0:Int)∧(0:Int) < (1:Int)) ∧
      ((sameS (List.take (3:Nat) (List.drop (0:Nat) (BlkT.cells ((pairV [(97:UInt8),(114:UInt8),(110:UInt8)] [(97:UInt8),(109:UInt8)]).getD (0:Nat) ([],[],(0:Int)))))) (List.take (2:Nat) (List.take (1:Nat) (List.take (0:Nat) (List.map ofLf [Lf.str [],Lf.str [],Lf.int IntKind.i64 (0:Int)])++([ofLf (Lf.str [(114:UInt8),(110:UInt8)])]++List.drop (1:Nat) (List.map ofLf [Lf.str [],Lf.str [],Lf.int IntKind.i64 (0:Int)])))++([ofLf (Lf.str [(109:UInt8)])]++List.drop (2:Nat) (List.take (0:Nat) (List.map ofLf [Lf.str [],Lf.str [],Lf.int IntKind.i64 (0:Int)])++([ofLf (Lf.str [(114:UInt8),(110:UInt8)])]++List.drop (1:Nat) (List.map ofLf [Lf.str [],Lf.str [],Lf.int IntKind.i64 (0:Int)])))))++([ofLf (Lf.int IntKind.i64 (1:Int))]++List.drop (3:Nat) (List.take (1:Nat) (List.take (0:Nat) (List.map ofLf [Lf.str [],Lf.str [],Lf.int IntKind.i64 (0:Int)])++([ofLf (Lf.str [(114:UInt8),(110:UInt8)])]++List.drop (1:Nat) (List.map ofLf [Lf.str [],Lf.str [],Lf.int IntKind.i64 (0:Int)])))++([ofLf (Lf.str [(109:UInt8)])]++List.drop (2:Nat) (List.take (0:Nat) (List.map ofLf [Lf.str [],Lf.str [],Lf.int IntKind.i64 (0:Int)])++([ofLf (Lf.str [(114:UInt8),(110:UInt8)])]++List.drop (1:Nat) (List.map ofLf [Lf.str [],Lf.str [],Lf.int IntKind.i64 (0:Int)])))))))=true →
        (((0:Int)=(0:Int) →
          (lessV ([(97:UInt8)],[],(0:Int)) ([(98:UInt8)],[],(0:Int))=true)) ∧
        (¬(0 : Int) = (0 : Int) →
         (false=true)))) ∧
      (¬sameS (List.take (3 : Nat) (List.drop (0 : Nat) (BlkT.cells ((pairV [(97 : UInt8), (114 : UInt8), (110 : UInt8)] [(97 : UInt8), (109 : UInt8)]).getD (0 : Nat) ([], [], (0 : Int)))))) (List.take (2 : Nat) (List.take (1 : Nat) (List.take (0 : Nat) (List.map ofLf [Lf.str [], Lf.str [], Lf.int IntKind.i64 (0 : Int)]) ++ ([ofLf (Lf.str [(114 : UInt8), (110 : UInt8)])] ++ List.drop (1 : Nat) (List.map ofLf [Lf.str [], Lf.str [], Lf.int IntKind.i64 (0 : Int)]))) ++ ([ofLf (Lf.str [(109 : UInt8)])] ++ List.drop (2 : Nat) (List.take (0 : Nat) (List.map ofLf [Lf.str [], Lf.str [], Lf.int IntKind.i64 (0 : Int)]) ++ ([ofLf (Lf.str [(114 : UInt8), (110 : UInt8)])] ++ List.drop (1 : Nat) (List.map ofLf [Lf.str [], Lf.str [], Lf.int IntKind.i64 (0 : Int)]))))) ++ ([ofLf (Lf.int IntKind.i64 (1 : Int))] ++ List.drop (3 : Nat) (List.take (1 : Nat) (List.take (0 : Nat) (List.map ofLf [Lf.str [], Lf.str [], Lf.int IntKind.i64 (0 : Int)]) ++ ([ofLf (Lf.str [(114 : UInt8), (110 : UInt8)])] ++ List.drop (1 : Nat) (List.map ofLf [Lf.str [], Lf.str [], Lf.int IntKind.i64 (0 : Int)]))) ++ ([ofLf (Lf.str [(109 : UInt8)])] ++ List.drop (2 : Nat) (List.take (0 : Nat) (List.map ofLf [Lf.str [], Lf.str [], Lf.int IntKind.i64 (0 : Int)]) ++ ([ofLf (Lf.str [(114 : UInt8), (110 : UInt8)])] ++ List.drop (1 : Nat) (List.map ofLf [Lf.str [], Lf.str [], Lf.int IntKind.i64 (0 : Int)]))))))) = true →
       (false=true))))) ∧
    (¬(1 : Int) = (1 : Int) →
     (false=true)))))) (by kernel_rfl) ?_
  repeat' (first | intro _ | apply And.intro)
  all_goals first
    | omega
    | (exfalso;omega)
    | (decide +kernel)
    | (rename_i h;exact absurd (by decide +kernel) h)
end Go.EA
