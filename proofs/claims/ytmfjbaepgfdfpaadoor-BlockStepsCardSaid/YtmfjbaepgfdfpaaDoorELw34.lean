/- Layer 5: the reference's blocks; laws. Conditions: none. (Printed by a program of this project's own.) -/
import Derived.Test.YtmfjbaepgfdfpaaDoorERw
import Derived.Test.YtmfjbaepgfdfpaaDoorELw31
import Derived.Test.YtmfjbaepgfdfpaaDoorETc
import Derived.Test.YtmfjbaepgfdfpaaDoorERf
import Derived.Test.YtmfjbaepgfdfpaaDoorELw14
import Derived.KernelRfl
set_option linter.unusedVariables false
set_option linter.unusedSimpArgs false
set_option maxRecDepth 100000
set_option maxHeartbeats 0
namespace Go.EA
open F
theorem getD_run {rs:List (List Stp)} {i:Nat} (hi:i < rs.length):rs.getD i []∈rs∧rs.drop i=rs.getD i []::rs.drop (i+1):=by
  rw [List.getD_eq_getElem?_getD,List.getElem?_eq_getElem hi]
  exact ⟨List.getElem_mem hi,List.drop_eq_getElem_cons hi⟩
theorem step_blk {rs:List (List Stp)} {i:Nat} {o b q:List Blk} (hi:i < rs.length) (h:o++((rs.drop i).map blkOf).flatten=q) (hb:blkOf (rs.getD i [])=b):(o++b)++((rs.drop (i+1)).map blkOf).flatten=q:=by
  rw [(getD_run hi).2,List.map_cons,List.flatten_cons,hb,← List.append_assoc] at h
  exact h
theorem step_long {rs:List (List Stp)} {i n k q:Nat} (hi:i < rs.length) (h:n+((rs.drop i).filter longV).length=q) (hk:k=if longV (rs.getD i [])=true then 1 else 0):(n+k)+((rs.drop (i+1)).filter longV).length=q:=by
  rw [(getD_run hi).2,List.filter_cons] at h
  subst hk
  split at h
  · rename_i h1;rw [if_pos h1];simp only [List.length_cons] at h;omega
  · rename_i h1;rw [if_neg h1];omega
theorem run_ok {l r:List Stp} (hok:l.all okS=true) (hr:r∈runs' l):r.all okS=true∧r.length≤l.length:=by
  obtain ⟨a,b,p,q,e⟩:=(runs_spec l.length l (Nat.le_refl _)).2 r hr
  refine ⟨?_,by rw [e];simp;omega⟩
  rw [e,List.all_append,List.all_append] at hok
  simp only [Bool.and_eq_true] at hok
  exact hok.2.1
theorem run_long {r:List Stp} (hr:r.all okS=true):longV r=decide (3 < max (decR (readA r)).length (decR (readB r)).length):=by
  obtain ⟨h1,h2,_,_,h5,_⟩:=read_row hr
  rw [h5,h1,h2]
theorem blk_no {r:List Stp} (h:longV r=true∨readA r=readB r):blkOf r=[]:=by
  unfold blkOf
  rw [if_neg]
  rcases h with h | h <;> simp [h]
theorem blk_yes {r:List Stp} (h:longV r=false) (h1:¬ readA r=readB r):blkOf r=[(readA r,readB r,1)]:=by
  unfold blkOf
  rw [if_pos]
  simp [h,h1]
theorem runs_le (l:List Stp):(runs' l).length≤l.length:=runsN_len _ _
theorem out_le {l:List Stp} {o q:List Blk} (h:o++q=((runs' l).map blkOf).flatten):o.length≤l.length:=blks_room h
theorem blksV_len (l:List Stp):(blksV l).length≤l.length:=by
  unfold blksV
  split
  · have:=blks_len (runs' l);have:=runs_le l;omega
  · simp
def P231:(List (Int×Int×Int))→List SV:=fun l=>[.one (.row (.pair (.int .i64) (.pair (.int .i32) (.int .i32))) l)]
def R231:(List (Int×Int×Int))→SV×List Prop:=fun l=>(.tup [.o (.row BlkT (blksV l)),.o (.int .i64 (chkE l))],[l.length≤68719476736])
def K231:Con:=⟨false,[some (.pair (.int .i64) (.pair (.int .i32) (.int .i32)))],fun xs=>match xs with | [.one (.row (.pair (.int .i64) (.pair (.int .i32) (.int .i32))) l)]=>some (R231 l) | _=>none⟩
noncomputable def G231:GP:=conG P231 R231
theorem P231_inj:∀ a b,(P231 a).map den0=(P231 b).map den0→a=b:=by
  rintro a0 b0 h
  simp only [P231,List.map_cons,List.map_nil,den0,den0L,List.cons.injEq,AV.one.injEq,AV.agg.injEq,Lf.int.injEq,Lf.str.injEq,Lf.bool.injEq,Lf.vrow.injEq,and_true,true_and] at h
  exact row_inj h
theorem K231_ok:ConG G231 K231:=conG_of P231_inj (fun _ _=>rfl) (fun _=>rfl) fun xs r h=>by
  simp only [K231] at h
  split at h
  · cases h;rename_i l;exact ⟨l,rfl,rfl⟩
  · cases h
theorem pr231 {S:SC} (hB:SB S) (q223:PrOk S 223 (pureP G223)) (q253:PrOk S 253 (pureP G253)) (q221:PrOk S 221 (pureP G221)) (q19:PrOk S 19 (pureP G19)) (h254:S.has 254 f254) (h231:S.has 231 f231):PrOk S 231 (pureP G231):=by
  refine prM hB [(254,f254)] [⟨223,G223,K223⟩,⟨253,G253,K253⟩,⟨221,G221,K221⟩,⟨19,G19,K19⟩] ⟨h254,trivial⟩ ⟨⟨q223,K223_ok⟩,⟨q253,K253_ok⟩,⟨q221,K221_ok⟩,⟨q19,K19_ok⟩,trivial⟩ h231 (fun _=>⟨rfl,rfl,rfl⟩) (fun l=>fun f id T L=>match f,id with
      | 231,0=>some (.inv { x:Nat×List Blk // x.1≤(runs' l).length∧x.2++(((runs' l).drop x.1).map blkOf).flatten=((runs' l).map blkOf).flatten } (fun x=>([(19,.one (.int .i64 x.1.1)),(5,.one (.osl 0))],[(0,.row BlkT x.1.2)])) (fun x=>(runs' l).length - x.1.1))
      | _,_=>none) 1500 ?_
  rintro l hc
  have hc1:l.length≤68719476736:=hc.1
  refine VC.use (p:=
    ((l.length≤1099511627776) ∧
    ((chkE l=0 →
      ((l.length≤1099511627776) ∧
      ((∃ x1:{ x:Nat×List Blk // x.fst≤(runs' l).length∧x.snd++(List.map blkOf (List.drop x.fst (runs' l))).flatten=(List.map blkOf (runs' l)).flatten },
        ((x1.val.snd=[]) ∧
        ((runs' l=runs' l) ∧
        (((↑(runs' l).length:Int)=(↑(runs' l).length:Int)) ∧
        ((0=(↑x1.val.fst:Int)) ∧
        (x1.val.snd=[])))))) ∧
      (∀ x1 : { x : Nat × List Blk // x.fst ≤ (runs' l).length ∧ x.snd ++ (List.map blkOf (List.drop x.fst (runs' l))).flatten = (List.map blkOf (runs' l)).flatten },
       (((↑x1.val.fst:Int) < (↑(runs' l).length:Int) →
         ((0≤(↑x1.val.fst:Int)∧(↑x1.val.fst:Int) < (↑(runs' l).length:Int)) ∧
         ((List.length ((runs' l).getD x1.val.fst [])≤1099511627776) ∧
         (((readA ((runs' l).getD x1.val.fst [])).length≤1099511627776) ∧
         (((↑(decR (readA ((runs' l).getD x1.val.fst []))).length:Int)≤3 →
           (((readB ((runs' l).getD x1.val.fst [])).length≤1099511627776) ∧
           (((↑(decR (readB ((runs' l).getD x1.val.fst []))).length:Int)≤3 →
             ((readA ((runs' l).getD x1.val.fst [])=readB ((runs' l).getD x1.val.fst []) →
               ((i64R ((↑x1.val.fst:Int)+1)) ∧
               (∃ x2 : { x : Nat × List Blk // x.fst ≤ (runs' l).length ∧ x.snd ++ (List.map blkOf (List.drop x.fst (runs' l))).flatten = (List.map blkOf (runs' l)).flatten },
                (((runs' l).length - x2.val.fst < (runs' l).length - x1.val.fst) ∧
                ((runs' l=runs' l) ∧
                (((↑(runs' l).length:Int)=(↑(runs' l).length:Int)) ∧
                (((↑x1.val.fst:Int)+1=(↑x2.val.fst:Int)) ∧
                (x1.val.snd=x2.val.snd)))))))) ∧
             (¬readA ((runs' l).getD x1.val.fst []) = readB ((runs' l).getD x1.val.fst []) →
              (((x1.val.snd.length+[(readA ((runs' l).getD x1.val.fst []),readB ((runs' l).getD x1.val.fst []),1)].length)*40≤140737488355328) ∧
              ((i64R ((↑x1.val.fst:Int)+1)) ∧
              (∃ x2 : { x : Nat × List Blk // x.fst ≤ (runs' l).length ∧ x.snd ++ (List.map blkOf (List.drop x.fst (runs' l))).flatten = (List.map blkOf (runs' l)).flatten },
               (((runs' l).length - x2.val.fst < (runs' l).length - x1.val.fst) ∧
               ((runs' l=runs' l) ∧
               (((↑(runs' l).length:Int)=(↑(runs' l).length:Int)) ∧
               (((↑x1.val.fst:Int)+1=(↑x2.val.fst:Int)) ∧
               (x1.val.snd++[(readA ((runs' l).getD x1.val.fst []),readB ((runs' l).getD x1.val.fst []),1)]=x2.val.snd))))))))))) ∧
           (¬(↑(decR (readB ((runs' l).getD x1.val.fst []))).length : Int) ≤ 3 →
            ((i64R ((↑x1.val.fst:Int)+1)) ∧
            (∃ x2 : { x : Nat × List Blk // x.fst ≤ (runs' l).length ∧ x.snd ++ (List.map blkOf (List.drop x.fst (runs' l))).flatten = (List.map blkOf (runs' l)).flatten },
             (((runs' l).length - x2.val.fst < (runs' l).length - x1.val.fst) ∧
             ((runs' l=runs' l) ∧
             (((↑(runs' l).length:Int)=(↑(runs' l).length:Int)) ∧
             (((↑x1.val.fst:Int)+1=(↑x2.val.fst:Int)) ∧
             (x1.val.snd=x2.val.snd))))))))))) ∧
         (¬(↑(decR (readA ((runs' l).getD x1.val.fst []))).length : Int) ≤ 3 →
          ((i64R ((↑x1.val.fst:Int)+1)) ∧
          (∃ x2 : { x : Nat × List Blk // x.fst ≤ (runs' l).length ∧ x.snd ++ (List.map blkOf (List.drop x.fst (runs' l))).flatten = (List.map blkOf (runs' l)).flatten },
           (((runs' l).length - x2.val.fst < (runs' l).length - x1.val.fst) ∧
           ((runs' l=runs' l) ∧
           (((↑(runs' l).length:Int)=(↑(runs' l).length:Int)) ∧
           (((↑x1.val.fst:Int)+1=(↑x2.val.fst:Int)) ∧
           (x1.val.snd=x2.val.snd))))))))))))) ∧
       (¬(↑x1.val.fst : Int) < (↑(runs' l).length : Int) →
        ((x1.val.snd=blksV l) ∧
        (0=chkE l)))))))) ∧
    (¬chkE l = 0 →
     ((blksV l=[]) ∧
     (chkE l=chkE l)))))) (by kernel_rfl) ?_
  have hrl:=runs_le l
  refine ⟨by omega,fun h0=>⟨by omega,⟨⟨(0,[]),Nat.zero_le _,rfl⟩,rfl,rfl,rfl,rfl,rfl⟩,?_⟩,fun h0=>⟨blks_no h0,rfl⟩⟩
  rintro ⟨⟨i,o⟩,hi,ho⟩
  dsimp only at hi ho ⊢
  refine ⟨fun h=>?_,fun h=>⟨?_,(chk_ok (chk_all h0))⟩⟩
  · obtain ⟨hm,_⟩:=getD_run (rs:=runs' l) (i:=i) (by omega)
    obtain ⟨hok,hl⟩:=run_ok (chk_all h0) hm
    have hb:=blk_len (chk_all h0) hm
    have hlg:=run_long hok
    have hol:=out_le ho
    have st:=fun b hb=>step_blk (b:=b) (show i < (runs' l).length by omega) ho hb
    generalize (runs' l).getD i []=r at *
    refine ⟨by omega,by omega,by omega,fun h1=>⟨by omega,fun h2=>⟨fun h3=>?_,fun h3=>?_⟩,fun h2=>?_⟩,fun h1=>?_⟩
    · have W:=st [] (blk_no (.inr h3))
      rw [List.append_nil] at W
      exact ⟨by unfold i64R;omega,⟨(i+1,o),by dsimp only;omega,W⟩,by dsimp only;omega,rfl,rfl,by push_cast;rfl,rfl⟩
    · have W:=st [(readA r,readB r,1)] (blk_yes (by rw [hlg];exact decide_eq_false (by omega)) h3)
      exact ⟨by simp only [List.length_cons,List.length_nil];omega,by unfold i64R;omega,⟨(i+1,o++[(readA r,readB r,1)]),by dsimp only;omega,W⟩,by dsimp only;omega,rfl,rfl,by push_cast;rfl,rfl⟩
    · have W:=st [] (blk_no (.inl (by rw [hlg];exact decide_eq_true (by omega))))
      rw [List.append_nil] at W
      exact ⟨by unfold i64R;omega,⟨(i+1,o),by dsimp only;omega,W⟩,by dsimp only;omega,rfl,rfl,by push_cast;rfl,rfl⟩
    · have W:=st [] (blk_no (.inl (by rw [hlg];exact decide_eq_true (by omega))))
      rw [List.append_nil] at W
      exact ⟨by unfold i64R;omega,⟨(i+1,o),by dsimp only;omega,W⟩,by dsimp only;omega,rfl,rfl,by push_cast;rfl,rfl⟩
  · rw [List.drop_of_length_le (by omega)] at ho
    rw [blks_ok h0]
    simpa using ho
def P233:(List (Int×Int×Int))→List SV:=fun l=>[.one (.row (.pair (.int .i64) (.pair (.int .i32) (.int .i32))) l)]
def R233:(List (Int×Int×Int))→SV×List Prop:=fun l=>(.tup [.o (.int .i64 (longsV l)),.o (.int .i64 (chkE l))],[l.length≤68719476736])
def K233:Con:=⟨true,[some (.pair (.int .i64) (.pair (.int .i32) (.int .i32)))],fun xs=>match xs with | [.one (.row (.pair (.int .i64) (.pair (.int .i32) (.int .i32))) l)]=>some (R233 l) | _=>none⟩
noncomputable def G233:GP:=conG P233 R233
theorem P233_inj:∀ a b,(P233 a).map den0=(P233 b).map den0→a=b:=by
  rintro a0 b0 h
  simp only [P233,List.map_cons,List.map_nil,den0,den0L,List.cons.injEq,AV.one.injEq,AV.agg.injEq,Lf.int.injEq,Lf.str.injEq,Lf.bool.injEq,Lf.vrow.injEq,and_true,true_and] at h
  exact row_inj h
theorem K233_ok:ConG G233 K233:=conG_of P233_inj (fun _ _=>rfl) (fun _=>rfl) fun xs r h=>by
  simp only [K233] at h
  split at h
  · cases h;rename_i l;exact ⟨l,rfl,rfl⟩
  · cases h
theorem pr233 {S:SC} (hB:SB S) (q223:PrOk S 223 (pureP G223)) (q253:PrOk S 253 (pureP G253)) (q221:PrOk S 221 (pureP G221)) (q19:PrOk S 19 (pureP G19)) (h254:S.has 254 f254) (h233:S.has 233 f233):PrOk S 233 (pureP G233):=by
  refine prM hB [(254,f254)] [⟨223,G223,K223⟩,⟨253,G253,K253⟩,⟨221,G221,K221⟩,⟨19,G19,K19⟩] ⟨h254,trivial⟩ ⟨⟨q223,K223_ok⟩,⟨q253,K253_ok⟩,⟨q221,K221_ok⟩,⟨q19,K19_ok⟩,trivial⟩ h233 (fun _=>⟨rfl,rfl,rfl⟩) (fun l=>fun f id T L=>match f,id with
      | 233,0=>some (.inv { x:Nat×Nat // x.1≤(runs' l).length∧x.2+(((runs' l).drop x.1).filter longV).length=((runs' l).filter longV).length } (fun x=>([(19,.one (.int .i64 x.1.1)),(5,.one (.int .i64 x.1.2))],[])) (fun x=>(runs' l).length - x.1.1))
      | _,_=>none) 1500 ?_
  rintro l hc
  have hc1:l.length≤68719476736:=hc.1
  refine VC.use (p:=
    ((l.length≤1099511627776) ∧
    ((chkE l=0 →
      ((l.length≤1099511627776) ∧
      ((∃ x1:{ x:Nat×Nat // x.fst≤(runs' l).length∧x.snd+(List.filter longV (List.drop x.fst (runs' l))).length=(List.filter longV (runs' l)).length },
        ((0=(↑x1.val.snd:Int)) ∧
        ((runs' l=runs' l) ∧
        (((↑(runs' l).length:Int)=(↑(runs' l).length:Int)) ∧
        (0=(↑x1.val.fst:Int)))))) ∧
      (∀ x1 : { x : Nat × Nat // x.fst ≤ (runs' l).length ∧ x.snd + (List.filter longV (List.drop x.fst (runs' l))).length = (List.filter longV (runs' l)).length },
       (((↑x1.val.fst:Int) < (↑(runs' l).length:Int) →
         ((0≤(↑x1.val.fst:Int)∧(↑x1.val.fst:Int) < (↑(runs' l).length:Int)) ∧
         ((List.length ((runs' l).getD x1.val.fst [])≤1099511627776) ∧
         (((readA ((runs' l).getD x1.val.fst [])).length≤1099511627776) ∧
         ((3 < (↑(decR (readA ((runs' l).getD x1.val.fst []))).length:Int) →
           ((i64R ((↑x1.val.snd:Int)+1)) ∧
           ((i64R ((↑x1.val.fst:Int)+1)) ∧
           (∃ x2 : { x : Nat × Nat // x.fst ≤ (runs' l).length ∧ x.snd + (List.filter longV (List.drop x.fst (runs' l))).length = (List.filter longV (runs' l)).length },
            (((runs' l).length - x2.val.fst < (runs' l).length - x1.val.fst) ∧
            (((↑x1.val.snd:Int)+1=(↑x2.val.snd:Int)) ∧
            ((runs' l=runs' l) ∧
            (((↑(runs' l).length:Int)=(↑(runs' l).length:Int)) ∧
            ((↑x1.val.fst:Int)+1=(↑x2.val.fst:Int)))))))))) ∧
         (¬3 < (↑(decR (readA ((runs' l).getD x1.val.fst []))).length : Int) →
          (((readB ((runs' l).getD x1.val.fst [])).length≤1099511627776) ∧
          ((3 < (↑(decR (readB ((runs' l).getD x1.val.fst []))).length:Int) →
            ((i64R ((↑x1.val.snd:Int)+1)) ∧
            ((i64R ((↑x1.val.fst:Int)+1)) ∧
            (∃ x2 : { x : Nat × Nat // x.fst ≤ (runs' l).length ∧ x.snd + (List.filter longV (List.drop x.fst (runs' l))).length = (List.filter longV (runs' l)).length },
             (((runs' l).length - x2.val.fst < (runs' l).length - x1.val.fst) ∧
             (((↑x1.val.snd:Int)+1=(↑x2.val.snd:Int)) ∧
             ((runs' l=runs' l) ∧
             (((↑(runs' l).length:Int)=(↑(runs' l).length:Int)) ∧
             ((↑x1.val.fst:Int)+1=(↑x2.val.fst:Int)))))))))) ∧
          (¬3 < (↑(decR (readB ((runs' l).getD x1.val.fst []))).length : Int) →
           ((i64R ((↑x1.val.fst:Int)+1)) ∧
           (∃ x2 : { x : Nat × Nat // x.fst ≤ (runs' l).length ∧ x.snd + (List.filter longV (List.drop x.fst (runs' l))).length = (List.filter longV (runs' l)).length },
            (((runs' l).length - x2.val.fst < (runs' l).length - x1.val.fst) ∧
            (((↑x1.val.snd:Int)=(↑x2.val.snd:Int)) ∧
            ((runs' l=runs' l) ∧
            (((↑(runs' l).length:Int)=(↑(runs' l).length:Int)) ∧
            ((↑x1.val.fst:Int)+1=(↑x2.val.fst:Int))))))))))))))))) ∧
       (¬(↑x1.val.fst : Int) < (↑(runs' l).length : Int) →
        (((↑x1.val.snd:Int)=longsV l) ∧
        (0=chkE l)))))))) ∧
    (¬chkE l = 0 →
     ((0=longsV l) ∧
     (chkE l=chkE l)))))) (by kernel_rfl) ?_
  have hrl:=runs_le l
  refine ⟨by omega,fun h0=>⟨by omega,⟨⟨(0,0),Nat.zero_le _,by simp⟩,rfl,rfl,rfl,rfl⟩,?_⟩,fun h0=>⟨by unfold longsV;rw [if_neg h0],rfl⟩⟩
  rintro ⟨⟨i,o⟩,hi,ho⟩
  dsimp only at hi ho ⊢
  refine ⟨fun h=>?_,fun h=>⟨?_,(chk_ok (chk_all h0))⟩⟩
  · obtain ⟨hm,_⟩:=getD_run (rs:=runs' l) (i:=i) (by omega)
    obtain ⟨hok,hl⟩:=run_ok (chk_all h0) hm
    have hb:=blk_len (chk_all h0) hm
    have hlg:=run_long hok
    have hol:o≤l.length:=by have:=longs_le l;omega
    have st:=fun k hk=>step_long (k:=k) (show i < (runs' l).length by omega) ho hk
    generalize (runs' l).getD i []=r at *
    refine ⟨by omega,by omega,by omega,fun h1=>?_,fun h1=>⟨by omega,fun h2=>?_,fun h2=>?_⟩⟩
    · have W:=st 1 (by rw [if_pos (by rw [hlg];exact decide_eq_true (by omega))])
      exact ⟨by unfold i64R;omega,by unfold i64R;omega,⟨(i+1,o+1),by dsimp only;omega,W⟩,by dsimp only;omega,by push_cast;rfl,rfl,rfl,by push_cast;rfl⟩
    · have W:=st 1 (by rw [if_pos (by rw [hlg];exact decide_eq_true (by omega))])
      exact ⟨by unfold i64R;omega,by unfold i64R;omega,⟨(i+1,o+1),by dsimp only;omega,W⟩,by dsimp only;omega,by push_cast;rfl,rfl,rfl,by push_cast;rfl⟩
    · have W:=st 0 (by rw [if_neg (by rw [hlg,decide_eq_true_eq];omega)])
      exact ⟨by unfold i64R;omega,⟨(i+1,o),by dsimp only;omega,W⟩,by dsimp only;omega,rfl,rfl,rfl,by push_cast;rfl⟩
  · rw [List.drop_of_length_le (by omega)] at ho
    unfold longsV
    rw [if_pos h0,← ho]
    simp
theorem w210 {S:SC} (hB:SB S) (q225:PrOk S 225 (pureP G225)) (q229:PrOk S 229 (pureP G229)) (q231:PrOk S 231 (pureP G231)) (q232:PrOk S 232 (pureP G232)) (q233:PrOk S 233 (pureP G233)) (q228:PrOk S 228 (pureP G228)) (h210:S.has 210 f210) (l:List (Int×Int×Int)):MF S 210 [] [den0 (.one (.row (.pair (.int .i64) (.pair (.int .i32) (.int .i32))) l))] (hl []) fun v _=>v=.one (.bool true):=
  mfM hB [] [⟨225,G225,K225⟩,⟨229,G229,K229⟩,⟨231,G231,K231⟩,⟨232,G232,K232⟩,⟨233,G233,K233⟩,⟨228,G228,K228⟩] trivial ⟨⟨q225,K225_ok⟩,⟨q229,K229_ok⟩,⟨q231,K231_ok⟩,⟨q232,K232_ok⟩,⟨q233,K233_ok⟩,⟨q228,K228_ok⟩,trivial⟩ h210 (v:=.one .tt) (xs:=[.one (.row (.pair (.int .i64) (.pair (.int .i32) (.int .i32))) l)]) rfl rfl rfl (fun f id T L=>match f,id with
      | 210,3044=>some (.rnd 1)
      | 210,3049=>some (.rnd 1)
      | _,_=>none) 900 (VC.use (p:=
    (((!true)=true →
      (false=true)) ∧
    (¬(!true) = true →
     ((2000 < (↑l.length:Int) →
       True) ∧
     (¬2000 < (↑l.length : Int) →
      ((l.length≤1099511627776) ∧
      ((l.length≤68719476736) ∧
      ((l.length≤1099511627776) ∧
      ((l.length≤68719476736) ∧
      (((blksV l).length≤1099511627776) ∧
      ((decide (blksV l=blksV l)=true →
        ((chkE l=chkE l) ∧
        ((longsV l=longsV l) ∧
        (decide (chkE l=chkE l)=true)))) ∧
      (¬decide (blksV l = blksV l) = true →
       (false=true))))))))))))) (by kernel_rfl) (by
    have hb:=blksV_len l
    exact ⟨fun h=>by simp at h,fun _=>⟨fun _=>trivial,fun h1=>⟨by omega,by omega,by omega,by omega,by omega,fun _=>⟨rfl,rfl,decide_eq_true rfl⟩,fun h=>absurd (decide_eq_true rfl) h⟩⟩⟩))
end Go.EA
