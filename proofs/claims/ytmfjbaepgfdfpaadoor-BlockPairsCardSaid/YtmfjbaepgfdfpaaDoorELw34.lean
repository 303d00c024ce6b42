/- Layer 5: the reference's blocks; laws. Conditions: none. (Printed by a program of this project's own.) -/
import Derived.Test.YtmfjbaepgfdfpaaDoorERw
import Derived.Test.YtmfjbaepgfdfpaaDoorELw31
import Derived.Test.YtmfjbaepgfdfpaaDoorETc
import Derived.Test.YtmfjbaepgfdfpaaDoorERf
import Derived.Test.YtmfjbaepgfdfpaaDoorELw14
import Derived.KernelRfl
set_option linter.unusedVariables false
set_option linter.unusedSimpArgs false
set_option maxRecDepth 100000
set_option maxHeartbeats 0
namespace Go.EA
open F
theorem getD_run {rs:List (List Stp)} {i:Nat} (hi:i < rs.length):rs.getD i []∈rs∧rs.drop i=rs.getD i []::rs.drop (i+1):=by
  rw [List.getD_eq_getElem?_getD,List.getElem?_eq_getElem hi]
  exact ⟨List.getElem_mem hi,List.drop_eq_getElem_cons hi⟩
theorem step_blk {rs:List (List Stp)} {i:Nat} {o b q:List Blk} (hi:i < rs.length) (h:o++((rs.drop i).map blkOf).flatten=q) (hb:blkOf (rs.getD i [])=b):(o++b)++((rs.drop (i+1)).map blkOf).flatten=q:=by
  rw [(getD_run hi).2,List.map_cons,List.flatten_cons,hb,← List.append_assoc] at h
  exact h
theorem run_ok {l r:List Stp} (hok:l.all okS=true) (hr:r∈runs' l):r.all okS=true∧r.length≤l.length:=by
  obtain ⟨a,b,p,q,e⟩:=(runs_spec l.length l (Nat.le_refl _)).2 r hr
  refine ⟨?_,by rw [e];simp;omega⟩
  rw [e,List.all_append,List.all_append] at hok
  simp only [Bool.and_eq_true] at hok
  exact hok.2.1
theorem run_long {r:List Stp} (hr:r.all okS=true):longV r=decide (3 < max (decR (readA r)).length (decR (readB r)).length):=by
  obtain ⟨h1,h2,_,_,h5,_⟩:=read_row hr
  rw [h5,h1,h2]
theorem blk_no {r:List Stp} (h:longV r=true∨readA r=readB r):blkOf r=[]:=by
  unfold blkOf
  rw [if_neg]
  rcases h with h | h <;> simp [h]
theorem blk_yes {r:List Stp} (h:longV r=false) (h1:¬ readA r=readB r):blkOf r=[(readA r,readB r,1)]:=by
  unfold blkOf
  rw [if_pos]
  simp [h,h1]
theorem runs_le (l:List Stp):(runs' l).length≤l.length:=runsN_len _ _
theorem out_le {l:List Stp} {o q:List Blk} (h:o++q=((runs' l).map blkOf).flatten):o.length≤l.length:=blks_room h
theorem blksV_len (l:List Stp):(blksV l).length≤l.length:=by
  unfold blksV
  split
  · have:=blks_len (runs' l);have:=runs_le l;omega
  · simp
theorem stepsV_le (s t:List UInt8):(stepsV s t).length≤128:=by
  unfold stepsV
  split
  · have h:=walkL_len (tokR s).reverse (tokR t).reverse
    have h1:=tok64 (s:=s)
    have h2:=tok64 (s:=t)
    simp only [List.length_reverse] at h ⊢
    omega
  · simp
theorem pairV_le (s t:List UInt8):(pairV s t).length≤128:=by
  unfold pairV
  split
  · exact Nat.le_trans (blksV_len _) (stepsV_le s t)
  · simp
theorem twoE_ok {s t:List UInt8} (h:twoE s t=0):tokE s=0∧tokE t=0:=by
  unfold twoE at h
  split at h
  · rename_i h1;exact absurd h h1
  · rename_i h1;exact ⟨Decidable.not_not.1 h1,h⟩
def P231:(List (Int×Int×Int))→List SV:=fun l=>[.one (.row (.pair (.int .i64) (.pair (.int .i32) (.int .i32))) l)]
def R231:(List (Int×Int×Int))→SV×List Prop:=fun l=>(.tup [.o (.row BlkT (blksV l)),.o (.int .i64 (chkE l))],[l.length≤68719476736])
def K231:Con:=⟨false,[some (.pair (.int .i64) (.pair (.int .i32) (.int .i32)))],fun xs=>match xs with | [.one (.row (.pair (.int .i64) (.pair (.int .i32) (.int .i32))) l)]=>some (R231 l) | _=>none⟩
noncomputable def G231:GP:=conG P231 R231
theorem P231_inj:∀ a b,(P231 a).map den0=(P231 b).map den0→a=b:=by
  rintro a0 b0 h
  simp only [P231,List.map_cons,List.map_nil,den0,den0L,List.cons.injEq,AV.one.injEq,AV.agg.injEq,Lf.int.injEq,Lf.str.injEq,Lf.bool.injEq,Lf.vrow.injEq,and_true,true_and] at h
  exact row_inj h
theorem K231_ok:ConG G231 K231:=conG_of P231_inj (fun _ _=>rfl) (fun _=>rfl) fun xs r h=>by
  simp only [K231] at h
  split at h
  · cases h;rename_i l;exact ⟨l,rfl,rfl⟩
  · cases h
theorem pr231 {S:SC} (hB:SB S) (q223:PrOk S 223 (pureP G223)) (q253:PrOk S 253 (pureP G253)) (q221:PrOk S 221 (pureP G221)) (q19:PrOk S 19 (pureP G19)) (h254:S.has 254 f254) (h231:S.has 231 f231):PrOk S 231 (pureP G231):=by
  refine prM hB [(254,f254)] [⟨223,G223,K223⟩,⟨253,G253,K253⟩,⟨221,G221,K221⟩,⟨19,G19,K19⟩] ⟨h254,trivial⟩ ⟨⟨q223,K223_ok⟩,⟨q253,K253_ok⟩,⟨q221,K221_ok⟩,⟨q19,K19_ok⟩,trivial⟩ h231 (fun _=>⟨rfl,rfl,rfl⟩) (fun l=>fun f id T L=>match f,id with
      | 231,0=>some (.inv { x:Nat×List Blk // x.1≤(runs' l).length∧x.2++(((runs' l).drop x.1).map blkOf).flatten=((runs' l).map blkOf).flatten } (fun x=>([(19,.one (.int .i64 x.1.1)),(5,.one (.osl 0))],[(0,.row BlkT x.1.2)])) (fun x=>(runs' l).length - x.1.1))
      | _,_=>none) 1500 ?_
  rintro l hc
  have hc1:l.length≤68719476736:=hc.1
  refine VC.use (p:=
    ((l.length≤1099511627776) ∧
    ((chkE l=0 →
      ((l.length≤1099511627776) ∧
      ((∃ x1:{ x:Nat×List Blk // x.fst≤(runs' l).length∧x.snd++(List.map blkOf (List.drop x.fst (runs' l))).flatten=(List.map blkOf (runs' l)).flatten },
        ((x1.val.snd=[]) ∧
        ((runs' l=runs' l) ∧
        (((↑(runs' l).length:Int)=(↑(runs' l).length:Int)) ∧
        ((0=(↑x1.val.fst:Int)) ∧
        (x1.val.snd=[])))))) ∧
      (∀ x1 : { x : Nat × List Blk // x.fst ≤ (runs' l).length ∧ x.snd ++ (List.map blkOf (List.drop x.fst (runs' l))).flatten = (List.map blkOf (runs' l)).flatten },
       (((↑x1.val.fst:Int) < (↑(runs' l).length:Int) →
         ((0≤(↑x1.val.fst:Int)∧(↑x1.val.fst:Int) < (↑(runs' l).length:Int)) ∧
         ((List.length ((runs' l).getD x1.val.fst [])≤1099511627776) ∧
         (((readA ((runs' l).getD x1.val.fst [])).length≤1099511627776) ∧
         (((↑(decR (readA ((runs' l).getD x1.val.fst []))).length:Int)≤3 →
           (((readB ((runs' l).getD x1.val.fst [])).length≤1099511627776) ∧
           (((↑(decR (readB ((runs' l).getD x1.val.fst []))).length:Int)≤3 →
             ((readA ((runs' l).getD x1.val.fst [])=readB ((runs' l).getD x1.val.fst []) →
               ((i64R ((↑x1.val.fst:Int)+1)) ∧
               (∃ x2 : { x : Nat × List Blk // x.fst ≤ (runs' l).length ∧ x.snd ++ (List.map blkOf (List.drop x.fst (runs' l))).flatten = (List.map blkOf (runs' l)).flatten },
                (((runs' l).length - x2.val.fst < (runs' l).length - x1.val.fst) ∧
                ((runs' l=runs' l) ∧
                (((↑(runs' l).length:Int)=(↑(runs' l).length:Int)) ∧
                (((↑x1.val.fst:Int)+1=(↑x2.val.fst:Int)) ∧
                (x1.val.snd=x2.val.snd)))))))) ∧
             (¬readA ((runs' l).getD x1.val.fst []) = readB ((runs' l).getD x1.val.fst []) →
              (((x1.val.snd.length+[(readA ((runs' l).getD x1.val.fst []),readB ((runs' l).getD x1.val.fst []),1)].length)*40≤140737488355328) ∧
              ((i64R ((↑x1.val.fst:Int)+1)) ∧
              (∃ x2 : { x : Nat × List Blk // x.fst ≤ (runs' l).length ∧ x.snd ++ (List.map blkOf (List.drop x.fst (runs' l))).flatten = (List.map blkOf (runs' l)).flatten },
               (((runs' l).length - x2.val.fst < (runs' l).length - x1.val.fst) ∧
               ((runs' l=runs' l) ∧
               (((↑(runs' l).length:Int)=(↑(runs' l).length:Int)) ∧
               (((↑x1.val.fst:Int)+1=(↑x2.val.fst:Int)) ∧
               (x1.val.snd++[(readA ((runs' l).getD x1.val.fst []),readB ((runs' l).getD x1.val.fst []),1)]=x2.val.snd))))))))))) ∧
           (¬(↑(decR (readB ((runs' l).getD x1.val.fst []))).length : Int) ≤ 3 →
            ((i64R ((↑x1.val.fst:Int)+1)) ∧
            (∃ x2 : { x : Nat × List Blk // x.fst ≤ (runs' l).length ∧ x.snd ++ (List.map blkOf (List.drop x.fst (runs' l))).flatten = (List.map blkOf (runs' l)).flatten },
             (((runs' l).length - x2.val.fst < (runs' l).length - x1.val.fst) ∧
             ((runs' l=runs' l) ∧
             (((↑(runs' l).length:Int)=(↑(runs' l).length:Int)) ∧
             (((↑x1.val.fst:Int)+1=(↑x2.val.fst:Int)) ∧
             (x1.val.snd=x2.val.snd))))))))))) ∧
         (¬(↑(decR (readA ((runs' l).getD x1.val.fst []))).length : Int) ≤ 3 →
          ((i64R ((↑x1.val.fst:Int)+1)) ∧
          (∃ x2 : { x : Nat × List Blk // x.fst ≤ (runs' l).length ∧ x.snd ++ (List.map blkOf (List.drop x.fst (runs' l))).flatten = (List.map blkOf (runs' l)).flatten },
           (((runs' l).length - x2.val.fst < (runs' l).length - x1.val.fst) ∧
           ((runs' l=runs' l) ∧
           (((↑(runs' l).length:Int)=(↑(runs' l).length:Int)) ∧
           (((↑x1.val.fst:Int)+1=(↑x2.val.fst:Int)) ∧
           (x1.val.snd=x2.val.snd))))))))))))) ∧
       (¬(↑x1.val.fst : Int) < (↑(runs' l).length : Int) →
        ((x1.val.snd=blksV l) ∧
        (0=chkE l)))))))) ∧
    (¬chkE l = 0 →
     ((blksV l=[]) ∧
     (chkE l=chkE l)))))) (by kernel_rfl) ?_
  have hrl:=runs_le l
  refine ⟨by omega,fun h0=>⟨by omega,⟨⟨(0,[]),Nat.zero_le _,rfl⟩,rfl,rfl,rfl,rfl,rfl⟩,?_⟩,fun h0=>⟨blks_no h0,rfl⟩⟩
  rintro ⟨⟨i,o⟩,hi,ho⟩
  dsimp only at hi ho ⊢
  refine ⟨fun h=>?_,fun h=>⟨?_,(chk_ok (chk_all h0))⟩⟩
  · obtain ⟨hm,_⟩:=getD_run (rs:=runs' l) (i:=i) (by omega)
    obtain ⟨hok,hl⟩:=run_ok (chk_all h0) hm
    have hb:=blk_len (chk_all h0) hm
    have hlg:=run_long hok
    have hol:=out_le ho
    have st:=fun b hb=>step_blk (b:=b) (show i < (runs' l).length by omega) ho hb
    generalize (runs' l).getD i []=r at *
    refine ⟨by omega,by omega,by omega,fun h1=>⟨by omega,fun h2=>⟨fun h3=>?_,fun h3=>?_⟩,fun h2=>?_⟩,fun h1=>?_⟩
    · have W:=st [] (blk_no (.inr h3))
      rw [List.append_nil] at W
      exact ⟨by unfold i64R;omega,⟨(i+1,o),by dsimp only;omega,W⟩,by dsimp only;omega,rfl,rfl,by push_cast;rfl,rfl⟩
    · have W:=st [(readA r,readB r,1)] (blk_yes (by rw [hlg];exact decide_eq_false (by omega)) h3)
      exact ⟨by simp only [List.length_cons,List.length_nil];omega,by unfold i64R;omega,⟨(i+1,o++[(readA r,readB r,1)]),by dsimp only;omega,W⟩,by dsimp only;omega,rfl,rfl,by push_cast;rfl,rfl⟩
    · have W:=st [] (blk_no (.inl (by rw [hlg];exact decide_eq_true (by omega))))
      rw [List.append_nil] at W
      exact ⟨by unfold i64R;omega,⟨(i+1,o),by dsimp only;omega,W⟩,by dsimp only;omega,rfl,rfl,by push_cast;rfl,rfl⟩
    · have W:=st [] (blk_no (.inl (by rw [hlg];exact decide_eq_true (by omega))))
      rw [List.append_nil] at W
      exact ⟨by unfold i64R;omega,⟨(i+1,o),by dsimp only;omega,W⟩,by dsimp only;omega,rfl,rfl,by push_cast;rfl,rfl⟩
  · rw [List.drop_of_length_le (by omega)] at ho
    rw [blks_ok h0]
    simpa using ho
def P227:List UInt8×List UInt8→List SV:=fun (s,t)=>[.one (.str s),.one (.str t)]
def R227:List UInt8×List UInt8→SV×List Prop:=fun (s,t)=>(.tup [.o (.row BlkT (pairV s t)),.o (.int .i64 (twoE s t))],[s.length≤1099511627776,t.length≤1099511627776])
def K227:Con:=⟨false,[none,none],fun xs=>match xs with | [.one (.str s),.one (.str t)]=>some (R227 (s,t)) | _=>none⟩
noncomputable def G227:GP:=conG P227 R227
theorem P227_inj:∀ a b,(P227 a).map den0=(P227 b).map den0→a=b:=by
  rintro ⟨a0,a1⟩ ⟨b0,b1⟩ h
  simp only [P227,List.map_cons,List.map_nil,den0,den0L,List.cons.injEq,AV.one.injEq,AV.agg.injEq,Lf.int.injEq,Lf.str.injEq,Lf.bool.injEq,Lf.vrow.injEq,and_true,true_and,and_assoc] at h
  obtain ⟨h0,h1⟩:=h
  subst h0 h1
  rfl
theorem K227_ok:ConG G227 K227:=conG_of P227_inj (fun ⟨_,_⟩ ⟨_,_⟩=>rfl) (fun ⟨_,_⟩=>rfl) fun xs r h=>by
  simp only [K227] at h
  split at h
  · cases h;rename_i s t;exact ⟨(s,t),rfl,rfl⟩
  · cases h
theorem pr227 {S:SC} (hB:SB S) (q215:PrOk S 215 (pureP G215)) (q231:PrOk S 231 (pureP G231)) (h227:S.has 227 f227):PrOk S 227 (pureP G227):=by
  refine prM hB [] [⟨215,G215,K215⟩,⟨231,G231,K231⟩] trivial ⟨⟨q215,K215_ok⟩,⟨q231,K231_ok⟩,trivial⟩ h227 (fun ⟨s,t⟩=>⟨rfl,rfl,rfl⟩) (fun (s,t)=>fun _ _ _ _=>none) 600 ?_
  rintro ⟨s,t⟩ hc
  have hc1:s.length≤1099511627776:=hc.1
  have hc2:t.length≤1099511627776:=hc.2.1
  refine VC.use (p:=
    ((s.length≤1099511627776) ∧
    ((t.length≤1099511627776) ∧
    ((twoE s t=0 →
      (((stepsV s t).length≤68719476736) ∧
      ((blksV (stepsV s t)=pairV s t) ∧
      (chkE (stepsV s t)=twoE s t)))) ∧
    (¬twoE s t = 0 →
     ((pairV s t=[]) ∧
     (twoE s t=twoE s t))))))) (by kernel_rfl) ?_
  have hs:=stepsV_le s t
  refine ⟨hc1,hc2,fun h=>⟨by omega,by unfold pairV;rw [if_pos h],?_⟩,fun h=>⟨by unfold pairV;rw [if_neg h],rfl⟩⟩
  rw [h]
  exact (steps_ok (twoE_ok h).1 (twoE_ok h).2).1
theorem w206 {S:SC} (hB:SB S) (q225:PrOk S 225 (pureP G225)) (q226:PrOk S 226 (pureP G226)) (q227:PrOk S 227 (pureP G227)) (q228:PrOk S 228 (pureP G228)) (h206:S.has 206 f206) (s:List UInt8) (t:List UInt8):MF S 206 [] [den0 (.one (.str s)),den0 (.one (.str t))] (hl []) fun v _=>v=.one (.bool true):=
  mfM hB [] [⟨225,G225,K225⟩,⟨226,G226,K226⟩,⟨227,G227,K227⟩,⟨228,G228,K228⟩] trivial ⟨⟨q225,K225_ok⟩,⟨q226,K226_ok⟩,⟨q227,K227_ok⟩,⟨q228,K228_ok⟩,trivial⟩ h206 (v:=.one .tt) (xs:=[.one (.str s),.one (.str t)]) rfl rfl rfl (fun _ _ _ _=>none) 900 (VC.use (p:=
    (((!true)=true →
      (false=true)) ∧
    (¬(!true) = true →
     ((1000 < (↑s.length:Int) →
       True) ∧
     (¬1000 < (↑s.length : Int) →
      ((1000 < (↑t.length:Int) →
        True) ∧
      (¬1000 < (↑t.length : Int) →
       ((s.length≤1099511627776) ∧
       ((t.length≤1099511627776) ∧
       ((s.length≤1099511627776) ∧
       ((t.length≤1099511627776) ∧
       (((pairV s t).length≤1099511627776) ∧
       ((decide (pairV s t=pairV s t)=true →
         (decide (twoE s t=twoE s t)=true)) ∧
       (¬decide (pairV s t = pairV s t) = true →
        (false=true))))))))))))))) (by kernel_rfl) (by
    have hb:=pairV_le s t
    exact ⟨fun h=>by simp at h,fun _=>⟨fun _=>trivial,fun h1=>⟨fun _=>trivial,fun h2=>⟨by omega,by omega,by omega,by omega,by omega,fun _=>decide_eq_true rfl,fun h=>absurd (decide_eq_true rfl) h⟩⟩⟩⟩))
end Go.EA
