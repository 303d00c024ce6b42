/- The blocks of a shortest way: plain laws. Conditions: none. -/
import Derived.Test.YtmfjbaepgfdfpaaDoorEBk
import Derived.Test.YtmfjbaepgfdfpaaDoorELw30
set_option linter.unusedVariables false
set_option linter.unusedSimpArgs false
namespace Go.EA
def sumA (l:List Blk):Int:=(l.map fun b=>((decR b.1).length:Int)).sum
def sumB (l:List Blk):Int:=(l.map fun b=>((decR b.2.1).length:Int)).sum
def lenS (rs:List (List Stp)):Nat:=(rs.map List.length).sum
theorem costL_app (a b:List Stp):costL (a++b)=costL a+costL b:=by
  unfold costL
  rw [List.filter_append,List.length_append];push_cast;rfl
theorem rdA_app (a b:List Stp):rdA (a++b)=rdA a++rdA b:=by unfold rdA;rw [List.filter_append,List.map_append]
theorem rdB_app (a b:List Stp):rdB (a++b)=rdB a++rdB b:=by unfold rdB;rw [List.filter_append,List.map_append]
theorem costL_nz {r:List Stp} (h:r.all nz=true):costL r=r.length:=by
  show (((r.filter nz).length:Nat):Int)=_
  rw [List.filter_eq_self.2 (fun a ha=>List.all_eq_true.1 h a ha)]
theorem takeWhile_all (p:Stp→Bool):∀ (l:List Stp),(l.takeWhile p).all p=true
  | []=>rfl
  | x::l=>by
    rw [List.takeWhile_cons]
    split
    · rename_i h;rw [List.all_cons,h,takeWhile_all p l];rfl
    · rfl
theorem runs_spec:∀ (n:Nat) (l:List Stp),l.length≤n→(lenS (runsN n l):Int)=costL l∧∀ r∈runsN n l,r≠[]∧r.all nz=true∧∃ p q,l=p++(r++q)
  | 0,l,h=>by
    obtain rfl:l=[]:=List.eq_nil_of_length_eq_zero (by omega)
    exact ⟨rfl,fun r hr=>by simp [runsN] at hr⟩
  | n+1,[],h=>⟨rfl,fun r hr=>by simp [runsN] at hr⟩
  | n+1,s::l,h=>by
    simp only [List.length_cons] at h
    simp only [runsN]
    split
    · rename_i hs
      have hd:=(List.dropWhile_sublist nz (l:=l)).length_le
      obtain ⟨h1,h2⟩:=runs_spec n (l.dropWhile nz) (by omega)
      have e:l=l.takeWhile nz++l.dropWhile nz:=(List.takeWhile_append_dropWhile (p:=nz) (l:=l)).symm
      have hall:(s::l.takeWhile nz).all nz=true:=by rw [List.all_cons,hs,takeWhile_all];rfl
      constructor
      · have:costL (s::l)=costL (s::l.takeWhile nz)+costL (l.dropWhile nz):=by
          rw [← costL_app]
          congr 1
          rw [List.cons_append,← e]
        rw [this,costL_nz hall,← h1]
        simp only [lenS,List.map_cons,List.sum_cons]
        push_cast;rfl
      · intro r hr
        rcases List.mem_cons.1 hr with rfl | hr
        · exact ⟨by simp,hall,[],l.dropWhile nz,by rw [List.nil_append,List.cons_append,← e]⟩
        · obtain ⟨a,b,p,q,hpq⟩:=h2 r hr
          exact ⟨a,b,s::l.takeWhile nz++p,q,by rw [List.append_assoc,← hpq,List.cons_append,← e]⟩
    · rename_i hs
      obtain ⟨h1,h2⟩:=runs_spec n l (by omega)
      constructor
      · rw [h1,costL_cons,if_pos (by simpa [nz] using hs),Int.add_zero]
      · intro r hr
        obtain ⟨a,b,p,q,hpq⟩:=h2 r hr
        exact ⟨a,b,s::p,q,by rw [List.cons_append,← hpq]⟩
def GoodR (r:List Stp):Prop:=r≠[]∧r.all nz=true∧r.all okS=true∧rdA r≠rdB r
theorem match_ok (l:List Int) (hv:l.all Utf8.valid=true):(l.map fun x=>((0,x,x):Stp)).all okS=true:=by
  rw [List.all_map,List.all_eq_true]
  intro x hx
  have:=List.all_eq_true.1 hv x hx
  simp [okS,this]
theorem match_rd:∀ (l:List Int),rdA (l.map fun x=>((0,x,x):Stp))=l∧rdB (l.map fun x=>((0,x,x):Stp))=l∧costL (l.map fun x=>((0,x,x):Stp))=0
  | []=>⟨rfl,rfl,rfl⟩
  | x::l=>by
    obtain ⟨h1,h2,h3⟩:=match_rd l
    rw [List.map_cons,rdA_cons,rdB_cons,costL_cons,h1,h2,h3,if_neg (by dsimp only;decide),if_neg (by dsimp only;decide),if_pos rfl]
    exact ⟨rfl,rfl,rfl⟩
theorem good_runs {l:List Stp} (hok:l.all okS=true) (hopt:costL l=lev (rdA l).reverse (rdB l).reverse):∀ r∈runs' l,GoodR r:=by
  intro r hr
  obtain ⟨a,b,p,q,e⟩:=(runs_spec l.length l (Nat.le_refl _)).2 r hr
  have hr':r.all okS=true∧p.all okS=true∧q.all okS=true:=by
    rw [e,List.all_append,List.all_append] at hok
    simp only [Bool.and_eq_true] at hok
    exact ⟨hok.2.1,hok.1,hok.2.2⟩
  refine ⟨a,b,hr'.1,fun heq=>?_⟩
  obtain ⟨m1,m2,m3⟩:=match_rd (rdA r)
  have h2:(p++((rdA r).map (fun x=>((0,x,x):Stp))++q)).all okS=true:=by
    rw [List.all_append,List.all_append,hr'.2.1,hr'.2.2,match_ok _ (rdA_valid hr'.1)];rfl
  have h3:=cost_least h2
  have eA:rdA (p++((rdA r).map (fun x=>((0,x,x):Stp))++q))=rdA l:=by rw [e,rdA_app,rdA_app,rdA_app,rdA_app,m1]
  have eB:rdB (p++((rdA r).map (fun x=>((0,x,x):Stp))++q))=rdB l:=by rw [e,rdB_app,rdB_app,rdB_app,rdB_app,m2,heq]
  rw [eA,eB,← hopt,costL_app,costL_app,m3] at h3
  have h4:costL l=costL p+(costL r+costL q):=by
    conv=>lhs;rw [e]
    rw [costL_app,costL_app]
  have h5:=costL_nz b
  have h6:0 < r.length:=List.length_pos_iff.2 a
  omega
theorem read_row {r:List Stp} (h:r.all okS=true):decR (readA r)=rdA r∧decR (readB r)=rdB r∧decOk (readA r)=true∧decOk (readB r)=true∧longV r=decide (3 < max (rdA r).length (rdB r).length)∧(readA r=readB r↔rdA r=rdB r):=by
  have ha:=dec_encL (rdA_valid h)
  have hb:=dec_encL (rdB_valid h)
  rw [← readA_ok h] at ha
  rw [← readB_ok h] at hb
  refine ⟨ha.1,hb.1,ha.2.2,hb.2.2,?_,fun e=>?_,fun e=>?_⟩
  · unfold longV bigV
    rw [(runes_dec ha.2.1).2,(runes_dec hb.2.1).2,ha.1,hb.1]
  · rw [← ha.1,← hb.1,e]
  · rw [readA_ok h,readB_ok h,e]
theorem blkOf_good {r:List Stp} (h:GoodR r):blkOf r=if longV r=true then [] else [(readA r,readB r,1)]:=by
  obtain ⟨_,_,h3,h4⟩:=h
  have:=(read_row h3).2.2.2.2.2
  unfold blkOf
  cases hl:longV r
  · rw [if_pos (by simp [this,h4])];rfl
  · rfl
section
variable {rs:List (List Stp)}
end
section
variable {s t:List UInt8}
theorem pair_ok (h:tokE s=0) (h1:tokE t=0):pairV s t=((runs' (stepsV s t)).map blkOf).flatten∧longsV (stepsV s t)=((runs' (stepsV s t)).filter longV).length∧(∀ r∈runs' (stepsV s t),GoodR r)∧(lenS (runs' (stepsV s t)):Int)=costL (stepsV s t):=by
  obtain ⟨o1,o2,o3⟩:=steps_ok h h1
  have hall:=chk_all o1
  obtain ⟨g1,g2⟩:=walk_all (tokR s).reverse (tokR t).reverse
  obtain ⟨r1,r2⟩:=g1.rd
  have hopt:costL (stepsV s t)=lev (rdA (stepsV s t)).reverse (rdB (stepsV s t)).reverse:=by
    rw [stepsV_ok h h1,rdA_rev,rdB_rev,r1,r2,costL_rev,g2,List.reverse_reverse,List.reverse_reverse]
  refine ⟨?_,?_,good_runs hall hopt,(runs_spec _ _ (Nat.le_refl _)).1⟩
  · unfold pairV
    rw [if_pos (two_ok h h1).1,blks_ok o1]
  · unfold longsV
    rw [if_pos o1]
end
theorem blk_len {l:List Stp} (hok:l.all okS=true) {r:List Stp} (hr:r∈runs' l):(readA r).length≤4*l.length∧(readB r).length≤4*l.length:=by
  obtain ⟨a,b,p,q,e⟩:=(runs_spec l.length l (Nat.le_refl _)).2 r hr
  have hr':r.all okS=true:=by
    rw [e,List.all_append,List.all_append] at hok
    simp only [Bool.and_eq_true] at hok
    exact hok.2.1
  have h1:=read_len (l:=r) (chk_ok hr').symm
  have h2:r.length≤l.length:=by rw [e];simp;omega
  omega
theorem Ed.snoc {a b:List Int} {n:Nat} (h:Ed a b n) (c:Int):Ed (a++[c]) (b++[c]) n:=by
  induction h with
  | nil=>exact .keep c .nil
  | keep x h ih=>exact .keep x ih
  | sub x y h ih=>exact .sub x y ih
  | del x h ih=>exact .del x ih
  | ins y h ih=>exact .ins y ih
def mat (w:List Stp):Nat:=(w.filter fun s=>decide (s.1=0)).length
theorem mat_cons (s:Stp) (w:List Stp):mat (s::w)=mat w+if s.1=0 then 1 else 0:=by
  unfold mat
  rw [List.filter_cons]
  by_cases h:s.1=0
  · simp [h]
  · simp [h]
theorem mat_rev (w:List Stp):mat w.reverse=mat w:=by unfold mat;rw [List.filter_reverse,List.length_reverse]
theorem lone_mat (x y:List Int) (c d:Int):2≤mat (walkL (d::(x++[c])) (d::(y++[c]))):=by
  rw [kind_same,mat_cons,if_pos rfl]
  have h1:=walk_all (x++[c]) (y++[c])
  have h2:lev (x++[c]) (y++[c])≤max x.length y.length:=Nat.le_trans ((Ed.of_lev x y).snoc c).lev_le (lev_le x y)
  have h3:=costL_compl (walkL (x++[c]) (y++[c]))
  rw [h1.2] at h3
  have h4:=rdA_len (walkL (x++[c]) (y++[c]))
  have h5:=rdB_len (walkL (x++[c]) (y++[c]))
  rw [h1.1.rd.1] at h4
  rw [h1.1.rd.2] at h5
  simp only [List.length_append,List.length_cons,List.length_nil] at h4 h5
  show 2≤(List.filter _ _).length+1
  have h6:((walkL (x++[c]) (y++[c])).filter fun s=>decide (s.1=0)).length=mat (walkL (x++[c]) (y++[c])):=rfl
  rw [h6] at h3
  show 2≤mat _+1
  omega
def lenA (rs:List (List Stp)):Nat:=(rs.map fun r=>(rdA r).length).sum
def lenB (rs:List (List Stp)):Nat:=(rs.map fun r=>(rdB r).length).sum
theorem rdA_takeDrop (l:List Stp):(rdA l).length=(rdA (l.takeWhile nz)).length+(rdA (l.dropWhile nz)).length:=by
  have e:l=l.takeWhile nz++l.dropWhile nz:=(List.takeWhile_append_dropWhile (p:=nz) (l:=l)).symm
  conv=>lhs;rw [e,rdA_app,List.length_append]
theorem rdB_takeDrop (l:List Stp):(rdB l).length=(rdB (l.takeWhile nz)).length+(rdB (l.dropWhile nz)).length:=by
  have e:l=l.takeWhile nz++l.dropWhile nz:=(List.takeWhile_append_dropWhile (p:=nz) (l:=l)).symm
  conv=>lhs;rw [e,rdB_app,List.length_append]
theorem mat_takeDrop (l:List Stp):mat l=mat (l.dropWhile nz):=by
  have e:l=l.takeWhile nz++l.dropWhile nz:=(List.takeWhile_append_dropWhile (p:=nz) (l:=l)).symm
  conv=>lhs;rw [e]
  unfold mat
  rw [List.filter_append,List.length_append,List.filter_eq_nil_iff.2 (fun a ha=>by
    have:=List.all_eq_true.1 (takeWhile_all nz l) a ha
    simpa [nz] using this)]
  simp
theorem runs_ab:∀ (n:Nat) (l:List Stp),l.length≤n→lenA (runsN n l)+mat l=(rdA l).length∧lenB (runsN n l)+mat l=(rdB l).length
  | 0,l,h=>by
    obtain rfl:l=[]:=List.eq_nil_of_length_eq_zero (by omega)
    exact ⟨rfl,rfl⟩
  | n+1,[],h=>⟨rfl,rfl⟩
  | n+1,s::l,h=>by
    simp only [List.length_cons] at h
    simp only [runsN]
    split
    · rename_i hs
      have hd:=(List.dropWhile_sublist nz (l:=l)).length_le
      obtain ⟨h1,h2⟩:=runs_ab n (l.dropWhile nz) (by omega)
      have h0:¬ s.1=0:=by simpa [nz] using hs
      rw [mat_cons,if_neg h0,mat_takeDrop]
      have ea:=rdA_takeDrop l
      have eb:=rdB_takeDrop l
      simp only [lenA,lenB,List.map_cons,List.sum_cons,rdA_cons,rdB_cons] at h1 h2 ⊢
      constructor
      · split <;> (try simp only [List.length_cons]) <;> omega
      · split <;> (try simp only [List.length_cons]) <;> omega
    · rename_i hs
      obtain ⟨h1,h2⟩:=runs_ab n l (by omega)
      have h0:s.1=0:=by simpa [nz] using hs
      rw [mat_cons,if_pos h0,rdA_cons,rdB_cons,if_neg (by omega),if_neg (by omega)]
      simp only [List.length_cons]
      omega
theorem lenA_mem {rs:List (List Stp)} {r:List Stp} (h:r∈rs):(rdA r).length≤lenA rs∧(rdB r).length≤lenB rs:=by
  induction rs with
  | nil=>simp at h
  | cons x rs ih=>
    simp only [lenA,lenB,List.map_cons,List.sum_cons] at ih ⊢
    rcases List.mem_cons.1 h with rfl | h
    · omega
    · have:=ih h;omega
theorem sumA_eq:∀ {rs:List (List Stp)},(∀ r∈rs,GoodR r)→(∀ r∈rs,longV r=false)→sumA ((rs.map blkOf).flatten)=lenA rs∧sumB ((rs.map blkOf).flatten)=lenB rs∧((rs.map blkOf).flatten).length=rs.length
  | [],_,_=>⟨rfl,rfl,rfl⟩
  | r::rs,h,hl=>by
    obtain ⟨i1,i2,i3⟩:=sumA_eq (rs:=rs) (fun r hr=>h r (by simp [hr])) (fun r hr=>hl r (by simp [hr]))
    have hr:=h r (by simp)
    obtain ⟨r1,r2,_⟩:=read_row hr.2.2.1
    rw [List.map_cons,List.flatten_cons,blkOf_good hr,hl r (by simp),if_neg (by decide)]
    simp only [List.singleton_append]
    unfold sumA sumB at *
    simp only [List.map_cons,List.sum_cons,List.length_cons,r1,r2,i1,i2,i3]
    simp only [lenA,lenB,List.map_cons,List.sum_cons]
    push_cast
    exact ⟨rfl,rfl,trivial⟩
theorem lone {s t:List UInt8} {x y:List Int} {c d:Int} (h:tokE s=0) (h1:tokE t=0) (hs:tokR s=c::(x++[d])) (ht:tokR t=c::(y++[d])) (hx:x.length≤3) (hy:y.length≤3) (hne:s≠t) :
    (pairV s t).length≠0∧sumA (pairV s t)≤x.length∧sumB (pairV s t)≤y.length:=by
  obtain ⟨p1,p2,p3,p4⟩:=pair_ok h h1
  have hm:2≤mat (stepsV s t):=by
    rw [stepsV_ok h h1,mat_rev,hs,ht]
    have:(c::(x++[d])).reverse=d::(x.reverse++[c]):=by simp
    rw [this]
    have:(c::(y++[d])).reverse=d::(y.reverse++[c]):=by simp
    rw [this]
    exact lone_mat _ _ _ _
  obtain ⟨g1,_⟩:=walk_all (tokR s).reverse (tokR t).reverse
  obtain ⟨r1,r2⟩:=g1.rd
  have ra:(rdA (stepsV s t)).length=x.length+2:=by rw [stepsV_ok h h1,rdA_rev,r1,List.reverse_reverse,hs];simp
  have rb:(rdB (stepsV s t)).length=y.length+2:=by rw [stepsV_ok h h1,rdB_rev,r2,List.reverse_reverse,ht];simp
  obtain ⟨k1,k2⟩:=runs_ab _ (stepsV s t) (Nat.le_refl _)
  have k1:lenA (runs' (stepsV s t))+mat (stepsV s t)=_:=k1
  have k2:lenB (runs' (stepsV s t))+mat (stepsV s t)=_:=k2
  have hl:∀ r∈runs' (stepsV s t),longV r=false:=fun r hr=>by
    have:=lenA_mem hr
    rw [(read_row (p3 r hr).2.2.1).2.2.2.2.1]
    exact decide_eq_false (by omega)
  obtain ⟨e1,e2,e3⟩:=sumA_eq p3 hl
  rw [p1,e1,e2,e3]
  refine ⟨fun h0=>?_,by omega,by omega⟩
  have h6:=List.eq_nil_of_length_eq_zero h0
  rw [h6] at p4
  have hc:costL (stepsV s t)=0:=by rw [← p4];rfl
  rw [(steps_cost h h1).1] at hc
  exact hne ((dist_zero h h1).1 hc)
end Go.EA
