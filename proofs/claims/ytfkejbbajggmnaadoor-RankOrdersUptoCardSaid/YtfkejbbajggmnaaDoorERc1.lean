/- Layer 15: candidates that may be, in order, the first ones. Conditions: none. (Printed by a program of this project's own.) -/
import Derived.Test.YtfkejbbajggmnaaDoorERk1
import Derived.Test.YtfkejbbajggmnaaDoorEAf15
import Derived.Test.YtfkejbbajggmnaaDoorEK14
import Derived.Test.YtfkejbbajggmnaaDoorEK12
import Derived.Test.YtfkejbbajggmnaaDoorERu
import Derived.Test.YtfkejbbajggmnaaDoorEAf1
import Derived.Test.YtfkejbbajggmnaaDoorEK9
import Derived.Test.YtfkejbbajggmnaaDoorEOrder
import Derived.Test.YtfkejbbajggmnaaDoorENorm2
import Derived.Test.YtfkejbbajggmnaaDoorEMean3
import Derived.Test.YtfkejbbajggmnaaDoorERx
import Derived.Test.YtfkejbbajggmnaaDoorEMean1
import Derived.KernelRfl
import Derived.Test.YtfkejbbajggmnaaDoorESo1
set_option linter.unusedVariables false
set_option linter.unusedSimpArgs false
set_option maxRecDepth 100000
set_option maxHeartbeats 0
namespace Go.EA
open F
theorem same_cd (x y:Cd):sameS (List.take 3 (List.drop 0 ((Ty.pair .str (.pair (.int .i64) (.int .i64))).cells x))) (List.take 3 (List.drop 0 ((Ty.pair .str (.pair (.int .i64) (.int .i64))).cells y)))=decide (x=y):=by
  obtain ⟨a,b,c⟩:=x
  obtain ⟨a',b',c'⟩:=y
  rw [Bool.eq_iff_iff]
  simp [Ty.cells,sameS,SL.i?,SL.b?]
def lenC (l:List Cd):Int:=(l.map fun w=>(w.1.length:Int)).sum
theorem lenC_step {l:List Cd} {i:Nat} (h:i < l.length):lenC (l.take i)+((l.getD i ([],0,0)).1.length:Int)=lenC (l.take (i+1)):=by
  unfold lenC
  rw [List.take_add_one,List.getElem?_eq_getElem h,Option.toList_some,← getC_lt h,List.map_append,List.sum_append]
  simp
theorem lenC_le {l:List Cd} {n:Nat} (h:∀ x∈l,x.1.length≤n):0≤lenC l∧lenC l≤(l.length:Int)*(n:Int):=by
  unfold lenC
  induction l with
  | nil=>simp
  | cons x l ih=>
    obtain ⟨i1,i2⟩:=ih fun y hy=>h y (List.mem_cons_of_mem _ hy)
    have:=h x (List.mem_cons_self ..)
    simp only [List.map_cons,List.sum_cons,List.length_cons]
    rw [Int.natCast_add,Int.add_mul]
    omega
def sameC (a b:List Cd):Bool:=decide (a=b)
theorem same_allC {a b:List Cd} (hl:a.length=b.length) (h:∀ j,j < a.length→a.getD j ([],0,0)=b.getD j ([],0,0)):a=b:=by
  refine List.ext_getElem hl fun j h1 h2=>?_
  have:=h j h1
  rwa [getC_lt h1,getC_lt h2] at this
def P387:List UInt8×Int×Int→List SV:=fun (w0,w1,w2)=>[.agg [.str w0,.int .i64 w1,.int .i64 w2]]
def R387:List UInt8×Int×Int→SV×List Prop:=fun (w0,w1,w2)=>(.one (.int .i64 (cE (w0,w1,w2))),[w0.length≤1099511627776])
def K387:Con:=⟨true,[none],fun xs=>match xs with | [.agg [.str w0,.int .i64 w1,.int .i64 w2]]=>some (R387 (w0,w1,w2)) | _=>none⟩
noncomputable def G387:GP:=conG P387 R387
theorem P387_inj:∀ a b,(P387 a).map den0=(P387 b).map den0→a=b:=by
  rintro ⟨a0,a1,a2⟩ ⟨b0,b1,b2⟩ h
  simp only [P387,List.map_cons,List.map_nil,den0,den0L,List.cons.injEq,AV.one.injEq,AV.agg.injEq,Lf.int.injEq,Lf.str.injEq,Lf.bool.injEq,Lf.vrow.injEq,and_true,true_and,and_assoc] at h
  obtain ⟨h0,h1,h2⟩:=h
  subst h0 h1 h2
  rfl
theorem K387_ok:ConG G387 K387:=conG_of P387_inj (fun ⟨_,_,_⟩ ⟨_,_,_⟩=>rfl) (fun ⟨_,_,_⟩=>rfl) fun xs r h=>by
  simp only [K387] at h
  split at h
  · cases h;rename_i w0 w1 w2;exact ⟨(w0,w1,w2),rfl,rfl⟩
  · cases h
theorem pr387 {S:SC} (hB:SB S) (q20:PrOk S 20 (pureP G20)) (h387:S.has 387 f387):PrOk S 387 (pureP G387):=by
  refine prM hB [] [⟨20,G20,K20⟩] trivial ⟨⟨q20,K20_ok⟩,trivial⟩ h387 (fun ⟨w0,w1,w2⟩=>⟨rfl,rfl,rfl⟩) (fun (w0,w1,w2)=>fun _ _ _ _=>none) 400 ?_
  rintro ⟨w0,w1,w2⟩ hc
  have hc1:w0.length≤1099511627776:=hc.1
  refine VC.use (p:=
    ((w0.length≤1099511627776) ∧
    ((tokE w0=0 →
      ((w1 < 0 →
        (2=cE (w0,w1,w2))) ∧
      (¬w1 < 0 →
       ((4096 < w1 →
         (2=cE (w0,w1,w2))) ∧
       (¬4096 < w1 →
        ((w2 < 1 →
          (2=cE (w0,w1,w2))) ∧
        (¬w2 < 1 →
         ((1073741824 < w2 →
           (2=cE (w0,w1,w2))) ∧
         (¬1073741824 < w2 →
          (tokE w0=cE (w0,w1,w2))))))))))) ∧
    (¬tokE w0 = 0 →
     (tokE w0=cE (w0,w1,w2)))))) (by kernel_rfl) ?_
  refine ⟨hc1,?_⟩
  repeat' (first | intro h | apply And.intro)
  all_goals
    unfold cE
    dsimp only
    split <;> (try split) <;> omega
def P390:(List (List UInt8×Int×Int))→List SV:=fun l=>[.one (.row (.pair .str (.pair (.int .i64) (.int .i64))) l)]
def R390:(List (List UInt8×Int×Int))→SV×List Prop:=fun l=>(.one (.int .i64 (errC l)),[l.length≤1099511627776,SmC l])
def K390:Con:=⟨true,[some (.pair .str (.pair (.int .i64) (.int .i64)))],fun xs=>match xs with | [.one (.row (.pair .str (.pair (.int .i64) (.int .i64))) l)]=>some (R390 l) | _=>none⟩
noncomputable def G390:GP:=conG P390 R390
theorem P390_inj:∀ a b,(P390 a).map den0=(P390 b).map den0→a=b:=by
  rintro a0 b0 h
  simp only [P390,List.map_cons,List.map_nil,den0,den0L,List.cons.injEq,AV.one.injEq,AV.agg.injEq,Lf.int.injEq,Lf.str.injEq,Lf.bool.injEq,Lf.vrow.injEq,and_true,true_and] at h
  exact row_inj h
theorem K390_ok:ConG G390 K390:=conG_of P390_inj (fun _ _=>rfl) (fun _=>rfl) fun xs r h=>by
  simp only [K390] at h
  split at h
  · cases h;rename_i l;exact ⟨l,rfl,rfl⟩
  · cases h
theorem pr390 {S:SC} (hB:SB S) (q387:PrOk S 387 (pureP G387)) (h390:S.has 390 f390):PrOk S 390 (pureP G390):=by
  refine prM hB [] [⟨387,G387,K387⟩] trivial ⟨⟨q387,K387_ok⟩,trivial⟩ h390 (fun _=>⟨rfl,rfl,rfl⟩) (fun l=>fun f id T L=>match f,id with
      | 390,0=>some (.inv { i:Nat // i≤l.length∧∀ j,j < i→cE (l.getD j ([],0,0))=0 } (fun x=>([(8,.one (.int .i64 x.1))],[])) (fun x=>l.length - x.1))
      | _,_=>none) 400 ?_
  rintro l hc
  have hc1:l.length≤1099511627776:=hc.1
  have hc2:SmC l:=hc.2.1
  refine VC.use (p:=
    ((∃ x1:{ i:Nat // i≤l.length∧∀ (j:Nat),j < i→cE (l.getD j ([],0,0))=0 },
      ((l=l) ∧
      (((↑l.length:Int)=(↑l.length:Int)) ∧
      (0=(↑x1.val:Int))))) ∧
    (∀ x1 : { i : Nat // i ≤ l.length ∧ ∀ (j : Nat), j < i → cE (l.getD j ([], 0, 0)) = 0 },
     (((↑x1.val:Int) < (↑l.length:Int) →
       ((0≤(↑x1.val:Int)∧(↑x1.val:Int) < (↑l.length:Int)) ∧
       ((List.length (l.getD x1.val ([],0,0)).fst≤1099511627776) ∧
       ((cE ((l.getD x1.val ([],0,0)).fst,(l.getD x1.val ([],0,0)).snd.fst,(l.getD x1.val ([],0,0)).snd.snd)=0 →
         ((i64R ((↑x1.val:Int)+1)) ∧
         (∃ x2 : { i : Nat // i ≤ l.length ∧ ∀ (j : Nat), j < i → cE (l.getD j ([], 0, 0)) = 0 },
          ((l.length - x2.val < l.length - x1.val) ∧
          ((l=l) ∧
          (((↑l.length:Int)=(↑l.length:Int)) ∧
          ((↑x1.val:Int)+1=(↑x2.val:Int)))))))) ∧
       (¬cE ((l.getD x1.val ([], 0, 0)).fst, (l.getD x1.val ([], 0, 0)).snd.fst, (l.getD x1.val ([], 0, 0)).snd.snd) = 0 →
        (cE ((l.getD x1.val ([],0,0)).fst,(l.getD x1.val ([],0,0)).snd.fst,(l.getD x1.val ([],0,0)).snd.snd)=errC l)))))) ∧
     (¬(↑x1.val : Int) < (↑l.length : Int) →
      (0=errC l)))))) (by kernel_rfl) ?_
  refine ⟨⟨⟨0,Nat.zero_le _,fun j h=>absurd h (Nat.not_lt_zero _)⟩,rfl,rfl,rfl⟩,?_⟩
  rintro ⟨i,hi,ha⟩
  dsimp only
  exact ⟨fun h=>⟨by omega,hc2.at i,fun h1=>⟨by unfold i64R;omega,⟨i+1,by omega,step_all ha h1⟩,by show l.length - (i+1) < l.length - i;omega,rfl,rfl,rfl⟩,fun h1=>errC_hit (by omega) ha h1⟩,fun h=>errC_none fun j hj=>ha j (by omega)⟩
def P392:List UInt8×Int×Int×List UInt8×Int×Int→List SV:=fun (a0,a1,a2,b0,b1,b2)=>[.agg [.str a0,.int .i64 a1,.int .i64 a2],.agg [.str b0,.int .i64 b1,.int .i64 b2]]
def R392:List UInt8×Int×Int×List UInt8×Int×Int→SV×List Prop:=fun (a0,a1,a2,b0,b1,b2)=>(.one (.int .i64 (cfC (a0,a1,a2) (b0,b1,b2))),[])
def K392:Con:=⟨true,[none,none],fun xs=>match xs with | [.agg [.str a0,.int .i64 a1,.int .i64 a2],.agg [.str b0,.int .i64 b1,.int .i64 b2]]=>some (R392 (a0,a1,a2,b0,b1,b2)) | _=>none⟩
noncomputable def G392:GP:=conG P392 R392
theorem P392_inj:∀ a b,(P392 a).map den0=(P392 b).map den0→a=b:=by
  rintro ⟨a0,a1,a2,a3,a4,a5⟩ ⟨b0,b1,b2,b3,b4,b5⟩ h
  simp only [P392,List.map_cons,List.map_nil,den0,den0L,List.cons.injEq,AV.one.injEq,AV.agg.injEq,Lf.int.injEq,Lf.str.injEq,Lf.bool.injEq,Lf.vrow.injEq,and_true,true_and,and_assoc] at h
  obtain ⟨h0,h1,h2,h3,h4,h5⟩:=h
  subst h0 h1 h2 h3 h4 h5
  rfl
theorem K392_ok:ConG G392 K392:=conG_of P392_inj (fun ⟨_,_,_,_,_,_⟩ ⟨_,_,_,_,_,_⟩=>rfl) (fun ⟨_,_,_,_,_,_⟩=>rfl) fun xs r h=>by
  simp only [K392] at h
  split at h
  · cases h;rename_i a0 a1 a2 b0 b1 b2;exact ⟨(a0,a1,a2,b0,b1,b2),rfl,rfl⟩
  · cases h
theorem pr392 {S:SC} (hB:SB S) (q328:PrOk S 328 (pureP G328)) (q252:PrOk S 252 (pureP G252)) (q251:PrOk S 251 (pureP G251)) (h392:S.has 392 f392):PrOk S 392 (pureP G392):=by
  refine prM hB [] [⟨328,G328,K328⟩,⟨252,G252,K252⟩,⟨251,G251,K251⟩] trivial ⟨⟨q328,K328_ok⟩,⟨q252,K252_ok⟩,⟨q251,K251_ok⟩,trivial⟩ h392 (fun ⟨a0,a1,a2,b0,b1,b2⟩=>⟨rfl,rfl,rfl⟩) (fun (a0,a1,a2,b0,b1,b2)=>fun _ _ _ _=>none) 400 ?_
  rintro ⟨a0,a1,a2,b0,b1,b2⟩ hc
  refine VC.use (p:=
    (([cmpJ a1 b1,cmpJ b2 a2,cmpS a0 b0].length≤1099511627776) ∧
    (orV [cmpJ a1 b1,cmpJ b2 a2,cmpS a0 b0]=cfC (a0,a1,a2) (b0,b1,b2)))) (by kernel_rfl) ?_
  exact ⟨by simp only [List.length_cons,List.length_nil];omega,rfl⟩
def P381:List UInt8×Int×Int×List UInt8×Int×Int→List SV:=fun (a0,a1,a2,b0,b1,b2)=>[.agg [.str a0,.int .i64 a1,.int .i64 a2],.agg [.str b0,.int .i64 b1,.int .i64 b2]]
def R381:List UInt8×Int×Int×List UInt8×Int×Int→SV×List Prop:=fun (a0,a1,a2,b0,b1,b2)=>(.one (.bool (ltC (a0,a1,a2) (b0,b1,b2))),[])
def K381:Con:=⟨true,[none,none],fun xs=>match xs with | [.agg [.str a0,.int .i64 a1,.int .i64 a2],.agg [.str b0,.int .i64 b1,.int .i64 b2]]=>some (R381 (a0,a1,a2,b0,b1,b2)) | _=>none⟩
noncomputable def G381:GP:=conG P381 R381
theorem P381_inj:∀ a b,(P381 a).map den0=(P381 b).map den0→a=b:=by
  rintro ⟨a0,a1,a2,a3,a4,a5⟩ ⟨b0,b1,b2,b3,b4,b5⟩ h
  simp only [P381,List.map_cons,List.map_nil,den0,den0L,List.cons.injEq,AV.one.injEq,AV.agg.injEq,Lf.int.injEq,Lf.str.injEq,Lf.bool.injEq,Lf.vrow.injEq,and_true,true_and,and_assoc] at h
  obtain ⟨h0,h1,h2,h3,h4,h5⟩:=h
  subst h0 h1 h2 h3 h4 h5
  rfl
theorem K381_ok:ConG G381 K381:=conG_of P381_inj (fun ⟨_,_,_,_,_,_⟩ ⟨_,_,_,_,_,_⟩=>rfl) (fun ⟨_,_,_,_,_,_⟩=>rfl) fun xs r h=>by
  simp only [K381] at h
  split at h
  · cases h;rename_i a0 a1 a2 b0 b1 b2;exact ⟨(a0,a1,a2,b0,b1,b2),rfl,rfl⟩
  · cases h
theorem pr381 {S:SC} (hB:SB S) (q392:PrOk S 392 (pureP G392)) (h381:S.has 381 f381):PrOk S 381 (pureP G381):=by
  refine prM hB [] [⟨392,G392,K392⟩] trivial ⟨⟨q392,K392_ok⟩,trivial⟩ h381 (fun ⟨a0,a1,a2,b0,b1,b2⟩=>⟨rfl,rfl,rfl⟩) (fun (a0,a1,a2,b0,b1,b2)=>fun _ _ _ _=>none) 400 ?_
  rintro ⟨a0,a1,a2,b0,b1,b2⟩ hc
  refine VC.use (p:=
    (decide (cfC (a0,a1,a2) (b0,b1,b2) < 0)=ltC (a0,a1,a2) (b0,b1,b2))) (by kernel_rfl) ?_
  rfl
def P378:(List (List UInt8×Int×Int))→List SV:=fun l=>[.one (.row (.pair .str (.pair (.int .i64) (.int .i64))) l)]
def R378:(List (List UInt8×Int×Int))→SV×List Prop:=fun l=>(.one (.bool (decide (200 < l.length∨4000 < lenC l))),[l.length≤4194304,∀ x∈l,x.1.length≤1099511627776])
def K378:Con:=⟨true,[some (.pair .str (.pair (.int .i64) (.int .i64)))],fun xs=>match xs with | [.one (.row (.pair .str (.pair (.int .i64) (.int .i64))) l)]=>some (R378 l) | _=>none⟩
noncomputable def G378:GP:=conG P378 R378
theorem P378_inj:∀ a b,(P378 a).map den0=(P378 b).map den0→a=b:=by
  rintro a0 b0 h
  simp only [P378,List.map_cons,List.map_nil,den0,den0L,List.cons.injEq,AV.one.injEq,AV.agg.injEq,Lf.int.injEq,Lf.str.injEq,Lf.bool.injEq,Lf.vrow.injEq,and_true,true_and] at h
  exact row_inj h
theorem K378_ok:ConG G378 K378:=conG_of P378_inj (fun _ _=>rfl) (fun _=>rfl) fun xs r h=>by
  simp only [K378] at h
  split at h
  · cases h;rename_i l;exact ⟨l,rfl,rfl⟩
  · cases h
theorem pr378 {S:SC} (hB:SB S)  (h378:S.has 378 f378):PrOk S 378 (pureP G378):=by
  refine prM hB [] [] trivial trivial h378 (fun _=>⟨rfl,rfl,rfl⟩) (fun l=>fun f id T L=>match f,id with
      | 378,0=>some (.inv { i:Nat // i≤l.length } (fun x=>([(3,.one (.int .i64 (lenC (l.take x.1)))),(8,.one (.int .i64 x.1))],[])) (fun x=>l.length - x.1))
      | _,_=>none) 400 ?_
  rintro l hc
  have hc1:l.length≤4194304:=hc.1
  have hc2:∀ x∈l,x.1.length≤1099511627776:=hc.2.1
  refine VC.use (p:=
    ((∃ x1:{ i:Nat // i≤l.length },
      ((l=l) ∧
      ((0=lenC (List.take x1.val l)) ∧
      ((l=l) ∧
      (((↑l.length:Int)=(↑l.length:Int)) ∧
      (0=(↑x1.val:Int))))))) ∧
    (∀ x1 : { i : Nat // i ≤ l.length },
     (((↑x1.val:Int) < (↑l.length:Int) →
       ((0≤(↑x1.val:Int)∧(↑x1.val:Int) < (↑l.length:Int)) ∧
       ((i64R (lenC (List.take x1.val l)+(↑(List.length (l.getD x1.val ([],0,0)).fst):Int))) ∧
       ((i64R ((↑x1.val:Int)+1)) ∧
       (∃ x2 : { i : Nat // i ≤ l.length },
        ((l.length - x2.val < l.length - x1.val) ∧
        ((l=l) ∧
        ((lenC (List.take x1.val l)+(↑(List.length (l.getD x1.val ([],0,0)).fst):Int)=lenC (List.take x2.val l)) ∧
        ((l=l) ∧
        (((↑l.length:Int)=(↑l.length:Int)) ∧
        ((↑x1.val:Int)+1=(↑x2.val:Int)))))))))))) ∧
     (¬(↑x1.val : Int) < (↑l.length : Int) →
      ((200 < (↑l.length:Int) →
        (true=decide (200 < l.length∨4000 < lenC l))) ∧
      (¬200 < (↑l.length : Int) →
       (decide (4000 < lenC (List.take x1.val l))=decide (200 < l.length∨4000 < lenC l))))))))) (by kernel_rfl) ?_
  refine ⟨⟨⟨0,Nat.zero_le _⟩,rfl,rfl,rfl,rfl,rfl⟩,?_⟩
  rintro ⟨i,hi⟩
  dsimp only
  refine ⟨fun h=>⟨by omega,?_,by unfold i64R;omega,⟨i+1,by omega⟩,by show l.length - (i+1) < l.length - i;omega,rfl,lenC_step (by omega),rfl,rfl,rfl⟩,fun h=>⟨fun h1=>?_,fun h1=>?_⟩⟩
  · rw [lenC_step (by omega)]
    have h2:=lenC_le (l:=l.take (i+1)) fun x hx=>hc2 x (List.mem_of_mem_take hx)
    have h3:(((l.take (i+1)).length:Nat):Int)≤4194304:=by rw [List.length_take];omega
    have h4:((l.take (i+1)).length:Int)*((1099511627776:Nat):Int)≤4194304*1099511627776:=by
      rw [show ((1099511627776:Nat):Int)=1099511627776 from rfl];omega
    unfold i64R
    omega
  · rw [decide_eq_true (.inl (by omega))]
  · rw [List.take_of_length_le (by omega)]
    refine decide_eq_decide.2 ⟨.inr,fun h2=>h2.resolve_left (by omega)⟩
def P380:(List (List UInt8×Int×Int))×(List (List UInt8×Int×Int))→List SV:=fun (a,b)=>[.one (.row (.pair .str (.pair (.int .i64) (.int .i64))) a),.one (.row (.pair .str (.pair (.int .i64) (.int .i64))) b)]
def R380:(List (List UInt8×Int×Int))×(List (List UInt8×Int×Int))→SV×List Prop:=fun (a,b)=>(.one (.bool (sameC a b)),[a.length≤1099511627776,b.length≤1099511627776])
def K380:Con:=⟨true,[some (.pair .str (.pair (.int .i64) (.int .i64))),some (.pair .str (.pair (.int .i64) (.int .i64)))],fun xs=>match xs with | [.one (.row (.pair .str (.pair (.int .i64) (.int .i64))) a),.one (.row (.pair .str (.pair (.int .i64) (.int .i64))) b)]=>some (R380 (a,b)) | _=>none⟩
noncomputable def G380:GP:=conG P380 R380
theorem P380_inj:∀ a b,(P380 a).map den0=(P380 b).map den0→a=b:=by
  rintro ⟨a0,a1⟩ ⟨b0,b1⟩ h
  simp only [P380,List.map_cons,List.map_nil,den0,den0L,List.cons.injEq,AV.one.injEq,AV.agg.injEq,Lf.int.injEq,Lf.str.injEq,Lf.bool.injEq,Lf.vrow.injEq,and_true,true_and,and_assoc] at h
  obtain ⟨h0,h1⟩:=h
  have h0:=row_inj h0
  have h1:=row_inj h1
  subst h0 h1
  rfl
theorem K380_ok:ConG G380 K380:=conG_of P380_inj (fun ⟨_,_⟩ ⟨_,_⟩=>rfl) (fun ⟨_,_⟩=>rfl) fun xs r h=>by
  simp only [K380] at h
  split at h
  · cases h;rename_i a b;exact ⟨(a,b),rfl,rfl⟩
  · cases h
theorem pr380 {S:SC} (hB:SB S)  (h380:S.has 380 f380):PrOk S 380 (pureP G380):=by
  refine prM hB [] [] trivial trivial h380 (fun ⟨a,b⟩=>⟨rfl,rfl,rfl⟩) (fun (a,b)=>fun f id T L=>match f,id with
      | 380,0=>some (.inv { i:Nat // i≤a.length∧∀ j,j < i→a.getD j ([],0,0)=b.getD j ([],0,0) } (fun x=>([(13,.one (.int .i64 x.1))],[])) (fun x=>a.length - x.1))
      | _,_=>none) 400 ?_
  rintro ⟨a,b⟩ hc
  have hc1:a.length≤1099511627776:=hc.1
  have hc2:b.length≤1099511627776:=hc.2.1
  refine VC.use (p:=
    (((↑a.length:Int)=(↑b.length:Int) →
      ((∃ x1:{ i:Nat // i≤a.length∧∀ (j:Nat),j < i→a.getD j ([],0,0)=b.getD j ([],0,0) },
        ((a=a) ∧
        ((b=b) ∧
        (((↑a.length:Int)=(↑a.length:Int)) ∧
        (0=(↑x1.val:Int)))))) ∧
      (∀ x1 : { i : Nat // i ≤ a.length ∧ ∀ (j : Nat), j < i → a.getD j ([], 0, 0) = b.getD j ([], 0, 0) },
       (((↑x1.val:Int) < (↑a.length:Int) →
         ((0≤(↑x1.val:Int)∧(↑x1.val:Int) < (↑a.length:Int)) ∧
         ((0≤(↑x1.val:Int)∧(↑x1.val:Int) < (↑b.length:Int)) ∧
         (((!sameS (List.take 3 (List.drop 0 ((Ty.str.pair ((Ty.int IntKind.i64).pair (Ty.int IntKind.i64))).cells (a.getD x1.val ([],0,0))))) (List.take 3 (List.drop 0 ((Ty.str.pair ((Ty.int IntKind.i64).pair (Ty.int IntKind.i64))).cells (b.getD x1.val ([],0,0))))))=true →
           (false=sameC a b)) ∧
         (¬(!sameS (List.take 3 (List.drop 0 ((Ty.str.pair ((Ty.int IntKind.i64).pair (Ty.int IntKind.i64))).cells (a.getD x1.val ([], 0, 0))))) (List.take 3 (List.drop 0 ((Ty.str.pair ((Ty.int IntKind.i64).pair (Ty.int IntKind.i64))).cells (b.getD x1.val ([], 0, 0)))))) = true →
          ((i64R ((↑x1.val:Int)+1)) ∧
          (∃ x2 : { i : Nat // i ≤ a.length ∧ ∀ (j : Nat), j < i → a.getD j ([], 0, 0) = b.getD j ([], 0, 0) },
           ((a.length - x2.val < a.length - x1.val) ∧
           ((a=a) ∧
           ((b=b) ∧
           (((↑a.length:Int)=(↑a.length:Int)) ∧
           ((↑x1.val:Int)+1=(↑x2.val:Int))))))))))))) ∧
       (¬(↑x1.val : Int) < (↑a.length : Int) →
        (true=sameC a b)))))) ∧
    (¬(↑a.length : Int) = (↑b.length : Int) →
     (false=sameC a b)))) (by kernel_rfl) ?_
  simp only [same_cd]
  refine ⟨fun hl=>⟨⟨⟨0,Nat.zero_le _,fun j h=>absurd h (Nat.not_lt_zero _)⟩,by trivial,by trivial,by trivial,rfl⟩,?_⟩,fun hl=>?_⟩
  · rintro ⟨i,hi,ha⟩
    dsimp only
    refine ⟨fun h=>⟨by omega,by omega,fun h1=>?_,fun h1=>⟨by unfold i64R;omega,⟨i+1,by omega,step_all ha (by simpa using h1)⟩,by show a.length - (i+1) < a.length - i;omega,by trivial,by trivial,by trivial,rfl⟩⟩,fun h=>?_⟩
    · unfold sameC
      rw [decide_eq_false]
      rintro rfl
      simp at h1
    · unfold sameC
      rw [same_allC (by omega) fun j hj=>ha j (by omega)]
      simp
  · unfold sameC
    rw [decide_eq_false]
    rintro rfl
    exact hl rfl
def M400:MRow:=⟨(List (List UInt8×Int×Int)),(.pair .str (.pair (.int .i64) (.int .i64))),fun l o=>[.one (.osl o),.one (.fn 392 [])],fun l=>l,fun l=>[l.length≤1099511627776],fun l=>List (List UInt8×Int×Int),fun l y=>[PI l y 0 l.length,SrtR ltC ([],0,0) y 0 l.length],fun l y=>.tup [],fun l y=>y⟩
def C400:MCon:=⟨fun xs L=>match xs.map nrmV with | [.one (.osl o),.one (.fn 392 [])]=>(match getO L o with | .row (.pair .str (.pair (.int .i64) (.int .i64))) l=>some ((M400).res l o L) | _=>none) | _=>none⟩
theorem M400_fits:(M400).Fits (C400):=by
  intro xs L r h
  simp only [C400] at h
  split at h
  · rename_i o he
    split at h
    · rename_i l hl
      cases h
      exact ⟨l,o,he,hl,rfl⟩
    · cases h
  · cases h
end Go.EA
