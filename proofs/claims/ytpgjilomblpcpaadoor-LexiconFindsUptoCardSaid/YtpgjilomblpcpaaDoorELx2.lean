/- Layer 9: where words stand. Conditions: none. (Printed by a program of this project's own.) -/
import Derived.Test.YtpgjilomblpcpaaDoorEK12
import Derived.Test.YtpgjilomblpcpaaDoorELx1
import Derived.KernelRfl
set_option linter.unusedVariables false
set_option linter.unusedSimpArgs false
set_option maxRecDepth 100000
set_option maxHeartbeats 0
namespace Go.EA
open F
def P79:List UInt8×List UInt8→List SV:=fun (a,b)=>[.one (.str a),.one (.str b)]
def R79:List UInt8×List UInt8→SV×List Prop:=fun (a,b)=>(.one (.bool (preB a b)),[])
def K79:Con:=⟨true,[none,none],fun xs=>match xs with | [.one (.str a),.one (.str b)]=>some (R79 (a,b)) | _=>none⟩
noncomputable def G79:GP:=conG P79 R79
theorem P79_inj:∀ a b,(P79 a).map den0=(P79 b).map den0→a=b:=by
  rintro ⟨a0,a1⟩ ⟨b0,b1⟩ h
  simp only [P79,List.map_cons,List.map_nil,den0,den0L,List.cons.injEq,AV.one.injEq,AV.agg.injEq,Lf.int.injEq,Lf.str.injEq,Lf.bool.injEq,Lf.vrow.injEq,and_true,true_and,and_assoc] at h
  obtain ⟨h0,h1⟩:=h
  subst h0 h1
  rfl
theorem K79_ok:ConG G79 K79:=conG_of P79_inj (fun ⟨_,_⟩ ⟨_,_⟩=>rfl) (fun ⟨_,_⟩=>rfl) fun xs r h=>by
  simp only [K79] at h
  split at h
  · cases h;rename_i a b;exact ⟨(a,b),rfl,rfl⟩
  · cases h
theorem pr79 {S:SC} (hB:SB S)  (h79:S.has 79 f79):PrOk S 79 (pureP G79):=by
  refine prM hB [] [] trivial trivial h79 (fun ⟨a,b⟩=>⟨rfl,rfl,rfl⟩) (fun (a,b)=>fun _ _ _ _=>none) 400 ?_
  rintro ⟨a,b⟩ hc
  refine VC.use (p:=
    (((↑b.length:Int)≤(↑a.length:Int) →
      ((0≤(↑b.length:Int)∧(↑b.length:Int)≤(↑a.length:Int)) ∧
      (decide (cutR a none (some (↑b.length:Int))=b)=preB a b))) ∧
    (¬(↑b.length : Int) ≤ (↑a.length : Int) →
     (false=preB a b)))) (by kernel_rfl) ?_
  exact ⟨fun h=>⟨by omega,pre_yes h⟩,fun h=>pre_no h⟩
def P65:List UInt8×List UInt8→List SV:=fun (a,b)=>[.one (.str a),.one (.str b)]
def R65:List UInt8×List UInt8→SV×List Prop:=fun (a,b)=>(.one (.bool (preB a b)),[])
def K65:Con:=⟨true,[none,none],fun xs=>match xs with | [.one (.str a),.one (.str b)]=>some (R65 (a,b)) | _=>none⟩
noncomputable def G65:GP:=conG P65 R65
theorem P65_inj:∀ a b,(P65 a).map den0=(P65 b).map den0→a=b:=by
  rintro ⟨a0,a1⟩ ⟨b0,b1⟩ h
  simp only [P65,List.map_cons,List.map_nil,den0,den0L,List.cons.injEq,AV.one.injEq,AV.agg.injEq,Lf.int.injEq,Lf.str.injEq,Lf.bool.injEq,Lf.vrow.injEq,and_true,true_and,and_assoc] at h
  obtain ⟨h0,h1⟩:=h
  subst h0 h1
  rfl
theorem K65_ok:ConG G65 K65:=conG_of P65_inj (fun ⟨_,_⟩ ⟨_,_⟩=>rfl) (fun ⟨_,_⟩=>rfl) fun xs r h=>by
  simp only [K65] at h
  split at h
  · cases h;rename_i a b;exact ⟨(a,b),rfl,rfl⟩
  · cases h
theorem pr65 {S:SC} (hB:SB S) (q79:PrOk S 79 (pureP G79)) (h65:S.has 65 f65):PrOk S 65 (pureP G65):=by
  refine prM hB [] [⟨79,G79,K79⟩] trivial ⟨⟨q79,K79_ok⟩,trivial⟩ h65 (fun ⟨a,b⟩=>⟨rfl,rfl,rfl⟩) (fun (a,b)=>fun _ _ _ _=>none) 400 ?_
  rintro ⟨a,b⟩ hc
  refine VC.use (p:=
    (preB a b=preB a b)) (by kernel_rfl) ?_
  rfl
def P342:(List (List UInt8×Int))×List UInt8×Int→List SV:=fun (l,w0,w1)=>[.one (.row (.pair .str (.int .i64)) l),.agg [.str w0,.int .i64 w1],.one (.fn 321 [])]
def R342:(List (List UInt8×Int))×List UInt8×Int→SV×List Prop:=fun (l,w0,w1)=>(.tup [.o (.int .i64 (posW l w0)),.o (.bool (isW l w0))],[l.length≤1099511627776,RisP l])
def K342:Con:=⟨true,[some (.pair .str (.int .i64)),none,none],fun xs=>match xs with | [.one (.row (.pair .str (.int .i64)) l),.agg [.str w0,.int .i64 w1],.one (.fn 321 [])]=>some (R342 (l,w0,w1)) | _=>none⟩
noncomputable def G342:GP:=conG P342 R342
theorem P342_inj:∀ a b,(P342 a).map den0=(P342 b).map den0→a=b:=by
  rintro ⟨a0,a1,a2⟩ ⟨b0,b1,b2⟩ h
  simp only [P342,List.map_cons,List.map_nil,den0,den0L,List.cons.injEq,AV.one.injEq,AV.agg.injEq,Lf.int.injEq,Lf.str.injEq,Lf.bool.injEq,Lf.vrow.injEq,and_true,true_and,and_assoc] at h
  obtain ⟨h0,h1,h2⟩:=h
  have h0:=row_inj h0
  subst h0 h1 h2
  rfl
theorem K342_ok:ConG G342 K342:=conG_of P342_inj (fun ⟨_,_,_⟩ ⟨_,_,_⟩=>rfl) (fun ⟨_,_,_⟩=>rfl) fun xs r h=>by
  simp only [K342] at h
  split at h
  · cases h;rename_i l w0 w1;exact ⟨(l,w0,w1),rfl,rfl⟩
  · cases h
theorem pr342 {S:SC} (hB:SB S) (q321:PrOk S 321 (pureP G321)) (h342:S.has 342 f342):PrOk S 342 (pureP G342):=by
  refine prM hB [] [⟨321,G321,K321⟩] trivial ⟨⟨q321,K321_ok⟩,trivial⟩ h342 (fun ⟨l,w0,w1⟩=>⟨rfl,rfl,rfl⟩) (fun (l,w0,w1)=>fun f id T L=>match f,id with
      | 342,0=>some (.inv { p:Nat×Nat // p.1≤p.2∧p.2≤l.length∧(∀ k,k < p.1→sless (l.getD k ([],0)).1 w0=true)∧(∀ k,p.2≤k→k < l.length→sless (l.getD k ([],0)).1 w0=false) } (fun x=>([(9,.one (.int .i64 x.1.1)),(10,.one (.int .i64 x.1.2))],[])) (fun x=>x.1.2 - x.1.1))
      | _,_=>none) 400 ?_
  rintro ⟨l,w0,w1⟩ hc
  have hc1:l.length≤1099511627776:=hc.1
  have hc2:RisP l:=hc.2.1
  refine VC.use (p:=
    ((∃ x1:{ p:Nat×Nat // p.fst≤p.snd∧p.snd≤l.length∧(∀ (k:Nat),k < p.fst→sless (l.getD k ([],0)).fst w0=true)∧∀ (k:Nat),p.snd≤k→k < l.length→sless (l.getD k ([],0)).fst w0=false },
      ((l=l) ∧
      (((↑l.length:Int)=(↑l.length:Int)) ∧
      ((0=(↑x1.val.fst:Int)) ∧
      (((↑l.length:Int)=(↑x1.val.snd:Int)) ∧
      ((w0=w0) ∧
      (w1=w1))))))) ∧
    (∀ x1 : { p : Nat × Nat // p.fst ≤ p.snd ∧ p.snd ≤ l.length ∧ (∀ (k : Nat), k < p.fst → sless (l.getD k ([], 0)).fst w0 = true) ∧ ∀ (k : Nat), p.snd ≤ k → k < l.length → sless (l.getD k ([], 0)).fst w0 = false },
     (((↑x1.val.fst:Int) < (↑x1.val.snd:Int) →
       ((i64R ((↑x1.val.fst:Int)+(↑x1.val.snd:Int))) ∧
       ((i64R ((IntKind.u64.wrap ((↑x1.val.fst:Int)+(↑x1.val.snd:Int))).fdiv 2)) ∧
       ((0≤(IntKind.u64.wrap ((↑x1.val.fst:Int)+(↑x1.val.snd:Int))).fdiv 2∧(IntKind.u64.wrap ((↑x1.val.fst:Int)+(↑x1.val.snd:Int))).fdiv 2 < (↑l.length:Int)) ∧
       ((cmpS (l.getD ((IntKind.u64.wrap ((↑x1.val.fst:Int)+(↑x1.val.snd:Int))).fdiv 2).toNat ([],0)).fst w0 < 0 →
         ((i64R ((IntKind.u64.wrap ((↑x1.val.fst:Int)+(↑x1.val.snd:Int))).fdiv 2+1)) ∧
         (∃ x2 : { p : Nat × Nat // p.fst ≤ p.snd ∧ p.snd ≤ l.length ∧ (∀ (k : Nat), k < p.fst → sless (l.getD k ([], 0)).fst w0 = true) ∧ ∀ (k : Nat), p.snd ≤ k → k < l.length → sless (l.getD k ([], 0)).fst w0 = false },
          ((x2.val.snd - x2.val.fst < x1.val.snd - x1.val.fst) ∧
          ((l=l) ∧
          (((↑l.length:Int)=(↑l.length:Int)) ∧
          (((IntKind.u64.wrap ((↑x1.val.fst:Int)+(↑x1.val.snd:Int))).fdiv 2+1=(↑x2.val.fst:Int)) ∧
          (((↑x1.val.snd:Int)=(↑x2.val.snd:Int)) ∧
          ((w0=w0) ∧
          (w1=w1)))))))))) ∧
       (¬cmpS (l.getD ((IntKind.u64.wrap ((↑x1.val.fst : Int) + (↑x1.val.snd : Int))).fdiv 2).toNat ([], 0)).fst w0 < 0 →
        (∃ x2 : { p : Nat × Nat // p.fst ≤ p.snd ∧ p.snd ≤ l.length ∧ (∀ (k : Nat), k < p.fst → sless (l.getD k ([], 0)).fst w0 = true) ∧ ∀ (k : Nat), p.snd ≤ k → k < l.length → sless (l.getD k ([], 0)).fst w0 = false },
         ((x2.val.snd - x2.val.fst < x1.val.snd - x1.val.fst) ∧
         ((l=l) ∧
         (((↑l.length:Int)=(↑l.length:Int)) ∧
         (((↑x1.val.fst:Int)=(↑x2.val.fst:Int)) ∧
         (((IntKind.u64.wrap ((↑x1.val.fst:Int)+(↑x1.val.snd:Int))).fdiv 2=(↑x2.val.snd:Int)) ∧
         ((w0=w0) ∧
         (w1=w1)))))))))))))) ∧
     (¬(↑x1.val.fst : Int) < (↑x1.val.snd : Int) →
      (((↑x1.val.fst:Int) < (↑l.length:Int) →
        ((0≤(↑x1.val.fst:Int)∧(↑x1.val.fst:Int) < (↑l.length:Int)) ∧
        (((↑x1.val.fst:Int)=posW l w0) ∧
        (decide (cmpS (l.getD x1.val.fst ([],0)).fst w0=0)=isW l w0)))) ∧
      (¬(↑x1.val.fst : Int) < (↑l.length : Int) →
       (((↑x1.val.fst:Int)=posW l w0) ∧
       (false=isW l w0))))))))) (by kernel_rfl) ?_
  refine ⟨⟨⟨(0,l.length),Nat.zero_le _,Nat.le_refl _,fun k h=>absurd h (Nat.not_lt_zero _),fun k h1 h2=>absurd h1 (by dsimp only;omega)⟩,rfl,rfl,rfl,rfl,rfl,rfl⟩,?_⟩
  rintro ⟨⟨i,j⟩,hi,hj,hlo,hhi⟩
  dsimp only at hi hj hlo hhi ⊢
  rw [half_u64 i j (by omega)]
  simp only [Int.toNat_natCast]
  refine ⟨fun h=>⟨by unfold i64R;omega,by unfold i64R;omega,by omega,fun h1=>⟨by unfold i64R;omega,⟨((i+j) / 2+1,j),by dsimp only;omega,hj,fun k hk=>?_,hhi⟩,by dsimp only;omega,by trivial,by trivial,by dsimp only;omega,by trivial,by trivial,by trivial⟩,fun h1=>⟨⟨(i,(i+j) / 2),by dsimp only;omega,by dsimp only;omega,hlo,fun k hk hl=>?_⟩,by dsimp only;omega,by trivial,by trivial,by trivial,by trivial,by trivial,by trivial⟩⟩,fun h=>?_⟩
  · have h2:=(cmp_lt _ _).1 h1
    rcases Nat.lt_or_eq_of_le (Nat.le_of_lt_succ hk) with h3 | h3
    · exact sl_trans (hc2.at h3 (by omega)) h2
    · rw [h3];exact h2
  · have h2:sless (l.getD ((i+j) / 2) ([],0)).1 w0=false:=by
      cases hx:sless (l.getD ((i+j) / 2) ([],0)).1 w0 with
      | false=>rfl
      | true=>exact absurd ((cmp_lt _ _).2 hx) h1
    dsimp only at hk
    rcases Nat.lt_or_eq_of_le hk with h3 | h3
    · cases hx:sless (l.getD k ([],0)).1 w0 with
      | false=>rfl
      | true=>rw [sl_trans (hc2.at h3 hl) hx] at h2;cases h2
    · rw [← h3];exact h2
  · have e:i=j:=by omega
    subst e
    have hp:posN l w0=i:=posN_eq hj hlo fun h1=>hhi i (Nat.le_refl _) h1
    unfold posW isW
    rw [hp]
    refine ⟨fun h1=>⟨by omega,rfl,?_⟩,fun h1=>⟨rfl,?_⟩⟩
    · refine decide_eq_decide.2 ⟨fun h2=>⟨by omega,cmp_zero h2⟩,fun h2=>?_⟩
      unfold cmpS
      rw [h2.2,sl_irr]
      simp
    · rw [decide_eq_false]
      rintro ⟨h2,_⟩
      omega
def P324:(List (List UInt8×Int))×List UInt8→List SV:=fun (l,s)=>[.one (.row (.pair .str (.int .i64)) l),.one (.str s)]
def R324:(List (List UInt8×Int))×List UInt8→SV×List Prop:=fun (l,s)=>(.tup [.o (.int .i64 (posW l s)),.o (.bool (isW l s))],[l.length≤1099511627776,RisP l])
def K324:Con:=⟨true,[some (.pair .str (.int .i64)),none],fun xs=>match xs with | [.one (.row (.pair .str (.int .i64)) l),.one (.str s)]=>some (R324 (l,s)) | _=>none⟩
noncomputable def G324:GP:=conG P324 R324
theorem P324_inj:∀ a b,(P324 a).map den0=(P324 b).map den0→a=b:=by
  rintro ⟨a0,a1⟩ ⟨b0,b1⟩ h
  simp only [P324,List.map_cons,List.map_nil,den0,den0L,List.cons.injEq,AV.one.injEq,AV.agg.injEq,Lf.int.injEq,Lf.str.injEq,Lf.bool.injEq,Lf.vrow.injEq,and_true,true_and,and_assoc] at h
  obtain ⟨h0,h1⟩:=h
  have h0:=row_inj h0
  subst h0 h1
  rfl
theorem K324_ok:ConG G324 K324:=conG_of P324_inj (fun ⟨_,_⟩ ⟨_,_⟩=>rfl) (fun ⟨_,_⟩=>rfl) fun xs r h=>by
  simp only [K324] at h
  split at h
  · cases h;rename_i l s;exact ⟨(l,s),rfl,rfl⟩
  · cases h
theorem pr324 {S:SC} (hB:SB S) (q342:PrOk S 342 (pureP G342)) (h324:S.has 324 f324):PrOk S 324 (pureP G324):=by
  refine prM hB [] [⟨342,G342,K342⟩] trivial ⟨⟨q342,K342_ok⟩,trivial⟩ h324 (fun ⟨l,s⟩=>⟨rfl,rfl,rfl⟩) (fun (l,s)=>fun _ _ _ _=>none) 400 ?_
  rintro ⟨l,s⟩ hc
  have hc1:l.length≤1099511627776:=hc.1
  have hc2:RisP l:=hc.2.1
  refine VC.use (p:=
    ((l.length≤1099511627776) ∧
    ((RisP l) ∧
    ((posW l s=posW l s) ∧
    (isW l s=isW l s))))) (by kernel_rfl) ?_
  exact ⟨hc1,hc2,rfl,rfl⟩
def P303:(List (List UInt8×Int))×List UInt8→List SV:=fun (l,s)=>[.one (.row (.pair .str (.int .i64)) l),.one (.str s)]
def R303:(List (List UInt8×Int))×List UInt8→SV×List Prop:=fun (l,s)=>(.tup [.o (.int .i64 (fndV l s)),.o (.int .i64 (fndE l s))],[l.length≤1099511627776,SmW l])
def K303:Con:=⟨true,[some (.pair .str (.int .i64)),none],fun xs=>match xs with | [.one (.row (.pair .str (.int .i64)) l),.one (.str s)]=>some (R303 (l,s)) | _=>none⟩
noncomputable def G303:GP:=conG P303 R303
theorem P303_inj:∀ a b,(P303 a).map den0=(P303 b).map den0→a=b:=by
  rintro ⟨a0,a1⟩ ⟨b0,b1⟩ h
  simp only [P303,List.map_cons,List.map_nil,den0,den0L,List.cons.injEq,AV.one.injEq,AV.agg.injEq,Lf.int.injEq,Lf.str.injEq,Lf.bool.injEq,Lf.vrow.injEq,and_true,true_and,and_assoc] at h
  obtain ⟨h0,h1⟩:=h
  have h0:=row_inj h0
  subst h0 h1
  rfl
theorem K303_ok:ConG G303 K303:=conG_of P303_inj (fun ⟨_,_⟩ ⟨_,_⟩=>rfl) (fun ⟨_,_⟩=>rfl) fun xs r h=>by
  simp only [K303] at h
  split at h
  · cases h;rename_i l s;exact ⟨(l,s),rfl,rfl⟩
  · cases h
theorem pr303 {S:SC} (hB:SB S) (q296:PrOk S 296 (pureP G296)) (q324:PrOk S 324 (pureP G324)) (h303:S.has 303 f303):PrOk S 303 (pureP G303):=by
  refine prM hB [] [⟨296,G296,K296⟩,⟨324,G324,K324⟩] trivial ⟨⟨q296,K296_ok⟩,⟨q324,K324_ok⟩,trivial⟩ h303 (fun ⟨l,s⟩=>⟨rfl,rfl,rfl⟩) (fun (l,s)=>fun _ _ _ _=>none) 400 ?_
  rintro ⟨l,s⟩ hc
  have hc1:l.length≤1099511627776:=hc.1
  have hc2:SmW l:=hc.2.1
  refine VC.use (p:=
    ((l.length≤1099511627776) ∧
    ((SmW l) ∧
    ((isE l=0 →
      ((l.length≤1099511627776) ∧
      ((RisP l) ∧
      (((!isW l s)=true →
        ((0=fndV l s) ∧
        (10=fndE l s))) ∧
      (¬(!isW l s) = true →
       ((0≤posW l s∧posW l s < (↑l.length:Int)) ∧
       (((l.getD (posW l s).toNat ([],0)).snd=fndV l s) ∧
       (0=fndE l s)))))))) ∧
    (¬isE l = 0 →
     ((0=fndV l s) ∧
     (isE l=fndE l s))))))) (by kernel_rfl) ?_
  refine ⟨hc1,hc2,fun he=>⟨hc1,(isE_zero.1 he).2.1,fun h=>fnd_not he h,fun h=>?_⟩,fun he=>fnd_bad he⟩
  obtain ⟨h1,h2⟩:=find_is (l:=l) (s:=s) (by simpa using h)
  exact ⟨by unfold posW;omega,fnd_of he h2⟩
def P308:(List (List UInt8×Int))×List UInt8→List SV:=fun (l,s)=>[.one (.row (.pair .str (.int .i64)) l),.one (.str s)]
def R308:(List (List UInt8×Int))×List UInt8→SV×List Prop:=fun (l,s)=>(.tup [.o (.int .i64 (fndV l s)),.o (.int .i64 (fndE l s))],[l.length≤1099511627776,SmW l])
def K308:Con:=⟨true,[some (.pair .str (.int .i64)),none],fun xs=>match xs with | [.one (.row (.pair .str (.int .i64)) l),.one (.str s)]=>some (R308 (l,s)) | _=>none⟩
noncomputable def G308:GP:=conG P308 R308
theorem P308_inj:∀ a b,(P308 a).map den0=(P308 b).map den0→a=b:=by
  rintro ⟨a0,a1⟩ ⟨b0,b1⟩ h
  simp only [P308,List.map_cons,List.map_nil,den0,den0L,List.cons.injEq,AV.one.injEq,AV.agg.injEq,Lf.int.injEq,Lf.str.injEq,Lf.bool.injEq,Lf.vrow.injEq,and_true,true_and,and_assoc] at h
  obtain ⟨h0,h1⟩:=h
  have h0:=row_inj h0
  subst h0 h1
  rfl
theorem K308_ok:ConG G308 K308:=conG_of P308_inj (fun ⟨_,_⟩ ⟨_,_⟩=>rfl) (fun ⟨_,_⟩=>rfl) fun xs r h=>by
  simp only [K308] at h
  split at h
  · cases h;rename_i l s;exact ⟨(l,s),rfl,rfl⟩
  · cases h
theorem pr308 {S:SC} (hB:SB S) (q297:PrOk S 297 (pureP G297)) (h308:S.has 308 f308):PrOk S 308 (pureP G308):=by
  refine prM hB [] [⟨297,G297,K297⟩] trivial ⟨⟨q297,K297_ok⟩,trivial⟩ h308 (fun ⟨l,s⟩=>⟨rfl,rfl,rfl⟩) (fun (l,s)=>fun f id T L=>match f,id with
      | 308,0=>some (.inv { i:Nat // i≤l.length∧∀ j,j < i→(l.getD j ([],0)).1≠s } (fun x=>([(16,.one (.int .i64 x.1))],[])) (fun x=>l.length - x.1))
      | _,_=>none) 400 ?_
  rintro ⟨l,s⟩ hc
  have hc1:l.length≤1099511627776:=hc.1
  have hc2:SmW l:=hc.2.1
  refine VC.use (p:=
    ((l.length≤1099511627776) ∧
    ((SmW l) ∧
    ((isE l=0 →
      ((∃ x1:{ i:Nat // i≤l.length∧∀ (j:Nat),j < i→(l.getD j ([],0)).fst≠s },
        ((s=s) ∧
        ((l=l) ∧
        (((↑l.length:Int)=(↑l.length:Int)) ∧
        (0=(↑x1.val:Int)))))) ∧
      (∀ x1 : { i : Nat // i ≤ l.length ∧ ∀ (j : Nat), j < i → (l.getD j ([], 0)).fst ≠ s },
       (((↑x1.val:Int) < (↑l.length:Int) →
         ((0≤(↑x1.val:Int)∧(↑x1.val:Int) < (↑l.length:Int)) ∧
         (((l.getD x1.val ([],0)).fst=s →
           (((l.getD x1.val ([],0)).snd=fndV l s) ∧
           (0=fndE l s))) ∧
         (¬(l.getD x1.val ([], 0)).fst = s →
          ((i64R ((↑x1.val:Int)+1)) ∧
          (∃ x2 : { i : Nat // i ≤ l.length ∧ ∀ (j : Nat), j < i → (l.getD j ([], 0)).fst ≠ s },
           ((l.length - x2.val < l.length - x1.val) ∧
           ((s=s) ∧
           ((l=l) ∧
           (((↑l.length:Int)=(↑l.length:Int)) ∧
           ((↑x1.val:Int)+1=(↑x2.val:Int)))))))))))) ∧
       (¬(↑x1.val : Int) < (↑l.length : Int) →
        ((0=fndV l s) ∧
        (10=fndE l s))))))) ∧
    (¬isE l = 0 →
     ((0=fndV l s) ∧
     (isE l=fndE l s))))))) (by kernel_rfl) ?_
  refine ⟨hc1,hc2,fun he=>⟨⟨⟨0,Nat.zero_le _,fun j h=>absurd h (Nat.not_lt_zero _)⟩,rfl,rfl,rfl,rfl⟩,?_⟩,fun he=>fnd_bad he⟩
  rintro ⟨i,hi,ha⟩
  dsimp only
  exact ⟨fun h=>⟨by omega,fun h1=>fnd_of he (find_hit (by omega) ha h1),fun h1=>⟨by unfold i64R;omega,⟨i+1,by omega,step_all ha h1⟩,by show l.length - (i+1) < l.length - i;omega,rfl,rfl,rfl,rfl⟩⟩,fun h=>fnd_none he (find_no fun j hj=>ha j (by omega))⟩
def P305:(List (List UInt8×Int))×List UInt8→List SV:=fun (l,s)=>[.one (.row (.pair .str (.int .i64)) l),.one (.str s)]
def R305:(List (List UInt8×Int))×List UInt8→SV×List Prop:=fun (l,s)=>(.tup [.o (.int .i64 (begA l s)),.o (.int .i64 (begB l s)),.o (.int .i64 (isE l))],[l.length≤1099511627776,SmW l])
def K305:Con:=⟨true,[some (.pair .str (.int .i64)),none],fun xs=>match xs with | [.one (.row (.pair .str (.int .i64)) l),.one (.str s)]=>some (R305 (l,s)) | _=>none⟩
noncomputable def G305:GP:=conG P305 R305
theorem P305_inj:∀ a b,(P305 a).map den0=(P305 b).map den0→a=b:=by
  rintro ⟨a0,a1⟩ ⟨b0,b1⟩ h
  simp only [P305,List.map_cons,List.map_nil,den0,den0L,List.cons.injEq,AV.one.injEq,AV.agg.injEq,Lf.int.injEq,Lf.str.injEq,Lf.bool.injEq,Lf.vrow.injEq,and_true,true_and,and_assoc] at h
  obtain ⟨h0,h1⟩:=h
  have h0:=row_inj h0
  subst h0 h1
  rfl
theorem K305_ok:ConG G305 K305:=conG_of P305_inj (fun ⟨_,_⟩ ⟨_,_⟩=>rfl) (fun ⟨_,_⟩=>rfl) fun xs r h=>by
  simp only [K305] at h
  split at h
  · cases h;rename_i l s;exact ⟨(l,s),rfl,rfl⟩
  · cases h
theorem pr305 {S:SC} (hB:SB S) (q296:PrOk S 296 (pureP G296)) (q324:PrOk S 324 (pureP G324)) (q65:PrOk S 65 (pureP G65)) (h325:S.has 325 f325) (h343:S.has 343 f343) (h305:S.has 305 f305):PrOk S 305 (pureP G305):=by
  refine prM hB [(325,f325),(343,f343)] [⟨296,G296,K296⟩,⟨324,G324,K324⟩,⟨65,G65,K65⟩] ⟨h325,h343,trivial⟩ ⟨⟨q296,K296_ok⟩,⟨q324,K324_ok⟩,⟨q65,K65_ok⟩,trivial⟩ h305 (fun ⟨l,s⟩=>⟨rfl,rfl,rfl⟩) (fun (l,s)=>fun f id T L=>match f,id with
      | 343,0=>some (.inv { i:Nat // posN l s≤i∧i≤l.length∧∀ j,posN l s≤j→j < i→preB (l.getD j ([],0)).1 s=true } (fun x=>([(4,.one (.int .i64 x.1))],[(1,.cell [.int .i64 x.1])])) (fun x=>l.length - x.1))
      | _,_=>none) 400 ?_
  rintro ⟨l,s⟩ hc
  have hc1:l.length≤1099511627776:=hc.1
  have hc2:SmW l:=hc.2.1
  refine VC.use (p:=
    ((l.length≤1099511627776) ∧
    ((SmW l) ∧
    ((isE l=0 →
      ((l.length≤1099511627776) ∧
      ((RisP l) ∧
      ((∃ x1:{ i:Nat // posN l s≤i∧i≤l.length∧∀ (j:Nat),posN l s≤j→j < i→preB (l.getD j ([],0)).fst s=true },
        ((posW l s=(↑x1.val:Int)) ∧
        ((s=s) ∧
        ((posW l s=(↑x1.val:Int)) ∧
        ((l=l) ∧
        (posW l s=posW l s)))))) ∧
      (∀ x1 : { i : Nat // posN l s ≤ i ∧ i ≤ l.length ∧ ∀ (j : Nat), posN l s ≤ j → j < i → preB (l.getD j ([], 0)).fst s = true },
       (((↑x1.val:Int) < (↑l.length:Int) →
         ((0≤(↑x1.val:Int)∧(↑x1.val:Int) < (↑l.length:Int)) ∧
         (((!preB (l.getD x1.val ([],0)).fst s)=true →
           ((posW l s=begA l s) ∧
           (((↑x1.val:Int)=begB l s) ∧
           (0=isE l)))) ∧
         (¬(!preB (l.getD x1.val ([], 0)).fst s) = true →
          ((i64R ((↑x1.val:Int)+1)) ∧
          ((i64R ((↑x1.val:Int)+1)) ∧
          (∃ x2 : { i : Nat // posN l s ≤ i ∧ i ≤ l.length ∧ ∀ (j : Nat), posN l s ≤ j → j < i → preB (l.getD j ([], 0)).fst s = true },
           ((l.length - x2.val < l.length - x1.val) ∧
           (((↑x1.val:Int)+1=(↑x2.val:Int)) ∧
           ((s=s) ∧
           (((↑x1.val:Int)+1=(↑x2.val:Int)) ∧
           ((l=l) ∧
           (posW l s=posW l s))))))))))))) ∧
       (¬(↑x1.val : Int) < (↑l.length : Int) →
        ((posW l s=begA l s) ∧
        (((↑x1.val:Int)=begB l s) ∧
        (0=isE l)))))))))) ∧
    (¬isE l = 0 →
     ((0=begA l s) ∧
     ((0=begB l s) ∧
     (isE l=isE l)))))))) (by kernel_rfl) ?_
  refine ⟨hc1,hc2,fun he=>⟨hc1,(isE_zero.1 he).2.1,⟨⟨posN l s,Nat.le_refl _,posN_le l s,fun j h1 h2=>by omega⟩,rfl,rfl,rfl,rfl,rfl⟩,?_⟩,fun he=>⟨(beg_bad he).1,(beg_bad he).2,rfl⟩⟩
  rintro ⟨i,h0,hi,ha⟩
  dsimp only
  refine ⟨fun h=>⟨by omega,fun h1=>beg_of he (endN_eq h0 hi ha fun _=>by simpa using h1),fun h1=>⟨by unfold i64R;omega,by unfold i64R;omega,⟨i+1,by omega,by omega,pre_step ha (by simpa using h1)⟩,by show l.length - (i+1) < l.length - i;omega,rfl,rfl,rfl,rfl,rfl⟩⟩,fun h=>beg_of he (endN_eq h0 hi ha fun h1=>by omega)⟩
def P309:(List (List UInt8×Int))×List UInt8→List SV:=fun (l,s)=>[.one (.row (.pair .str (.int .i64)) l),.one (.str s)]
def R309:(List (List UInt8×Int))×List UInt8→SV×List Prop:=fun (l,s)=>(.tup [.o (.int .i64 (begA l s)),.o (.int .i64 (begB l s)),.o (.int .i64 (isE l))],[l.length≤1099511627776,SmW l])
def K309:Con:=⟨true,[some (.pair .str (.int .i64)),none],fun xs=>match xs with | [.one (.row (.pair .str (.int .i64)) l),.one (.str s)]=>some (R309 (l,s)) | _=>none⟩
noncomputable def G309:GP:=conG P309 R309
theorem P309_inj:∀ a b,(P309 a).map den0=(P309 b).map den0→a=b:=by
  rintro ⟨a0,a1⟩ ⟨b0,b1⟩ h
  simp only [P309,List.map_cons,List.map_nil,den0,den0L,List.cons.injEq,AV.one.injEq,AV.agg.injEq,Lf.int.injEq,Lf.str.injEq,Lf.bool.injEq,Lf.vrow.injEq,and_true,true_and,and_assoc] at h
  obtain ⟨h0,h1⟩:=h
  have h0:=row_inj h0
  subst h0 h1
  rfl
theorem K309_ok:ConG G309 K309:=conG_of P309_inj (fun ⟨_,_⟩ ⟨_,_⟩=>rfl) (fun ⟨_,_⟩=>rfl) fun xs r h=>by
  simp only [K309] at h
  split at h
  · cases h;rename_i l s;exact ⟨(l,s),rfl,rfl⟩
  · cases h
theorem pr309 {S:SC} (hB:SB S) (q297:PrOk S 297 (pureP G297)) (h309:S.has 309 f309):PrOk S 309 (pureP G309):=by
  refine prM hB [] [⟨297,G297,K297⟩] trivial ⟨⟨q297,K297_ok⟩,trivial⟩ h309 (fun ⟨l,s⟩=>⟨rfl,rfl,rfl⟩) (fun (l,s)=>fun f id T L=>match f,id with
      | 309,0=>some (.inv { i:Nat // i≤l.length∧∀ j,j < i→sless (l.getD j ([],0)).1 s=true } (fun x=>([(8,.one (.int .i64 x.1))],[])) (fun x=>l.length - x.1))
      | 309,2=>match T.getD 8 .junk with | .one (.int .i64 a)=>some (.inv { i:Nat // a.toNat≤i∧i≤l.length∧∀ j,a.toNat≤j→j < i→preB (l.getD j ([],0)).1 s=true } (fun x=>([(9,.one (.int .i64 x.1))],[])) (fun x=>l.length - x.1)) | _=>none
      | _,_=>none) 400 ?_
  rintro ⟨l,s⟩ hc
  have hc1:l.length≤1099511627776:=hc.1
  have hc2:SmW l:=hc.2.1
  refine VC.use (p:=
    ((l.length≤1099511627776) ∧
    ((SmW l) ∧
    ((isE l=0 →
      ((∃ x1:{ i:Nat // i≤l.length∧∀ (j:Nat),j < i→sless (l.getD j ([],0)).fst s=true },
        ((l=l) ∧
        ((s=s) ∧
        (0=(↑x1.val:Int))))) ∧
      (∀ x1 : { i : Nat // i ≤ l.length ∧ ∀ (j : Nat), j < i → sless (l.getD j ([], 0)).fst s = true },
       (((↑x1.val:Int) < (↑l.length:Int) →
         ((0≤(↑x1.val:Int)∧(↑x1.val:Int) < (↑l.length:Int)) ∧
         ((sless (l.getD x1.val ([],0)).fst s=true →
           ((i64R ((↑x1.val:Int)+1)) ∧
           (∃ x2 : { i : Nat // i ≤ l.length ∧ ∀ (j : Nat), j < i → sless (l.getD j ([], 0)).fst s = true },
            ((l.length - x2.val < l.length - x1.val) ∧
            ((l=l) ∧
            ((s=s) ∧
            ((↑x1.val:Int)+1=(↑x2.val:Int)))))))) ∧
         (¬sless (l.getD x1.val ([], 0)).fst s = true →
          ((∃ x2:{ i:Nat // x1.val≤i∧i≤l.length∧∀ (j:Nat),x1.val≤j→j < i→preB (l.getD j ([],0)).fst s=true },
            ((l=l) ∧
            ((s=s) ∧
            (((↑x1.val:Int)=(↑x1.val:Int)) ∧
            ((↑x1.val:Int)=(↑x2.val:Int)))))) ∧
          (∀ x2 : { i : Nat // x1.val ≤ i ∧ i ≤ l.length ∧ ∀ (j : Nat), x1.val ≤ j → j < i → preB (l.getD j ([], 0)).fst s = true },
           (((↑x2.val:Int) < (↑l.length:Int) →
             ((0≤(↑x2.val:Int)∧(↑x2.val:Int) < (↑l.length:Int)) ∧
             (((↑s.length:Int)≤(↑(List.length (l.getD x2.val ([],0)).fst):Int) →
               ((0≤(↑x2.val:Int)∧(↑x2.val:Int) < (↑l.length:Int)) ∧
               ((0≤(↑s.length:Int)∧(↑s.length:Int)≤(↑(List.length (l.getD x2.val ([],0)).fst):Int)) ∧
               ((cutR (l.getD x2.val ([],0)).fst none (some (↑s.length:Int))=s →
                 ((i64R ((↑x2.val:Int)+1)) ∧
                 (∃ x3 : { i : Nat // x1.val ≤ i ∧ i ≤ l.length ∧ ∀ (j : Nat), x1.val ≤ j → j < i → preB (l.getD j ([], 0)).fst s = true },
                  ((l.length - x3.val < l.length - x2.val) ∧
                  ((l=l) ∧
                  ((s=s) ∧
                  (((↑x1.val:Int)=(↑x1.val:Int)) ∧
                  ((↑x2.val:Int)+1=(↑x3.val:Int))))))))) ∧
               (¬cutR (l.getD x2.val ([], 0)).fst none (some (↑s.length : Int)) = s →
                (((↑x1.val:Int)=begA l s) ∧
                (((↑x2.val:Int)=begB l s) ∧
                (0=isE l)))))))) ∧
             (¬(↑s.length : Int) ≤ (↑(List.length (l.getD x2.val ([], 0)).fst) : Int) →
              (((↑x1.val:Int)=begA l s) ∧
              (((↑x2.val:Int)=begB l s) ∧
              (0=isE l))))))) ∧
           (¬(↑x2.val : Int) < (↑l.length : Int) →
            (((↑x1.val:Int)=begA l s) ∧
            (((↑x2.val:Int)=begB l s) ∧
            (0=isE l))))))))))) ∧
       (¬(↑x1.val : Int) < (↑l.length : Int) →
        ((∃ x2:{ i:Nat // x1.val≤i∧i≤l.length∧∀ (j:Nat),x1.val≤j→j < i→preB (l.getD j ([],0)).fst s=true },
          ((l=l) ∧
          ((s=s) ∧
          (((↑x1.val:Int)=(↑x1.val:Int)) ∧
          ((↑x1.val:Int)=(↑x2.val:Int)))))) ∧
        (∀ x2 : { i : Nat // x1.val ≤ i ∧ i ≤ l.length ∧ ∀ (j : Nat), x1.val ≤ j → j < i → preB (l.getD j ([], 0)).fst s = true },
         (((↑x2.val:Int) < (↑l.length:Int) →
           ((0≤(↑x2.val:Int)∧(↑x2.val:Int) < (↑l.length:Int)) ∧
           (((↑s.length:Int)≤(↑(List.length (l.getD x2.val ([],0)).fst):Int) →
             ((0≤(↑x2.val:Int)∧(↑x2.val:Int) < (↑l.length:Int)) ∧
             ((0≤(↑s.length:Int)∧(↑s.length:Int)≤(↑(List.length (l.getD x2.val ([],0)).fst):Int)) ∧
             ((cutR (l.getD x2.val ([],0)).fst none (some (↑s.length:Int))=s →
               ((i64R ((↑x2.val:Int)+1)) ∧
               (∃ x3 : { i : Nat // x1.val ≤ i ∧ i ≤ l.length ∧ ∀ (j : Nat), x1.val ≤ j → j < i → preB (l.getD j ([], 0)).fst s = true },
                ((l.length - x3.val < l.length - x2.val) ∧
                ((l=l) ∧
                ((s=s) ∧
                (((↑x1.val:Int)=(↑x1.val:Int)) ∧
                ((↑x2.val:Int)+1=(↑x3.val:Int))))))))) ∧
             (¬cutR (l.getD x2.val ([], 0)).fst none (some (↑s.length : Int)) = s →
              (((↑x1.val:Int)=begA l s) ∧
              (((↑x2.val:Int)=begB l s) ∧
              (0=isE l)))))))) ∧
           (¬(↑s.length : Int) ≤ (↑(List.length (l.getD x2.val ([], 0)).fst) : Int) →
            (((↑x1.val:Int)=begA l s) ∧
            (((↑x2.val:Int)=begB l s) ∧
            (0=isE l))))))) ∧
         (¬(↑x2.val : Int) < (↑l.length : Int) →
          (((↑x1.val:Int)=begA l s) ∧
          (((↑x2.val:Int)=begB l s) ∧
          (0=isE l)))))))))))) ∧
    (¬isE l = 0 →
     ((0=begA l s) ∧
     ((0=begB l s) ∧
     (isE l=isE l)))))))) (by kernel_rfl) ?_
  have inner:isE l=0→∀ a:Nat,posN l s=a→(∀ x2:{ i:Nat // a≤i∧i≤l.length∧∀ (j:Nat),a≤j→j < i→preB (l.getD j ([],0)).fst s=true },((x2.val:Int) < l.length→(0≤(x2.val:Int)∧(x2.val:Int) < l.length)∧((s.length:Int)≤(l.getD x2.val ([],0)).1.length→(0≤(x2.val:Int)∧(x2.val:Int) < l.length)∧(0≤(s.length:Int)∧(s.length:Int)≤(l.getD x2.val ([],0)).1.length)∧(cutR (l.getD x2.val ([],0)).1 none (some (s.length:Int))=s→i64R ((x2.val:Int)+1)∧∃ x3:{ i:Nat // a≤i∧i≤l.length∧∀ (j:Nat),a≤j→j < i→preB (l.getD j ([],0)).fst s=true },l.length - x3.val < l.length - x2.val∧l=l∧s=s∧(a:Int)=a∧(x2.val:Int)+1=x3.val)∧(¬ cutR (l.getD x2.val ([],0)).1 none (some (s.length:Int))=s→(a:Int)=begA l s∧(x2.val:Int)=begB l s∧0=isE l))∧(¬ (s.length:Int)≤(l.getD x2.val ([],0)).1.length→(a:Int)=begA l s∧(x2.val:Int)=begB l s∧0=isE l))∧(¬ (x2.val:Int) < l.length→(a:Int)=begA l s∧(x2.val:Int)=begB l s∧0=isE l)):=by
    intro he a hp
    subst hp
    rintro ⟨i,h0,hi,ha⟩
    dsimp only
    refine ⟨fun h=>⟨by omega,fun h1=>⟨by omega,by omega,fun h2=>⟨by unfold i64R;omega,⟨i+1,by omega,by omega,pre_step ha (by rw [← pre_yes h1];exact decide_eq_true h2)⟩,by show l.length - (i+1) < l.length - i;omega,rfl,rfl,rfl,rfl⟩,fun h2=>?_⟩,fun h1=>?_⟩,fun h=>beg_of he (endN_eq h0 hi ha fun h1=>by omega)⟩
    · exact beg_of he (endN_eq h0 hi ha fun _=>by rw [← pre_yes h1];exact decide_eq_false h2)
    · exact beg_of he (endN_eq h0 hi ha fun _=>(pre_no h1).symm)
  refine ⟨hc1,hc2,fun he=>⟨⟨⟨0,Nat.zero_le _,fun j h=>absurd h (Nat.not_lt_zero _)⟩,rfl,rfl,rfl⟩,?_⟩,fun he=>⟨(beg_bad he).1,(beg_bad he).2,rfl⟩⟩
  rintro ⟨i,hi,ha⟩
  dsimp only
  refine ⟨fun h=>⟨by omega,fun h1=>⟨by unfold i64R;omega,⟨i+1,by omega,step_all ha h1⟩,by show l.length - (i+1) < l.length - i;omega,rfl,rfl,rfl⟩,fun h1=>⟨⟨⟨i,Nat.le_refl _,hi,fun j h1 h2=>by omega⟩,rfl,rfl,rfl,rfl⟩,inner he i (posN_eq hi ha fun _=>by simpa using h1)⟩⟩,fun h=>⟨⟨⟨i,Nat.le_refl _,hi,fun j h1 h2=>by omega⟩,rfl,rfl,rfl,rfl⟩,inner he i (posN_eq hi ha fun h1=>by omega)⟩⟩
def P293:Unit→List SV:=fun _=>[]
def R293:Unit→SV×List Prop:=fun _=>(.one (.bool true),[])
def K293:Con:=⟨true,[],fun xs=>match xs with | []=>some (R293 ()) | _=>none⟩
noncomputable def G293:GP:=conG P293 R293
theorem P293_inj:∀ a b,(P293 a).map den0=(P293 b).map den0→a=b:=by
  intro a b _;rfl
theorem K293_ok:ConG G293 K293:=conG_of P293_inj (fun _ _=>rfl) (fun _=>rfl) fun xs r h=>by
  simp only [K293] at h
  split at h
  · cases h;exact ⟨(),rfl,rfl⟩
  · cases h
theorem pr293 {S:SC} (hB:SB S) (q295:PrOk S 295 (pureP G295)) (q298:PrOk S 298 (pureP G298)) (h293:S.has 293 f293):PrOk S 293 (pureP G293):=by
  refine prM hB [] [⟨295,G295,K295⟩,⟨298,G298,K298⟩] trivial ⟨⟨q295,K295_ok⟩,⟨q298,K298_ok⟩,trivial⟩ h293 (fun _=>⟨rfl,rfl,rfl⟩) (fun _=>fun _ _ _ _=>none) 400 ?_
  rintro _ hc
  refine VC.use (p:=
    (((3:Nat)≤(1099511627776:Nat)) ∧
    ((SmW [([98],1),([97],2),([98],3)]) ∧
    (((2:Int)=(2:Int) →
      (((0:Int)≤(0:Int)∧(0:Int) < (2:Int)) ∧
      ((((norO [([(98:UInt8)],(1:Int)),([(97:UInt8)],(2:Int)),([(98:UInt8)],(3:Int))]).getD (0:Nat) ([],(0:Int))).fst=[(97:UInt8)] →
        (((0:Int)≤(1:Int)∧(1:Int) < (2:Int)) ∧
        (((4:Int)=(4:Int) →
          (((0:Int)=(0:Int) →
            (((0:Nat)≤(1099511627776:Nat)) ∧
            (decide ((4:Int)=(4:Int))=true))) ∧
          (¬(0 : Int) = (0 : Int) →
           (false=true)))) ∧
        (¬(4 : Int) = (4 : Int) →
         (false=true))))) ∧
      (¬((norO [([(98 : UInt8)], (1 : Int)), ([(97 : UInt8)], (2 : Int)), ([(98 : UInt8)], (3 : Int))]).getD (0 : Nat) ([], (0 : Int))).fst = [(97 : UInt8)] →
       (false=true))))) ∧
    (¬(2 : Int) = (2 : Int) →
     (false=true)))))) (by kernel_rfl) ?_
  refine ⟨by decide,fun x hx=>?_,fun _=>⟨by omega,fun _=>⟨by omega,fun _=>⟨fun _=>⟨by decide,rfl⟩,fun h=>absurd rfl h⟩,fun h=>absurd rfl h⟩,fun h=>absurd rfl h⟩,fun h=>absurd rfl h⟩
  simp only [List.mem_cons,List.not_mem_nil,or_false] at hx
  rcases hx with rfl | rfl | rfl <;> decide
end Go.EA
