/- Layer 9: the reference's most frequent words. Conditions: none. (Printed by a program of this project's own.) -/
import Derived.Test.YtpgjilomblpcpaaDoorEK14
import Derived.Test.YtpgjilomblpcpaaDoorELx5
import Derived.Test.YtpgjilomblpcpaaDoorELx4
import Derived.KernelRfl
set_option linter.unusedVariables false
set_option linter.unusedSimpArgs false
set_option maxRecDepth 100000
set_option maxHeartbeats 0
namespace Go.EA
open F
def P310:(List (List UInt8×Int))×Int→List SV:=fun (l,k)=>[.one (.row (.pair .str (.int .i64)) l),.one (.int .i64 k)]
def R310:(List (List UInt8×Int))×Int→SV×List Prop:=fun (l,k)=>(.tup [.o (.row WdT (bstO l k)),.o (.int .i64 (bstE l k))],[l.length≤1099511627776,SmW l])
def K310:Con:=⟨false,[some (.pair .str (.int .i64)),none],fun xs=>match xs with | [.one (.row (.pair .str (.int .i64)) l),.one (.int .i64 k)]=>some (R310 (l,k)) | _=>none⟩
noncomputable def G310:GP:=conG P310 R310
theorem P310_inj:∀ a b,(P310 a).map den0=(P310 b).map den0→a=b:=by
  rintro ⟨a0,a1⟩ ⟨b0,b1⟩ h
  simp only [P310,List.map_cons,List.map_nil,den0,den0L,List.cons.injEq,AV.one.injEq,AV.agg.injEq,Lf.int.injEq,Lf.str.injEq,Lf.bool.injEq,Lf.vrow.injEq,and_true,true_and,and_assoc] at h
  obtain ⟨h0,h1⟩:=h
  have h0:=row_inj h0
  subst h0 h1
  rfl
theorem K310_ok:ConG G310 K310:=conG_of P310_inj (fun ⟨_,_⟩ ⟨_,_⟩=>rfl) (fun ⟨_,_⟩=>rfl) fun xs r h=>by
  simp only [K310] at h
  split at h
  · cases h;rename_i l k;exact ⟨(l,k),rfl,rfl⟩
  · cases h
theorem pr310 {S:SC} (hB:SB S) (q297:PrOk S 297 (pureP G297)) (h310:S.has 310 f310):PrOk S 310 (pureP G310):=by
  refine prM hB [] [⟨297,G297,K297⟩] trivial ⟨⟨q297,K297_ok⟩,trivial⟩ h310 (fun ⟨l,k⟩=>⟨rfl,rfl,rfl⟩) (fun (l,k)=>fun f id T L=>match f,id with
      | 310,0=>some (.inv { i:Nat // i≤l.length } (fun x=>([(24,.one (.int .i64 x.1)),(7,.one (.osl 0))],[(0,.row WdT (srtB (l.take x.1)))])) (fun x=>l.length - x.1))
      | 310,2=>match T.getD 24 .junk with | .one (.int .i64 i)=>some (.inv { a:Nat // a≤i.toNat∧∀ j,a≤j→j < i.toNat→((srtB (l.take i.toNat)).getD j ([],0)).2 < (l.getD i.toNat ([],0)).2 } (fun x=>([(10,.one (.int .i64 x.1))],[(0,.row WdT (shf (srtB (l.take i.toNat)) (l.getD i.toNat ([],0)) x.1))])) (fun x=>x.1)) | _=>none
      | _,_=>none) 2000 ?_
  rintro ⟨l,k⟩ hc
  have hc1:l.length≤1099511627776:=hc.1
  have hc2:SmW l:=hc.2.1
  refine VC.use (p:=
    ((l.length≤1099511627776) ∧
    ((SmW l) ∧
    ((isE l=0 →
      ((k < 0 →
        ((bstO l k=[]) ∧
        (2=bstE l k))) ∧
      (¬k < 0 →
       ((1000 < k →
         ((bstO l k=[]) ∧
         (2=bstE l k))) ∧
       (¬1000 < k →
        ((∃ x1:{ i:Nat // i≤l.length },
          ((k=k) ∧
          ((srtB (List.take x1.val l)=[]) ∧
          ((l=l) ∧
          (((↑l.length:Int)=(↑l.length:Int)) ∧
          ((0=(↑x1.val:Int)) ∧
          (srtB (List.take x1.val l)=[]))))))) ∧
        (∀ x1 : { i : Nat // i ≤ l.length },
         (((↑x1.val:Int) < (↑l.length:Int) →
           ((0≤(↑x1.val:Int)∧(↑x1.val:Int) < (↑l.length:Int)) ∧
           ((((srtB (List.take x1.val l)).length+[((l.getD x1.val ([],0)).fst,(l.getD x1.val ([],0)).snd)].length)*24≤140737488355328) ∧
           ((∃ x2:{ a:Nat // a≤x1.val∧∀ (j:Nat),a≤j→j < x1.val→((srtB (List.take x1.val l)).getD j ([],0)).snd < (l.getD x1.val ([],0)).snd },
             ((k=k) ∧
             (((↑(srtB (List.take x1.val l)).length:Int)=(↑x2.val:Int)) ∧
             ((l=l) ∧
             (((↑l.length:Int)=(↑l.length:Int)) ∧
             (((↑x1.val:Int)=(↑x1.val:Int)) ∧
             ((srtB (List.take x1.val l)++[((l.getD x1.val ([],0)).fst,(l.getD x1.val ([],0)).snd)]=shf (srtB (List.take x1.val l)) (l.getD x1.val ([],0)) x2.val) ∧
             (((l.getD x1.val ([],0)).fst=(l.getD x1.val ([],0)).fst) ∧
             (((l.getD x1.val ([],0)).snd=(l.getD x1.val ([],0)).snd) ∧
             ([((l.getD x1.val ([],0)).fst,(l.getD x1.val ([],0)).snd)]=[((l.getD x1.val ([],0)).fst,(l.getD x1.val ([],0)).snd)])))))))))) ∧
           (∀ x2 : { a : Nat // a ≤ x1.val ∧ ∀ (j : Nat), a ≤ j → j < x1.val → ((srtB (List.take x1.val l)).getD j ([], 0)).snd < (l.getD x1.val ([], 0)).snd },
            ((0 < (↑x2.val:Int) →
              ((i64R ((↑x2.val:Int) - 1)) ∧
              ((0≤(↑x2.val:Int) - 1∧(↑x2.val:Int) - 1 < (↑(shf (srtB (List.take x1.val l)) (l.getD x1.val ([],0)) x2.val).length:Int)) ∧
              ((((↑x2.val:Int) - 1).toNat < (shf (srtB (List.take x1.val l)) (l.getD x1.val ([],0)) x2.val).length) ∧
              ((((shf (srtB (List.take x1.val l)) (l.getD x1.val ([],0)) x2.val).getD ((↑x2.val:Int) - 1).toNat ([],0)).snd < (l.getD x1.val ([],0)).snd →
                ((i64R ((↑x2.val:Int) - 1)) ∧
                ((0≤(↑x2.val:Int) - 1∧(↑x2.val:Int) - 1 < (↑(shf (srtB (List.take x1.val l)) (l.getD x1.val ([],0)) x2.val).length:Int)) ∧
                ((((↑x2.val:Int) - 1).toNat < (shf (srtB (List.take x1.val l)) (l.getD x1.val ([],0)) x2.val).length) ∧
                ((0≤(↑x2.val:Int)∧(↑x2.val:Int) < (↑(shf (srtB (List.take x1.val l)) (l.getD x1.val ([],0)) x2.val).length:Int)) ∧
                ((x2.val < (shf (srtB (List.take x1.val l)) (l.getD x1.val ([],0)) x2.val).length) ∧
                ((i64R ((↑x2.val:Int) - 1)) ∧
                (∃ x3 : { a : Nat // a ≤ x1.val ∧ ∀ (j : Nat), a ≤ j → j < x1.val → ((srtB (List.take x1.val l)).getD j ([], 0)).snd < (l.getD x1.val ([], 0)).snd },
                 ((x3.val < x2.val) ∧
                 ((k=k) ∧
                 (((↑x2.val:Int) - 1=(↑x3.val:Int)) ∧
                 ((l=l) ∧
                 (((↑l.length:Int)=(↑l.length:Int)) ∧
                 (((↑x1.val:Int)=(↑x1.val:Int)) ∧
                 (((shf (srtB (List.take x1.val l)) (l.getD x1.val ([],0)) x2.val).set x2.val (((shf (srtB (List.take x1.val l)) (l.getD x1.val ([],0)) x2.val).getD ((↑x2.val:Int) - 1).toNat ([],0)).fst,((shf (srtB (List.take x1.val l)) (l.getD x1.val ([],0)) x2.val).getD ((↑x2.val:Int) - 1).toNat ([],0)).snd)=shf (srtB (List.take x1.val l)) (l.getD x1.val ([],0)) x3.val) ∧
                 (((l.getD x1.val ([],0)).fst=(l.getD x1.val ([],0)).fst) ∧
                 (((l.getD x1.val ([],0)).snd=(l.getD x1.val ([],0)).snd) ∧
                 ([((l.getD x1.val ([],0)).fst,(l.getD x1.val ([],0)).snd)]=[((l.getD x1.val ([],0)).fst,(l.getD x1.val ([],0)).snd)])))))))))))))))))) ∧
              (¬((shf (srtB (List.take x1.val l)) (l.getD x1.val ([], 0)) x2.val).getD ((↑x2.val : Int) - 1).toNat ([], 0)).snd < (l.getD x1.val ([], 0)).snd →
               ((0≤(↑x2.val:Int)∧(↑x2.val:Int) < (↑(shf (srtB (List.take x1.val l)) (l.getD x1.val ([],0)) x2.val).length:Int)) ∧
               ((x2.val < (shf (srtB (List.take x1.val l)) (l.getD x1.val ([],0)) x2.val).length) ∧
               ((i64R ((↑x1.val:Int)+1)) ∧
               (∃ x3 : { i : Nat // i ≤ l.length },
                ((l.length - x3.val < l.length - x1.val) ∧
                ((k=k) ∧
                ((l=l) ∧
                (((↑l.length:Int)=(↑l.length:Int)) ∧
                (((↑x1.val:Int)+1=(↑x3.val:Int)) ∧
                ((shf (srtB (List.take x1.val l)) (l.getD x1.val ([],0)) x2.val).set x2.val ((l.getD x1.val ([],0)).fst,(l.getD x1.val ([],0)).snd)=srtB (List.take x3.val l))))))))))))))))) ∧
            (¬0 < (↑x2.val : Int) →
             ((0≤(↑x2.val:Int)∧(↑x2.val:Int) < (↑(shf (srtB (List.take x1.val l)) (l.getD x1.val ([],0)) x2.val).length:Int)) ∧
             ((x2.val < (shf (srtB (List.take x1.val l)) (l.getD x1.val ([],0)) x2.val).length) ∧
             ((i64R ((↑x1.val:Int)+1)) ∧
             (∃ x3 : { i : Nat // i ≤ l.length },
              ((l.length - x3.val < l.length - x1.val) ∧
              ((k=k) ∧
              ((l=l) ∧
              (((↑l.length:Int)=(↑l.length:Int)) ∧
              (((↑x1.val:Int)+1=(↑x3.val:Int)) ∧
              ((shf (srtB (List.take x1.val l)) (l.getD x1.val ([],0)) x2.val).set x2.val ((l.getD x1.val ([],0)).fst,(l.getD x1.val ([],0)).snd)=srtB (List.take x3.val l)))))))))))))))))) ∧
         (¬(↑x1.val : Int) < (↑l.length : Int) →
          ((k < (↑(srtB (List.take x1.val l)).length:Int) →
            ((0 < (srtB (List.take x1.val l)).length) ∧
            ((0≤k∧k≤(↑(srtB (List.take x1.val l)).length:Int)) ∧
            ((List.take (toN (some k) (srtB (List.take x1.val l)).length - 0) (List.drop 0 (srtB (List.take x1.val l)))=bstO l k) ∧
            ((0+(toN (some k) (srtB (List.take x1.val l)).length - 0)≤(srtB (List.take x1.val l)).length) ∧
            (0=bstE l k)))))) ∧
          (¬k < (↑(srtB (List.take x1.val l)).length : Int) →
           ((srtB (List.take x1.val l)=bstO l k) ∧
           (0=bstE l k))))))))))))) ∧
    (¬isE l = 0 →
     ((bstO l k=[]) ∧
     (isE l=bstE l k))))))) (by kernel_rfl) ?_
  have rl:∀ a b:Int,0≤a→a≤b→b≤1099511627776→i64R a:=fun a b _ _ _=>by unfold i64R;omega
  refine ⟨hc1,hc2,fun he=>⟨fun h=>bst_arg he (.inl h),fun h0=>⟨fun h=>bst_arg he (.inr h),fun h1=>⟨⟨⟨0,Nat.zero_le _⟩,rfl,by show srtB []=[];simp [srtB],rfl,rfl,rfl,by show srtB []=[];simp [srtB]⟩,?_⟩⟩⟩,fun he=>bst_bad he⟩
  obtain ⟨_,hr,_⟩:=isE_zero.1 he
  rintro ⟨i,hi⟩
  dsimp only
  have hlen:(srtB (l.take i)).length=i:=by rw [(srtB_perm _).length_eq,List.length_take];omega
  refine ⟨fun h=>⟨by omega,?_,⟨⟨i,Nat.le_refl _,fun j h1 h2=>by omega⟩,rfl,by dsimp only;rw [hlen],rfl,rfl,rfl,?_,rfl,rfl,rfl⟩,?_⟩,fun h=>?_⟩
  · rw [hlen,List.length_cons,List.length_nil];omega
  · dsimp only
    have e:=shf_top (srtB (l.take i)) (l.getD i ([],0))
    rw [hlen] at e
    exact e.symm
  · rintro ⟨a,ha,hhi⟩
    dsimp only
    have hsl:(shf (srtB (l.take i)) (l.getD i ([],0)) a).length=i+1:=by rw [shf_len (by omega),hlen]
    have fin:(0 < a→¬ ((srtB (l.take i)).getD (a - 1) ([],0)).2 < (l.getD i ([],0)).2)→(shf (srtB (l.take i)) (l.getD i ([],0)) a).set a ((l.getD i ([],0)).1,(l.getD i ([],0)).2)=srtB (l.take (i+1)):=fun hlo=>by
      show (shf (srtB (l.take i)) (l.getD i ([],0)) a).set a (l.getD i ([],0))=_
      rw [shf_fin (by omega)]
      exact ins_srtB hr (by omega) ha hlo hhi
    have k4:i64R ((i:Int)+1):=by unfold i64R;omega
    have k5:i64R ((a:Int) - 1):=by unfold i64R;omega
    have last:(0 < a→¬ ((srtB (l.take i)).getD (a - 1) ([],0)).2 < (l.getD i ([],0)).2)→((0≤(a:Int)∧(a:Int) < ((shf (srtB (l.take i)) (l.getD i ([],0)) a).length:Int))∧(a < (shf (srtB (l.take i)) (l.getD i ([],0)) a).length)∧i64R ((i:Int)+1)∧∃ x3:{ i:Nat // i≤l.length },l.length - x3.val < l.length - i∧k=k∧l=l∧(l.length:Int)=(l.length:Int)∧(i:Int)+1=(x3.val:Int)∧(shf (srtB (l.take i)) (l.getD i ([],0)) a).set a ((l.getD i ([],0)).1,(l.getD i ([],0)).2)=srtB (l.take x3.val)):=fun hlo=>by
      rw [hsl]
      exact ⟨by omega,by omega,k4,⟨i+1,by omega⟩,by dsimp only;omega,rfl,rfl,rfl,rfl,fin hlo⟩
    refine ⟨fun h2=>?_,fun h2=>last fun h3=>by omega⟩
    have e:(((a:Nat):Int) - 1).toNat=a - 1:=by omega
    rw [e,shf_get (by omega) (by omega)]
    refine ⟨k5,by omega,by omega,fun h3=>?_,fun h3=>last fun _=>h3⟩
    refine ⟨k5,by omega,by omega,by omega,by omega,k5,⟨a - 1,by omega,fun j h4 h5=>?_⟩,by dsimp only;omega,rfl,by dsimp only;omega,rfl,rfl,rfl,?_,rfl,rfl,rfl⟩
    · by_cases h6:j=a - 1
      · rw [h6];exact h3
      · exact hhi j (by omega) h5
    · exact shf_step (by omega) (by omega)
  · rw [List.take_of_length_le (show l.length≤i by omega)] at hlen ⊢
    obtain ⟨b1,b2⟩:=bst_of (l:=l) (k:=k) he (by omega)
    refine ⟨fun h2=>⟨by omega,by omega,?_,?_,b2⟩,fun h2=>⟨?_,b2⟩⟩
    · rw [b1,List.drop_zero];rfl
    · show 0+(k.toNat - 0)≤_
      omega
    · rw [b1,List.take_of_length_le (by omega)]
end Go.EA
