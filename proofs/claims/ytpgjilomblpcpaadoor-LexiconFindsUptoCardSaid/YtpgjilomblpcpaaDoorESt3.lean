/- Layer 9: words in order: the stable sort of a row in its place. Conditions: none. (Printed by a program of this project's own.) -/
import Derived.Test.YtpgjilomblpcpaaDoorESt2
import Derived.KernelRfl
set_option linter.unusedVariables false
set_option linter.unusedSimpArgs false
set_option maxRecDepth 100000
set_option maxHeartbeats 0
namespace Go.EA
open F
def BlkS (l r:List Wd) (s a:Nat):Prop:=PI l r 0 l.length∧∀ p q,p < q→q < a→p / s=q / s→ltW (r.getD q ([],0)) (r.getD p ([],0))=false
def BlkM (l r:List Wd) (s a:Nat):Prop:=BlkS l r (2*s) a∧a≤l.length∧(∃ t,a=t*(2*s))∧∀ p q,a≤p→p < q→q < l.length→p / s=q / s→ltW (r.getD q ([],0)) (r.getD p ([],0))=false
theorem BlkS.step {l r r2:List Wd} {s a b:Nat} (h:BlkS l r s a) (hp:PI r r2 a b) (hs:SrtR ltW ([],0) r2 a b) (hab:a≤b) (hb:b≤l.length) (hx:∀ p q,p < a→a≤q→q < b→p / s≠q / s):BlkS l r2 s b:=by
  refine ⟨h.1.trans (hp.mono (Nat.zero_le _) hb),fun p q h1 h2 h3=>?_⟩
  rcases Nat.lt_or_ge p a with c1 | c1
  · rcases Nat.lt_or_ge q a with c2 | c2
    · rw [hp.outD (.inl c1),hp.outD (.inl c2)];exact h.2 p q h1 c2 h3
    · exact absurd h3 (hx p q c1 c2 h2)
  · exact hs p q c1 h1 h2
theorem div_lt_ge {s t p q:Nat} (h0:0 < s) (h1:p < t*s) (h2:t*s≤q):p / s≠q / s:=by
  have e1:p / s < t:=(Nat.div_lt_iff_lt_mul h0).2 h1
  have e2:t≤q / s:=(Nat.le_div_iff_mul_le h0).2 h2
  omega
theorem div_lo {s t p:Nat} (h0:0 < s) (h1:t*(2*s)≤p) (h2:p < t*(2*s)+s):p / s=2*t:=by
  have e:t*(2*s)=2*t*s:=by rw [← Nat.mul_assoc,Nat.mul_comm t 2]
  refine Nat.div_eq_of_lt_le (by omega) ?_
  rw [Nat.succ_mul];omega
theorem div_hi {s t p:Nat} (h0:0 < s) (h1:t*(2*s)+s≤p) (h2:p < t*(2*s)+2*s):p / s=2*t+1:=by
  have e:t*(2*s)=2*t*s:=by rw [← Nat.mul_assoc,Nat.mul_comm t 2]
  refine Nat.div_eq_of_lt_le ?_ ?_
  · rw [Nat.add_mul];omega
  · rw [Nat.succ_mul,Nat.add_mul];omega
theorem BlkM.lo {l r:List Wd} {s a b:Nat} (h:BlkM l r s a) (h0:0 < s) (hb:b≤l.length) (hab:b≤a+s):SrtR ltW ([],0) r a b:=by
  obtain ⟨_,_,⟨t,rfl⟩,h4⟩:=h
  exact fun p q h1 h2 h3=>h4 p q h1 h2 (by omega) (by rw [div_lo (t:=t) h0 h1 (by omega),div_lo (t:=t) h0 (by omega) (by omega)])
theorem BlkM.hi {l r:List Wd} {s a b:Nat} (h:BlkM l r s a) (h0:0 < s) (hb:b≤l.length) (hab:b≤a+2*s):SrtR ltW ([],0) r (a+s) b:=by
  obtain ⟨_,_,⟨t,rfl⟩,h4⟩:=h
  exact fun p q h1 h2 h3=>h4 p q (by omega) h2 (by omega) (by rw [div_hi (t:=t) h0 h1 (by omega),div_hi (t:=t) h0 (by omega) (by omega)])
theorem BlkM.step {l r r2:List Wd} {s a:Nat} (h:BlkM l r s a) (h0:0 < s) (hb:a+2*s≤l.length) (hp:PI r r2 a (a+2*s)) (hs:SrtR ltW ([],0) r2 a (a+2*s)):BlkM l r2 s (a+2*s):=by
  obtain ⟨h1,h2,⟨t,rfl⟩,h4⟩:=h
  refine ⟨h1.step hp hs (by omega) hb fun p q q1 q2 _=>div_lt_ge (by omega) q1 q2,hb,⟨t+1,by rw [Nat.add_mul];omega⟩,fun p q q1 q2 q3 q4=>?_⟩
  rw [hp.outD (.inr q1),hp.outD (.inr (by omega))]
  exact h4 p q (by omega) q2 q3 q4
theorem BlkM.last {l r r2:List Wd} {s a:Nat} (h:BlkM l r s a) (h0:0 < s) (hp:PI r r2 a l.length) (hs:SrtR ltW ([],0) r2 a l.length):BlkS l r2 (s*2) l.length:=by
  obtain ⟨h1,h2,⟨t,rfl⟩,h4⟩:=h
  rw [Nat.mul_comm s 2]
  exact h1.step hp hs h2 (Nat.le_refl _) fun p q q1 q2 _=>div_lt_ge (by omega) q1 q2
def M348:MRow:=⟨(List (List UInt8×Int))×Int,(.pair .str (.int .i64)),fun (l,n) o=>[.one (.osl o),.one (.int .i64 n),.one (.fn 321 [])],fun (l,n)=>l,fun (l,n)=>[n=l.length,l.length≤1099511627776],fun (l,n)=>List (List UInt8×Int),fun (l,n) y=>[PI l y 0 l.length,SrtR ltW ([],0) y 0 l.length],fun (l,n) y=>.tup [],fun (l,n) y=>y⟩
def C348:MCon:=⟨fun xs L=>match xs.map nrmV with | [.one (.osl o),.one (.int .i64 n),.one (.fn 321 [])]=>(match getO L o with | .row (.pair .str (.int .i64)) l=>some ((M348).res (l,n) o L) | _=>none) | _=>none⟩
theorem M348_fits:(M348).Fits (C348):=by
  intro xs L r h
  simp only [C348] at h
  split at h
  · rename_i o n he
    split at h
    · rename_i l hl
      cases h
      exact ⟨⟨l,n⟩,o,he,hl,rfl⟩
    · cases h
  · cases h
theorem M348_ok:(M348).Ok f348.np:=⟨fun ⟨_,_⟩ _=>All2.cons (.inr (.inl ⟨rfl,rfl⟩)) (All2.cons (.inl ⟨rfl,rfl⟩) (All2.cons (.inl ⟨rfl,rfl⟩) All2.nil)),fun ⟨_,_⟩=>rfl,fun ⟨_,_⟩ _=>rfl⟩
theorem mu348 {S:SC} (hB:SB S) (u351:MutOk S 351 C351) (u352:MutOk S 352 C352u)  (h348:S.has 348 f348):MutOk S 348 C348:=by
  refine muM hB [] [] [(351,C351),(352,C352u)] trivial trivial ⟨u351,u352,trivial⟩ h348 M348_fits M348_ok (fun (l,n)=>fun f id T L=>match f,id with
      | 348,0=>some (.inv { x:Nat×List Wd // x.1≤l.length∧BlkS l x.2 20 x.1∧x.1 % 20=0 } (fun x=>([(7,.one (.int .i64 x.1.1)),(8,.one (.int .i64 (x.1.1+20)))],[(0,.row WdT x.1.2)])) (fun x=>l.length - x.1.1))
      | 348,2=>some (.inv { x:Nat×List Wd // 20≤x.1∧x.1≤2*l.length+40∧BlkS l x.2 x.1 l.length } (fun x=>([(6,.one (.int .i64 x.1.1))],[(0,.row WdT x.1.2)])) (fun x=>2*l.length+40 - x.1.1))
      | 348,4=>match T.getD 6 .junk with | .one (.int .i64 s)=>some (.inv { x:Nat×List Wd // BlkM l x.2 s.toNat x.1 } (fun x=>([(7,.one (.int .i64 x.1.1)),(8,.one (.int .i64 (x.1.1+2*s)))],[(0,.row WdT x.1.2)])) (fun x=>l.length - x.1.1)) | _=>none
      | _,_=>none) 2000 ?_
  rintro ⟨l,n⟩ hc
  have hc1:n=l.length:=hc.1
  have hc2:l.length≤1099511627776:=hc.2.1
  refine VC.use (p:=
    ((∃ x1:{ x:Nat×List Wd // x.fst≤l.length∧BlkS l x.snd 20 x.fst∧x.fst % 20=0 },
      ((n=n) ∧
      (((20:Int)=(20:Int)) ∧
      ((0=(↑x1.val.fst:Int)) ∧
      ((20=(↑x1.val.fst:Int)+20) ∧
      (l=x1.val.snd)))))) ∧
    (∀ x1 : { x : Nat × List Wd // x.fst ≤ l.length ∧ BlkS l x.snd 20 x.fst ∧ x.fst % 20 = 0 },
     (((↑x1.val.fst:Int)+20≤n →
       ((0≤(↑x1.val.fst:Int)) ∧
       (((↑x1.val.fst:Int)≤(↑x1.val.fst:Int)+20) ∧
       (((↑x1.val.fst:Int)+20≤(↑x1.val.snd.length:Int)) ∧
       ((x1.val.snd.length≤1099511627776) ∧
       (∀ x2 : (List (List UInt8 × Int)),
        (PI x1.val.snd x2 x1.val.fst ((↑x1.val.fst : Int) + 20).toNat →
         (SrtR ltW ([], 0) x2 x1.val.fst ((↑x1.val.fst : Int) + 20).toNat →
          ((i64R ((↑x1.val.fst:Int)+20+20)) ∧
          (∃ x3 : { x : Nat × List Wd // x.fst ≤ l.length ∧ BlkS l x.snd 20 x.fst ∧ x.fst % 20 = 0 },
           ((l.length - x3.val.fst < l.length - x1.val.fst) ∧
           ((n=n) ∧
           (((20:Int)=(20:Int)) ∧
           (((↑x1.val.fst:Int)+20=(↑x3.val.fst:Int)) ∧
           (((↑x1.val.fst:Int)+20+20=(↑x3.val.fst:Int)+20) ∧
           (x2=x3.val.snd)))))))))))))))) ∧
     (¬(↑x1.val.fst : Int) + 20 ≤ n →
      ((0≤(↑x1.val.fst:Int)) ∧
      (((↑x1.val.fst:Int)≤n) ∧
      ((n≤(↑x1.val.snd.length:Int)) ∧
      ((x1.val.snd.length≤1099511627776) ∧
      (∀ x2 : (List (List UInt8 × Int)),
       (PI x1.val.snd x2 x1.val.fst n.toNat →
        (SrtR ltW ([], 0) x2 x1.val.fst n.toNat →
         ((∃ x3:{ x:Nat×List Wd // 20≤x.fst∧x.fst≤2*l.length+40∧BlkS l x.snd x.fst l.length },
           ((n=n) ∧
           ((20=(↑x3.val.fst:Int)) ∧
           (x2=x3.val.snd)))) ∧
         (∀ x3 : { x : Nat × List Wd // 20 ≤ x.fst ∧ x.fst ≤ 2 * l.length + 40 ∧ BlkS l x.snd x.fst l.length },
          (((↑x3.val.fst:Int) < n →
            ((i64R (2*(↑x3.val.fst:Int))) ∧
            ((∃ x4:{ x:Nat×List Wd // BlkM l x.snd x3.val.fst x.fst },
              ((n=n) ∧
              (((↑x3.val.fst:Int)=(↑x3.val.fst:Int)) ∧
              ((0=(↑x4.val.fst:Int)) ∧
              ((2*(↑x3.val.fst:Int)=(↑x4.val.fst:Int)+2*(↑x3.val.fst:Int)) ∧
              (x3.val.snd=x4.val.snd)))))) ∧
            (∀ x4 : { x : Nat × List Wd // BlkM l x.snd x3.val.fst x.fst },
             (((↑x4.val.fst:Int)+2*(↑x3.val.fst:Int)≤n →
               ((i64R ((↑x4.val.fst:Int)+(↑x3.val.fst:Int))) ∧
               ((0≤(↑x4.val.fst:Int)) ∧
               (((↑x4.val.fst:Int) < (↑x4.val.fst:Int)+(↑x3.val.fst:Int)) ∧
               (((↑x4.val.fst:Int)+(↑x3.val.fst:Int) < (↑x4.val.fst:Int)+2*(↑x3.val.fst:Int)) ∧
               (((↑x4.val.fst:Int)+2*(↑x3.val.fst:Int)≤(↑x4.val.snd.length:Int)) ∧
               ((x4.val.snd.length≤1099511627776) ∧
               ((SrtR ltW ([],0) x4.val.snd x4.val.fst ((↑x4.val.fst:Int)+(↑x3.val.fst:Int)).toNat) ∧
               ((SrtR ltW ([],0) x4.val.snd ((↑x4.val.fst:Int)+(↑x3.val.fst:Int)).toNat ((↑x4.val.fst:Int)+2*(↑x3.val.fst:Int)).toNat) ∧
               (∀ x5 : (List (List UInt8 × Int)),
                (PI x4.val.snd x5 x4.val.fst ((↑x4.val.fst : Int) + 2 * (↑x3.val.fst : Int)).toNat →
                 (SrtR ltW ([], 0) x5 x4.val.fst ((↑x4.val.fst : Int) + 2 * (↑x3.val.fst : Int)).toNat →
                  ((i64R (2*(↑x3.val.fst:Int))) ∧
                  ((i64R ((↑x4.val.fst:Int)+2*(↑x3.val.fst:Int)+2*(↑x3.val.fst:Int))) ∧
                  (∃ x6 : { x : Nat × List Wd // BlkM l x.snd x3.val.fst x.fst },
                   ((l.length - x6.val.fst < l.length - x4.val.fst) ∧
                   ((n=n) ∧
                   (((↑x3.val.fst:Int)=(↑x3.val.fst:Int)) ∧
                   (((↑x4.val.fst:Int)+2*(↑x3.val.fst:Int)=(↑x6.val.fst:Int)) ∧
                   (((↑x4.val.fst:Int)+2*(↑x3.val.fst:Int)+2*(↑x3.val.fst:Int)=(↑x6.val.fst:Int)+2*(↑x3.val.fst:Int)) ∧
                   (x5=x6.val.snd))))))))))))))))))))) ∧
             (¬(↑x4.val.fst : Int) + 2 * (↑x3.val.fst : Int) ≤ n →
              ((i64R ((↑x4.val.fst:Int)+(↑x3.val.fst:Int))) ∧
              (((↑x4.val.fst:Int)+(↑x3.val.fst:Int) < n →
                ((0≤(↑x4.val.fst:Int)) ∧
                (((↑x4.val.fst:Int) < (↑x4.val.fst:Int)+(↑x3.val.fst:Int)) ∧
                (((↑x4.val.fst:Int)+(↑x3.val.fst:Int) < n) ∧
                ((n≤(↑x4.val.snd.length:Int)) ∧
                ((x4.val.snd.length≤1099511627776) ∧
                ((SrtR ltW ([],0) x4.val.snd x4.val.fst ((↑x4.val.fst:Int)+(↑x3.val.fst:Int)).toNat) ∧
                ((SrtR ltW ([],0) x4.val.snd ((↑x4.val.fst:Int)+(↑x3.val.fst:Int)).toNat n.toNat) ∧
                (∀ x5 : (List (List UInt8 × Int)),
                 (PI x4.val.snd x5 x4.val.fst n.toNat →
                  (SrtR ltW ([], 0) x5 x4.val.fst n.toNat →
                   ((i64R ((↑x3.val.fst:Int)*2)) ∧
                   (∃ x6 : { x : Nat × List Wd // 20 ≤ x.fst ∧ x.fst ≤ 2 * l.length + 40 ∧ BlkS l x.snd x.fst l.length },
                    ((2*l.length+40 - x6.val.fst < 2*l.length+40 - x3.val.fst) ∧
                    ((n=n) ∧
                    (((↑x3.val.fst:Int)*2=(↑x6.val.fst:Int)) ∧
                    (x5=x6.val.snd))))))))))))))))) ∧
              (¬(↑x4.val.fst : Int) + (↑x3.val.fst : Int) < n →
               ((i64R ((↑x3.val.fst:Int)*2)) ∧
               (∃ x5 : { x : Nat × List Wd // 20 ≤ x.fst ∧ x.fst ≤ 2 * l.length + 40 ∧ BlkS l x.snd x.fst l.length },
                ((2*l.length+40 - x5.val.fst < 2*l.length+40 - x3.val.fst) ∧
                ((n=n) ∧
                (((↑x3.val.fst:Int)*2=(↑x5.val.fst:Int)) ∧
                (x4.val.snd=x5.val.snd))))))))))))))) ∧
          (¬(↑x3.val.fst : Int) < n →
           (∃ x4 : List (List UInt8 × Int),
            ((PI l x4 0 l.length) ∧
            ((SrtR ltW ([],0) x4 0 l.length) ∧
            (x3.val.snd=x4)))))))))))))))))))) (by kernel_rfl) ?_
  subst hc1
  clear hc
  refine ⟨⟨⟨(0,l),Nat.zero_le _,⟨PI.refl,fun p q _ h=>by omega⟩,by trivial⟩,by trivial,by trivial,by trivial,by trivial,by trivial⟩,?_⟩
  rintro ⟨⟨a,r⟩,ha,hb,hm⟩
  dsimp only at ha hb hm ⊢
  have hl:=hb.1.len
  have e0:((a:Int)+20).toNat=a+20:=by omega
  simp only [e0,Int.toNat_natCast]
  refine ⟨fun h=>⟨by omega,by omega,by omega,by omega,fun y y1 y2=>⟨by unfold i64R;omega,⟨(a+20,y),by dsimp only;omega,hb.step y1 y2 (by omega) (by omega) fun p q _ _ _=>by omega,by dsimp only;omega⟩,by dsimp only;omega,by trivial,by trivial,by dsimp only;omega,by dsimp only;omega,by trivial⟩⟩,fun h=>⟨by omega,by omega,by omega,by omega,fun y y1 y2=>⟨⟨⟨(20,y),Nat.le_refl _,by dsimp only;omega,hb.step y1 y2 (by omega) (Nat.le_refl _) fun p q _ _ _=>by omega⟩,by trivial,by trivial,by trivial⟩,?_⟩⟩⟩
  rintro ⟨⟨s,r⟩,hs,hs2,hb⟩
  dsimp only at hs hs2 hb ⊢
  refine ⟨fun h=>⟨by unfold i64R;omega,⟨⟨(0,r),⟨⟨hb.1,fun p q _ h=>by dsimp only at h;omega⟩,Nat.zero_le _,⟨0,by simp⟩,fun p q _ h1 h2 h3=>hb.2 p q h1 h2 h3⟩⟩,by trivial,by trivial,by trivial,by dsimp only;omega,by trivial⟩,?_⟩,fun h=>?_⟩
  · rintro ⟨⟨a,r⟩,hM⟩
    dsimp only at hM ⊢
    have hl:=hM.1.1.len
    have hal:=hM.2.1
    have e1:((a:Int)+s).toNat=a+s:=by omega
    have e2:((a:Int)+2*s).toNat=a+2*s:=by omega
    simp only [e1,e2,hl]
    refine ⟨fun h1=>⟨by unfold i64R;omega,by omega,by omega,by omega,by omega,by omega,hM.lo (by omega) (by omega) (by omega),hM.hi (by omega) (by omega) (by omega),fun y y1 y2=>⟨by unfold i64R;omega,by unfold i64R;omega,⟨(a+2*s,y),hM.step (by omega) (by omega) y1 y2⟩,by dsimp only;omega,by trivial,by trivial,by dsimp only;omega,by dsimp only;omega,by trivial⟩⟩,fun h1=>⟨by unfold i64R;omega,fun h2=>⟨by omega,by omega,by omega,by omega,by omega,hM.lo (by omega) (by omega) (by omega),hM.hi (by omega) (Nat.le_refl _) (by omega),fun y y1 y2=>⟨by unfold i64R;omega,⟨(s*2,y),by dsimp only;omega,by dsimp only;omega,hM.last (by omega) y1 y2⟩,by dsimp only;omega,by trivial,by dsimp only;omega,by trivial⟩⟩,fun h2=>⟨by unfold i64R;omega,⟨(s*2,r),by dsimp only;omega,by dsimp only;omega,hM.last (by omega) PI.refl (hM.lo (by omega) (Nat.le_refl _) (by omega))⟩,by dsimp only;omega,by trivial,by dsimp only;omega,by trivial⟩⟩⟩
  · refine ⟨r,hb.1,fun p q _ h1 h2=>hb.2 p q h1 h2 ?_,by trivial⟩
    rw [Nat.div_eq_of_lt (by omega),Nat.div_eq_of_lt (by omega)]
end Go.EA
