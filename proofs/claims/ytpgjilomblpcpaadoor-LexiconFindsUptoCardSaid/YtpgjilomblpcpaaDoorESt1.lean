/- Layer 9: words in order: exchanges, rotations, insertions, merges of a row in its place. Conditions: none. (Printed by a program of this project's own.) -/
import Derived.Test.YtpgjilomblpcpaaDoorEAf9
import Derived.Test.YtpgjilomblpcpaaDoorECs
import Derived.Test.YtpgjilomblpcpaaDoorESrt
import Derived.Test.YtpgjilomblpcpaaDoorEK9
import Derived.KernelRfl
set_option linter.unusedVariables false
set_option linter.unusedSimpArgs false
set_option maxRecDepth 100000
set_option maxHeartbeats 0
namespace Go.EA
open F
theorem sl_irr:∀ (a:List UInt8),sless a a=false
  | []=>rfl
  | x::a=>by
    show (decide (x < x)||(x == x&&sless a a))=false
    rw [sl_irr a];simp
theorem sl_nil (a:List UInt8):sless a []=false:=by cases a <;> rfl
theorem sl_cons (x y:UInt8) (a b:List UInt8):sless (x::a) (y::b)=true↔x < y∨x=y∧sless a b=true:=by
  show (decide (x < y)||(x == y&&Op.bytesLess a b))=true↔_
  simp
theorem sl_trans:∀ {a b c:List UInt8},sless a b=true→sless b c=true→sless a c=true
  | _,_,[],_,h=>by rw [sl_nil] at h;cases h
  | [],_,_::_,_,_=>rfl
  | _::_,[],_::_,h,_=>by rw [sl_nil] at h;cases h
  | x::a,y::b,z::c,h,h'=>by
    rw [sl_cons] at *
    rcases h with h | ⟨rfl,h⟩
    · rcases h' with h' | ⟨rfl,h'⟩
      · exact .inl (UInt8.lt_trans h h')
      · exact .inl h
    · rcases h' with h' | ⟨rfl,h'⟩
      · exact .inl h'
      · exact .inr ⟨rfl,sl_trans h h'⟩
theorem sl_tot:∀ (a b:List UInt8),sless a b=true∨a=b∨sless b a=true
  | [],[]=>.inr (.inl rfl)
  | [],_::_=>.inl rfl
  | _::_,[]=>.inr (.inr rfl)
  | x::a,y::b=>by
    rw [sl_cons,sl_cons]
    rcases Nat.lt_trichotomy x.toNat y.toNat with h | h | h
    · exact .inl (.inl h)
    · have:=UInt8.toNat_inj.1 h
      subst this
      rcases sl_tot a b with h | rfl | h
      · exact .inl (.inr ⟨rfl,h⟩)
      · exact .inr (.inl rfl)
      · exact .inr (.inr (.inr ⟨rfl,h⟩))
    · exact .inr (.inr (.inl h))
theorem sl_asy {a b:List UInt8} (h:sless a b=true):sless b a=false:=by
  cases h1:sless b a
  · rfl
  · have:=sl_trans h h1;rw [sl_irr] at this;cases this
theorem sl_ne {a b:List UInt8} (h:sless a b=true):a≠b:=by rintro rfl;rw [sl_irr] at h;cases h
abbrev Wd:Type:=List UInt8×Int
abbrev WdT:Ty:=.pair .str (.int .i64)
def ltW (a b:Wd):Bool:=sless a.1 b.1
theorem cmp_lt (a b:List UInt8):cmpS a b < 0↔sless a b=true:=by
  unfold cmpS
  split
  · rename_i h;exact ⟨fun _=>h,fun _=>by decide⟩
  · rename_i h
    split
    · exact ⟨fun h=>absurd h (by decide),fun h'=>absurd h' h⟩
    · exact ⟨fun h=>absurd h (by decide),fun h'=>absurd h' h⟩
theorem sl_ntr (x y z:List UInt8) (h1:sless x y=false) (h2:sless y z=false):sless x z=false:=by
  cases h:sless x z with
  | false=>rfl
  | true=>
    exfalso
    rcases sl_tot x y with h3 | h3 | h3
    · rw [h3] at h1;cases h1
    · subst h3;rw [h2] at h;cases h
    · have:=sl_trans h3 h;rw [this] at h2;cases h2
theorem ltW_swo:SWo ltW:=⟨fun x=>sl_irr x.1,fun x y z=>sl_ntr x.1 y.1 z.1,fun x y h=>sl_asy h⟩
theorem ltW_iff (a b:Wd):cmpS a.1 b.1 < 0↔ltW a b=true:=cmp_lt _ _
theorem ltW_niff (a b:Wd):¬ cmpS a.1 b.1 < 0↔ltW a b=false:=by rw [ltW_iff];simp
def P321:List UInt8×Int×List UInt8×Int→List SV:=fun (a0,a1,b0,b1)=>[.agg [.str a0,.int .i64 a1],.agg [.str b0,.int .i64 b1]]
def R321:List UInt8×Int×List UInt8×Int→SV×List Prop:=fun (a0,a1,b0,b1)=>(.one (.int .i64 (cmpS a0 b0)),[])
def K321:Con:=⟨true,[none,none],fun xs=>match xs with | [.agg [.str a0,.int .i64 a1],.agg [.str b0,.int .i64 b1]]=>some (R321 (a0,a1,b0,b1)) | _=>none⟩
noncomputable def G321:GP:=conG P321 R321
theorem P321_inj:∀ a b,(P321 a).map den0=(P321 b).map den0→a=b:=by
  rintro ⟨a0,a1,a2,a3⟩ ⟨b0,b1,b2,b3⟩ h
  simp only [P321,List.map_cons,List.map_nil,den0,den0L,List.cons.injEq,AV.one.injEq,AV.agg.injEq,Lf.int.injEq,Lf.str.injEq,Lf.bool.injEq,Lf.vrow.injEq,and_true,true_and,and_assoc] at h
  obtain ⟨h0,h1,h2,h3⟩:=h
  subst h0 h1 h2 h3
  rfl
theorem K321_ok:ConG G321 K321:=conG_of P321_inj (fun ⟨_,_,_,_⟩ ⟨_,_,_,_⟩=>rfl) (fun ⟨_,_,_,_⟩=>rfl) fun xs r h=>by
  simp only [K321] at h
  split at h
  · cases h;rename_i a0 a1 b0 b1;exact ⟨(a0,a1,b0,b1),rfl,rfl⟩
  · cases h
theorem pr321 {S:SC} (hB:SB S) (q252:PrOk S 252 (pureP G252)) (h321:S.has 321 f321):PrOk S 321 (pureP G321):=by
  refine prM hB [] [⟨252,G252,K252⟩] trivial ⟨⟨q252,K252_ok⟩,trivial⟩ h321 (fun ⟨a0,a1,b0,b1⟩=>⟨rfl,rfl,rfl⟩) (fun (a0,a1,b0,b1)=>fun _ _ _ _=>none) 400 ?_
  rintro ⟨a0,a1,b0,b1⟩ hc
  refine VC.use (p:=
    (cmpS a0 b0=cmpS a0 b0)) (by kernel_rfl) ?_
  rfl
def M368:MRow:=⟨(List (List UInt8×Int))×Int×Int×Int,(.pair .str (.int .i64)),fun (l,a,b,n) o=>[.one (.osl o),.one (.int .i64 a),.one (.int .i64 b),.one (.int .i64 n),.one (.fn 321 [])],fun (l,a,b,n)=>l,fun (l,a,b,n)=>[0≤a,0≤n,a+n≤b,b+n≤l.length,l.length≤1099511627776],fun (l,a,b,n)=>List (List UInt8×Int),fun (l,a,b,n) y=>[y=swapR l ([],0) a.toNat b.toNat n.toNat],fun (l,a,b,n) y=>.tup [],fun (l,a,b,n) y=>y⟩
def C368:MCon:=⟨fun xs L=>match xs.map nrmV with | [.one (.osl o),.one (.int .i64 a),.one (.int .i64 b),.one (.int .i64 n),.one (.fn 321 [])]=>(match getO L o with | .row (.pair .str (.int .i64)) l=>some ((M368).res (l,a,b,n) o L) | _=>none) | _=>none⟩
theorem M368_fits:(M368).Fits (C368):=by
  intro xs L r h
  simp only [C368] at h
  split at h
  · rename_i o a b n he
    split at h
    · rename_i l hl
      cases h
      exact ⟨⟨l,a,b,n⟩,o,he,hl,rfl⟩
    · cases h
  · cases h
theorem M368_ok:(M368).Ok f368.np:=⟨fun ⟨_,_,_,_⟩ _=>All2.cons (.inr (.inl ⟨rfl,rfl⟩)) (All2.cons (.inl ⟨rfl,rfl⟩) (All2.cons (.inl ⟨rfl,rfl⟩) (All2.cons (.inl ⟨rfl,rfl⟩) (All2.cons (.inl ⟨rfl,rfl⟩) All2.nil)))),fun ⟨_,_,_,_⟩=>rfl,fun ⟨_,_,_,_⟩ _=>rfl⟩
theorem mu368 {S:SC} (hB:SB S)  (h368:S.has 368 f368):MutOk S 368 C368:=by
  refine muM hB [] [] [] trivial trivial trivial h368 M368_fits M368_ok (fun (l,a,b,n)=>fun f id T L=>match f,id with
      | 368,0=>some (.inv { i:Nat // i≤n.toNat } (fun x=>([(10,.one (.int .i64 x.1))],[(0,.row WdT (swapR l ([],0) a.toNat b.toNat x.1))])) (fun x=>n.toNat - x.1))
      | _,_=>none) 400 ?_
  rintro ⟨l,a,b,n⟩ hc
  have hc1:0≤a:=hc.1
  have hc2:0≤n:=hc.2.1
  have hc3:a+n≤b:=hc.2.2.1
  have hc4:b+n≤l.length:=hc.2.2.2.1
  have hc5:l.length≤1099511627776:=hc.2.2.2.2.1
  refine VC.use (p:=
    ((∃ x1:{ i:Nat // i≤n.toNat },
      ((a=a) ∧
      ((b=b) ∧
      ((n=n) ∧
      ((0=(↑x1.val:Int)) ∧
      (l=swapR l ([],0) a.toNat b.toNat x1.val)))))) ∧
    (∀ x1 : { i : Nat // i ≤ n.toNat },
     (((↑x1.val:Int) < n →
       ((i64R (a+(↑x1.val:Int))) ∧
       ((i64R (b+(↑x1.val:Int))) ∧
       ((i64R (b+(↑x1.val:Int))) ∧
       ((0≤b+(↑x1.val:Int)∧b+(↑x1.val:Int) < (↑(swapR l ([],0) a.toNat b.toNat x1.val).length:Int)) ∧
       (((b+(↑x1.val:Int)).toNat < (swapR l ([],0) a.toNat b.toNat x1.val).length) ∧
       ((i64R (a+(↑x1.val:Int))) ∧
       ((0≤a+(↑x1.val:Int)∧a+(↑x1.val:Int) < (↑(swapR l ([],0) a.toNat b.toNat x1.val).length:Int)) ∧
       (((a+(↑x1.val:Int)).toNat < (swapR l ([],0) a.toNat b.toNat x1.val).length) ∧
       ((0≤a+(↑x1.val:Int)∧a+(↑x1.val:Int) < (↑(swapR l ([],0) a.toNat b.toNat x1.val).length:Int)) ∧
       (((a+(↑x1.val:Int)).toNat < (swapR l ([],0) a.toNat b.toNat x1.val).length) ∧
       ((0≤b+(↑x1.val:Int)∧b+(↑x1.val:Int) < (↑((swapR l ([],0) a.toNat b.toNat x1.val).set (a+(↑x1.val:Int)).toNat (((swapR l ([],0) a.toNat b.toNat x1.val).getD (b+(↑x1.val:Int)).toNat ([],0)).fst,((swapR l ([],0) a.toNat b.toNat x1.val).getD (b+(↑x1.val:Int)).toNat ([],0)).snd)).length:Int)) ∧
       (((b+(↑x1.val:Int)).toNat < ((swapR l ([],0) a.toNat b.toNat x1.val).set (a+(↑x1.val:Int)).toNat (((swapR l ([],0) a.toNat b.toNat x1.val).getD (b+(↑x1.val:Int)).toNat ([],0)).fst,((swapR l ([],0) a.toNat b.toNat x1.val).getD (b+(↑x1.val:Int)).toNat ([],0)).snd)).length) ∧
       ((i64R ((↑x1.val:Int)+1)) ∧
       (∃ x2 : { i : Nat // i ≤ n.toNat },
        ((n.toNat - x2.val < n.toNat - x1.val) ∧
        ((a=a) ∧
        ((b=b) ∧
        ((n=n) ∧
        (((↑x1.val:Int)+1=(↑x2.val:Int)) ∧
        (((swapR l ([],0) a.toNat b.toNat x1.val).set (a+(↑x1.val:Int)).toNat (((swapR l ([],0) a.toNat b.toNat x1.val).getD (b+(↑x1.val:Int)).toNat ([],0)).fst,((swapR l ([],0) a.toNat b.toNat x1.val).getD (b+(↑x1.val:Int)).toNat ([],0)).snd)).set (b+(↑x1.val:Int)).toNat (((swapR l ([],0) a.toNat b.toNat x1.val).getD (a+(↑x1.val:Int)).toNat ([],0)).fst,((swapR l ([],0) a.toNat b.toNat x1.val).getD (a+(↑x1.val:Int)).toNat ([],0)).snd)=swapR l ([],0) a.toNat b.toNat x2.val))))))))))))))))))))) ∧
     (¬(↑x1.val : Int) < n →
      (∃ x2 : List (List UInt8 × Int),
       ((x2=swapR l ([],0) a.toNat b.toNat n.toNat) ∧
       (swapR l ([],0) a.toNat b.toNat x1.val=x2)))))))) (by kernel_rfl) ?_
  have ea:∀ i:Nat,(a+(i:Int)).toNat=a.toNat+i:=fun i=>by omega
  have eb:∀ i:Nat,(b+(i:Int)).toNat=b.toNat+i:=fun i=>by omega
  refine ⟨⟨⟨0,by omega⟩,rfl,rfl,rfl,rfl,rfl⟩,?_⟩
  rintro ⟨i,hi⟩
  dsimp only at hi ⊢
  simp only [ea,eb,List.length_set,swapR_len]
  refine ⟨fun h=>?_,fun h=>?_⟩
  · repeat' apply And.intro
    all_goals first | omega | (unfold i64R;omega) | skip
    exact ⟨⟨i+1,by omega⟩,by dsimp only;omega,trivial,trivial,trivial,by push_cast;rfl,rfl⟩
  · obtain rfl:i=n.toNat:=by omega
    exact ⟨_,rfl,rfl⟩
structure RotI (l:List Wd) (a m b i j:Nat) (r:List Wd):Prop where
  i0:0 < i
  j0:0 < j
  im:i≤m - a
  jb:m+j≤b
  len:r.length=l.length
  eq:rotL r (m - i) m (m+j)=rotL l a m b
def M362:MRow:=⟨(List (List UInt8×Int))×Int×Int×Int,(.pair .str (.int .i64)),fun (l,a,m,b) o=>[.one (.osl o),.one (.int .i64 a),.one (.int .i64 m),.one (.int .i64 b),.one (.fn 321 [])],fun (l,a,m,b)=>l,fun (l,a,m,b)=>[0≤a,a < m,m < b,b≤l.length,l.length≤1099511627776],fun (l,a,m,b)=>List (List UInt8×Int),fun (l,a,m,b) y=>[y=rotL l a.toNat m.toNat b.toNat],fun (l,a,m,b) y=>.tup [],fun (l,a,m,b) y=>y⟩
def C362:MCon:=⟨fun xs L=>match xs.map nrmV with | [.one (.osl o),.one (.int .i64 a),.one (.int .i64 m),.one (.int .i64 b),.one (.fn 321 [])]=>(match getO L o with | .row (.pair .str (.int .i64)) l=>some ((M362).res (l,a,m,b) o L) | _=>none) | _=>none⟩
theorem M362_fits:(M362).Fits (C362):=by
  intro xs L r h
  simp only [C362] at h
  split at h
  · rename_i o a m b he
    split at h
    · rename_i l hl
      cases h
      exact ⟨⟨l,a,m,b⟩,o,he,hl,rfl⟩
    · cases h
  · cases h
theorem M362_ok:(M362).Ok f362.np:=⟨fun ⟨_,_,_,_⟩ _=>All2.cons (.inr (.inl ⟨rfl,rfl⟩)) (All2.cons (.inl ⟨rfl,rfl⟩) (All2.cons (.inl ⟨rfl,rfl⟩) (All2.cons (.inl ⟨rfl,rfl⟩) (All2.cons (.inl ⟨rfl,rfl⟩) All2.nil)))),fun ⟨_,_,_,_⟩=>rfl,fun ⟨_,_,_,_⟩ _=>rfl⟩
theorem mu362 {S:SC} (hB:SB S) (u368:MutOk S 368 C368)  (h362:S.has 362 f362):MutOk S 362 C362:=by
  refine muM hB [] [] [(368,C368)] trivial trivial ⟨u368,trivial⟩ h362 M362_fits M362_ok (fun (l,a,m,b)=>fun f id T L=>match f,id with
      | 362,0=>some (.inv { x:Nat×Nat×List Wd // RotI l a.toNat m.toNat b.toNat x.1 x.2.1 x.2.2 } (fun x=>([(10,.one (.int .i64 x.1.1)),(11,.one (.int .i64 x.1.2.1))],[(0,.row WdT x.1.2.2)])) (fun x=>x.1.1+x.1.2.1))
      | _,_=>none) 400 ?_
  rintro ⟨l,a,m,b⟩ hc
  have hc1:0≤a:=hc.1
  have hc2:a < m:=hc.2.1
  have hc3:m < b:=hc.2.2.1
  have hc4:b≤l.length:=hc.2.2.2.1
  have hc5:l.length≤1099511627776:=hc.2.2.2.2.1
  refine VC.use (p:=
    ((i64R (m - a)) ∧
    ((i64R (b - m)) ∧
    ((∃ x1:{ x:Nat×Nat×List Wd // RotI l a.toNat m.toNat b.toNat x.fst x.snd.fst x.snd.snd },
      ((m=m) ∧
      ((m - a=(↑x1.val.fst:Int)) ∧
      ((b - m=(↑x1.val.snd.fst:Int)) ∧
      (l=x1.val.snd.snd))))) ∧
    (∀ x1 : { x : Nat × Nat × List Wd // RotI l a.toNat m.toNat b.toNat x.fst x.snd.fst x.snd.snd },
     (((↑x1.val.fst:Int)=(↑x1.val.snd.fst:Int) →
       ((i64R (m - (↑x1.val.fst:Int))) ∧
       ((0≤m - (↑x1.val.fst:Int)) ∧
       ((0≤(↑x1.val.fst:Int)) ∧
       ((m - (↑x1.val.fst:Int)+(↑x1.val.fst:Int)≤m) ∧
       ((m+(↑x1.val.fst:Int)≤(↑x1.val.snd.snd.length:Int)) ∧
       ((x1.val.snd.snd.length≤1099511627776) ∧
       (∀ x2 : (List (List UInt8 × Int)),
        (x2 = swapR x1.val.snd.snd ([], 0) (m - (↑x1.val.fst : Int)).toNat m.toNat x1.val.fst →
         (∃ x3 : List (List UInt8 × Int),
          ((x3=rotL l a.toNat m.toNat b.toNat) ∧
          (x2=x3)))))))))))) ∧
     (¬(↑x1.val.fst : Int) = (↑x1.val.snd.fst : Int) →
      (((↑x1.val.snd.fst:Int) < (↑x1.val.fst:Int) →
        ((i64R (m - (↑x1.val.fst:Int))) ∧
        ((0≤m - (↑x1.val.fst:Int)) ∧
        ((0≤(↑x1.val.snd.fst:Int)) ∧
        ((m - (↑x1.val.fst:Int)+(↑x1.val.snd.fst:Int)≤m) ∧
        ((m+(↑x1.val.snd.fst:Int)≤(↑x1.val.snd.snd.length:Int)) ∧
        ((x1.val.snd.snd.length≤1099511627776) ∧
        (∀ x2 : (List (List UInt8 × Int)),
         (x2 = swapR x1.val.snd.snd ([], 0) (m - (↑x1.val.fst : Int)).toNat m.toNat x1.val.snd.fst →
          ((i64R ((↑x1.val.fst:Int) - (↑x1.val.snd.fst:Int))) ∧
          (∃ x3 : { x : Nat × Nat × List Wd // RotI l a.toNat m.toNat b.toNat x.fst x.snd.fst x.snd.snd },
           ((x3.val.fst+x3.val.snd.fst < x1.val.fst+x1.val.snd.fst) ∧
           ((m=m) ∧
           (((↑x1.val.fst:Int) - (↑x1.val.snd.fst:Int)=(↑x3.val.fst:Int)) ∧
           (((↑x1.val.snd.fst:Int)=(↑x3.val.snd.fst:Int)) ∧
           (x2=x3.val.snd.snd)))))))))))))))) ∧
      (¬(↑x1.val.snd.fst : Int) < (↑x1.val.fst : Int) →
       ((i64R (m - (↑x1.val.fst:Int))) ∧
       ((i64R (m+(↑x1.val.snd.fst:Int))) ∧
       ((i64R (m+(↑x1.val.snd.fst:Int) - (↑x1.val.fst:Int))) ∧
       ((0≤m - (↑x1.val.fst:Int)) ∧
       ((0≤(↑x1.val.fst:Int)) ∧
       ((m - (↑x1.val.fst:Int)+(↑x1.val.fst:Int)≤m+(↑x1.val.snd.fst:Int) - (↑x1.val.fst:Int)) ∧
       ((m+(↑x1.val.snd.fst:Int) - (↑x1.val.fst:Int)+(↑x1.val.fst:Int)≤(↑x1.val.snd.snd.length:Int)) ∧
       ((x1.val.snd.snd.length≤1099511627776) ∧
       (∀ x2 : (List (List UInt8 × Int)),
        (x2 = swapR x1.val.snd.snd ([], 0) (m - (↑x1.val.fst : Int)).toNat (m + (↑x1.val.snd.fst : Int) - (↑x1.val.fst : Int)).toNat x1.val.fst →
         ((i64R ((↑x1.val.snd.fst:Int) - (↑x1.val.fst:Int))) ∧
         (∃ x3 : { x : Nat × Nat × List Wd // RotI l a.toNat m.toNat b.toNat x.fst x.snd.fst x.snd.snd },
          ((x3.val.fst+x3.val.snd.fst < x1.val.fst+x1.val.snd.fst) ∧
          ((m=m) ∧
          (((↑x1.val.fst:Int)=(↑x3.val.fst:Int)) ∧
          (((↑x1.val.snd.fst:Int) - (↑x1.val.fst:Int)=(↑x3.val.snd.fst:Int)) ∧
          (x2=x3.val.snd.snd)))))))))))))))))))))))))) (by kernel_rfl) ?_
  refine ⟨by unfold i64R;omega,by unfold i64R;omega,⟨⟨((m - a).toNat,(b - m).toNat,l),by dsimp only;omega,by dsimp only;omega,by dsimp only;omega,by dsimp only;omega,rfl,by dsimp only;rw [show m.toNat - (m - a).toNat=a.toNat by omega,show m.toNat+(b - m).toNat=b.toNat by omega]⟩,rfl,by dsimp only;omega,by dsimp only;omega,rfl⟩,?_⟩
  rintro ⟨⟨i,j,r⟩,⟨i0,j0,im,jb,hl,he⟩⟩
  dsimp only at i0 j0 im jb hl he ⊢
  have e1:(m - (i:Int)).toNat=m.toNat - i:=by omega
  have e2:(m+(j:Int) - (i:Int)).toNat=m.toNat+j - i:=by omega
  rw [e1,e2,hl]
  refine ⟨fun h=>?_,fun h=>⟨fun h2=>?_,fun h2=>?_⟩⟩
  · have hij:i=j:=by omega
    subst hij
    refine ⟨by unfold i64R;omega,by omega,by omega,by omega,by omega,by omega,?_⟩
    rintro y rfl
    exact ⟨_,rfl,by rw [rot_eq (by omega) (by omega)];exact he⟩
  · refine ⟨by unfold i64R;omega,by omega,by omega,by omega,by omega,by omega,?_⟩
    rintro y rfl
    refine ⟨by unfold i64R;omega,⟨⟨(i - j,j,swapR r ([],0) (m.toNat - i) m.toNat j),by dsimp only;omega,j0,by dsimp only;omega,jb,by dsimp only;rw [swapR_len,hl],by dsimp only;rw [rot_gt j0 (by omega) (by omega) (by omega)];exact he⟩,by dsimp only;omega,rfl,by dsimp only;omega,rfl,rfl⟩⟩
  · refine ⟨by unfold i64R;omega,by unfold i64R;omega,by unfold i64R;omega,by omega,by omega,by omega,by omega,by omega,?_⟩
    rintro y rfl
    refine ⟨by unfold i64R;omega,⟨⟨(i,j - i,swapR r ([],0) (m.toNat - i) (m.toNat+j - i) i),i0,by dsimp only;omega,im,by dsimp only;omega,by dsimp only;rw [swapR_len,hl],by dsimp only;rw [rot_lt i0 (by omega) (by omega) (by omega)];exact he⟩,by dsimp only;omega,rfl,rfl,by dsimp only;omega,rfl⟩⟩
structure InsI (l:List Wd) (a b i j:Nat) (r:List Wd):Prop where
  aj:a≤j
  ji:j≤i
  pi:PI l r a b
  srt:∀ p q,a≤p→p < q→q≤i→q≠j→ltW (r.getD q ([],0)) (r.getD p ([],0))=false
theorem InsI.done {l r:List Wd} {a b i j:Nat} (h:InsI l a b i j r) (hi:i < b) (hj:j=a∨ltW (r.getD j ([],0)) (r.getD (j - 1) ([],0))=false):PI l r a b∧SrtR ltW ([],0) r a (i+1):=by
  refine ⟨h.pi,fun p q h1 h2 h3=>?_⟩
  by_cases e:q=j
  · subst e
    rcases hj with hj | hj
    · omega
    · rcases Nat.lt_or_ge p (q - 1) with c | c
      · exact ltW_swo.ntr _ _ _ hj (h.srt p (q - 1) h1 c (by have:=h.ji;omega) (by omega))
      · rw [show p=q - 1 by omega];exact hj
  · exact h.srt p q h1 h2 (by omega) e
theorem InsI.step {l r:List Wd} {a b i j:Nat} (h:InsI l a b i j r) (hi:i < b) (hb:b≤l.length) (hj:a < j) (hlt:ltW (r.getD j ([],0)) (r.getD (j - 1) ([],0))=true):InsI l a b i (j - 1) (swpL r ([],0) j (j - 1)):=by
  have hji:=h.ji
  have hl:=h.pi.len
  refine ⟨by omega,by omega,h.pi.trans (swpL_PI (by omega) (by omega) (by omega)),fun p q h1 h2 h3 h4=>?_⟩
  have g:=fun p=>swpL_get (l:=r) (d:=(([],0):Wd)) (i:=j) (j:=j - 1) (p:=p) (by omega) (by omega)
  rw [g,g,if_neg h4]
  by_cases e:q=j
  · rw [if_pos e]
    by_cases e1:p=j - 1
    · rw [if_pos e1];exact ltW_swo.asy _ _ hlt
    · rw [if_neg e1,if_neg (by omega)]
      exact h.srt p (j - 1) h1 (by omega) (by omega) (by omega)
  · rw [if_neg e]
    by_cases e1:p=j - 1
    · rw [if_pos e1]
      exact h.srt j q (by omega) (by omega) h3 e
    · rw [if_neg e1]
      by_cases e2:p=j
      · rw [if_pos e2]
        exact h.srt (j - 1) q (by omega) (by omega) h3 e
      · rw [if_neg e2]
        exact h.srt p q h1 h2 h3 e
def M351:MRow:=⟨(List (List UInt8×Int))×Int×Int,(.pair .str (.int .i64)),fun (l,a,b) o=>[.one (.osl o),.one (.int .i64 a),.one (.int .i64 b),.one (.fn 321 [])],fun (l,a,b)=>l,fun (l,a,b)=>[0≤a,a≤b,b≤l.length,l.length≤1099511627776],fun (l,a,b)=>List (List UInt8×Int),fun (l,a,b) y=>[PI l y a.toNat b.toNat,SrtR ltW ([],0) y a.toNat b.toNat],fun (l,a,b) y=>.tup [],fun (l,a,b) y=>y⟩
def C351:MCon:=⟨fun xs L=>match xs.map nrmV with | [.one (.osl o),.one (.int .i64 a),.one (.int .i64 b),.one (.fn 321 [])]=>(match getO L o with | .row (.pair .str (.int .i64)) l=>some ((M351).res (l,a,b) o L) | _=>none) | _=>none⟩
theorem M351_fits:(M351).Fits (C351):=by
  intro xs L r h
  simp only [C351] at h
  split at h
  · rename_i o a b he
    split at h
    · rename_i l hl
      cases h
      exact ⟨⟨l,a,b⟩,o,he,hl,rfl⟩
    · cases h
  · cases h
theorem M351_ok:(M351).Ok f351.np:=⟨fun ⟨_,_,_⟩ _=>All2.cons (.inr (.inl ⟨rfl,rfl⟩)) (All2.cons (.inl ⟨rfl,rfl⟩) (All2.cons (.inl ⟨rfl,rfl⟩) (All2.cons (.inl ⟨rfl,rfl⟩) All2.nil))),fun ⟨_,_,_⟩=>rfl,fun ⟨_,_,_⟩ _=>rfl⟩
theorem mu351 {S:SC} (hB:SB S) (q321:PrOk S 321 (pureP G321)) (h351:S.has 351 f351):MutOk S 351 C351:=by
  refine muM hB [] [⟨321,G321,K321⟩] [] trivial ⟨⟨q321,K321_ok⟩,trivial⟩ trivial h351 M351_fits M351_ok (fun (l,a,b)=>fun f id T L=>match f,id with
      | 351,0=>some (.inv { x:Nat×List Wd // a.toNat < x.1∧PI l x.2 a.toNat b.toNat∧SrtR ltW ([],0) x.2 a.toNat x.1∧(x.1≤b.toNat∨x.1=a.toNat+1) } (fun x=>([(8,.one (.int .i64 x.1.1))],[(0,.row WdT x.1.2)])) (fun x=>b.toNat - x.1.1))
      | 351,2=>match T.getD 8 .junk with | .one (.int .i64 i)=>some (.inv { x:Nat×List Wd // InsI l a.toNat b.toNat i.toNat x.1 x.2 } (fun x=>([(9,.one (.int .i64 x.1.1))],[(0,.row WdT x.1.2)])) (fun x=>x.1.1)) | _=>none
      | _,_=>none) 400 ?_
  rintro ⟨l,a,b⟩ hc
  have hc1:0≤a:=hc.1
  have hc2:a≤b:=hc.2.1
  have hc3:b≤l.length:=hc.2.2.1
  have hc4:l.length≤1099511627776:=hc.2.2.2.1
  refine VC.use (p:=
    ((i64R (a+1)) ∧
    ((∃ x1:{ x:Nat×List Wd // a.toNat < x.fst∧PI l x.snd a.toNat b.toNat∧SrtR ltW ([],0) x.snd a.toNat x.fst∧(x.fst≤b.toNat∨x.fst=a.toNat+1) },
      ((a=a) ∧
      ((b=b) ∧
      ((a+1=(↑x1.val.fst:Int)) ∧
      (l=x1.val.snd))))) ∧
    (∀ x1 : { x : Nat × List Wd // a.toNat < x.fst ∧ PI l x.snd a.toNat b.toNat ∧ SrtR ltW ([], 0) x.snd a.toNat x.fst ∧ (x.fst ≤ b.toNat ∨ x.fst = a.toNat + 1) },
     (((↑x1.val.fst:Int) < b →
       ((∃ x2:{ x:Nat×List Wd // InsI l a.toNat b.toNat x1.val.fst x.fst x.snd },
         ((a=a) ∧
         ((b=b) ∧
         (((↑x1.val.fst:Int)=(↑x1.val.fst:Int)) ∧
         (((↑x1.val.fst:Int)=(↑x2.val.fst:Int)) ∧
         (x1.val.snd=x2.val.snd)))))) ∧
       (∀ x2 : { x : Nat × List Wd // InsI l a.toNat b.toNat x1.val.fst x.fst x.snd },
        ((a < (↑x2.val.fst:Int) →
          ((0≤(↑x2.val.fst:Int)∧(↑x2.val.fst:Int) < (↑x2.val.snd.length:Int)) ∧
          ((x2.val.fst < x2.val.snd.length) ∧
          ((i64R ((↑x2.val.fst:Int) - 1)) ∧
          ((0≤(↑x2.val.fst:Int) - 1∧(↑x2.val.fst:Int) - 1 < (↑x2.val.snd.length:Int)) ∧
          ((((↑x2.val.fst:Int) - 1).toNat < x2.val.snd.length) ∧
          ((cmpS (x2.val.snd.getD x2.val.fst ([],0)).fst (x2.val.snd.getD ((↑x2.val.fst:Int) - 1).toNat ([],0)).fst < 0 →
            ((i64R ((↑x2.val.fst:Int) - 1)) ∧
            ((i64R ((↑x2.val.fst:Int) - 1)) ∧
            ((0≤(↑x2.val.fst:Int) - 1∧(↑x2.val.fst:Int) - 1 < (↑x2.val.snd.length:Int)) ∧
            ((((↑x2.val.fst:Int) - 1).toNat < x2.val.snd.length) ∧
            ((0≤(↑x2.val.fst:Int)∧(↑x2.val.fst:Int) < (↑x2.val.snd.length:Int)) ∧
            ((x2.val.fst < x2.val.snd.length) ∧
            ((0≤(↑x2.val.fst:Int)∧(↑x2.val.fst:Int) < (↑x2.val.snd.length:Int)) ∧
            ((x2.val.fst < x2.val.snd.length) ∧
            ((0≤(↑x2.val.fst:Int) - 1∧(↑x2.val.fst:Int) - 1 < (↑(x2.val.snd.set x2.val.fst ((x2.val.snd.getD ((↑x2.val.fst:Int) - 1).toNat ([],0)).fst,(x2.val.snd.getD ((↑x2.val.fst:Int) - 1).toNat ([],0)).snd)).length:Int)) ∧
            ((((↑x2.val.fst:Int) - 1).toNat < (x2.val.snd.set x2.val.fst ((x2.val.snd.getD ((↑x2.val.fst:Int) - 1).toNat ([],0)).fst,(x2.val.snd.getD ((↑x2.val.fst:Int) - 1).toNat ([],0)).snd)).length) ∧
            ((i64R ((↑x2.val.fst:Int) - 1)) ∧
            (∃ x3 : { x : Nat × List Wd // InsI l a.toNat b.toNat x1.val.fst x.fst x.snd },
             ((x3.val.fst < x2.val.fst) ∧
             ((a=a) ∧
             ((b=b) ∧
             (((↑x1.val.fst:Int)=(↑x1.val.fst:Int)) ∧
             (((↑x2.val.fst:Int) - 1=(↑x3.val.fst:Int)) ∧
             ((x2.val.snd.set x2.val.fst ((x2.val.snd.getD ((↑x2.val.fst:Int) - 1).toNat ([],0)).fst,(x2.val.snd.getD ((↑x2.val.fst:Int) - 1).toNat ([],0)).snd)).set ((↑x2.val.fst:Int) - 1).toNat ((x2.val.snd.getD x2.val.fst ([],0)).fst,(x2.val.snd.getD x2.val.fst ([],0)).snd)=x3.val.snd))))))))))))))))))) ∧
          (¬cmpS (x2.val.snd.getD x2.val.fst ([], 0)).fst (x2.val.snd.getD ((↑x2.val.fst : Int) - 1).toNat ([], 0)).fst < 0 →
           ((i64R ((↑x1.val.fst:Int)+1)) ∧
           (∃ x3 : { x : Nat × List Wd // a.toNat < x.fst ∧ PI l x.snd a.toNat b.toNat ∧ SrtR ltW ([], 0) x.snd a.toNat x.fst ∧ (x.fst ≤ b.toNat ∨ x.fst = a.toNat + 1) },
            ((b.toNat - x3.val.fst < b.toNat - x1.val.fst) ∧
            ((a=a) ∧
            ((b=b) ∧
            (((↑x1.val.fst:Int)+1=(↑x3.val.fst:Int)) ∧
            (x2.val.snd=x3.val.snd))))))))))))))) ∧
        (¬a < (↑x2.val.fst : Int) →
         ((i64R ((↑x1.val.fst:Int)+1)) ∧
         (∃ x3 : { x : Nat × List Wd // a.toNat < x.fst ∧ PI l x.snd a.toNat b.toNat ∧ SrtR ltW ([], 0) x.snd a.toNat x.fst ∧ (x.fst ≤ b.toNat ∨ x.fst = a.toNat + 1) },
          ((b.toNat - x3.val.fst < b.toNat - x1.val.fst) ∧
          ((a=a) ∧
          ((b=b) ∧
          (((↑x1.val.fst:Int)+1=(↑x3.val.fst:Int)) ∧
          (x2.val.snd=x3.val.snd)))))))))))) ∧
     (¬(↑x1.val.fst : Int) < b →
      (∃ x2 : List (List UInt8 × Int),
       ((PI l x2 a.toNat b.toNat) ∧
       ((SrtR ltW ([],0) x2 a.toNat b.toNat) ∧
       (x1.val.snd=x2)))))))))) (by kernel_rfl) ?_
  refine ⟨by unfold i64R;omega,⟨⟨(a.toNat+1,l),by dsimp only;omega,PI.refl,fun p q h1 h2 h3=>by dsimp only at h3;omega,.inr rfl⟩,rfl,rfl,by dsimp only;omega,rfl⟩,?_⟩
  rintro ⟨⟨i,r⟩,hai,hpi,hs,hib⟩
  dsimp only at hai hpi hs hib ⊢
  have hl:=hpi.len
  refine ⟨fun h=>?_,fun h=>?_⟩
  · refine ⟨⟨⟨(i,r),by dsimp only;omega,Nat.le_refl _,hpi,fun p q h1 h2 h3 h4=>hs p q h1 h2 (by dsimp only at h4;omega)⟩,rfl,rfl,rfl,rfl,rfl⟩,?_⟩
    rintro ⟨⟨j,r2⟩,hI⟩
    dsimp only at hI ⊢
    have hl2:=hI.pi.len
    have hji:=hI.ji
    have haj:=hI.aj
    have tj:((j:Int) - 1).toNat=j - 1:=by omega
    simp only [tj,List.length_set,hl2]
    have fin:(j=a.toNat∨ltW (r2.getD j ([],0)) (r2.getD (j - 1) ([],0))=false)→∃ x3:{ x:Nat×List Wd // a.toNat < x.fst∧PI l x.snd a.toNat b.toNat∧SrtR ltW ([],0) x.snd a.toNat x.fst∧(x.fst≤b.toNat∨x.fst=a.toNat+1) },((b.toNat - x3.val.fst < b.toNat - i)∧((a=a)∧((b=b)∧(((i:Int)+1=(↑x3.val.fst:Int))∧(r2=x3.val.snd))))):=fun hj=>by
      obtain ⟨g1,g2⟩:=hI.done (by omega) hj
      exact ⟨⟨(i+1,r2),by dsimp only;omega,g1,g2,by dsimp only;omega⟩,by dsimp only;omega,rfl,rfl,by dsimp only;omega,rfl⟩
    refine ⟨fun h1=>?_,fun h1=>?_⟩
    · refine ⟨by omega,by omega,by unfold i64R;omega,by omega,by omega,fun h2=>?_,fun h2=>?_⟩
      · clear fin
        refine ⟨by unfold i64R;omega,by unfold i64R;omega,by omega,by omega,by omega,by omega,by omega,by omega,by omega,by omega,by unfold i64R;omega,?_⟩
        exact ⟨⟨(j - 1,swpL r2 ([],0) j (j - 1)),hI.step (by omega) (by omega) (by omega) ((ltW_iff _ _).1 h2)⟩,by dsimp only;omega,trivial,trivial,trivial,by dsimp only;omega,rfl⟩
      · refine ⟨by unfold i64R;omega,?_⟩
        obtain ⟨x,q1,q2,q3,q4,q5⟩:=fin (.inr ((ltW_niff _ _).1 h2))
        exact ⟨x,q1,trivial,trivial,q4,q5⟩
    · refine ⟨by unfold i64R;omega,?_⟩
      have hja:j=a.toNat:=by omega
      obtain ⟨x,q1,q2,q3,q4,q5⟩:=fin (.inl hja)
      exact ⟨x,q1,trivial,trivial,q4,q5⟩
  · exact ⟨r,hpi,hs.mono (Nat.le_refl _) (by omega),rfl⟩
end Go.EA
