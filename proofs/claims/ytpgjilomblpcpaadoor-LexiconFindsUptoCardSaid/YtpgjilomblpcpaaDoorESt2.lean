/- Layer 9: words in order: merges of a row in its place; the stable sort. Conditions: none. (Printed by a program of this project's own.) -/
import Derived.Test.YtpgjilomblpcpaaDoorESt1
import Derived.KernelRfl
set_option linter.unusedVariables false
set_option linter.unusedSimpArgs false
set_option maxRecDepth 100000
set_option maxHeartbeats 0
namespace Go.EA
open F
theorem rot_nop1 {α:Type} {l:List α} {m b:Nat} (h:m≤b) (hb:b≤l.length):rotL l m m b=l:=by
  refine List.ext_getElem? fun p=>?_
  rw [rotL_q (Nat.le_refl _) h hb]
  repeat' split
  all_goals first | rfl | (congr 1;omega)
theorem rot_nop2 {α:Type} {l:List α} {a m:Nat} (h:a≤m) (hb:m≤l.length):rotL l a m m=l:=by
  refine List.ext_getElem? fun p=>?_
  rw [rotL_q h (Nat.le_refl _) hb]
  repeat' split
  all_goals first | rfl | (congr 1;omega)
structure SeA (l:List Wd) (a m b i j:Nat):Prop where
  mi:m≤i
  ij:i≤j
  jb:j≤b
  lo:∀ h,m≤h→h < i→ltW (l.getD h ([],0)) (l.getD a ([],0))=true
  hi:∀ h,j≤h→h < b→ltW (l.getD h ([],0)) (l.getD a ([],0))=false
structure SeB (l:List Wd) (a m i j:Nat):Prop where
  mi:a≤i
  ij:i≤j
  jb:j≤m
  lo:∀ h,a≤h→h < i→ltW (l.getD m ([],0)) (l.getD h ([],0))=false
  hi:∀ h,j≤h→h < m→ltW (l.getD m ([],0)) (l.getD h ([],0))=true
structure SeC (l:List Wd) (lo hi p i j:Nat):Prop where
  mi:lo≤i
  ij:i≤j
  jb:j≤hi
  lo:∀ c,lo≤c→c < i→ltW (l.getD (p - c) ([],0)) (l.getD c ([],0))=false
  hi:∀ c,j≤c→c < hi→ltW (l.getD (p - c) ([],0)) (l.getD c ([],0))=true
theorem half_u64 (i j:Nat) (h:i+j≤4611686018427387904):(IntKind.u64.wrap ((i:Int)+j)).fdiv 2=(((i+j) / 2:Nat):Int):=by
  have e:IntKind.u64.wrap ((i:Int)+j)=(i:Int)+j:=by
    simp only [IntKind.wrap,IntKind.bits,IntKind.signed]
    simp
    omega
  rw [e,Int.fdiv_eq_ediv_of_nonneg _ (by decide)]
  omega
theorem SWo.lel {α:Type} {lt:α→α→Bool} (hw:SWo lt) {x y z:α} (h:lt y x=false) (h':lt y z=true):lt x z=true:=by
  cases e:lt x z with
  | true=>rfl
  | false=>have:=hw.ntr _ _ _ h e;rw [this] at h';cases h'
theorem SWo.ltl {α:Type} {lt:α→α→Bool} (hw:SWo lt) {x y z:α} (h:lt x y=true) (h':lt z y=false):lt x z=true:=by
  cases e:lt x z with
  | true=>rfl
  | false=>have:=hw.ntr _ _ _ e h';rw [this] at h;cases h
theorem SeA.init (l:List Wd) {a m b:Nat} (h:m≤b):SeA l a m b m b:=⟨Nat.le_refl _,h,Nat.le_refl _,fun _ _ _=>by omega,fun _ _ _=>by omega⟩
theorem SeA.up {l:List Wd} {a m b i j h:Nat} (hs:SrtR ltW ([],0) l m b) (s:SeA l a m b i j) (h1:i≤h) (h2:h < j) (hl:ltW (l.getD h ([],0)) (l.getD a ([],0))=true):SeA l a m b (h+1) j:=by
  have s1:=s.mi;have s3:=s.jb
  exact ⟨by omega,by omega,s.jb,fun q q1 q2=>ltW_swo.lel (hs.le ltW_swo q1 (show q≤h by omega) (by omega)) hl,s.hi⟩
theorem SeA.dn {l:List Wd} {a m b i j h:Nat} (hs:SrtR ltW ([],0) l m b) (s:SeA l a m b i j) (h1:i≤h) (h2:h < j) (hl:ltW (l.getD h ([],0)) (l.getD a ([],0))=false):SeA l a m b i h:=by
  have s1:=s.mi;have s3:=s.jb
  exact ⟨s.mi,h1,by omega,s.lo,fun q q1 q2=>ltW_swo.ntr _ _ _ (hs.le ltW_swo (by omega) q1 q2) hl⟩
theorem SeB.init (l:List Wd) {a m:Nat} (h:a≤m):SeB l a m a m:=⟨Nat.le_refl _,h,Nat.le_refl _,fun _ _ _=>by omega,fun _ _ _=>by omega⟩
theorem SeB.up {l:List Wd} {a m i j h:Nat} (hs:SrtR ltW ([],0) l a m) (s:SeB l a m i j) (h1:i≤h) (h2:h < j) (hl:ltW (l.getD m ([],0)) (l.getD h ([],0))=false):SeB l a m (h+1) j:=by
  have s1:=s.mi;have s3:=s.jb
  exact ⟨by omega,by omega,s.jb,fun q q1 q2=>ltW_swo.ntr _ _ _ hl (hs.le ltW_swo q1 (show q≤h by omega) (by omega)),s.hi⟩
theorem SeB.dn {l:List Wd} {a m i j h:Nat} (hs:SrtR ltW ([],0) l a m) (s:SeB l a m i j) (h1:i≤h) (h2:h < j) (hl:ltW (l.getD m ([],0)) (l.getD h ([],0))=true):SeB l a m i h:=by
  have s1:=s.mi;have s3:=s.jb
  exact ⟨s.mi,h1,by omega,s.lo,fun q q1 q2=>ltW_swo.ltl hl (hs.le ltW_swo (by omega) q1 q2)⟩
theorem SeC.init (l:List Wd) {lo hi p:Nat} (h:lo≤hi):SeC l lo hi p lo hi:=⟨Nat.le_refl _,h,Nat.le_refl _,fun _ _ _=>by omega,fun _ _ _=>by omega⟩
theorem SeC.up {l:List Wd} {lo hi p a m b i j h:Nat} (hs1:SrtR ltW ([],0) l a m) (hs2:SrtR ltW ([],0) l m b) (hr:∀ c,lo≤c→c < hi→a≤c∧c < m∧m≤p - c∧p - c < b∧c≤p) (s:SeC l lo hi p i j) (h1:i≤h) (h2:h < j) (hl:ltW (l.getD (p - h) ([],0)) (l.getD h ([],0))=false):SeC l lo hi p (h+1) j:=by
  have s1:=s.mi;have s3:=s.jb
  refine ⟨by omega,by omega,s.jb,fun q q1 q2=>?_,s.hi⟩
  have r1:=hr h (by omega) (by omega)
  have r2:=hr q q1 (by omega)
  exact ltW_swo.ntr _ _ _ (hs2.le ltW_swo r1.2.2.1 (show p - h≤p - q by omega) r2.2.2.2.1) (ltW_swo.ntr _ _ _ hl (hs1.le ltW_swo r2.1 (show q≤h by omega) r1.2.1))
theorem SeC.dn {l:List Wd} {lo hi p a m b i j h:Nat} (hs1:SrtR ltW ([],0) l a m) (hs2:SrtR ltW ([],0) l m b) (hr:∀ c,lo≤c→c < hi→a≤c∧c < m∧m≤p - c∧p - c < b∧c≤p) (s:SeC l lo hi p i j) (h1:i≤h) (h2:h < j) (hl:ltW (l.getD (p - h) ([],0)) (l.getD h ([],0))=true):SeC l lo hi p i h:=by
  have s1:=s.mi;have s3:=s.jb
  refine ⟨s.mi,h1,by omega,s.lo,fun q q1 q2=>?_⟩
  have r1:=hr h (by omega) (by omega)
  have r2:=hr q (by omega) q2
  exact ltW_swo.lel (hs2.le ltW_swo r2.2.2.1 (show p - q≤p - h by omega) r1.2.2.2.1) (ltW_swo.ltl hl (hs1.le ltW_swo r1.1 q1 r2.2.1))
def M352 (k:Nat):MRow:=⟨(List (List UInt8×Int))×Int×Int×Int,(.pair .str (.int .i64)),fun (l,a,m,b) o=>[.one (.osl o),.one (.int .i64 a),.one (.int .i64 m),.one (.int .i64 b),.one (.fn 321 [])],fun (l,a,m,b)=>l,fun (l,a,m,b)=>[(b - a).toNat < k,0≤a,a < m,m < b,b≤l.length,l.length≤1099511627776,SrtR ltW ([],0) l a.toNat m.toNat,SrtR ltW ([],0) l m.toNat b.toNat],fun (l,a,m,b)=>List (List UInt8×Int),fun (l,a,m,b) y=>[PI l y a.toNat b.toNat,SrtR ltW ([],0) y a.toNat b.toNat],fun (l,a,m,b) y=>.tup [],fun (l,a,m,b) y=>y⟩
def C352 (k:Nat):MCon:=⟨fun xs L=>match xs.map nrmV with | [.one (.osl o),.one (.int .i64 a),.one (.int .i64 m),.one (.int .i64 b),.one (.fn 321 [])]=>(match getO L o with | .row (.pair .str (.int .i64)) l=>some ((M352 k).res (l,a,m,b) o L) | _=>none) | _=>none⟩
theorem M352_fits (k:Nat):(M352 k).Fits (C352 k):=by
  intro xs L r h
  simp only [C352] at h
  split at h
  · rename_i o a m b he
    split at h
    · rename_i l hl
      cases h
      exact ⟨⟨l,a,m,b⟩,o,he,hl,rfl⟩
    · cases h
  · cases h
theorem M352_ok (k:Nat):(M352 k).Ok f352.np:=⟨fun ⟨_,_,_,_⟩ _=>All2.cons (.inr (.inl ⟨rfl,rfl⟩)) (All2.cons (.inl ⟨rfl,rfl⟩) (All2.cons (.inl ⟨rfl,rfl⟩) (All2.cons (.inl ⟨rfl,rfl⟩) (All2.cons (.inl ⟨rfl,rfl⟩) All2.nil)))),fun ⟨_,_,_,_⟩=>rfl,fun ⟨_,_,_,_⟩ _=>rfl⟩
theorem mur352 {S:SC} (hB:SB S) (u362:MutOk S 362 C362) (q321:PrOk S 321 (pureP G321)) (h352:S.has 352 f352):∀ k,MutOk S 352 (C352 k)
  | 0=>fun c L H xs ys r hr hp=>by
    obtain ⟨_,_,_,_,rfl⟩:=M352_fits 0 xs L r hr
    exact absurd hp.1 (Nat.not_lt_zero _)
  | k+1=>by
    have u352:=mur352 hB u362 q321 h352 k
    refine muM hB [] [⟨321,G321,K321⟩] [(362,C362),(352,C352 k)] trivial ⟨⟨q321,K321_ok⟩,trivial⟩ ⟨u362,u352,trivial⟩ h352 (M352_fits (k+1)) (M352_ok (k+1)) (fun (l,a,m,b)=>fun f id T L=>match f,id with
      | 352,0=>some (.inv { x:Nat×Nat // SeA l a.toNat m.toNat b.toNat x.1 x.2 } (fun x=>([(10,.one (.int .i64 x.1.1)),(11,.one (.int .i64 x.1.2))],[])) (fun x=>x.1.2 - x.1.1))
      | 352,2=>match T.getD 10 .junk with | .one (.int .i64 i)=>some (.inv { k:Nat // a.toNat≤k∧k+1≤i.toNat } (fun x=>([(13,.one (.int .i64 x.1))],[(0,.row WdT (rotL l a.toNat (a.toNat+1) (x.1+1)))])) (fun x=>i.toNat - x.1)) | _=>none
      | 352,4=>some (.inv { x:Nat×Nat // SeB l a.toNat m.toNat x.1 x.2 } (fun x=>([(14,.one (.int .i64 x.1.1)),(15,.one (.int .i64 x.1.2))],[])) (fun x=>x.1.2 - x.1.1))
      | 352,6=>match T.getD 14 .junk with | .one (.int .i64 i)=>some (.inv { k:Nat // i.toNat≤k∧k≤m.toNat } (fun x=>([(17,.one (.int .i64 x.1))],[(0,.row WdT (rotL l x.1 m.toNat (m.toNat+1)))])) (fun x=>x.1)) | _=>none
      | 352,8=>match T.getD 20 .junk,T.getD 21 .junk,T.getD 22 .junk with | .one (.int .i64 lo),.one (.int .i64 hi),.one (.int .i64 p)=>some (.inv { x:Nat×Nat // SeC l lo.toNat hi.toNat p.toNat x.1 x.2 } (fun x=>([(20,.one (.int .i64 x.1.1)),(21,.one (.int .i64 x.1.2))],[])) (fun x=>x.1.2 - x.1.1)) | _,_,_=>none
      | 352,4040=>match T.getD 10 .junk,T.getD 11 .junk with | .one (.int .i64 i),.one (.int .i64 j)=>some (.cut { h:Nat // (h:Int)=(i+j) / 2 } (fun x=>([(12,.one (.int .i64 x.1))],[]))) | _,_=>none
      | 352,4092=>match T.getD 14 .junk,T.getD 15 .junk with | .one (.int .i64 i),.one (.int .i64 j)=>some (.cut { h:Nat // (h:Int)=(i+j) / 2 } (fun x=>([(16,.one (.int .i64 x.1))],[]))) | _,_=>none
      | 352,4158=>match T.getD 20 .junk,T.getD 21 .junk with | .one (.int .i64 i),.one (.int .i64 j)=>some (.cut { h:Nat // (h:Int)=(i+j) / 2 } (fun x=>([(23,.one (.int .i64 x.1))],[]))) | _,_=>none
      | 352,4135=>match T.getD 1 .junk,T.getD 3 .junk with | .one (.int .i64 i),.one (.int .i64 j)=>some (.cut { h:Nat // (h:Int)=(i+j) / 2 } (fun x=>([(18,.one (.int .i64 x.1))],[]))) | _,_=>none
      | 352,4147=>match T.getD 18 .junk,T.getD 19 .junk with | .one (.int .i64 mid),.one (.int .i64 n)=>some (.cut { x:Int×Int // x.1=(if mid < m then n - b else a)∧x.2=(if mid < m then mid else m) } (fun x=>([(20,.one (.int .i64 x.1.1)),(21,.one (.int .i64 x.1.2))],[]))) | _,_=>none
      | 352,4192=>match T.getD 20 .junk,T.getD 24 .junk with | .one (.int .i64 st),.one (.int .i64 en)=>some (.cut { r:List Wd // r=rotL l st.toNat m.toNat en.toNat } (fun x=>([],[(0,.row WdT x.1)]))) | _,_=>none
      | 352,4206=>match T.getD 20 .junk,T.getD 24 .junk,T.getD 18 .junk with | .one (.int .i64 st),.one (.int .i64 en),.one (.int .i64 mid)=>some (.cut { r:List Wd // PI (rotL l st.toNat m.toNat en.toNat) r a.toNat mid.toNat∧SrtR ltW ([],0) r a.toNat mid.toNat } (fun x=>([],[(0,.row WdT x.1)]))) | _,_,_=>none
      | _,_=>none) 2000 ?_
    rintro ⟨l,a,m,b⟩ hc
    have hc0:(b - a).toNat < k+1:=hc.1
    have hc1:0≤a:=hc.2.1
    have hc2:a < m:=hc.2.2.1
    have hc3:m < b:=hc.2.2.2.1
    have hc4:b≤l.length:=hc.2.2.2.2.1
    have hc5:l.length≤1099511627776:=hc.2.2.2.2.2.1
    have hc6:SrtR ltW ([],0) l a.toNat m.toNat:=hc.2.2.2.2.2.2.1
    have hc7:SrtR ltW ([],0) l m.toNat b.toNat:=hc.2.2.2.2.2.2.2.1
    refine VC.use (p:=
    ((i64R (m - a)) ∧
    ((m - a=1 →
      ((∃ x1:{ x:Nat×Nat // SeA l a.toNat m.toNat b.toNat x.fst x.snd },
        ((a=a) ∧
        ((m=(↑x1.val.fst:Int)) ∧
        ((b=(↑x1.val.snd:Int)) ∧
        (l=l))))) ∧
      (∀ x1 : { x : Nat × Nat // SeA l a.toNat m.toNat b.toNat x.fst x.snd },
       (((↑x1.val.fst:Int) < (↑x1.val.snd:Int) →
         (((i64R ((↑x1.val.fst : Int) + (↑x1.val.snd : Int))) ∧
          ((i64R ((IntKind.u64.wrap ((↑x1.val.fst:Int)+(↑x1.val.snd:Int))).fdiv 2)) ∧
          (∃ x2 : { h : Nat // (↑h : Int) = ((↑x1.val.fst : Int) + (↑x1.val.snd : Int)) / 2 },
           ((a=a) ∧
           (((↑x1.val.fst:Int)=(↑x1.val.fst:Int)) ∧
           (((↑x1.val.snd:Int)=(↑x1.val.snd:Int)) ∧
           (((IntKind.u64.wrap ((↑x1.val.fst:Int)+(↑x1.val.snd:Int))).fdiv 2=(↑x2.val:Int)) ∧
           (l=l)))))))) ∧
         (∀ x2 : { h : Nat // (↑h : Int) = ((↑x1.val.fst : Int) + (↑x1.val.snd : Int)) / 2 },
          ((0≤(↑x2.val:Int)∧(↑x2.val:Int) < (↑l.length:Int)) ∧
          ((x2.val < l.length) ∧
          ((0≤a∧a < (↑l.length:Int)) ∧
          ((a.toNat < l.length) ∧
          ((cmpS (l.getD x2.val ([],0)).fst (l.getD a.toNat ([],0)).fst < 0 →
            ((i64R ((↑x2.val:Int)+1)) ∧
            (∃ x3 : { x : Nat × Nat // SeA l a.toNat m.toNat b.toNat x.fst x.snd },
             ((x3.val.snd - x3.val.fst < x1.val.snd - x1.val.fst) ∧
             ((a=a) ∧
             (((↑x2.val:Int)+1=(↑x3.val.fst:Int)) ∧
             (((↑x1.val.snd:Int)=(↑x3.val.snd:Int)) ∧
             (l=l)))))))) ∧
          (¬cmpS (l.getD x2.val ([], 0)).fst (l.getD a.toNat ([], 0)).fst < 0 →
           (∃ x3 : { x : Nat × Nat // SeA l a.toNat m.toNat b.toNat x.fst x.snd },
            ((x3.val.snd - x3.val.fst < x1.val.snd - x1.val.fst) ∧
            ((a=a) ∧
            (((↑x1.val.fst:Int)=(↑x3.val.fst:Int)) ∧
            (((↑x2.val:Int)=(↑x3.val.snd:Int)) ∧
            (l=l))))))))))))))) ∧
       (¬(↑x1.val.fst : Int) < (↑x1.val.snd : Int) →
        ((∃ x2:{ k:Nat // a.toNat≤k∧k+1≤x1.val.fst },
          (((↑x1.val.fst:Int)=(↑x1.val.fst:Int)) ∧
          ((a=(↑x2.val:Int)) ∧
          (l=rotL l a.toNat (a.toNat+1) (x2.val+1))))) ∧
        (∀ x2 : { k : Nat // a.toNat ≤ k ∧ k + 1 ≤ x1.val.fst },
         ((i64R ((↑x1.val.fst:Int) - 1)) ∧
         (((↑x2.val:Int) < (↑x1.val.fst:Int) - 1 →
           ((i64R ((↑x2.val:Int)+1)) ∧
           ((i64R ((↑x2.val:Int)+1)) ∧
           ((0≤(↑x2.val:Int)+1∧(↑x2.val:Int)+1 < (↑(rotL l a.toNat (a.toNat+1) (x2.val+1)).length:Int)) ∧
           ((((↑x2.val:Int)+1).toNat < (rotL l a.toNat (a.toNat+1) (x2.val+1)).length) ∧
           ((0≤(↑x2.val:Int)∧(↑x2.val:Int) < (↑(rotL l a.toNat (a.toNat+1) (x2.val+1)).length:Int)) ∧
           ((x2.val < (rotL l a.toNat (a.toNat+1) (x2.val+1)).length) ∧
           ((0≤(↑x2.val:Int)∧(↑x2.val:Int) < (↑(rotL l a.toNat (a.toNat+1) (x2.val+1)).length:Int)) ∧
           ((x2.val < (rotL l a.toNat (a.toNat+1) (x2.val+1)).length) ∧
           ((0≤(↑x2.val:Int)+1∧(↑x2.val:Int)+1 < (↑((rotL l a.toNat (a.toNat+1) (x2.val+1)).set x2.val (((rotL l a.toNat (a.toNat+1) (x2.val+1)).getD ((↑x2.val:Int)+1).toNat ([],0)).fst,((rotL l a.toNat (a.toNat+1) (x2.val+1)).getD ((↑x2.val:Int)+1).toNat ([],0)).snd)).length:Int)) ∧
           ((((↑x2.val:Int)+1).toNat < ((rotL l a.toNat (a.toNat+1) (x2.val+1)).set x2.val (((rotL l a.toNat (a.toNat+1) (x2.val+1)).getD ((↑x2.val:Int)+1).toNat ([],0)).fst,((rotL l a.toNat (a.toNat+1) (x2.val+1)).getD ((↑x2.val:Int)+1).toNat ([],0)).snd)).length) ∧
           ((i64R ((↑x2.val:Int)+1)) ∧
           (∃ x3 : { k : Nat // a.toNat ≤ k ∧ k + 1 ≤ x1.val.fst },
            ((x1.val.fst - x3.val < x1.val.fst - x2.val) ∧
            (((↑x1.val.fst:Int)=(↑x1.val.fst:Int)) ∧
            (((↑x2.val:Int)+1=(↑x3.val:Int)) ∧
            (((rotL l a.toNat (a.toNat+1) (x2.val+1)).set x2.val (((rotL l a.toNat (a.toNat+1) (x2.val+1)).getD ((↑x2.val:Int)+1).toNat ([],0)).fst,((rotL l a.toNat (a.toNat+1) (x2.val+1)).getD ((↑x2.val:Int)+1).toNat ([],0)).snd)).set ((↑x2.val:Int)+1).toNat (((rotL l a.toNat (a.toNat+1) (x2.val+1)).getD x2.val ([],0)).fst,((rotL l a.toNat (a.toNat+1) (x2.val+1)).getD x2.val ([],0)).snd)=rotL l a.toNat (a.toNat+1) (x3.val+1)))))))))))))))))) ∧
         (¬(↑x2.val : Int) < (↑x1.val.fst : Int) - 1 →
          (∃ x3 : List (List UInt8 × Int),
           ((PI l x3 a.toNat b.toNat) ∧
           ((SrtR ltW ([],0) x3 a.toNat b.toNat) ∧
           (rotL l a.toNat (a.toNat+1) (x2.val+1)=x3)))))))))))))) ∧
    (¬m - a = 1 →
     ((i64R (b - m)) ∧
     ((b - m=1 →
       ((∃ x1:{ x:Nat×Nat // SeB l a.toNat m.toNat x.fst x.snd },
         ((m=m) ∧
         ((a=(↑x1.val.fst:Int)) ∧
         ((m=(↑x1.val.snd:Int)) ∧
         (l=l))))) ∧
       (∀ x1 : { x : Nat × Nat // SeB l a.toNat m.toNat x.fst x.snd },
        (((↑x1.val.fst:Int) < (↑x1.val.snd:Int) →
          (((i64R ((↑x1.val.fst : Int) + (↑x1.val.snd : Int))) ∧
           ((i64R ((IntKind.u64.wrap ((↑x1.val.fst:Int)+(↑x1.val.snd:Int))).fdiv 2)) ∧
           (∃ x2 : { h : Nat // (↑h : Int) = ((↑x1.val.fst : Int) + (↑x1.val.snd : Int)) / 2 },
            ((m=m) ∧
            (((↑x1.val.fst:Int)=(↑x1.val.fst:Int)) ∧
            (((↑x1.val.snd:Int)=(↑x1.val.snd:Int)) ∧
            (((IntKind.u64.wrap ((↑x1.val.fst:Int)+(↑x1.val.snd:Int))).fdiv 2=(↑x2.val:Int)) ∧
            (l=l)))))))) ∧
          (∀ x2 : { h : Nat // (↑h : Int) = ((↑x1.val.fst : Int) + (↑x1.val.snd : Int)) / 2 },
           ((0≤m∧m < (↑l.length:Int)) ∧
           ((m.toNat < l.length) ∧
           ((0≤(↑x2.val:Int)∧(↑x2.val:Int) < (↑l.length:Int)) ∧
           ((x2.val < l.length) ∧
           ((cmpS (l.getD m.toNat ([],0)).fst (l.getD x2.val ([],0)).fst < 0 →
             (∃ x3 : { x : Nat × Nat // SeB l a.toNat m.toNat x.fst x.snd },
              ((x3.val.snd - x3.val.fst < x1.val.snd - x1.val.fst) ∧
              ((m=m) ∧
              (((↑x1.val.fst:Int)=(↑x3.val.fst:Int)) ∧
              (((↑x2.val:Int)=(↑x3.val.snd:Int)) ∧
              (l=l))))))) ∧
           (¬cmpS (l.getD m.toNat ([], 0)).fst (l.getD x2.val ([], 0)).fst < 0 →
            ((i64R ((↑x2.val:Int)+1)) ∧
            (∃ x3 : { x : Nat × Nat // SeB l a.toNat m.toNat x.fst x.snd },
             ((x3.val.snd - x3.val.fst < x1.val.snd - x1.val.fst) ∧
             ((m=m) ∧
             (((↑x2.val:Int)+1=(↑x3.val.fst:Int)) ∧
             (((↑x1.val.snd:Int)=(↑x3.val.snd:Int)) ∧
             (l=l)))))))))))))))) ∧
        (¬(↑x1.val.fst : Int) < (↑x1.val.snd : Int) →
         ((∃ x2:{ k:Nat // x1.val.fst≤k∧k≤m.toNat },
           (((↑x1.val.fst:Int)=(↑x1.val.fst:Int)) ∧
           ((m=(↑x2.val:Int)) ∧
           (l=rotL l x2.val m.toNat (m.toNat+1))))) ∧
         (∀ x2 : { k : Nat // x1.val.fst ≤ k ∧ k ≤ m.toNat },
          (((↑x1.val.fst:Int) < (↑x2.val:Int) →
            ((i64R ((↑x2.val:Int) - 1)) ∧
            ((i64R ((↑x2.val:Int) - 1)) ∧
            ((0≤(↑x2.val:Int) - 1∧(↑x2.val:Int) - 1 < (↑(rotL l x2.val m.toNat (m.toNat+1)).length:Int)) ∧
            ((((↑x2.val:Int) - 1).toNat < (rotL l x2.val m.toNat (m.toNat+1)).length) ∧
            ((0≤(↑x2.val:Int)∧(↑x2.val:Int) < (↑(rotL l x2.val m.toNat (m.toNat+1)).length:Int)) ∧
            ((x2.val < (rotL l x2.val m.toNat (m.toNat+1)).length) ∧
            ((0≤(↑x2.val:Int)∧(↑x2.val:Int) < (↑(rotL l x2.val m.toNat (m.toNat+1)).length:Int)) ∧
            ((x2.val < (rotL l x2.val m.toNat (m.toNat+1)).length) ∧
            ((0≤(↑x2.val:Int) - 1∧(↑x2.val:Int) - 1 < (↑((rotL l x2.val m.toNat (m.toNat+1)).set x2.val (((rotL l x2.val m.toNat (m.toNat+1)).getD ((↑x2.val:Int) - 1).toNat ([],0)).fst,((rotL l x2.val m.toNat (m.toNat+1)).getD ((↑x2.val:Int) - 1).toNat ([],0)).snd)).length:Int)) ∧
            ((((↑x2.val:Int) - 1).toNat < ((rotL l x2.val m.toNat (m.toNat+1)).set x2.val (((rotL l x2.val m.toNat (m.toNat+1)).getD ((↑x2.val:Int) - 1).toNat ([],0)).fst,((rotL l x2.val m.toNat (m.toNat+1)).getD ((↑x2.val:Int) - 1).toNat ([],0)).snd)).length) ∧
            ((i64R ((↑x2.val:Int) - 1)) ∧
            (∃ x3 : { k : Nat // x1.val.fst ≤ k ∧ k ≤ m.toNat },
             ((x3.val < x2.val) ∧
             (((↑x1.val.fst:Int)=(↑x1.val.fst:Int)) ∧
             (((↑x2.val:Int) - 1=(↑x3.val:Int)) ∧
             (((rotL l x2.val m.toNat (m.toNat+1)).set x2.val (((rotL l x2.val m.toNat (m.toNat+1)).getD ((↑x2.val:Int) - 1).toNat ([],0)).fst,((rotL l x2.val m.toNat (m.toNat+1)).getD ((↑x2.val:Int) - 1).toNat ([],0)).snd)).set ((↑x2.val:Int) - 1).toNat (((rotL l x2.val m.toNat (m.toNat+1)).getD x2.val ([],0)).fst,((rotL l x2.val m.toNat (m.toNat+1)).getD x2.val ([],0)).snd)=rotL l x3.val m.toNat (m.toNat+1)))))))))))))))))) ∧
          (¬(↑x1.val.fst : Int) < (↑x2.val : Int) →
           (∃ x3 : List (List UInt8 × Int),
            ((PI l x3 a.toNat b.toNat) ∧
            ((SrtR ltW ([],0) x3 a.toNat b.toNat) ∧
            (rotL l x2.val m.toNat (m.toNat+1)=x3))))))))))))) ∧
     (¬b - m = 1 →
      (((i64R (a + b)) ∧
       ((i64R ((IntKind.u64.wrap (a+b)).fdiv 2)) ∧
       (∃ x1 : { h : Nat // (↑h : Int) = (a + b) / 2 },
        ((a=a) ∧
        ((m=m) ∧
        ((b=b) ∧
        (((IntKind.u64.wrap (a+b)).fdiv 2=(↑x1.val:Int)) ∧
        (l=l)))))))) ∧
      (∀ x1 : { h : Nat // (↑h : Int) = (a + b) / 2 },
       ((i64R ((↑x1.val:Int)+m)) ∧
       ((((↑x1.val : Int) < m →
          ((i64R ((↑x1.val:Int)+m - b)) ∧
          (∃ x2 : { x : Int × Int // (x.fst = if (↑x1.val : Int) < m then (↑x1.val : Int) + m - b else a) ∧ x.snd = if (↑x1.val : Int) < m then (↑x1.val : Int) else m },
           ((a=a) ∧
           ((m=m) ∧
           ((b=b) ∧
           (((↑x1.val:Int)=(↑x1.val:Int)) ∧
           (((↑x1.val:Int)+m=(↑x1.val:Int)+m) ∧
           (((↑x1.val:Int)+m - b=x2.val.fst) ∧
           (((↑x1.val:Int)=x2.val.snd) ∧
           (l=l))))))))))) ∧
        (¬(↑x1.val : Int) < m →
         (∃ x2 : { x : Int × Int // (x.fst = if (↑x1.val : Int) < m then (↑x1.val : Int) + m - b else a) ∧ x.snd = if (↑x1.val : Int) < m then (↑x1.val : Int) else m },
          ((a=a) ∧
          ((m=m) ∧
          ((b=b) ∧
          (((↑x1.val:Int)=(↑x1.val:Int)) ∧
          (((↑x1.val:Int)+m=(↑x1.val:Int)+m) ∧
          ((a=x2.val.fst) ∧
          ((m=x2.val.snd) ∧
          (l=l))))))))))) ∧
       (∀ x2 : { x : Int × Int // (x.fst = if (↑x1.val : Int) < m then (↑x1.val : Int) + m - b else a) ∧ x.snd = if (↑x1.val : Int) < m then (↑x1.val : Int) else m },
        ((i64R ((↑x1.val:Int)+m - 1)) ∧
        ((∃ x3:{ x:Nat×Nat // SeC l x2.val.fst.toNat x2.val.snd.toNat ((↑x1.val:Int)+m - 1).toNat x.fst x.snd },
          ((a=a) ∧
          ((m=m) ∧
          ((b=b) ∧
          (((↑x1.val:Int)=(↑x1.val:Int)) ∧
          (((↑x1.val:Int)+m=(↑x1.val:Int)+m) ∧
          ((x2.val.fst=(↑x3.val.fst:Int)) ∧
          ((x2.val.snd=(↑x3.val.snd:Int)) ∧
          (((↑x1.val:Int)+m - 1=(↑x1.val:Int)+m - 1) ∧
          (l=l)))))))))) ∧
        (∀ x3 : { x : Nat × Nat // SeC l x2.val.fst.toNat x2.val.snd.toNat ((↑x1.val : Int) + m - 1).toNat x.fst x.snd },
         (((↑x3.val.fst:Int) < (↑x3.val.snd:Int) →
           (((i64R ((↑x3.val.fst : Int) + (↑x3.val.snd : Int))) ∧
            ((i64R ((IntKind.u64.wrap ((↑x3.val.fst:Int)+(↑x3.val.snd:Int))).fdiv 2)) ∧
            (∃ x4 : { h : Nat // (↑h : Int) = ((↑x3.val.fst : Int) + (↑x3.val.snd : Int)) / 2 },
             ((a=a) ∧
             ((m=m) ∧
             ((b=b) ∧
             (((↑x1.val:Int)=(↑x1.val:Int)) ∧
             (((↑x1.val:Int)+m=(↑x1.val:Int)+m) ∧
             (((↑x3.val.fst:Int)=(↑x3.val.fst:Int)) ∧
             (((↑x3.val.snd:Int)=(↑x3.val.snd:Int)) ∧
             (((↑x1.val:Int)+m - 1=(↑x1.val:Int)+m - 1) ∧
             (((IntKind.u64.wrap ((↑x3.val.fst:Int)+(↑x3.val.snd:Int))).fdiv 2=(↑x4.val:Int)) ∧
             (l=l))))))))))))) ∧
           (∀ x4 : { h : Nat // (↑h : Int) = ((↑x3.val.fst : Int) + (↑x3.val.snd : Int)) / 2 },
            ((i64R ((↑x1.val:Int)+m - 1 - (↑x4.val:Int))) ∧
            ((0≤(↑x1.val:Int)+m - 1 - (↑x4.val:Int)∧(↑x1.val:Int)+m - 1 - (↑x4.val:Int) < (↑l.length:Int)) ∧
            ((((↑x1.val:Int)+m - 1 - (↑x4.val:Int)).toNat < l.length) ∧
            ((0≤(↑x4.val:Int)∧(↑x4.val:Int) < (↑l.length:Int)) ∧
            ((x4.val < l.length) ∧
            ((cmpS (l.getD ((↑x1.val:Int)+m - 1 - (↑x4.val:Int)).toNat ([],0)).fst (l.getD x4.val ([],0)).fst < 0 →
              (∃ x5 : { x : Nat × Nat // SeC l x2.val.fst.toNat x2.val.snd.toNat ((↑x1.val : Int) + m - 1).toNat x.fst x.snd },
               ((x5.val.snd - x5.val.fst < x3.val.snd - x3.val.fst) ∧
               ((a=a) ∧
               ((m=m) ∧
               ((b=b) ∧
               (((↑x1.val:Int)=(↑x1.val:Int)) ∧
               (((↑x1.val:Int)+m=(↑x1.val:Int)+m) ∧
               (((↑x3.val.fst:Int)=(↑x5.val.fst:Int)) ∧
               (((↑x4.val:Int)=(↑x5.val.snd:Int)) ∧
               (((↑x1.val:Int)+m - 1=(↑x1.val:Int)+m - 1) ∧
               (l=l)))))))))))) ∧
            (¬cmpS (l.getD ((↑x1.val : Int) + m - 1 - (↑x4.val : Int)).toNat ([], 0)).fst (l.getD x4.val ([], 0)).fst < 0 →
             ((i64R ((↑x4.val:Int)+1)) ∧
             (∃ x5 : { x : Nat × Nat // SeC l x2.val.fst.toNat x2.val.snd.toNat ((↑x1.val : Int) + m - 1).toNat x.fst x.snd },
              ((x5.val.snd - x5.val.fst < x3.val.snd - x3.val.fst) ∧
              ((a=a) ∧
              ((m=m) ∧
              ((b=b) ∧
              (((↑x1.val:Int)=(↑x1.val:Int)) ∧
              (((↑x1.val:Int)+m=(↑x1.val:Int)+m) ∧
              (((↑x4.val:Int)+1=(↑x5.val.fst:Int)) ∧
              (((↑x3.val.snd:Int)=(↑x5.val.snd:Int)) ∧
              (((↑x1.val:Int)+m - 1=(↑x1.val:Int)+m - 1) ∧
              (l=l)))))))))))))))))))))) ∧
         (¬(↑x3.val.fst : Int) < (↑x3.val.snd : Int) →
          ((i64R ((↑x1.val:Int)+m - (↑x3.val.fst:Int))) ∧
          ((((↑x3.val.fst : Int) < m →
             ((m < (↑x1.val:Int)+m - (↑x3.val.fst:Int) →
               ((0≤(↑x3.val.fst:Int)) ∧
               (((↑x3.val.fst:Int) < m) ∧
               ((m < (↑x1.val:Int)+m - (↑x3.val.fst:Int)) ∧
               (((↑x1.val:Int)+m - (↑x3.val.fst:Int)≤(↑l.length:Int)) ∧
               ((l.length≤1099511627776) ∧
               (∀ x4 : (List (List UInt8 × Int)),
                (x4 = rotL l x3.val.fst m.toNat ((↑x1.val : Int) + m - (↑x3.val.fst : Int)).toNat →
                 (∃ x5 : { r : List Wd // r = rotL l x3.val.fst m.toNat ((↑x1.val : Int) + m - (↑x3.val.fst : Int)).toNat },
                  ((a=a) ∧
                  ((b=b) ∧
                  (((↑x1.val:Int)=(↑x1.val:Int)) ∧
                  (((↑x3.val.fst:Int)=(↑x3.val.fst:Int)) ∧
                  (((↑x1.val:Int)+m - (↑x3.val.fst:Int)=(↑x1.val:Int)+m - (↑x3.val.fst:Int)) ∧
                  (x4=x5.val))))))))))))))) ∧
             (¬m < (↑x1.val : Int) + m - (↑x3.val.fst : Int) →
              (∃ x4 : { r : List Wd // r = rotL l x3.val.fst m.toNat ((↑x1.val : Int) + m - (↑x3.val.fst : Int)).toNat },
               ((a=a) ∧
               ((b=b) ∧
               (((↑x1.val:Int)=(↑x1.val:Int)) ∧
               (((↑x3.val.fst:Int)=(↑x3.val.fst:Int)) ∧
               (((↑x1.val:Int)+m - (↑x3.val.fst:Int)=(↑x1.val:Int)+m - (↑x3.val.fst:Int)) ∧
               (l=x4.val)))))))))) ∧
           (¬(↑x3.val.fst : Int) < m →
            (∃ x4 : { r : List Wd // r = rotL l x3.val.fst m.toNat ((↑x1.val : Int) + m - (↑x3.val.fst : Int)).toNat },
             ((a=a) ∧
             ((b=b) ∧
             (((↑x1.val:Int)=(↑x1.val:Int)) ∧
             (((↑x3.val.fst:Int)=(↑x3.val.fst:Int)) ∧
             (((↑x1.val:Int)+m - (↑x3.val.fst:Int)=(↑x1.val:Int)+m - (↑x3.val.fst:Int)) ∧
             (l=x4.val))))))))) ∧
          (∀ x4 : { r : List Wd // r = rotL l x3.val.fst m.toNat ((↑x1.val : Int) + m - (↑x3.val.fst : Int)).toNat },
           (((a < (↑x3.val.fst : Int) →
              (((↑x3.val.fst:Int) < (↑x1.val:Int) →
                ((((↑x1.val:Int) - a).toNat < k) ∧
                ((0≤a) ∧
                ((a < (↑x3.val.fst:Int)) ∧
                (((↑x3.val.fst:Int) < (↑x1.val:Int)) ∧
                (((↑x1.val:Int)≤(↑x4.val.length:Int)) ∧
                ((x4.val.length≤1099511627776) ∧
                ((SrtR ltW ([],0) x4.val a.toNat x3.val.fst) ∧
                ((SrtR ltW ([],0) x4.val x3.val.fst x1.val) ∧
                (∀ x5 : (List (List UInt8 × Int)),
                 (PI x4.val x5 a.toNat x1.val →
                  (SrtR ltW ([], 0) x5 a.toNat x1.val →
                   (∃ x6 : { r : List Wd // PI (rotL l x3.val.fst m.toNat ((↑x1.val : Int) + m - (↑x3.val.fst : Int)).toNat) r a.toNat x1.val ∧ SrtR ltW ([], 0) r a.toNat x1.val },
                    ((b=b) ∧
                    (((↑x1.val:Int)=(↑x1.val:Int)) ∧
                    (((↑x1.val:Int)+m - (↑x3.val.fst:Int)=(↑x1.val:Int)+m - (↑x3.val.fst:Int)) ∧
                    (x5=x6.val))))))))))))))))) ∧
              (¬(↑x3.val.fst : Int) < (↑x1.val : Int) →
               (∃ x5 : { r : List Wd // PI (rotL l x3.val.fst m.toNat ((↑x1.val : Int) + m - (↑x3.val.fst : Int)).toNat) r a.toNat x1.val ∧ SrtR ltW ([], 0) r a.toNat x1.val },
                ((b=b) ∧
                (((↑x1.val:Int)=(↑x1.val:Int)) ∧
                (((↑x1.val:Int)+m - (↑x3.val.fst:Int)=(↑x1.val:Int)+m - (↑x3.val.fst:Int)) ∧
                (x4.val=x5.val)))))))) ∧
            (¬a < (↑x3.val.fst : Int) →
             (∃ x5 : { r : List Wd // PI (rotL l x3.val.fst m.toNat ((↑x1.val : Int) + m - (↑x3.val.fst : Int)).toNat) r a.toNat x1.val ∧ SrtR ltW ([], 0) r a.toNat x1.val },
              ((b=b) ∧
              (((↑x1.val:Int)=(↑x1.val:Int)) ∧
              (((↑x1.val:Int)+m - (↑x3.val.fst:Int)=(↑x1.val:Int)+m - (↑x3.val.fst:Int)) ∧
              (x4.val=x5.val))))))) ∧
           (∀ x5 : { r : List Wd // PI (rotL l x3.val.fst m.toNat ((↑x1.val : Int) + m - (↑x3.val.fst : Int)).toNat) r a.toNat x1.val ∧ SrtR ltW ([], 0) r a.toNat x1.val },
            (((↑x1.val:Int) < (↑x1.val:Int)+m - (↑x3.val.fst:Int) →
              (((↑x1.val:Int)+m - (↑x3.val.fst:Int) < b →
                (((b - (↑x1.val:Int)).toNat < k) ∧
                ((0≤(↑x1.val:Int)) ∧
                (((↑x1.val:Int) < (↑x1.val:Int)+m - (↑x3.val.fst:Int)) ∧
                (((↑x1.val:Int)+m - (↑x3.val.fst:Int) < b) ∧
                ((b≤(↑x5.val.length:Int)) ∧
                ((x5.val.length≤1099511627776) ∧
                ((SrtR ltW ([],0) x5.val x1.val ((↑x1.val:Int)+m - (↑x3.val.fst:Int)).toNat) ∧
                ((SrtR ltW ([],0) x5.val ((↑x1.val:Int)+m - (↑x3.val.fst:Int)).toNat b.toNat) ∧
                (∀ x6 : (List (List UInt8 × Int)),
                 (PI x5.val x6 x1.val b.toNat →
                  (SrtR ltW ([], 0) x6 x1.val b.toNat →
                   (∃ x7 : List (List UInt8 × Int),
                    ((PI l x7 a.toNat b.toNat) ∧
                    ((SrtR ltW ([],0) x7 a.toNat b.toNat) ∧
                    (x6=x7)))))))))))))))) ∧
              (¬(↑x1.val : Int) + m - (↑x3.val.fst : Int) < b →
               (∃ x6 : List (List UInt8 × Int),
                ((PI l x6 a.toNat b.toNat) ∧
                ((SrtR ltW ([],0) x6 a.toNat b.toNat) ∧
                (x5.val=x6))))))) ∧
            (¬(↑x1.val : Int) < (↑x1.val : Int) + m - (↑x3.val.fst : Int) →
             (∃ x6 : List (List UInt8 × Int),
              ((PI l x6 a.toNat b.toNat) ∧
              ((SrtR ltW ([],0) x6 a.toNat b.toNat) ∧
              (x5.val=x6)))))))))))))))))))))))))))) (by kernel_rfl) ?_
    obtain ⟨a,rfl⟩:=Int.eq_ofNat_of_zero_le hc1
    obtain ⟨m,rfl⟩:=Int.eq_ofNat_of_zero_le (show 0≤m by omega)
    obtain ⟨b,rfl⟩:=Int.eq_ofNat_of_zero_le (show 0≤b by omega)
    have tk:((b:Int) - a).toNat=b - a:=by omega
    rw [tk] at hc0
    clear hc tk
    simp only [Int.toNat_natCast] at hc6 hc7
    simp only [Int.toNat_natCast,eq_self,true_and,and_true]
    refine ⟨by unfold i64R;omega,fun h1=>⟨⟨⟨(m,b),SeA.init l (by omega)⟩,rfl,rfl⟩,?_⟩,fun h1=>⟨by unfold i64R;omega,fun h2=>⟨⟨⟨(a,m),SeB.init l (by omega)⟩,rfl,rfl⟩,?_⟩,fun h2=>⟨?_,?_⟩⟩⟩
    · rintro ⟨⟨i,j⟩,hs⟩
      have s1:=hs.mi;have s2:=hs.ij;have s3:=hs.jb
      dsimp only at s1 s2 s3 hs ⊢
      obtain rfl:m=a+1:=by omega
      rw [half_u64 i j (by omega)]
      refine ⟨fun h=>⟨⟨by unfold i64R;omega,by unfold i64R;omega,⟨(i+j) / 2,by omega⟩,rfl⟩,?_⟩,fun h=>⟨⟨⟨a,by omega,by omega⟩,rfl,(rot_up0 (by omega)).symm⟩,?_⟩⟩
      · rintro ⟨h',hh⟩
        dsimp only
        refine ⟨by omega,by omega,by omega,by omega,fun hl=>⟨by unfold i64R;omega,⟨(h'+1,j),hs.up hc7 (by omega) (by omega) ((ltW_iff _ _).1 hl)⟩,by dsimp only;omega,by dsimp only;omega,rfl⟩,fun hl=>⟨⟨(i,h'),hs.dn hc7 (by omega) (by omega) ((ltW_niff _ _).1 hl)⟩,by dsimp only;omega,rfl,rfl⟩⟩
      · rintro ⟨k',k1,k2⟩
        dsimp only at k1 k2 ⊢
        have e1:((k':Int)+1).toNat=k'+1:=by omega
        have el:(rotL l a (a+1) (k'+1)).length=l.length:=rotL_len (by omega) (by omega) (by omega)
        simp only [e1,List.length_set,el]
        refine ⟨by unfold i64R;omega,fun h'=>?_,fun h'=>?_⟩
        · refine ⟨by unfold i64R;omega,by unfold i64R;omega,by omega,by omega,by omega,by omega,by omega,by omega,by omega,by omega,by unfold i64R;omega,⟨k'+1,by omega,by omega⟩,by dsimp only;omega,by dsimp only;omega,?_⟩
          exact rot_up (by omega) (by omega)
        · obtain rfl:i=k'+1:=by omega
          have hij:j=k'+1:=by omega
          subst hij
          refine ⟨_,(rotL_PI (by omega) (by omega) (by omega)).mono (Nat.le_refl _) (by omega),?_,rfl⟩
          exact merge_a ltW_swo hc7 (by omega) (by omega) (by omega) hs.lo hs.hi
    · rintro ⟨⟨i,j⟩,hs⟩
      have s1:=hs.mi;have s2:=hs.ij;have s3:=hs.jb
      dsimp only at s1 s2 s3 hs ⊢
      obtain rfl:b=m+1:=by omega
      rw [half_u64 i j (by omega)]
      refine ⟨fun h=>⟨⟨by unfold i64R;omega,by unfold i64R;omega,⟨(i+j) / 2,by omega⟩,rfl⟩,?_⟩,fun h=>⟨⟨⟨m,by omega,by omega⟩,rfl,(rot_dn0 (l:=l) (m:=m) (by omega)).symm⟩,?_⟩⟩
      · rintro ⟨h',hh⟩
        dsimp only
        refine ⟨by omega,by omega,by omega,by omega,fun hl=>⟨⟨(i,h'),hs.dn hc6 (by omega) (by omega) ((ltW_iff _ _).1 hl)⟩,by dsimp only;omega,rfl,rfl⟩,fun hl=>⟨by unfold i64R;omega,⟨(h'+1,j),hs.up hc6 (by omega) (by omega) ((ltW_niff _ _).1 hl)⟩,by dsimp only;omega,by dsimp only;omega,rfl⟩⟩
      · rintro ⟨k',k1,k2⟩
        dsimp only at k1 k2 ⊢
        have e1:((k':Int) - 1).toNat=k' - 1:=by omega
        have el:(rotL l k' m (m+1)).length=l.length:=rotL_len (by omega) (by omega) (by omega)
        simp only [e1,List.length_set,el]
        refine ⟨fun h'=>?_,fun h'=>?_⟩
        · refine ⟨by unfold i64R;omega,by unfold i64R;omega,by omega,by omega,by omega,by omega,by omega,by omega,by omega,by omega,by unfold i64R;omega,⟨k' - 1,by omega,by omega⟩,by dsimp only;omega,by dsimp only;omega,?_⟩
          obtain ⟨q,rfl⟩:∃ q,k'=q+1:=⟨k' - 1,by omega⟩
          exact rot_dn (by omega) (by omega)
        · have hik:i=k':=by omega
          have hij:j=k':=by omega
          subst hik hij
          refine ⟨_,(rotL_PI (by omega) (by omega) (by omega)).mono (by omega) (Nat.le_refl _),?_,rfl⟩
          exact merge_b ltW_swo hc6 (by omega) (by omega) (by omega) hs.lo hs.hi
    · rw [half_u64 a b (by omega)]
      exact ⟨by unfold i64R;omega,by unfold i64R;omega,⟨(a+b) / 2,by omega⟩,rfl⟩
    rintro ⟨mid,hmid⟩
    dsimp only
    have hmid':mid=(a+b) / 2:=by omega
    refine ⟨by unfold i64R;omega,⟨fun h3=>⟨by unfold i64R;omega,⟨((mid:Int)+m - b,(mid:Int)),by dsimp only;rw [if_pos h3],by dsimp only;rw [if_pos h3]⟩,rfl,rfl⟩,fun h3=>⟨⟨((a:Int),(m:Int)),by dsimp only;rw [if_neg h3],by dsimp only;rw [if_neg h3]⟩,rfl,rfl⟩⟩,?_⟩
    rintro ⟨⟨lo,hi⟩,hlo,hhi⟩
    dsimp only at hlo hhi ⊢
    obtain ⟨lo,rfl⟩:=Int.eq_ofNat_of_zero_le (show 0≤lo by rw [hlo]; split <;> omega)
    obtain ⟨hi,rfl⟩:=Int.eq_ofNat_of_zero_le (show 0≤hi by rw [hhi]; split <;> omega)
    have hlo':lo=if m > mid then mid+m - b else a:=by split at hlo <;> split <;> omega
    have hhi':hi=if m > mid then mid else m:=by split at hhi <;> split <;> omega
    have hlh:lo≤hi:=by rw [hlo',hhi']; split <;> omega
    have hr:∀ c,lo≤c→c < hi→a≤c∧c < m∧m≤(mid+m - 1) - c∧(mid+m - 1) - c < b∧c≤mid+m - 1:=by
      intro c c1 c2
      rw [hlo'] at c1
      rw [hhi'] at c2
      split at c1 <;> split at c2 <;> omega
    have ep:((mid:Int)+m - 1).toNat=mid+m - 1:=by omega
    rw [Int.toNat_natCast,Int.toNat_natCast,ep]
    refine ⟨by unfold i64R;omega,⟨⟨(lo,hi),SeC.init l hlh⟩,rfl,rfl⟩,?_⟩
    rintro ⟨⟨i,j⟩,hs⟩
    have s1:=hs.mi;have s2:=hs.ij;have s3:=hs.jb
    dsimp only at s1 s2 s3 hs ⊢
    have hhib:hi≤m:=by rw [hhi']; split <;> omega
    refine ⟨fun h=>?_,fun h=>?_⟩
    · rw [half_u64 i j (by omega)]
      refine ⟨⟨by unfold i64R;omega,by unfold i64R;omega,⟨(i+j) / 2,by omega⟩,rfl⟩,?_⟩
      rintro ⟨c,hc'⟩
      dsimp only
      have rc:=hr c (by omega) (by omega)
      have ec:((mid:Int)+m - 1 - c).toNat=mid+m - 1 - c:=by omega
      rw [ec]
      exact ⟨by unfold i64R;omega,by omega,by omega,by omega,by omega,fun hl=>⟨⟨(i,c),hs.dn hc6 hc7 hr (by omega) (by omega) ((ltW_iff _ _).1 hl)⟩,by dsimp only;omega,rfl,rfl⟩,fun hl=>⟨by unfold i64R;omega,⟨(c+1,j),hs.up hc6 hc7 hr (by omega) (by omega) ((ltW_niff _ _).1 hl)⟩,by dsimp only;omega,by dsimp only;omega,rfl⟩⟩
    have hij:j=i:=by omega
    subst hij
    obtain ⟨g1,g2,g3,g4,g5,g6,r1,r2,r3,r4,rx⟩:=merge_mid (n:=mid+m) ltW_swo hc6 hc7 (by omega) (by omega) (by omega) hmid' rfl hlo' hhi' s1 s3 hs.lo hs.hi
    have ee:((mid:Int)+m - j).toNat=mid+m - j:=by omega
    have el:(rotL l j m (mid+m - j)).length=l.length:=rotL_len (by omega) (by omega) (by omega)
    have pr:PI l (rotL l j m (mid+m - j)) a b:=(rotL_PI (by omega) (by omega) (by omega)).mono (by omega) (by omega)
    rw [ee]
    refine ⟨by unfold i64R;omega,⟨fun h3=>⟨fun h4=>⟨by omega,by omega,by omega,by omega,by omega,?_⟩,fun h4=>⟨⟨l,?_⟩,rfl⟩⟩,fun h3=>⟨⟨l,?_⟩,rfl⟩⟩,?_⟩
    · rintro y rfl
      exact ⟨⟨_,rfl⟩,rfl⟩
    · rw [show mid+m - j=m by omega,rot_nop2 (by omega) (by omega)]
    · rw [show j=m by omega,show mid+m - m=mid by omega,rot_nop1 (by omega) (by omega)]
    rintro ⟨r,rfl⟩
    dsimp only
    simp only [el]
    refine ⟨⟨fun h3=>⟨fun h4=>⟨by omega,by omega,by omega,by omega,by omega,by omega,r1,r2,fun y y1 y2=>⟨⟨y,y1,y2⟩,rfl⟩⟩,fun h4=>⟨⟨_,PI.refl,?_⟩,rfl⟩⟩,fun h3=>⟨⟨_,PI.refl,?_⟩,rfl⟩⟩,?_⟩
    · exact r1.mono (Nat.le_refl _) (by omega)
    · exact r2.mono (by omega) (Nat.le_refl _)
    rintro ⟨r,p1,q1⟩
    dsimp only at p1 q1 ⊢
    have lr:r.length=l.length:=by rw [p1.len,el]
    simp only [lr]
    have q3:SrtR ltW ([],0) r mid (mid+m - j):=r3.same fun p h _=>p1.outD (.inr h)
    have q4:SrtR ltW ([],0) r (mid+m - j) b:=r4.same fun p h _=>p1.outD (.inr (by omega))
    have fin:∀ r2,PI r r2 mid b→SrtR ltW ([],0) r2 mid b→∃ x,PI l x a b∧SrtR ltW ([],0) x a b∧r2=x:=fun r2 p2 q2=>by
      obtain ⟨e1,e2⟩:=merge_end (l:=rotL l j m (mid+m - j)) (d:=(([],0):Wd)) (by omega) (by omega) (by omega) rx p1 q1 p2 q2
      exact ⟨r2,pr.trans e1,e2,rfl⟩
    refine ⟨fun h3=>⟨fun h4=>⟨by clear fin;omega,by clear fin;omega,by clear fin;omega,by clear fin;omega,by clear fin;omega,by clear fin;omega,q3,q4,fun y y1 y2=>fin y y1 y2⟩,fun h4=>fin r PI.refl ?_⟩,fun h3=>fin r PI.refl ?_⟩
    · exact q3.mono (Nat.le_refl _) (by clear fin;omega)
    · exact q4.mono (by clear fin;omega) (Nat.le_refl _)
def M352u:MRow:=⟨(List (List UInt8×Int))×Int×Int×Int,WdT,(M352 0).P,(M352 0).l,fun (l,a,m,b)=>[0≤a,a < m,m < b,b≤l.length,l.length≤1099511627776,SrtR ltW ([],0) l a.toNat m.toNat,SrtR ltW ([],0) l m.toNat b.toNat],fun _=>List Wd,fun (l,a,m,b) y=>[PI l y a.toNat b.toNat,SrtR ltW ([],0) y a.toNat b.toNat],fun _ _=>.tup [],fun _ y=>y⟩
def C352u:MCon:=⟨fun xs L=>match xs.map nrmV with | [.one (.osl o),.one (.int .i64 a),.one (.int .i64 m),.one (.int .i64 b),.one (.fn 321 [])]=>(match getO L o with | .row (.pair .str (.int .i64)) l=>some (M352u.res (l,a,m,b) o L) | _=>none) | _=>none⟩
theorem mu352 {S:SC} (hB:SB S) (u362:MutOk S 362 C362) (q321:PrOk S 321 (pureP G321)) (h352:S.has 352 f352):MutOk S 352 C352u:=by
  intro c L H xs ys r hr hp
  simp only [C352u] at hr
  split at hr
  · rename_i o a m b he
    split at hr
    · rename_i l hl
      cases hr
      refine mur352 hB u362 q321 h352 ((b - a).toNat+1) c L H xs ys ((M352 ((b - a).toNat+1)).res (l,a,m,b) o L) ?_ ⟨Nat.lt_succ_self _,hp⟩
      simp only [C352,he,hl]
    · cases hr
  · cases hr
end Go.EA
