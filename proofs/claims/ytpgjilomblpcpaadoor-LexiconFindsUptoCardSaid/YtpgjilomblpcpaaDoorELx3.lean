/- Layer 9: which of two words is more frequent. Conditions: none. (Printed by a program of this project's own.) -/
import Derived.Test.YtpgjilomblpcpaaDoorELx1
import Derived.KernelRfl
set_option linter.unusedVariables false
set_option linter.unusedSimpArgs false
set_option maxRecDepth 100000
set_option maxHeartbeats 0
namespace Go.EA
open F
def cmpJ (a b:Int):Int:=if a < b then -1 else if b < a then 1 else 0
def cfB (a b:Wd):Int:=orV [cmpJ b.2 a.2,cmpS a.1 b.1]
def ltB (a b:Wd):Bool:=decide (cfB a b < 0)
theorem ltB_iff (a b:Wd):ltB a b=true↔b.2 < a.2∨(b.2=a.2∧sless a.1 b.1=true):=by
  unfold ltB cfB cmpJ orV
  rw [decide_eq_true_eq]
  rcases Int.lt_trichotomy b.2 a.2 with h | h | h
  · rw [if_pos h]
    simp [h]
  · rw [if_neg (by omega),if_neg (by omega)]
    have:cmpS a.1 b.1 < 0↔sless a.1 b.1=true:=cmp_lt _ _
    by_cases h0:cmpS a.1 b.1=0
    · have h1:¬ sless a.1 b.1=true:=fun e=>by rw [← this,h0] at e;exact absurd e (by decide)
      simp [h0,h,h1]
    · simp [h0,h,this]
  · rw [if_neg (by omega),if_pos h]
    constructor
    · intro e;simp at e
    · rintro (e | ⟨e,_⟩) <;> omega
def P345:Int→List SV:=fun a=>[.one (.int .i64 a)]
def R345:Int→SV×List Prop:=fun a=>(.one (.bool false),[])
def K345:Con:=⟨true,[none],fun xs=>match xs with | [.one (.int .i64 a)]=>some (R345 a) | _=>none⟩
noncomputable def G345:GP:=conG P345 R345
theorem P345_inj:∀ a b,(P345 a).map den0=(P345 b).map den0→a=b:=by
  rintro a0 b0 h
  simp only [P345,List.map_cons,List.map_nil,den0,den0L,List.cons.injEq,AV.one.injEq,AV.agg.injEq,Lf.int.injEq,Lf.str.injEq,Lf.bool.injEq,Lf.vrow.injEq,and_true,true_and] at h
  exact h
theorem K345_ok:ConG G345 K345:=conG_of P345_inj (fun _ _=>rfl) (fun _=>rfl) fun xs r h=>by
  simp only [K345] at h
  split at h
  · cases h;rename_i a;exact ⟨a,rfl,rfl⟩
  · cases h
theorem pr345 {S:SC} (hB:SB S)  (h345:S.has 345 f345):PrOk S 345 (pureP G345):=by
  refine prM hB [] [] trivial trivial h345 (fun _=>⟨rfl,rfl,rfl⟩) (fun a=>fun _ _ _ _=>none) 400 ?_
  rintro a hc
  refine VC.use (p:=
    ((!decide (a=a))=false)) (by kernel_rfl) ?_
  simp
def P328:Int×Int→List SV:=fun (a,b)=>[.one (.int .i64 a),.one (.int .i64 b)]
def R328:Int×Int→SV×List Prop:=fun (a,b)=>(.one (.int .i64 (cmpJ a b)),[])
def K328:Con:=⟨true,[none,none],fun xs=>match xs with | [.one (.int .i64 a),.one (.int .i64 b)]=>some (R328 (a,b)) | _=>none⟩
noncomputable def G328:GP:=conG P328 R328
theorem P328_inj:∀ a b,(P328 a).map den0=(P328 b).map den0→a=b:=by
  rintro ⟨a0,a1⟩ ⟨b0,b1⟩ h
  simp only [P328,List.map_cons,List.map_nil,den0,den0L,List.cons.injEq,AV.one.injEq,AV.agg.injEq,Lf.int.injEq,Lf.str.injEq,Lf.bool.injEq,Lf.vrow.injEq,and_true,true_and,and_assoc] at h
  obtain ⟨h0,h1⟩:=h
  subst h0 h1
  rfl
theorem K328_ok:ConG G328 K328:=conG_of P328_inj (fun ⟨_,_⟩ ⟨_,_⟩=>rfl) (fun ⟨_,_⟩=>rfl) fun xs r h=>by
  simp only [K328] at h
  split at h
  · cases h;rename_i a b;exact ⟨(a,b),rfl,rfl⟩
  · cases h
theorem pr328 {S:SC} (hB:SB S) (q345:PrOk S 345 (pureP G345)) (h328:S.has 328 f328):PrOk S 328 (pureP G328):=by
  refine prM hB [] [⟨345,G345,K345⟩] trivial ⟨⟨q345,K345_ok⟩,trivial⟩ h328 (fun ⟨a,b⟩=>⟨rfl,rfl,rfl⟩) (fun (a,b)=>fun _ _ _ _=>none) 400 ?_
  rintro ⟨a,b⟩ hc
  refine VC.use (p:=
    ((false=true →
      ((false=true →
        (0=cmpJ a b)) ∧
      (¬false = true →
       (-1=cmpJ a b)))) ∧
    (¬false = true →
     ((false=true →
       (1=cmpJ a b)) ∧
     (¬false = true →
      ((a < b →
        (-1=cmpJ a b)) ∧
      (¬a < b →
       ((b < a →
         (1=cmpJ a b)) ∧
       (¬b < a →
        (0=cmpJ a b)))))))))) (by kernel_rfl) ?_
  refine ⟨fun h=>(by cases h),fun _=>⟨fun h=>(by cases h),fun _=>⟨fun h=>?_,fun h=>⟨fun h1=>?_,fun h1=>?_⟩⟩⟩⟩
  all_goals
    unfold cmpJ
    split <;> (try split) <;> omega
def P327:List UInt8×Int×List UInt8×Int→List SV:=fun (a0,a1,b0,b1)=>[.agg [.str a0,.int .i64 a1],.agg [.str b0,.int .i64 b1]]
def R327:List UInt8×Int×List UInt8×Int→SV×List Prop:=fun (a0,a1,b0,b1)=>(.one (.int .i64 (cfB (a0,a1) (b0,b1))),[])
noncomputable def G327:GP:=conG P327 R327
theorem P327_inj:∀ a b,(P327 a).map den0=(P327 b).map den0→a=b:=by
  rintro ⟨a0,a1,a2,a3⟩ ⟨b0,b1,b2,b3⟩ h
  simp only [P327,List.map_cons,List.map_nil,den0,den0L,List.cons.injEq,AV.one.injEq,AV.agg.injEq,Lf.int.injEq,Lf.str.injEq,Lf.bool.injEq,Lf.vrow.injEq,and_true,true_and,and_assoc] at h
  obtain ⟨h0,h1,h2,h3⟩:=h
  subst h0 h1 h2 h3
  rfl
theorem pr327 {S:SC} (hB:SB S) (q328:PrOk S 328 (pureP G328)) (q321:PrOk S 321 (pureP G321)) (q251:PrOk S 251 (pureP G251)) (h327:S.has 327 f327):PrOk S 327 (pureP G327):=by
  refine prM hB [] [⟨328,G328,K328⟩,⟨321,G321,K321⟩,⟨251,G251,K251⟩] trivial ⟨⟨q328,K328_ok⟩,⟨q321,K321_ok⟩,⟨q251,K251_ok⟩,trivial⟩ h327 (fun ⟨a0,a1,b0,b1⟩=>⟨rfl,rfl,rfl⟩) (fun (a0,a1,b0,b1)=>fun _ _ _ _=>none) 400 ?_
  rintro ⟨a0,a1,b0,b1⟩ hc
  refine VC.use (p:=
    (([cmpJ b1 a1,cmpS a0 b0].length≤1099511627776) ∧
    (orV [cmpJ b1 a1,cmpS a0 b0]=cfB (a0,a1) (b0,b1)))) (by kernel_rfl) ?_
  exact ⟨by simp only [List.length_cons,List.length_nil];omega,rfl⟩
def M344:MRow:=⟨(List (List UInt8×Int)),(.pair .str (.int .i64)),fun l o=>[.one (.osl o),.one (.fn 327 [])],fun l=>l,fun l=>[l.length≤1099511627776],fun l=>List (List UInt8×Int),fun l y=>[PI l y 0 l.length,SrtR ltB ([],0) y 0 l.length],fun l y=>.tup [],fun l y=>y⟩
def C344:MCon:=⟨fun xs L=>match xs.map nrmV with | [.one (.osl o),.one (.fn 327 [])]=>(match getO L o with | .row (.pair .str (.int .i64)) l=>some ((M344).res l o L) | _=>none) | _=>none⟩
theorem M344_fits:(M344).Fits (C344):=by
  intro xs L r h
  simp only [C344] at h
  split at h
  · rename_i o he
    split at h
    · rename_i l hl
      cases h
      exact ⟨l,o,he,hl,rfl⟩
    · cases h
  · cases h
end Go.EA
