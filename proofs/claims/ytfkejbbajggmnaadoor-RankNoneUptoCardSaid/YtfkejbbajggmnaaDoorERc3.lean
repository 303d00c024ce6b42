/- Layer 15: two rows together; the references; the example. Conditions: none. (Printed by a program of this project's own.) -/
import Derived.Test.YtfkejbbajggmnaaDoorERc2
import Derived.KernelRfl
set_option linter.unusedVariables false
set_option linter.unusedSimpArgs false
set_option maxRecDepth 100000
set_option maxHeartbeats 0
namespace Go.EA
open F
theorem errC_app {a b:List Cd}:SmC (a++b)↔SmC a∧SmC b:=⟨fun h=>⟨fun x hx=>h x (List.mem_append_left _ hx),fun x hx=>h x (List.mem_append_right _ hx)⟩,fun h x hx=>(List.mem_append.1 hx).elim (h.1 x) (h.2 x)⟩
theorem allC_len (l:List Cd):(allC l).length≤l.length:=by
  have:=onceC_len (srtC l)
  rw [(srtC_perm l).length_eq] at this
  exact this
def exC:List Cd:=[([97,109],7,1),([97,110],7,2),([97,109],9,1)]
theorem exC_top:topO exC 5=[([97,110],7,2),([97,109],7,1)]∧0=topE exC 5:=by
  have e:srtC exC=[([97,110],7,2),([97,109],7,1),([97,109],9,1)]:=by
    refine ordC_uniq ((srtC_perm exC).trans (List.Perm.swap ..)) (srtC_ord exC) ?_
    unfold OrdC
    simp only [List.pairwise_cons,List.mem_cons,List.not_mem_nil,or_false,forall_eq_or_imp,forall_eq,List.Pairwise.nil,and_true,false_implies,implies_true]
    decide
  obtain ⟨t1,t2⟩:=top_of (l:=exC) (k:=5) (by decide) (by omega)
  refine ⟨?_,t2⟩
  rw [t1]
  show (onceC (srtC exC)).take 5=_
  rw [e]
  rfl
def P384:(List (List UInt8×Int×Int))×(List (List UInt8×Int×Int))×Int→List SV:=fun (a,b,k)=>[.one (.row (.pair .str (.pair (.int .i64) (.int .i64))) a),.one (.row (.pair .str (.pair (.int .i64) (.int .i64))) b),.one (.int .i64 k)]
def R384:(List (List UInt8×Int×Int))×(List (List UInt8×Int×Int))×Int→SV×List Prop:=fun (a,b,k)=>(.tup [.o (.row CdT (topO (a++b) k)),.o (.int .i64 (topE (a++b) k))],[a.length≤549755813888,b.length≤549755813888,SmC a,SmC b])
def K384:Con:=⟨false,[some (.pair .str (.pair (.int .i64) (.int .i64))),some (.pair .str (.pair (.int .i64) (.int .i64))),none],fun xs=>match xs with | [.one (.row (.pair .str (.pair (.int .i64) (.int .i64))) a),.one (.row (.pair .str (.pair (.int .i64) (.int .i64))) b),.one (.int .i64 k)]=>some (R384 (a,b,k)) | _=>none⟩
noncomputable def G384:GP:=conG P384 R384
theorem P384_inj:∀ a b,(P384 a).map den0=(P384 b).map den0→a=b:=by
  rintro ⟨a0,a1,a2⟩ ⟨b0,b1,b2⟩ h
  simp only [P384,List.map_cons,List.map_nil,den0,den0L,List.cons.injEq,AV.one.injEq,AV.agg.injEq,Lf.int.injEq,Lf.str.injEq,Lf.bool.injEq,Lf.vrow.injEq,and_true,true_and,and_assoc] at h
  obtain ⟨h0,h1,h2⟩:=h
  have h0:=row_inj h0
  have h1:=row_inj h1
  subst h0 h1 h2
  rfl
theorem K384_ok:ConG G384 K384:=conG_of P384_inj (fun ⟨_,_,_⟩ ⟨_,_,_⟩=>rfl) (fun ⟨_,_,_⟩=>rfl) fun xs r h=>by
  simp only [K384] at h
  split at h
  · cases h;rename_i a b k;exact ⟨(a,b,k),rfl,rfl⟩
  · cases h
theorem pr384 {S:SC} (hB:SB S) (q394:PrOk S 394 (pureP G394)) (q379:PrOk S 379 (pureP G379)) (h384:S.has 384 f384):PrOk S 384 (pureP G384):=by
  refine prM hB [] [⟨394,G394,K394⟩,⟨379,G379,K379⟩] trivial ⟨⟨q394,K394_ok⟩,⟨q379,K379_ok⟩,trivial⟩ h384 (fun ⟨a,b,k⟩=>⟨rfl,rfl,rfl⟩) (fun (a,b,k)=>fun _ _ _ _=>none) 1000 ?_
  rintro ⟨a,b,k⟩ hc
  have hc1:a.length≤549755813888:=hc.1
  have hc2:b.length≤549755813888:=hc.2.1
  have hc3:SmC a:=hc.2.2.1
  have hc4:SmC b:=hc.2.2.2.1
  refine VC.use (p:=
    (([a,b].flatten.length≤1099511627776) ∧
    (([a,b].length≤1099511627776) ∧
    (([a,b].flatten.length≤1099511627776) ∧
    ((SmC [a,b].flatten) ∧
    ((topO [a,b].flatten k=topO (a++b) k) ∧
    (topE [a,b].flatten k=topE (a++b) k))))))) (by kernel_rfl) ?_
  have e:[a,b].flatten=a++b:=by simp
  rw [e]
  have hl:(a++b).length≤1099511627776:=by rw [List.length_append];omega
  exact ⟨hl,by simp only [List.length_cons,List.length_nil];omega,hl,errC_app.2 ⟨hc3,hc4⟩,rfl,rfl⟩
def P377:Unit→List SV:=fun _=>[]
def R377:Unit→SV×List Prop:=fun _=>(.one (.bool true),[])
def K377:Con:=⟨true,[],fun xs=>match xs with | []=>some (R377 ()) | _=>none⟩
noncomputable def G377:GP:=conG P377 R377
theorem P377_inj:∀ a b,(P377 a).map den0=(P377 b).map den0→a=b:=by
  intro a b _;rfl
theorem K377_ok:ConG G377 K377:=conG_of P377_inj (fun _ _=>rfl) (fun _=>rfl) fun xs r h=>by
  simp only [K377] at h
  split at h
  · cases h;exact ⟨(),rfl,rfl⟩
  · cases h
theorem pr377 {S:SC} (hB:SB S) (q379:PrOk S 379 (pureP G379)) (q387:PrOk S 387 (pureP G387)) (h377:S.has 377 f377):PrOk S 377 (pureP G377):=by
  refine prM hB [] [⟨379,G379,K379⟩,⟨387,G387,K387⟩] trivial ⟨⟨q379,K379_ok⟩,⟨q387,K387_ok⟩,trivial⟩ h377 (fun _=>⟨rfl,rfl,rfl⟩) (fun _=>fun _ _ _ _=>none) 400 ?_
  rintro _ hc
  refine VC.use (p:=
    (((3:Nat)≤(1099511627776:Nat)) ∧
    ((SmC [([97,109],7,1),([97,110],7,2),([97,109],9,1)]) ∧
    (((↑(topO [([(97:UInt8),(109:UInt8)],(7:Int),(1:Int)),([(97:UInt8),(110:UInt8)],(7:Int),(2:Int)),([(97:UInt8),(109:UInt8)],(9:Int),(1:Int))] (5:Int)).length:Int)=(2:Int) →
      (((0:Int)≤(0:Int)∧(0:Int) < (↑(topO [([(97:UInt8),(109:UInt8)],(7:Int),(1:Int)),([(97:UInt8),(110:UInt8)],(7:Int),(2:Int)),([(97:UInt8),(109:UInt8)],(9:Int),(1:Int))] (5:Int)).length:Int)) ∧
      ((((topO [([(97:UInt8),(109:UInt8)],(7:Int),(1:Int)),([(97:UInt8),(110:UInt8)],(7:Int),(2:Int)),([(97:UInt8),(109:UInt8)],(9:Int),(1:Int))] (5:Int)).getD (0:Nat) ([],(0:Int),(0:Int))).fst=[(97:UInt8),(110:UInt8)] →
        (((0:Int)≤(1:Int)∧(1:Int) < (↑(topO [([(97:UInt8),(109:UInt8)],(7:Int),(1:Int)),([(97:UInt8),(110:UInt8)],(7:Int),(2:Int)),([(97:UInt8),(109:UInt8)],(9:Int),(1:Int))] (5:Int)).length:Int)) ∧
        ((((topO [([(97:UInt8),(109:UInt8)],(7:Int),(1:Int)),([(97:UInt8),(110:UInt8)],(7:Int),(2:Int)),([(97:UInt8),(109:UInt8)],(9:Int),(1:Int))] (5:Int)).getD (1:Nat) ([],(0:Int),(0:Int))).snd.fst=(7:Int) →
          (((0:Int)=(0:Int) →
            (((0:Nat)≤(1099511627776:Nat)) ∧
            (decide ((4:Int)=(4:Int))=true))) ∧
          (¬(0 : Int) = (0 : Int) →
           (false=true)))) ∧
        (¬((topO [([(97 : UInt8), (109 : UInt8)], (7 : Int), (1 : Int)), ([(97 : UInt8), (110 : UInt8)], (7 : Int), (2 : Int)), ([(97 : UInt8), (109 : UInt8)], (9 : Int), (1 : Int))] (5 : Int)).getD (1 : Nat) ([], (0 : Int), (0 : Int))).snd.fst = (7 : Int) →
         (false=true))))) ∧
      (¬((topO [([(97 : UInt8), (109 : UInt8)], (7 : Int), (1 : Int)), ([(97 : UInt8), (110 : UInt8)], (7 : Int), (2 : Int)), ([(97 : UInt8), (109 : UInt8)], (9 : Int), (1 : Int))] (5 : Int)).getD (0 : Nat) ([], (0 : Int), (0 : Int))).fst = [(97 : UInt8), (110 : UInt8)] →
       (false=true))))) ∧
    (¬(↑(topO [([(97 : UInt8), (109 : UInt8)], (7 : Int), (1 : Int)), ([(97 : UInt8), (110 : UInt8)], (7 : Int), (2 : Int)), ([(97 : UInt8), (109 : UInt8)], (9 : Int), (1 : Int))] (5 : Int)).length : Int) = (2 : Int) →
     (false=true)))))) (by kernel_rfl) ?_
  rw [show topO [([97,109],7,1),([97,110],7,2),([97,109],9,1)] 5=_ from exC_top.1]
  refine ⟨by decide,fun x hx=>?_,fun _=>⟨by decide,fun _=>⟨by decide,fun _=>⟨fun _=>⟨by decide,rfl⟩,fun h=>absurd rfl h⟩,fun h=>absurd rfl h⟩,fun h=>absurd rfl h⟩,fun h=>absurd rfl h⟩
  simp only [List.mem_cons,List.not_mem_nil,or_false] at hx
  rcases hx with rfl | rfl | rfl <;> decide
end Go.EA
