/- Layer 9: the reference's words each once, in order. Conditions: none. -/
import Derived.Test.YtpgjilomblpcpaaDoorELx2
import Derived.Test.YtpgjilomblpcpaaDoorEK12
import Derived.KernelRfl
set_option linter.unusedVariables false
set_option linter.unusedSimpArgs false
set_option maxRecDepth 100000
set_option maxHeartbeats 0
namespace Go.EA
open F
def Qz:(List (List UInt8×Int))->List SV:=fun l=>[.one (.row (.pair .str (.int .i64)) l)]
def Ww:(List (List UInt8×Int))->SV×List Prop:=fun l=>(.tup [.o (.row WdT (az l)),.o (.int .i64 (kL l))],[l.length<=1099511627776,SmW l])
def Ui:Con:=⟨false,[some (.pair .str (.int .i64))],fun xs=>match xs with | [.one (.row (.pair .str (.int .i64)) l)]=>some (Ww l) | _=>none⟩
noncomputable def IP:GP:=dC Qz Ww
theorem Ml:∀a b,(Qz a).map aB=(Qz b).map aB->a=b:=by
 rintro a0 b0 h;simp only[Qz,zK,List.map_nil,aB,aW,zG,AV.one.injEq,AV.agg.injEq,Lf.int.injEq,Lf.str.injEq,Lf.bool.injEq,Lf.vrow.injEq,and_true,true_and] at h;exact dK h
theorem QD:dM IP Ui:=bf Ml (fun _ _=>rfl) (fun _=>rfl) fun xs r h=>by
 simp only[Ui] at h;split at h
 .cases h;rename_i l;exact⟨l,rfl,rfl⟩
 .cases h
theorem Xd {S:SC}(hB:SB S) (Vp:aO S 317 (aA Mk)) (h291:S.has 291 f291):aO S 291 (aA IP):=by
 refine prM hB [] [⟨317,Mk,UD⟩] trivial ⟨⟨Vp,NK⟩,trivial⟩ h291 (fun _=>⟨rfl,rfl,rfl⟩) (fun l=>fun f id T L=>match f,id with
  |291,0=>some (.inv { i:Nat // i<=l.length } (fun x=>([(16,.one (.int .i64 x.1)),(5,.one (.osl 0))],[(0,.row WdT (aa (l.take x.1)))])) (fun x=>l.length-x.1))
  |291,2=>match ae L 0 with | .row (.pair .str (.int .i64)) o=>(match ae L 1 with | .cell [.str s,.int .i64 _]=>some (.inv { i:Nat // i<=o.length/\∀j,j<i->aM (o.getD j ([],0)).1 s=true } (fun x=>([(8,.one (.int .i64 x.1))],[])) (fun x=>o.length-x.1)) | _=>none) | _=>none
  |291,4064=>match ae L 0,ae L 1,T.getD 8 .junk with | .row (.pair .str (.int .i64)) o,.cell [.str s,.int .i64 _],.one (.int .i64 a)=>some (.cut { u:Unit // a.toNat<o.length->aM (o.getD a.toNat ([],0)).1 s=false/\(o.getD a.toNat ([],0)).1≠s } fun _=>([(5,.one (.row WdT o))],[(0,.dead)])) | _,_,_=>none
  |_,_=>none) 2000 ?_
 rintro l hc;have hc1:l.length<=1099511627776:=hc.1;have hc2:SmW l:=hc.2.1;refine VC.use (p:=
  ((l.length<=1099511627776)/\
  ((SmW l)/\
  ((dW   l=0 →
    ((∃ x1:{ i:Nat // i≤l.length },
      ((aa (List.take x1.1 l)=[])/\
      ((l=l)/\
      (((l.length:Int)=(l.length:Int))/\
      ((0=(x1.1:Int))/\
      (aa (List.take x1.1 l)=[]))))))/\
    (∀ x1 : { i : Nat // i ≤ l.length },
     (((↑x1.val:Int) < (↑l.length:Int) →
       ((0<=(x1.1:Int)/\(x1.1:Int)<(l.length:Int))/\
       ((∃ x2:{ i:Nat // i≤(aa    (List.take x1.val l)).length∧∀ (j:Nat),j < i→aM    ((aa    (List.take x1.val l)).getD j ([],0)).fst (l.getD x1.val ([],0)).fst=true },
         ((0=(x2.1:Int))/\
         ((l=l)/\
         (((l.length:Int)=(l.length:Int))/\
         (((x1.1:Int)=(x1.1:Int))/\
         ((aa (List.take x1.1 l)=aa (List.take x1.1 l))/\
         (((l.getD x1.1 ([],0)).1=(l.getD x1.1 ([],0)).1)/\
         ((l.getD x1.1 ([],0)).2=(l.getD x1.1 ([],0)).2))))))))/\
       (∀ x2 : { i : Nat // i ≤ (aa    (List.take x1.val l)).length ∧ ∀ (j : Nat), j < i → aM    ((aa    (List.take x1.val l)).getD j ([], 0)).fst (l.getD x1.val ([], 0)).fst = true },
        (((↑x2.val:Int) < (↑(aa    (List.take x1.val l)).length:Int) →
          ((0<=(x2.1:Int)/\(x2.1:Int)<(↑(aa (List.take x1.1 l)).length:Int))/\
          ((x2.1<(aa (List.take x1.1 l)).length)/\
          ((aM    ((aa    (List.take x1.val l)).getD x2.val ([],0)).fst (l.getD x1.val ([],0)).fst=true →
            ((aL ((x2.1:Int)+1))/\
            (∃ x3 : { i : Nat // i ≤ (aa    (List.take x1.val l)).length ∧ ∀ (j : Nat), j < i → aM    ((aa    (List.take x1.val l)).getD j ([], 0)).fst (l.getD x1.val ([], 0)).fst = true },
             (((aa (List.take x1.1 l)).length-x3.1<(aa (List.take x1.1 l)).length-x2.1)/\
             (((x2.1:Int)+1=(x3.1:Int))/\
             ((l=l)/\
             (((l.length:Int)=(l.length:Int))/\
             (((x1.1:Int)=(x1.1:Int))/\
             ((aa (List.take x1.1 l)=aa (List.take x1.1 l))/\
             (((l.getD x1.1 ([],0)).1=(l.getD x1.1 ([],0)).1)/\
             ((l.getD x1.1 ([],0)).2=(l.getD x1.1 ([],0)).2)))))))))))/\
          (¬aM    ((aa    (List.take x1.val l)).getD x2.val ([], 0)).fst (l.getD x1.val ([], 0)).fst = true →
           ((((↑x2.val : Int) < (↑(aa    (List.take x1.val l)).length : Int) →
              ((0<=(x2.1:Int)/\(x2.1:Int)<(↑(aa (List.take x1.1 l)).length:Int))/\
              ((x2.1<(aa (List.take x1.1 l)).length)/\
              ((((aa    (List.take x1.val l)).getD x2.val ([],0)).fst=(l.getD x1.val ([],0)).fst →
                ((0<=(x2.1:Int)/\(x2.1:Int)<(↑(aa (List.take x1.1 l)).length:Int))/\
                ((x2.1<(aa (List.take x1.1 l)).length)/\
                ((aL (((aa (List.take x1.1 l)).getD x2.1 ([],0)).2+(l.getD x1.1 ([],0)).2))/\
                ((0<=(x2.1:Int)/\(x2.1:Int)<(↑(aa (List.take x1.1 l)).length:Int))/\
                ((x2.1<(aa (List.take x1.1 l)).length)/\
                ((aL ((x1.1:Int)+1))/\
                (∃ x3 : { i : Nat // i ≤ l.length },
                 ((l.length-x3.1<l.length-x1.1)/\
                 ((l=l)/\
                 (((l.length:Int)=(l.length:Int))/\
                 (((x1.1:Int)+1=(x3.1:Int))/\
                 ((aa (List.take x1.1 l)).set x2.1     (((aa (List.take x1.1 l)).getD x2.1 ([],0)).1,      (if ((aa (List.take x1.1 l)).getD x2.1 ([],0)).2+(l.getD x1.1 ([],0)).2<1073741824 then ((aa (List.take x1.1 l)).getD x2.1 ([],0)).2+(l.getD x1.1 ([],0)).2 else 1073741824)) =   aa (List.take x3.1 l))))))))))))))/\
              (¬((aa    (List.take x1.val l)).getD x2.val ([], 0)).fst = (l.getD x1.val ([], 0)).fst →
               (∃ x3 : { u : Unit // x2.val < (aa    (List.take x1.val l)).length → aM    ((aa    (List.take x1.val l)).getD x2.val ([], 0)).fst (l.getD x1.val ([], 0)).fst = false ∧ ((aa    (List.take x1.val l)).getD x2.val ([], 0)).fst ≠ (l.getD x1.val ([], 0)).fst },
                ((aa (List.take x1.1 l)=aa (List.take x1.1 l))/\
                (((x2.1:Int)=(x2.1:Int))/\
                ((l=l)/\
                (((l.length:Int)=(l.length:Int))/\
                (((x1.1:Int)=(x1.1:Int))/\
                (((l.getD x1.1 ([],0)).1=(l.getD x1.1 ([],0)).1)/\
                ((l.getD x1.1 ([],0)).2=(l.getD x1.1 ([],0)).2)))))))))))))/\
            (¬(↑x2.val : Int) < (↑(aa    (List.take x1.val l)).length : Int) →
             (∃ x3 : { u : Unit // x2.val < (aa    (List.take x1.val l)).length → aM    ((aa    (List.take x1.val l)).getD x2.val ([], 0)).fst (l.getD x1.val ([], 0)).fst = false ∧ ((aa    (List.take x1.val l)).getD x2.val ([], 0)).fst ≠ (l.getD x1.val ([], 0)).fst },
              ((aa (List.take x1.1 l)=aa (List.take x1.1 l))/\
              (((x2.1:Int)=(x2.1:Int))/\
              ((l=l)/\
              (((l.length:Int)=(l.length:Int))/\
              (((x1.1:Int)=(x1.1:Int))/\
              (((l.getD x1.1 ([],0)).1=(l.getD x1.1 ([],0)).1)/\
              ((l.getD x1.1 ([],0)).2=(l.getD x1.1 ([],0)).2))))))))))/\
           (∀ x3 : { u : Unit // x2.val < (aa    (List.take x1.val l)).length → aM    ((aa    (List.take x1.val l)).getD x2.val ([], 0)).fst (l.getD x1.val ([], 0)).fst = false ∧ ((aa    (List.take x1.val l)).getD x2.val ([], 0)).fst ≠ (l.getD x1.val ([], 0)).fst },
            (((0 ≤ (↑x2.val : Int) ∧ (↑x2.val : Int) ≤ (↑(aa    (List.take x1.val l)).length : Int)) ∧
             (((0+(aD (aa (List.take x1.1 l)) none (some (x2.1:Int))).length)*24<=140737488355328)/\
             (((([]++aD (aa (List.take x1.1 l)) none (some (x2.1:Int))).length+[((l.getD x1.1 ([],0)).1,(l.getD x1.1 ([],0)).2)].length)*24<=140737488355328)/\
             ((0<=(x2.1:Int)/\(x2.1:Int)<=(↑(aa (List.take x1.1 l)).length:Int))/\
             (((([]++aD (aa (List.take x1.1 l)) none (some (x2.1:Int))++[((l.getD x1.1 ([],0)).1,(l.getD x1.1 ([],0)).2)]).length+(aD (aa (List.take x1.1 l)) (some (x2.1:Int)) none).length)*24<=140737488355328)/\
             ((aL ((x1.1:Int)+1))/\
             (∃ x4 : { i : Nat // i ≤ l.length },
              ((l.length-x4.1<l.length-x1.1)/\
              ((l=l)/\
              (((l.length:Int)=(l.length:Int))/\
              (((x1.1:Int)+1=(x4.1:Int))/\
              ([]++aD (aa (List.take x1.1 l)) none (some (x2.1:Int))++[((l.getD x1.1 ([],0)).1,(l.getD x1.1 ([],0)).2)]++aD (aa (List.take x1.1 l)) (some (x2.1:Int)) none=aa (List.take x4.1 l)))))))))))))/\
            (((0 ≤ (↑x2.val : Int) ∧ (↑x2.val : Int) ≤ (↑(aa    (List.take x1.val l)).length : Int)) ∧
             (((0+(aD (aa (List.take x1.1 l)) none (some (x2.1:Int))).length)*24<=140737488355328)/\
             (((([]++aD (aa (List.take x1.1 l)) none (some (x2.1:Int))).length+[((l.getD x1.1 ([],0)).1,(l.getD x1.1 ([],0)).2)].length)*24<=140737488355328)/\
             ((0<=(x2.1:Int)/\(x2.1:Int)<=(↑(aa (List.take x1.1 l)).length:Int))/\
             (((([]++aD (aa (List.take x1.1 l)) none (some (x2.1:Int))++[((l.getD x1.1 ([],0)).1,(l.getD x1.1 ([],0)).2)]).length+(aD (aa (List.take x1.1 l)) (some (x2.1:Int)) none).length)*24<=140737488355328)/\
             ((aL ((x1.1:Int)+1))/\
             (∃ x4 : { i : Nat // i ≤ l.length },
              ((l.length-x4.1<l.length-x1.1)/\
              ((l=l)/\
              (((l.length:Int)=(l.length:Int))/\
              (((x1.1:Int)+1=(x4.1:Int))/\
              ([]++aD (aa (List.take x1.1 l)) none (some (x2.1:Int))++[((l.getD x1.1 ([],0)).1,(l.getD x1.1 ([],0)).2)]++aD (aa (List.take x1.1 l)) (some (x2.1:Int)) none=aa (List.take x4.1 l)))))))))))))/\
            (((0 ≤ (↑x2.val : Int) ∧ (↑x2.val : Int) ≤ (↑(aa    (List.take x1.val l)).length : Int)) ∧
             (((0+(aD (aa (List.take x1.1 l)) none (some (x2.1:Int))).length)*24<=140737488355328)/\
             (((([]++aD (aa (List.take x1.1 l)) none (some (x2.1:Int))).length+[((l.getD x1.1 ([],0)).1,(l.getD x1.1 ([],0)).2)].length)*24<=140737488355328)/\
             ((0<=(x2.1:Int)/\(x2.1:Int)<=(↑(aa (List.take x1.1 l)).length:Int))/\
             (((([]++aD (aa (List.take x1.1 l)) none (some (x2.1:Int))++[((l.getD x1.1 ([],0)).1,(l.getD x1.1 ([],0)).2)]).length+(aD (aa (List.take x1.1 l)) (some (x2.1:Int)) none).length)*24<=140737488355328)/\
             ((aL ((x1.1:Int)+1))/\
             (∃ x4 : { i : Nat // i ≤ l.length },
              ((l.length-x4.1<l.length-x1.1)/\
              ((l=l)/\
              (((l.length:Int)=(l.length:Int))/\
              (((x1.1:Int)+1=(x4.1:Int))/\
              ([]++aD (aa (List.take x1.1 l)) none (some (x2.1:Int))++[((l.getD x1.1 ([],0)).1,(l.getD x1.1 ([],0)).2)]++aD (aa (List.take x1.1 l)) (some (x2.1:Int)) none=aa (List.take x4.1 l)))))))))))))/\
            (((0 ≤ (↑x2.val : Int) ∧ (↑x2.val : Int) ≤ (↑(aa    (List.take x1.val l)).length : Int)) ∧
             (((0+(aD (aa (List.take x1.1 l)) none (some (x2.1:Int))).length)*24<=140737488355328)/\
             (((([]++aD (aa (List.take x1.1 l)) none (some (x2.1:Int))).length+[((l.getD x1.1 ([],0)).1,(l.getD x1.1 ([],0)).2)].length)*24<=140737488355328)/\
             ((0<=(x2.1:Int)/\(x2.1:Int)<=(↑(aa (List.take x1.1 l)).length:Int))/\
             (((([]++aD (aa (List.take x1.1 l)) none (some (x2.1:Int))++[((l.getD x1.1 ([],0)).1,(l.getD x1.1 ([],0)).2)]).length+(aD (aa (List.take x1.1 l)) (some (x2.1:Int)) none).length)*24<=140737488355328)/\
             ((aL ((x1.1:Int)+1))/\
             (∃ x4 : { i : Nat // i ≤ l.length },
              ((l.length-x4.1<l.length-x1.1)/\
              ((l=l)/\
              (((l.length:Int)=(l.length:Int))/\
              (((x1.1:Int)+1=(x4.1:Int))/\
              ([]++aD (aa (List.take x1.1 l)) none (some (x2.1:Int))++[((l.getD x1.1 ([],0)).1,(l.getD x1.1 ([],0)).2)]++aD (aa (List.take x1.1 l)) (some (x2.1:Int)) none=aa (List.take x4.1 l)))))))))))))/\
            (((0 ≤ (↑x2.val : Int) ∧ (↑x2.val : Int) ≤ (↑(aa    (List.take x1.val l)).length : Int)) ∧
             (((0+(aD (aa (List.take x1.1 l)) none (some (x2.1:Int))).length)*24<=140737488355328)/\
             ((0<=(x2.1:Int)/\(x2.1:Int)<=(↑(aa (List.take x1.1 l)).length:Int))/\
             (((([]++aD (aa (List.take x1.1 l)) none (some (x2.1:Int))).length+[((l.getD x1.1 ([],0)).1,(l.getD x1.1 ([],0)).2)].length)*24<=140737488355328)/\
             (((([]++aD (aa (List.take x1.1 l)) none (some (x2.1:Int))++[((l.getD x1.1 ([],0)).1,(l.getD x1.1 ([],0)).2)]).length+(aD (aa (List.take x1.1 l)) (some (x2.1:Int)) none).length)*24<=140737488355328)/\
             ((aL ((x1.1:Int)+1))/\
             (∃ x4 : { i : Nat // i ≤ l.length },
              ((l.length-x4.1<l.length-x1.1)/\
              ((l=l)/\
              (((l.length:Int)=(l.length:Int))/\
              (((x1.1:Int)+1=(x4.1:Int))/\
              ([]++aD (aa (List.take x1.1 l)) none (some (x2.1:Int))++[((l.getD x1.1 ([],0)).1,(l.getD x1.1 ([],0)).2)]++aD (aa (List.take x1.1 l)) (some (x2.1:Int)) none=aa (List.take x4.1 l)))))))))))))/\
            (((0 ≤ (↑x2.val : Int) ∧ (↑x2.val : Int) ≤ (↑(aa    (List.take x1.val l)).length : Int)) ∧
             (((0+(aD (aa (List.take x1.1 l)) none (some (x2.1:Int))).length)*24<=140737488355328)/\
             ((0<=(x2.1:Int)/\(x2.1:Int)<=(↑(aa (List.take x1.1 l)).length:Int))/\
             (((([]++aD (aa (List.take x1.1 l)) none (some (x2.1:Int))).length+[((l.getD x1.1 ([],0)).1,(l.getD x1.1 ([],0)).2)].length)*24<=140737488355328)/\
             (((([]++aD (aa (List.take x1.1 l)) none (some (x2.1:Int))++[((l.getD x1.1 ([],0)).1,(l.getD x1.1 ([],0)).2)]).length+(aD (aa (List.take x1.1 l)) (some (x2.1:Int)) none).length)*24<=140737488355328)/\
             ((aL ((x1.1:Int)+1))/\
             (∃ x4 : { i : Nat // i ≤ l.length },
              ((l.length-x4.1<l.length-x1.1)/\
              ((l=l)/\
              (((l.length:Int)=(l.length:Int))/\
              (((x1.1:Int)+1=(x4.1:Int))/\
              ([]++aD (aa (List.take x1.1 l)) none (some (x2.1:Int))++[((l.getD x1.1 ([],0)).1,(l.getD x1.1 ([],0)).2)]++aD (aa (List.take x1.1 l)) (some (x2.1:Int)) none=aa (List.take x4.1 l)))))))))))))/\
            (((0 ≤ (↑x2.val : Int) ∧ (↑x2.val : Int) ≤ (↑(aa    (List.take x1.val l)).length : Int)) ∧
             (((0+(aD (aa (List.take x1.1 l)) none (some (x2.1:Int))).length)*24<=140737488355328)/\
             ((0<=(x2.1:Int)/\(x2.1:Int)<=(↑(aa (List.take x1.1 l)).length:Int))/\
             (((([]++aD (aa (List.take x1.1 l)) none (some (x2.1:Int))).length+[((l.getD x1.1 ([],0)).1,(l.getD x1.1 ([],0)).2)].length)*24<=140737488355328)/\
             (((([]++aD (aa (List.take x1.1 l)) none (some (x2.1:Int))++[((l.getD x1.1 ([],0)).1,(l.getD x1.1 ([],0)).2)]).length+(aD (aa (List.take x1.1 l)) (some (x2.1:Int)) none).length)*24<=140737488355328)/\
             ((aL ((x1.1:Int)+1))/\
             (∃ x4 : { i : Nat // i ≤ l.length },
              ((l.length-x4.1<l.length-x1.1)/\
              ((l=l)/\
              (((l.length:Int)=(l.length:Int))/\
              (((x1.1:Int)+1=(x4.1:Int))/\
              ([]++aD (aa (List.take x1.1 l)) none (some (x2.1:Int))++[((l.getD x1.1 ([],0)).1,(l.getD x1.1 ([],0)).2)]++aD (aa (List.take x1.1 l)) (some (x2.1:Int)) none=aa (List.take x4.1 l)))))))))))))/\
            (((0 ≤ (↑x2.val : Int) ∧ (↑x2.val : Int) ≤ (↑(aa    (List.take x1.val l)).length : Int)) ∧
             (((0+(aD (aa (List.take x1.1 l)) none (some (x2.1:Int))).length)*24<=140737488355328)/\
             ((0<=(x2.1:Int)/\(x2.1:Int)<=(↑(aa (List.take x1.1 l)).length:Int))/\
             (((([]++aD (aa (List.take x1.1 l)) none (some (x2.1:Int))).length+[((l.getD x1.1 ([],0)).1,(l.getD x1.1 ([],0)).2)].length)*24<=140737488355328)/\
             (((([]++aD (aa (List.take x1.1 l)) none (some (x2.1:Int))++[((l.getD x1.1 ([],0)).1,(l.getD x1.1 ([],0)).2)]).length+(aD (aa (List.take x1.1 l)) (some (x2.1:Int)) none).length)*24<=140737488355328)/\
             ((aL ((x1.1:Int)+1))/\
             (∃ x4 : { i : Nat // i ≤ l.length },
              ((l.length-x4.1<l.length-x1.1)/\
              ((l=l)/\
              (((l.length:Int)=(l.length:Int))/\
              (((x1.1:Int)+1=(x4.1:Int))/\
              ([]++aD (aa (List.take x1.1 l)) none (some (x2.1:Int))++[((l.getD x1.1 ([],0)).1,(l.getD x1.1 ([],0)).2)]++aD (aa (List.take x1.1 l)) (some (x2.1:Int)) none=aa (List.take x4.1 l)))))))))))))/\
            (((0 ≤ (↑x2.val : Int) ∧ (↑x2.val : Int) ≤ (↑(aa    (List.take x1.val l)).length : Int)) ∧
             ((0<=(x2.1:Int)/\(x2.1:Int)<=(↑(aa (List.take x1.1 l)).length:Int))/\
             (((0+(aD (aa (List.take x1.1 l)) none (some (x2.1:Int))).length)*24<=140737488355328)/\
             (((([]++aD (aa (List.take x1.1 l)) none (some (x2.1:Int))).length+[((l.getD x1.1 ([],0)).1,(l.getD x1.1 ([],0)).2)].length)*24<=140737488355328)/\
             (((([]++aD (aa (List.take x1.1 l)) none (some (x2.1:Int))++[((l.getD x1.1 ([],0)).1,(l.getD x1.1 ([],0)).2)]).length+(aD (aa (List.take x1.1 l)) (some (x2.1:Int)) none).length)*24<=140737488355328)/\
             ((aL ((x1.1:Int)+1))/\
             (∃ x4 : { i : Nat // i ≤ l.length },
              ((l.length-x4.1<l.length-x1.1)/\
              ((l=l)/\
              (((l.length:Int)=(l.length:Int))/\
              (((x1.1:Int)+1=(x4.1:Int))/\
              ([]++aD (aa (List.take x1.1 l)) none (some (x2.1:Int))++[((l.getD x1.1 ([],0)).1,(l.getD x1.1 ([],0)).2)]++aD (aa (List.take x1.1 l)) (some (x2.1:Int)) none=aa (List.take x4.1 l)))))))))))))/\
            (((0 ≤ (↑x2.val : Int) ∧ (↑x2.val : Int) ≤ (↑(aa    (List.take x1.val l)).length : Int)) ∧
             ((0<=(x2.1:Int)/\(x2.1:Int)<=(↑(aa (List.take x1.1 l)).length:Int))/\
             (((0+(aD (aa (List.take x1.1 l)) none (some (x2.1:Int))).length)*24<=140737488355328)/\
             (((([]++aD (aa (List.take x1.1 l)) none (some (x2.1:Int))).length+[((l.getD x1.1 ([],0)).1,(l.getD x1.1 ([],0)).2)].length)*24<=140737488355328)/\
             (((([]++aD (aa (List.take x1.1 l)) none (some (x2.1:Int))++[((l.getD x1.1 ([],0)).1,(l.getD x1.1 ([],0)).2)]).length+(aD (aa (List.take x1.1 l)) (some (x2.1:Int)) none).length)*24<=140737488355328)/\
             ((aL ((x1.1:Int)+1))/\
             (∃ x4 : { i : Nat // i ≤ l.length },
              ((l.length-x4.1<l.length-x1.1)/\
              ((l=l)/\
              (((l.length:Int)=(l.length:Int))/\
              (((x1.1:Int)+1=(x4.1:Int))/\
              ([]++aD (aa (List.take x1.1 l)) none (some (x2.1:Int))++[((l.getD x1.1 ([],0)).1,(l.getD x1.1 ([],0)).2)]++aD (aa (List.take x1.1 l)) (some (x2.1:Int)) none=aa (List.take x4.1 l)))))))))))))/\
            (((0 ≤ (↑x2.val : Int) ∧ (↑x2.val : Int) ≤ (↑(aa    (List.take x1.val l)).length : Int)) ∧
             ((0<=(x2.1:Int)/\(x2.1:Int)<=(↑(aa (List.take x1.1 l)).length:Int))/\
             (((0+(aD (aa (List.take x1.1 l)) none (some (x2.1:Int))).length)*24<=140737488355328)/\
             (((([]++aD (aa (List.take x1.1 l)) none (some (x2.1:Int))).length+[((l.getD x1.1 ([],0)).1,(l.getD x1.1 ([],0)).2)].length)*24<=140737488355328)/\
             (((([]++aD (aa (List.take x1.1 l)) none (some (x2.1:Int))++[((l.getD x1.1 ([],0)).1,(l.getD x1.1 ([],0)).2)]).length+(aD (aa (List.take x1.1 l)) (some (x2.1:Int)) none).length)*24<=140737488355328)/\
             ((aL ((x1.1:Int)+1))/\
             (∃ x4 : { i : Nat // i ≤ l.length },
              ((l.length-x4.1<l.length-x1.1)/\
              ((l=l)/\
              (((l.length:Int)=(l.length:Int))/\
              (((x1.1:Int)+1=(x4.1:Int))/\
              ([]++aD (aa (List.take x1.1 l)) none (some (x2.1:Int))++[((l.getD x1.1 ([],0)).1,(l.getD x1.1 ([],0)).2)]++aD (aa (List.take x1.1 l)) (some (x2.1:Int)) none=aa (List.take x4.1 l)))))))))))))/\
            ((0<=(x2.1:Int)/\(x2.1:Int)<=(↑(aa (List.take x1.1 l)).length:Int))/\
            ((0<=(x2.1:Int)/\(x2.1:Int)<=(↑(aa (List.take x1.1 l)).length:Int))/\
            (((0+(aD (aa (List.take x1.1 l)) none (some (x2.1:Int))).length)*24<=140737488355328)/\
            (((([]++aD (aa (List.take x1.1 l)) none (some (x2.1:Int))).length+[((l.getD x1.1 ([],0)).1,(l.getD x1.1 ([],0)).2)].length)*24<=140737488355328)/\
            (((([]++aD (aa (List.take x1.1 l)) none (some (x2.1:Int))++[((l.getD x1.1 ([],0)).1,(l.getD x1.1 ([],0)).2)]).length+(aD (aa (List.take x1.1 l)) (some (x2.1:Int)) none).length)*24<=140737488355328)/\
            ((aL ((x1.1:Int)+1))/\
            (∃ x4 : { i : Nat // i ≤ l.length },
             ((l.length-x4.1<l.length-x1.1)/\
             ((l=l)/\
             (((l.length:Int)=(l.length:Int))/\
             (((x1.1:Int)+1=(x4.1:Int))/\
             ([]++aD (aa (List.take x1.1 l)) none (some (x2.1:Int))++[((l.getD x1.1 ([],0)).1,(l.getD x1.1 ([],0)).2)]++aD (aa (List.take x1.1 l)) (some (x2.1:Int)) none=aa (List.take x4.1 l)))))))))))))))))))))))))))))))/\
        (¬(↑x2.val : Int) < (↑(aa    (List.take x1.val l)).length : Int) →
         ((((↑x2.val : Int) < (↑(aa    (List.take x1.val l)).length : Int) →
            ((0<=(x2.1:Int)/\(x2.1:Int)<(↑(aa (List.take x1.1 l)).length:Int))/\
            ((x2.1<(aa (List.take x1.1 l)).length)/\
            ((((aa    (List.take x1.val l)).getD x2.val ([],0)).fst=(l.getD x1.val ([],0)).fst →
              ((0<=(x2.1:Int)/\(x2.1:Int)<(↑(aa (List.take x1.1 l)).length:Int))/\
              ((x2.1<(aa (List.take x1.1 l)).length)/\
              ((aL (((aa (List.take x1.1 l)).getD x2.1 ([],0)).2+(l.getD x1.1 ([],0)).2))/\
              ((0<=(x2.1:Int)/\(x2.1:Int)<(↑(aa (List.take x1.1 l)).length:Int))/\
              ((x2.1<(aa (List.take x1.1 l)).length)/\
              ((aL ((x1.1:Int)+1))/\
              (∃ x3 : { i : Nat // i ≤ l.length },
               ((l.length-x3.1<l.length-x1.1)/\
               ((l=l)/\
               (((l.length:Int)=(l.length:Int))/\
               (((x1.1:Int)+1=(x3.1:Int))/\
               ((aa (List.take x1.1 l)).set x2.1     (((aa (List.take x1.1 l)).getD x2.1 ([],0)).1,      (if ((aa (List.take x1.1 l)).getD x2.1 ([],0)).2+(l.getD x1.1 ([],0)).2<1073741824 then ((aa (List.take x1.1 l)).getD x2.1 ([],0)).2+(l.getD x1.1 ([],0)).2 else 1073741824)) =   aa (List.take x3.1 l))))))))))))))/\
            (¬((aa    (List.take x1.val l)).getD x2.val ([], 0)).fst = (l.getD x1.val ([], 0)).fst →
             (∃ x3 : { u : Unit // x2.val < (aa    (List.take x1.val l)).length → aM    ((aa    (List.take x1.val l)).getD x2.val ([], 0)).fst (l.getD x1.val ([], 0)).fst = false ∧ ((aa    (List.take x1.val l)).getD x2.val ([], 0)).fst ≠ (l.getD x1.val ([], 0)).fst },
              ((aa (List.take x1.1 l)=aa (List.take x1.1 l))/\
              (((x2.1:Int)=(x2.1:Int))/\
              ((l=l)/\
              (((l.length:Int)=(l.length:Int))/\
              (((x1.1:Int)=(x1.1:Int))/\
              (((l.getD x1.1 ([],0)).1=(l.getD x1.1 ([],0)).1)/\
              ((l.getD x1.1 ([],0)).2=(l.getD x1.1 ([],0)).2)))))))))))))/\
          (¬(↑x2.val : Int) < (↑(aa    (List.take x1.val l)).length : Int) →
           (∃ x3 : { u : Unit // x2.val < (aa    (List.take x1.val l)).length → aM    ((aa    (List.take x1.val l)).getD x2.val ([], 0)).fst (l.getD x1.val ([], 0)).fst = false ∧ ((aa    (List.take x1.val l)).getD x2.val ([], 0)).fst ≠ (l.getD x1.val ([], 0)).fst },
            ((aa (List.take x1.1 l)=aa (List.take x1.1 l))/\
            (((x2.1:Int)=(x2.1:Int))/\
            ((l=l)/\
            (((l.length:Int)=(l.length:Int))/\
            (((x1.1:Int)=(x1.1:Int))/\
            (((l.getD x1.1 ([],0)).1=(l.getD x1.1 ([],0)).1)/\
            ((l.getD x1.1 ([],0)).2=(l.getD x1.1 ([],0)).2))))))))))/\
         (∀ x3 : { u : Unit // x2.val < (aa    (List.take x1.val l)).length → aM    ((aa    (List.take x1.val l)).getD x2.val ([], 0)).fst (l.getD x1.val ([], 0)).fst = false ∧ ((aa    (List.take x1.val l)).getD x2.val ([], 0)).fst ≠ (l.getD x1.val ([], 0)).fst },
          (((0 ≤ (↑x2.val : Int) ∧ (↑x2.val : Int) ≤ (↑(aa    (List.take x1.val l)).length : Int)) ∧
           (((0+(aD (aa (List.take x1.1 l)) none (some (x2.1:Int))).length)*24<=140737488355328)/\
           (((([]++aD (aa (List.take x1.1 l)) none (some (x2.1:Int))).length+[((l.getD x1.1 ([],0)).1,(l.getD x1.1 ([],0)).2)].length)*24<=140737488355328)/\
           ((0<=(x2.1:Int)/\(x2.1:Int)<=(↑(aa (List.take x1.1 l)).length:Int))/\
           (((([]++aD (aa (List.take x1.1 l)) none (some (x2.1:Int))++[((l.getD x1.1 ([],0)).1,(l.getD x1.1 ([],0)).2)]).length+(aD (aa (List.take x1.1 l)) (some (x2.1:Int)) none).length)*24<=140737488355328)/\
           ((aL ((x1.1:Int)+1))/\
           (∃ x4 : { i : Nat // i ≤ l.length },
            ((l.length-x4.1<l.length-x1.1)/\
            ((l=l)/\
            (((l.length:Int)=(l.length:Int))/\
            (((x1.1:Int)+1=(x4.1:Int))/\
            ([]++aD (aa (List.take x1.1 l)) none (some (x2.1:Int))++[((l.getD x1.1 ([],0)).1,(l.getD x1.1 ([],0)).2)]++aD (aa (List.take x1.1 l)) (some (x2.1:Int)) none=aa (List.take x4.1 l)))))))))))))/\
          (((0 ≤ (↑x2.val : Int) ∧ (↑x2.val : Int) ≤ (↑(aa    (List.take x1.val l)).length : Int)) ∧
           (((0+(aD (aa (List.take x1.1 l)) none (some (x2.1:Int))).length)*24<=140737488355328)/\
           (((([]++aD (aa (List.take x1.1 l)) none (some (x2.1:Int))).length+[((l.getD x1.1 ([],0)).1,(l.getD x1.1 ([],0)).2)].length)*24<=140737488355328)/\
           ((0<=(x2.1:Int)/\(x2.1:Int)<=(↑(aa (List.take x1.1 l)).length:Int))/\
           (((([]++aD (aa (List.take x1.1 l)) none (some (x2.1:Int))++[((l.getD x1.1 ([],0)).1,(l.getD x1.1 ([],0)).2)]).length+(aD (aa (List.take x1.1 l)) (some (x2.1:Int)) none).length)*24<=140737488355328)/\
           ((aL ((x1.1:Int)+1))/\
           (∃ x4 : { i : Nat // i ≤ l.length },
            ((l.length-x4.1<l.length-x1.1)/\
            ((l=l)/\
            (((l.length:Int)=(l.length:Int))/\
            (((x1.1:Int)+1=(x4.1:Int))/\
            ([]++aD (aa (List.take x1.1 l)) none (some (x2.1:Int))++[((l.getD x1.1 ([],0)).1,(l.getD x1.1 ([],0)).2)]++aD (aa (List.take x1.1 l)) (some (x2.1:Int)) none=aa (List.take x4.1 l)))))))))))))/\
          (((0 ≤ (↑x2.val : Int) ∧ (↑x2.val : Int) ≤ (↑(aa    (List.take x1.val l)).length : Int)) ∧
           (((0+(aD (aa (List.take x1.1 l)) none (some (x2.1:Int))).length)*24<=140737488355328)/\
           (((([]++aD (aa (List.take x1.1 l)) none (some (x2.1:Int))).length+[((l.getD x1.1 ([],0)).1,(l.getD x1.1 ([],0)).2)].length)*24<=140737488355328)/\
           ((0<=(x2.1:Int)/\(x2.1:Int)<=(↑(aa (List.take x1.1 l)).length:Int))/\
           (((([]++aD (aa (List.take x1.1 l)) none (some (x2.1:Int))++[((l.getD x1.1 ([],0)).1,(l.getD x1.1 ([],0)).2)]).length+(aD (aa (List.take x1.1 l)) (some (x2.1:Int)) none).length)*24<=140737488355328)/\
           ((aL ((x1.1:Int)+1))/\
           (∃ x4 : { i : Nat // i ≤ l.length },
            ((l.length-x4.1<l.length-x1.1)/\
            ((l=l)/\
            (((l.length:Int)=(l.length:Int))/\
            (((x1.1:Int)+1=(x4.1:Int))/\
            ([]++aD (aa (List.take x1.1 l)) none (some (x2.1:Int))++[((l.getD x1.1 ([],0)).1,(l.getD x1.1 ([],0)).2)]++aD (aa (List.take x1.1 l)) (some (x2.1:Int)) none=aa (List.take x4.1 l)))))))))))))/\
          (((0 ≤ (↑x2.val : Int) ∧ (↑x2.val : Int) ≤ (↑(aa    (List.take x1.val l)).length : Int)) ∧
           (((0+(aD (aa (List.take x1.1 l)) none (some (x2.1:Int))).length)*24<=140737488355328)/\
           (((([]++aD (aa (List.take x1.1 l)) none (some (x2.1:Int))).length+[((l.getD x1.1 ([],0)).1,(l.getD x1.1 ([],0)).2)].length)*24<=140737488355328)/\
           ((0<=(x2.1:Int)/\(x2.1:Int)<=(↑(aa (List.take x1.1 l)).length:Int))/\
           (((([]++aD (aa (List.take x1.1 l)) none (some (x2.1:Int))++[((l.getD x1.1 ([],0)).1,(l.getD x1.1 ([],0)).2)]).length+(aD (aa (List.take x1.1 l)) (some (x2.1:Int)) none).length)*24<=140737488355328)/\
           ((aL ((x1.1:Int)+1))/\
           (∃ x4 : { i : Nat // i ≤ l.length },
            ((l.length-x4.1<l.length-x1.1)/\
            ((l=l)/\
            (((l.length:Int)=(l.length:Int))/\
            (((x1.1:Int)+1=(x4.1:Int))/\
            ([]++aD (aa (List.take x1.1 l)) none (some (x2.1:Int))++[((l.getD x1.1 ([],0)).1,(l.getD x1.1 ([],0)).2)]++aD (aa (List.take x1.1 l)) (some (x2.1:Int)) none=aa (List.take x4.1 l)))))))))))))/\
          (((0 ≤ (↑x2.val : Int) ∧ (↑x2.val : Int) ≤ (↑(aa    (List.take x1.val l)).length : Int)) ∧
           (((0+(aD (aa (List.take x1.1 l)) none (some (x2.1:Int))).length)*24<=140737488355328)/\
           ((0<=(x2.1:Int)/\(x2.1:Int)<=(↑(aa (List.take x1.1 l)).length:Int))/\
           (((([]++aD (aa (List.take x1.1 l)) none (some (x2.1:Int))).length+[((l.getD x1.1 ([],0)).1,(l.getD x1.1 ([],0)).2)].length)*24<=140737488355328)/\
           (((([]++aD (aa (List.take x1.1 l)) none (some (x2.1:Int))++[((l.getD x1.1 ([],0)).1,(l.getD x1.1 ([],0)).2)]).length+(aD (aa (List.take x1.1 l)) (some (x2.1:Int)) none).length)*24<=140737488355328)/\
           ((aL ((x1.1:Int)+1))/\
           (∃ x4 : { i : Nat // i ≤ l.length },
            ((l.length-x4.1<l.length-x1.1)/\
            ((l=l)/\
            (((l.length:Int)=(l.length:Int))/\
            (((x1.1:Int)+1=(x4.1:Int))/\
            ([]++aD (aa (List.take x1.1 l)) none (some (x2.1:Int))++[((l.getD x1.1 ([],0)).1,(l.getD x1.1 ([],0)).2)]++aD (aa (List.take x1.1 l)) (some (x2.1:Int)) none=aa (List.take x4.1 l)))))))))))))/\
          (((0 ≤ (↑x2.val : Int) ∧ (↑x2.val : Int) ≤ (↑(aa    (List.take x1.val l)).length : Int)) ∧
           (((0+(aD (aa (List.take x1.1 l)) none (some (x2.1:Int))).length)*24<=140737488355328)/\
           ((0<=(x2.1:Int)/\(x2.1:Int)<=(↑(aa (List.take x1.1 l)).length:Int))/\
           (((([]++aD (aa (List.take x1.1 l)) none (some (x2.1:Int))).length+[((l.getD x1.1 ([],0)).1,(l.getD x1.1 ([],0)).2)].length)*24<=140737488355328)/\
           (((([]++aD (aa (List.take x1.1 l)) none (some (x2.1:Int))++[((l.getD x1.1 ([],0)).1,(l.getD x1.1 ([],0)).2)]).length+(aD (aa (List.take x1.1 l)) (some (x2.1:Int)) none).length)*24<=140737488355328)/\
           ((aL ((x1.1:Int)+1))/\
           (∃ x4 : { i : Nat // i ≤ l.length },
            ((l.length-x4.1<l.length-x1.1)/\
            ((l=l)/\
            (((l.length:Int)=(l.length:Int))/\
            (((x1.1:Int)+1=(x4.1:Int))/\
            ([]++aD (aa (List.take x1.1 l)) none (some (x2.1:Int))++[((l.getD x1.1 ([],0)).1,(l.getD x1.1 ([],0)).2)]++aD (aa (List.take x1.1 l)) (some (x2.1:Int)) none=aa (List.take x4.1 l)))))))))))))/\
          (((0 ≤ (↑x2.val : Int) ∧ (↑x2.val : Int) ≤ (↑(aa    (List.take x1.val l)).length : Int)) ∧
           (((0+(aD (aa (List.take x1.1 l)) none (some (x2.1:Int))).length)*24<=140737488355328)/\
           ((0<=(x2.1:Int)/\(x2.1:Int)<=(↑(aa (List.take x1.1 l)).length:Int))/\
           (((([]++aD (aa (List.take x1.1 l)) none (some (x2.1:Int))).length+[((l.getD x1.1 ([],0)).1,(l.getD x1.1 ([],0)).2)].length)*24<=140737488355328)/\
           (((([]++aD (aa (List.take x1.1 l)) none (some (x2.1:Int))++[((l.getD x1.1 ([],0)).1,(l.getD x1.1 ([],0)).2)]).length+(aD (aa (List.take x1.1 l)) (some (x2.1:Int)) none).length)*24<=140737488355328)/\
           ((aL ((x1.1:Int)+1))/\
           (∃ x4 : { i : Nat // i ≤ l.length },
            ((l.length-x4.1<l.length-x1.1)/\
            ((l=l)/\
            (((l.length:Int)=(l.length:Int))/\
            (((x1.1:Int)+1=(x4.1:Int))/\
            ([]++aD (aa (List.take x1.1 l)) none (some (x2.1:Int))++[((l.getD x1.1 ([],0)).1,(l.getD x1.1 ([],0)).2)]++aD (aa (List.take x1.1 l)) (some (x2.1:Int)) none=aa (List.take x4.1 l)))))))))))))/\
          (((0 ≤ (↑x2.val : Int) ∧ (↑x2.val : Int) ≤ (↑(aa    (List.take x1.val l)).length : Int)) ∧
           (((0+(aD (aa (List.take x1.1 l)) none (some (x2.1:Int))).length)*24<=140737488355328)/\
           ((0<=(x2.1:Int)/\(x2.1:Int)<=(↑(aa (List.take x1.1 l)).length:Int))/\
           (((([]++aD (aa (List.take x1.1 l)) none (some (x2.1:Int))).length+[((l.getD x1.1 ([],0)).1,(l.getD x1.1 ([],0)).2)].length)*24<=140737488355328)/\
           (((([]++aD (aa (List.take x1.1 l)) none (some (x2.1:Int))++[((l.getD x1.1 ([],0)).1,(l.getD x1.1 ([],0)).2)]).length+(aD (aa (List.take x1.1 l)) (some (x2.1:Int)) none).length)*24<=140737488355328)/\
           ((aL ((x1.1:Int)+1))/\
           (∃ x4 : { i : Nat // i ≤ l.length },
            ((l.length-x4.1<l.length-x1.1)/\
            ((l=l)/\
            (((l.length:Int)=(l.length:Int))/\
            (((x1.1:Int)+1=(x4.1:Int))/\
            ([]++aD (aa (List.take x1.1 l)) none (some (x2.1:Int))++[((l.getD x1.1 ([],0)).1,(l.getD x1.1 ([],0)).2)]++aD (aa (List.take x1.1 l)) (some (x2.1:Int)) none=aa (List.take x4.1 l)))))))))))))/\
          (((0 ≤ (↑x2.val : Int) ∧ (↑x2.val : Int) ≤ (↑(aa    (List.take x1.val l)).length : Int)) ∧
           ((0<=(x2.1:Int)/\(x2.1:Int)<=(↑(aa (List.take x1.1 l)).length:Int))/\
           (((0+(aD (aa (List.take x1.1 l)) none (some (x2.1:Int))).length)*24<=140737488355328)/\
           (((([]++aD (aa (List.take x1.1 l)) none (some (x2.1:Int))).length+[((l.getD x1.1 ([],0)).1,(l.getD x1.1 ([],0)).2)].length)*24<=140737488355328)/\
           (((([]++aD (aa (List.take x1.1 l)) none (some (x2.1:Int))++[((l.getD x1.1 ([],0)).1,(l.getD x1.1 ([],0)).2)]).length+(aD (aa (List.take x1.1 l)) (some (x2.1:Int)) none).length)*24<=140737488355328)/\
           ((aL ((x1.1:Int)+1))/\
           (∃ x4 : { i : Nat // i ≤ l.length },
            ((l.length-x4.1<l.length-x1.1)/\
            ((l=l)/\
            (((l.length:Int)=(l.length:Int))/\
            (((x1.1:Int)+1=(x4.1:Int))/\
            ([]++aD (aa (List.take x1.1 l)) none (some (x2.1:Int))++[((l.getD x1.1 ([],0)).1,(l.getD x1.1 ([],0)).2)]++aD (aa (List.take x1.1 l)) (some (x2.1:Int)) none=aa (List.take x4.1 l)))))))))))))/\
          (((0 ≤ (↑x2.val : Int) ∧ (↑x2.val : Int) ≤ (↑(aa    (List.take x1.val l)).length : Int)) ∧
           ((0<=(x2.1:Int)/\(x2.1:Int)<=(↑(aa (List.take x1.1 l)).length:Int))/\
           (((0+(aD (aa (List.take x1.1 l)) none (some (x2.1:Int))).length)*24<=140737488355328)/\
           (((([]++aD (aa (List.take x1.1 l)) none (some (x2.1:Int))).length+[((l.getD x1.1 ([],0)).1,(l.getD x1.1 ([],0)).2)].length)*24<=140737488355328)/\
           (((([]++aD (aa (List.take x1.1 l)) none (some (x2.1:Int))++[((l.getD x1.1 ([],0)).1,(l.getD x1.1 ([],0)).2)]).length+(aD (aa (List.take x1.1 l)) (some (x2.1:Int)) none).length)*24<=140737488355328)/\
           ((aL ((x1.1:Int)+1))/\
           (∃ x4 : { i : Nat // i ≤ l.length },
            ((l.length-x4.1<l.length-x1.1)/\
            ((l=l)/\
            (((l.length:Int)=(l.length:Int))/\
            (((x1.1:Int)+1=(x4.1:Int))/\
            ([]++aD (aa (List.take x1.1 l)) none (some (x2.1:Int))++[((l.getD x1.1 ([],0)).1,(l.getD x1.1 ([],0)).2)]++aD (aa (List.take x1.1 l)) (some (x2.1:Int)) none=aa (List.take x4.1 l)))))))))))))/\
          (((0 ≤ (↑x2.val : Int) ∧ (↑x2.val : Int) ≤ (↑(aa    (List.take x1.val l)).length : Int)) ∧
           ((0<=(x2.1:Int)/\(x2.1:Int)<=(↑(aa (List.take x1.1 l)).length:Int))/\
           (((0+(aD (aa (List.take x1.1 l)) none (some (x2.1:Int))).length)*24<=140737488355328)/\
           (((([]++aD (aa (List.take x1.1 l)) none (some (x2.1:Int))).length+[((l.getD x1.1 ([],0)).1,(l.getD x1.1 ([],0)).2)].length)*24<=140737488355328)/\
           (((([]++aD (aa (List.take x1.1 l)) none (some (x2.1:Int))++[((l.getD x1.1 ([],0)).1,(l.getD x1.1 ([],0)).2)]).length+(aD (aa (List.take x1.1 l)) (some (x2.1:Int)) none).length)*24<=140737488355328)/\
           ((aL ((x1.1:Int)+1))/\
           (∃ x4 : { i : Nat // i ≤ l.length },
            ((l.length-x4.1<l.length-x1.1)/\
            ((l=l)/\
            (((l.length:Int)=(l.length:Int))/\
            (((x1.1:Int)+1=(x4.1:Int))/\
            ([]++aD (aa (List.take x1.1 l)) none (some (x2.1:Int))++[((l.getD x1.1 ([],0)).1,(l.getD x1.1 ([],0)).2)]++aD (aa (List.take x1.1 l)) (some (x2.1:Int)) none=aa (List.take x4.1 l)))))))))))))/\
          ((0<=(x2.1:Int)/\(x2.1:Int)<=(↑(aa (List.take x1.1 l)).length:Int))/\
          ((0<=(x2.1:Int)/\(x2.1:Int)<=(↑(aa (List.take x1.1 l)).length:Int))/\
          (((0+(aD (aa (List.take x1.1 l)) none (some (x2.1:Int))).length)*24<=140737488355328)/\
          (((([]++aD (aa (List.take x1.1 l)) none (some (x2.1:Int))).length+[((l.getD x1.1 ([],0)).1,(l.getD x1.1 ([],0)).2)].length)*24<=140737488355328)/\
          (((([]++aD (aa (List.take x1.1 l)) none (some (x2.1:Int))++[((l.getD x1.1 ([],0)).1,(l.getD x1.1 ([],0)).2)]).length+(aD (aa (List.take x1.1 l)) (some (x2.1:Int)) none).length)*24<=140737488355328)/\
          ((aL ((x1.1:Int)+1))/\
          (∃ x4 : { i : Nat // i ≤ l.length },
           ((l.length-x4.1<l.length-x1.1)/\
           ((l=l)/\
           (((l.length:Int)=(l.length:Int))/\
           (((x1.1:Int)+1=(x4.1:Int))/\
           ([]++aD (aa (List.take x1.1 l)) none (some (x2.1:Int))++[((l.getD x1.1 ([],0)).1,(l.getD x1.1 ([],0)).2)]++aD (aa (List.take x1.1 l)) (some (x2.1:Int)) none=aa (List.take x4.1 l))))))))))))))))))))))))))))))))/\
     (¬(↑x1.val : Int) < (↑l.length : Int) →
      ((65536 < (↑(aa    (List.take x1.val l)).length:Int) →
        ((az l=[])/\
        (6=kL l)))/\
      (¬65536 < (↑(aa    (List.take x1.val l)).length : Int) →
       ((aa (List.take x1.1 l)=az l)/\
       (0=kL l)))))))))/\
  (¬dW   l = 0 →
   ((az l=[])/\
   (dW l=kL l))))))) (by kernel_rfl) ?_
 refine⟨hc1,hc2,fun he=>⟨⟨⟨0,Nat.zero_le _⟩,by repeat' (first | rfl | apply And.intro)⟩,?_⟩,fun he=>Ez he⟩;have hz:=pz he;rintro⟨i,hi⟩;dsimp only;have hnl:=wI (l.take i);rw[zP] at hnl;refine⟨fun h=>⟨by omega,⟨⟨0,Nat.zero_le _,fun j h=>absurd h (zS _)⟩,by repeat' (first | rfl | apply And.intro)⟩,?_⟩,fun h=>?_⟩
 rotate_left
 .rw[List.take_of_length_le (show l.length<=i by omega)];exact⟨En he,BL he⟩
 rintro⟨a,ha,hlo⟩;dsimp only at ha hlo ⊢;have hil:i<l.length:=by omega
 have hw:=wV.1 (hz (l.getD i ([],0)) (by rw[getD_lt hil];exact List.getElem_mem _));have hmore:=Gr hil;have hN:∀x∈aa (l.take i),wE x=0:=BG fun x hx=>hz x (List.mem_of_mem_take hx)
 have ins:∀(u:{ u:Unit // ((a:Nat):Int).toNat<(aa (l.take i)).length->aM ((aa (l.take i)).getD ((a:Nat):Int).toNat ([],0)).1 (l.getD i ([],0)).1=false/\((aa (l.take i)).getD ((a:Nat):Int).toNat ([],0)).1≠(l.getD i ([],0)).1 }),[]++aD (aa (l.take i)) none (some (a:Int))++[((l.getD i ([],0)).1,(l.getD i ([],0)).2)]++aD (aa (l.take i)) (some (a:Int)) none=aa (l.take (i+1)):=by
  rintro⟨_,hu⟩;rw[hmore,EY hlo ha fun h=>hu h]
  rfl
 have c1:(aD (aa (l.take i)) none (some (a:Int))).length<=(aa (l.take i)).length:=by unfold aD;dsimp only;rw[zP];omega
 have c2:(aD (aa (l.take i)) (some (a:Int)) none).length<=(aa (l.take i)).length:=by unfold aD;dsimp only;rw[List.length_drop];omega
 have k1:(0+(aD (aa (l.take i)) none (some (a:Int))).length)*24<=140737488355328:=by omega
 have k2:(([]++aD (aa (l.take i)) none (some (a:Int))).length+[((l.getD i ([],0)).1,(l.getD i ([],0)).2)].length)*24<=140737488355328:=by
  rw[List.nil_append,zM,List.length_nil];omega
 have k3:(([]++aD (aa (l.take i)) none (some (a:Int))++[((l.getD i ([],0)).1,(l.getD i ([],0)).2)]).length+(aD (aa (l.take i)) (some (a:Int)) none).length)*24<=140737488355328:=by
  rw[List.nil_append,zL,zM,List.length_nil];omega
 have k4:aL ((i:Int)+1):=by unfold aL;omega
 have hit:∀(h1:a<(aa (l.take i)).length) (h2:((aa (l.take i)).getD a ([],0)).1=(l.getD i ([],0)).1),aL (((aa (l.take i)).getD a ([],0)).2+(l.getD i ([],0)).2)/\(aa (l.take i)).set a (((aa (l.take i)).getD a ([],0)).1,if ((aa (l.take i)).getD a ([],0)).2+(l.getD i ([],0)).2<1073741824 then ((aa (l.take i)).getD a ([],0)).2+(l.getD i ([],0)).2 else 1073741824)=aa (l.take (i+1)):=fun h1 h2=>by
  have hx:=wV.1 (hN ((aa (l.take i)).getD a ([],0)) (by rw[getD_lt h1];exact List.getElem_mem _));refine⟨by unfold aL;omega,?_⟩;rw[hmore,EJ hlo h1 h2]
  congr 2
  split <;> omega
 refine⟨fun h1=>⟨by omega,by omega,fun h2=>⟨by unfold aL;omega,⟨a+1,by omega,tJ hlo h2⟩,by dsimp only;omega,by repeat' (first | rfl | apply And.intro)⟩,fun h2=>⟨⟨fun h3=>⟨by omega,by omega,fun h4=>⟨by omega,by omega,(hit (by omega) h4).1,by omega,by omega,k4,⟨i+1,by omega⟩,by dsimp only;omega,by repeat' (first | rfl | exact(hit (by omega) h4).2 | apply And.intro)⟩,fun h4=>⟨⟨(),fun _=>⟨by simpa using h2,h4⟩⟩,by repeat' (first | rfl | apply And.intro)⟩⟩,fun h3=>absurd h1 h3⟩,fun u=>?_⟩⟩,fun h1=>⟨⟨fun h3=>absurd h3 h1,fun h3=>⟨⟨(),fun h=>absurd h (by omega)⟩,by repeat' (first | rfl | apply And.intro)⟩⟩,fun u=>?_⟩⟩
 all_goals
  have hu:=ins u
  repeat' (first | exact k1 | exact k2 | exact k3 | exact k4 | omega | exact⟨⟨i+1,by omega⟩,by dsimp only;omega,by repeat' (first | rfl | exact hu | apply And.intro)⟩ | apply And.intro)
end Go.EA
