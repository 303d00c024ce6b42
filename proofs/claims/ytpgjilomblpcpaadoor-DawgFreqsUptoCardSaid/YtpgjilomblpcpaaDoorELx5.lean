/- Layer 9: the reference's words each once, in order. Conditions: none. -/
import Derived.Test.YtpgjilomblpcpaaDoorEK12
import Derived.Test.YtpgjilomblpcpaaDoorELx1
import Derived.KernelRfl
set_option linter.unusedVariables false
set_option linter.unusedSimpArgs false
set_option maxRecDepth 100000
set_option maxHeartbeats 0
namespace Go.EA
open F
def P291:(List (List UInt8×Int))->List SV:=fun l=>[.one (.row (.pair .str (.int .i64)) l)]
def R291:(List (List UInt8×Int))->SV×List Prop:=fun l=>(.tup [.o (.row WdT (norO l)),.o (.int .i64 (norE l))],[l.length<=1099511627776,SmW l])
def K291:Con:=⟨false,[some (.pair .str (.int .i64))],fun xs=>match xs with | [.one (.row (.pair .str (.int .i64)) l)]=>some (R291 l) | _=>none⟩
noncomputable def G291:GP:=conG P291 R291
theorem P291_inj:∀ a b,(P291 a).map den0=(P291 b).map den0->a=b:=by
 rintro a0 b0 h
 simp only [P291,zK,List.map_nil,den0,den0L,zG,AV.one.injEq,AV.agg.injEq,Lf.int.injEq,Lf.str.injEq,Lf.bool.injEq,Lf.vrow.injEq,and_true,true_and] at h
 exact row_inj h
theorem K291_ok:ConG G291 K291:=conG_of P291_inj (fun _ _=>rfl) (fun _=>rfl) fun xs r h=>by
 simp only [K291] at h
 split at h
 ·cases h;rename_i l;exact ⟨l,rfl,rfl⟩
 ·cases h
theorem pr291 {S:SC} (hB:SB S) (q317:PrOk S 317 (pureP G317)) (h291:S.has 291 f291):PrOk S 291 (pureP G291):=by
 refine prM hB [] [⟨317,G317,K317⟩] trivial ⟨⟨q317,K317_ok⟩,trivial⟩ h291 (fun _=>⟨rfl,rfl,rfl⟩) (fun l=>fun f id T L=>match f,id with
  | 291,0=>some (.inv { i:Nat // i<=l.length } (fun x=>([(16,.one (.int .i64 x.1)),(5,.one (.osl 0))],[(0,.row WdT (normV (l.take x.1)))])) (fun x=>l.length-x.1))
  | 291,2=>match getO L 0 with | .row (.pair .str (.int .i64)) o=>(match getO L 1 with | .cell [.str s,.int .i64 _]=>some (.inv { i:Nat // i<=o.length/\∀ j,j<i->sless (o.getD j ([],0)).1 s=true } (fun x=>([(8,.one (.int .i64 x.1))],[])) (fun x=>o.length-x.1)) | _=>none) | _=>none
  | 291,4064=>match getO L 0,getO L 1,T.getD 8 .junk with | .row (.pair .str (.int .i64)) o,.cell [.str s,.int .i64 _],.one (.int .i64 a)=>some (.cut { u:Unit // a.toNat<o.length->sless (o.getD a.toNat ([],0)).1 s=false/\(o.getD a.toNat ([],0)).1≠s } fun _=>([(5,.one (.row WdT o))],[(0,.dead)])) | _,_,_=>none
  | _,_=>none) 2000 ?_
 rintro l hc
 have hc1:l.length<=1099511627776:=hc.1
 have hc2:SmW l:=hc.2.1
 refine VC.use (p:=
  ((l.length<=1099511627776)/\
  ((SmW l)/\
  ((errL l=0 →
    ((∃ x1:{ i:Nat // i≤l.length },
      ((normV (List.take x1.1 l)=[])/\
      ((l=l)/\
      (((l.length:Int)=(l.length:Int))/\
      ((0=(x1.1:Int))/\
      (normV (List.take x1.1 l)=[]))))))/\
    (∀ x1 : { i : Nat // i ≤ l.length },
     (((↑x1.val:Int) < (↑l.length:Int) →
       ((0<=(x1.1:Int)/\(x1.1:Int)<(l.length:Int))/\
       ((∃ x2:{ i:Nat // i≤(normV (List.take x1.val l)).length∧∀ (j:Nat),j < i→sless ((normV (List.take x1.val l)).getD j ([],0)).fst (l.getD x1.val ([],0)).fst=true },
         ((0=(x2.1:Int))/\
         ((l=l)/\
         (((l.length:Int)=(l.length:Int))/\
         (((x1.1:Int)=(x1.1:Int))/\
         ((normV (List.take x1.1 l)=normV (List.take x1.1 l))/\
         (((l.getD x1.1 ([],0)).1=(l.getD x1.1 ([],0)).1)/\
         ((l.getD x1.1 ([],0)).2=(l.getD x1.1 ([],0)).2))))))))/\
       (∀ x2 : { i : Nat // i ≤ (normV (List.take x1.val l)).length ∧ ∀ (j : Nat), j < i → sless ((normV (List.take x1.val l)).getD j ([], 0)).fst (l.getD x1.val ([], 0)).fst = true },
        (((↑x2.val:Int) < (↑(normV (List.take x1.val l)).length:Int) →
          ((0<=(x2.1:Int)/\(x2.1:Int)<(↑(normV (List.take x1.1 l)).length:Int))/\
          ((x2.1<(normV (List.take x1.1 l)).length)/\
          ((sless ((normV (List.take x1.val l)).getD x2.val ([],0)).fst (l.getD x1.val ([],0)).fst=true →
            ((i64R ((x2.1:Int)+1))/\
            (∃ x3 : { i : Nat // i ≤ (normV (List.take x1.val l)).length ∧ ∀ (j : Nat), j < i → sless ((normV (List.take x1.val l)).getD j ([], 0)).fst (l.getD x1.val ([], 0)).fst = true },
             (((normV (List.take x1.1 l)).length-x3.1<(normV (List.take x1.1 l)).length-x2.1)/\
             (((x2.1:Int)+1=(x3.1:Int))/\
             ((l=l)/\
             (((l.length:Int)=(l.length:Int))/\
             (((x1.1:Int)=(x1.1:Int))/\
             ((normV (List.take x1.1 l)=normV (List.take x1.1 l))/\
             (((l.getD x1.1 ([],0)).1=(l.getD x1.1 ([],0)).1)/\
             ((l.getD x1.1 ([],0)).2=(l.getD x1.1 ([],0)).2)))))))))))/\
          (¬sless ((normV (List.take x1.val l)).getD x2.val ([], 0)).fst (l.getD x1.val ([], 0)).fst = true →
           ((((↑x2.val : Int) < (↑(normV (List.take x1.val l)).length : Int) →
              ((0<=(x2.1:Int)/\(x2.1:Int)<(↑(normV (List.take x1.1 l)).length:Int))/\
              ((x2.1<(normV (List.take x1.1 l)).length)/\
              ((((normV (List.take x1.val l)).getD x2.val ([],0)).fst=(l.getD x1.val ([],0)).fst →
                ((0<=(x2.1:Int)/\(x2.1:Int)<(↑(normV (List.take x1.1 l)).length:Int))/\
                ((x2.1<(normV (List.take x1.1 l)).length)/\
                ((i64R (((normV (List.take x1.1 l)).getD x2.1 ([],0)).2+(l.getD x1.1 ([],0)).2))/\
                ((0<=(x2.1:Int)/\(x2.1:Int)<(↑(normV (List.take x1.1 l)).length:Int))/\
                ((x2.1<(normV (List.take x1.1 l)).length)/\
                ((i64R ((x1.1:Int)+1))/\
                (∃ x3 : { i : Nat // i ≤ l.length },
                 ((l.length-x3.1<l.length-x1.1)/\
                 ((l=l)/\
                 (((l.length:Int)=(l.length:Int))/\
                 (((x1.1:Int)+1=(x3.1:Int))/\
                 ((normV (List.take x1.1 l)).set x2.1     (((normV (List.take x1.1 l)).getD x2.1 ([],0)).1,      (if ((normV (List.take x1.1 l)).getD x2.1 ([],0)).2+(l.getD x1.1 ([],0)).2<1073741824 then ((normV (List.take x1.1 l)).getD x2.1 ([],0)).2+(l.getD x1.1 ([],0)).2 else 1073741824)) =   normV (List.take x3.1 l))))))))))))))/\
              (¬((normV (List.take x1.val l)).getD x2.val ([], 0)).fst = (l.getD x1.val ([], 0)).fst →
               (∃ x3 : { u : Unit // x2.val < (normV (List.take x1.val l)).length → sless ((normV (List.take x1.val l)).getD x2.val ([], 0)).fst (l.getD x1.val ([], 0)).fst = false ∧ ((normV (List.take x1.val l)).getD x2.val ([], 0)).fst ≠ (l.getD x1.val ([], 0)).fst },
                ((normV (List.take x1.1 l)=normV (List.take x1.1 l))/\
                (((x2.1:Int)=(x2.1:Int))/\
                ((l=l)/\
                (((l.length:Int)=(l.length:Int))/\
                (((x1.1:Int)=(x1.1:Int))/\
                (((l.getD x1.1 ([],0)).1=(l.getD x1.1 ([],0)).1)/\
                ((l.getD x1.1 ([],0)).2=(l.getD x1.1 ([],0)).2)))))))))))))/\
            (¬(↑x2.val : Int) < (↑(normV (List.take x1.val l)).length : Int) →
             (∃ x3 : { u : Unit // x2.val < (normV (List.take x1.val l)).length → sless ((normV (List.take x1.val l)).getD x2.val ([], 0)).fst (l.getD x1.val ([], 0)).fst = false ∧ ((normV (List.take x1.val l)).getD x2.val ([], 0)).fst ≠ (l.getD x1.val ([], 0)).fst },
              ((normV (List.take x1.1 l)=normV (List.take x1.1 l))/\
              (((x2.1:Int)=(x2.1:Int))/\
              ((l=l)/\
              (((l.length:Int)=(l.length:Int))/\
              (((x1.1:Int)=(x1.1:Int))/\
              (((l.getD x1.1 ([],0)).1=(l.getD x1.1 ([],0)).1)/\
              ((l.getD x1.1 ([],0)).2=(l.getD x1.1 ([],0)).2))))))))))/\
           (∀ x3 : { u : Unit // x2.val < (normV (List.take x1.val l)).length → sless ((normV (List.take x1.val l)).getD x2.val ([], 0)).fst (l.getD x1.val ([], 0)).fst = false ∧ ((normV (List.take x1.val l)).getD x2.val ([], 0)).fst ≠ (l.getD x1.val ([], 0)).fst },
            (((0 ≤ (↑x2.val : Int) ∧ (↑x2.val : Int) ≤ (↑(normV (List.take x1.val l)).length : Int)) ∧
             (((0+(cutR (normV (List.take x1.1 l)) none (some (x2.1:Int))).length)*24<=140737488355328)/\
             (((([]++cutR (normV (List.take x1.1 l)) none (some (x2.1:Int))).length+[((l.getD x1.1 ([],0)).1,(l.getD x1.1 ([],0)).2)].length)*24<=140737488355328)/\
             ((0<=(x2.1:Int)/\(x2.1:Int)<=(↑(normV (List.take x1.1 l)).length:Int))/\
             (((([]++cutR (normV (List.take x1.1 l)) none (some (x2.1:Int))++[((l.getD x1.1 ([],0)).1,(l.getD x1.1 ([],0)).2)]).length+(cutR (normV (List.take x1.1 l)) (some (x2.1:Int)) none).length)*24<=140737488355328)/\
             ((i64R ((x1.1:Int)+1))/\
             (∃ x4 : { i : Nat // i ≤ l.length },
              ((l.length-x4.1<l.length-x1.1)/\
              ((l=l)/\
              (((l.length:Int)=(l.length:Int))/\
              (((x1.1:Int)+1=(x4.1:Int))/\
              ([]++cutR (normV (List.take x1.1 l)) none (some (x2.1:Int))++[((l.getD x1.1 ([],0)).1,(l.getD x1.1 ([],0)).2)]++cutR (normV (List.take x1.1 l)) (some (x2.1:Int)) none=normV (List.take x4.1 l)))))))))))))/\
            (((0 ≤ (↑x2.val : Int) ∧ (↑x2.val : Int) ≤ (↑(normV (List.take x1.val l)).length : Int)) ∧
             (((0+(cutR (normV (List.take x1.1 l)) none (some (x2.1:Int))).length)*24<=140737488355328)/\
             (((([]++cutR (normV (List.take x1.1 l)) none (some (x2.1:Int))).length+[((l.getD x1.1 ([],0)).1,(l.getD x1.1 ([],0)).2)].length)*24<=140737488355328)/\
             ((0<=(x2.1:Int)/\(x2.1:Int)<=(↑(normV (List.take x1.1 l)).length:Int))/\
             (((([]++cutR (normV (List.take x1.1 l)) none (some (x2.1:Int))++[((l.getD x1.1 ([],0)).1,(l.getD x1.1 ([],0)).2)]).length+(cutR (normV (List.take x1.1 l)) (some (x2.1:Int)) none).length)*24<=140737488355328)/\
             ((i64R ((x1.1:Int)+1))/\
             (∃ x4 : { i : Nat // i ≤ l.length },
              ((l.length-x4.1<l.length-x1.1)/\
              ((l=l)/\
              (((l.length:Int)=(l.length:Int))/\
              (((x1.1:Int)+1=(x4.1:Int))/\
              ([]++cutR (normV (List.take x1.1 l)) none (some (x2.1:Int))++[((l.getD x1.1 ([],0)).1,(l.getD x1.1 ([],0)).2)]++cutR (normV (List.take x1.1 l)) (some (x2.1:Int)) none=normV (List.take x4.1 l)))))))))))))/\
            (((0 ≤ (↑x2.val : Int) ∧ (↑x2.val : Int) ≤ (↑(normV (List.take x1.val l)).length : Int)) ∧
             (((0+(cutR (normV (List.take x1.1 l)) none (some (x2.1:Int))).length)*24<=140737488355328)/\
             (((([]++cutR (normV (List.take x1.1 l)) none (some (x2.1:Int))).length+[((l.getD x1.1 ([],0)).1,(l.getD x1.1 ([],0)).2)].length)*24<=140737488355328)/\
             ((0<=(x2.1:Int)/\(x2.1:Int)<=(↑(normV (List.take x1.1 l)).length:Int))/\
             (((([]++cutR (normV (List.take x1.1 l)) none (some (x2.1:Int))++[((l.getD x1.1 ([],0)).1,(l.getD x1.1 ([],0)).2)]).length+(cutR (normV (List.take x1.1 l)) (some (x2.1:Int)) none).length)*24<=140737488355328)/\
             ((i64R ((x1.1:Int)+1))/\
             (∃ x4 : { i : Nat // i ≤ l.length },
              ((l.length-x4.1<l.length-x1.1)/\
              ((l=l)/\
              (((l.length:Int)=(l.length:Int))/\
              (((x1.1:Int)+1=(x4.1:Int))/\
              ([]++cutR (normV (List.take x1.1 l)) none (some (x2.1:Int))++[((l.getD x1.1 ([],0)).1,(l.getD x1.1 ([],0)).2)]++cutR (normV (List.take x1.1 l)) (some (x2.1:Int)) none=normV (List.take x4.1 l)))))))))))))/\
            (((0 ≤ (↑x2.val : Int) ∧ (↑x2.val : Int) ≤ (↑(normV (List.take x1.val l)).length : Int)) ∧
             (((0+(cutR (normV (List.take x1.1 l)) none (some (x2.1:Int))).length)*24<=140737488355328)/\
             (((([]++cutR (normV (List.take x1.1 l)) none (some (x2.1:Int))).length+[((l.getD x1.1 ([],0)).1,(l.getD x1.1 ([],0)).2)].length)*24<=140737488355328)/\
             ((0<=(x2.1:Int)/\(x2.1:Int)<=(↑(normV (List.take x1.1 l)).length:Int))/\
             (((([]++cutR (normV (List.take x1.1 l)) none (some (x2.1:Int))++[((l.getD x1.1 ([],0)).1,(l.getD x1.1 ([],0)).2)]).length+(cutR (normV (List.take x1.1 l)) (some (x2.1:Int)) none).length)*24<=140737488355328)/\
             ((i64R ((x1.1:Int)+1))/\
             (∃ x4 : { i : Nat // i ≤ l.length },
              ((l.length-x4.1<l.length-x1.1)/\
              ((l=l)/\
              (((l.length:Int)=(l.length:Int))/\
              (((x1.1:Int)+1=(x4.1:Int))/\
              ([]++cutR (normV (List.take x1.1 l)) none (some (x2.1:Int))++[((l.getD x1.1 ([],0)).1,(l.getD x1.1 ([],0)).2)]++cutR (normV (List.take x1.1 l)) (some (x2.1:Int)) none=normV (List.take x4.1 l)))))))))))))/\
            (((0 ≤ (↑x2.val : Int) ∧ (↑x2.val : Int) ≤ (↑(normV (List.take x1.val l)).length : Int)) ∧
             (((0+(cutR (normV (List.take x1.1 l)) none (some (x2.1:Int))).length)*24<=140737488355328)/\
             ((0<=(x2.1:Int)/\(x2.1:Int)<=(↑(normV (List.take x1.1 l)).length:Int))/\
             (((([]++cutR (normV (List.take x1.1 l)) none (some (x2.1:Int))).length+[((l.getD x1.1 ([],0)).1,(l.getD x1.1 ([],0)).2)].length)*24<=140737488355328)/\
             (((([]++cutR (normV (List.take x1.1 l)) none (some (x2.1:Int))++[((l.getD x1.1 ([],0)).1,(l.getD x1.1 ([],0)).2)]).length+(cutR (normV (List.take x1.1 l)) (some (x2.1:Int)) none).length)*24<=140737488355328)/\
             ((i64R ((x1.1:Int)+1))/\
             (∃ x4 : { i : Nat // i ≤ l.length },
              ((l.length-x4.1<l.length-x1.1)/\
              ((l=l)/\
              (((l.length:Int)=(l.length:Int))/\
              (((x1.1:Int)+1=(x4.1:Int))/\
              ([]++cutR (normV (List.take x1.1 l)) none (some (x2.1:Int))++[((l.getD x1.1 ([],0)).1,(l.getD x1.1 ([],0)).2)]++cutR (normV (List.take x1.1 l)) (some (x2.1:Int)) none=normV (List.take x4.1 l)))))))))))))/\
            (((0 ≤ (↑x2.val : Int) ∧ (↑x2.val : Int) ≤ (↑(normV (List.take x1.val l)).length : Int)) ∧
             (((0+(cutR (normV (List.take x1.1 l)) none (some (x2.1:Int))).length)*24<=140737488355328)/\
             ((0<=(x2.1:Int)/\(x2.1:Int)<=(↑(normV (List.take x1.1 l)).length:Int))/\
             (((([]++cutR (normV (List.take x1.1 l)) none (some (x2.1:Int))).length+[((l.getD x1.1 ([],0)).1,(l.getD x1.1 ([],0)).2)].length)*24<=140737488355328)/\
             (((([]++cutR (normV (List.take x1.1 l)) none (some (x2.1:Int))++[((l.getD x1.1 ([],0)).1,(l.getD x1.1 ([],0)).2)]).length+(cutR (normV (List.take x1.1 l)) (some (x2.1:Int)) none).length)*24<=140737488355328)/\
             ((i64R ((x1.1:Int)+1))/\
             (∃ x4 : { i : Nat // i ≤ l.length },
              ((l.length-x4.1<l.length-x1.1)/\
              ((l=l)/\
              (((l.length:Int)=(l.length:Int))/\
              (((x1.1:Int)+1=(x4.1:Int))/\
              ([]++cutR (normV (List.take x1.1 l)) none (some (x2.1:Int))++[((l.getD x1.1 ([],0)).1,(l.getD x1.1 ([],0)).2)]++cutR (normV (List.take x1.1 l)) (some (x2.1:Int)) none=normV (List.take x4.1 l)))))))))))))/\
            (((0 ≤ (↑x2.val : Int) ∧ (↑x2.val : Int) ≤ (↑(normV (List.take x1.val l)).length : Int)) ∧
             (((0+(cutR (normV (List.take x1.1 l)) none (some (x2.1:Int))).length)*24<=140737488355328)/\
             ((0<=(x2.1:Int)/\(x2.1:Int)<=(↑(normV (List.take x1.1 l)).length:Int))/\
             (((([]++cutR (normV (List.take x1.1 l)) none (some (x2.1:Int))).length+[((l.getD x1.1 ([],0)).1,(l.getD x1.1 ([],0)).2)].length)*24<=140737488355328)/\
             (((([]++cutR (normV (List.take x1.1 l)) none (some (x2.1:Int))++[((l.getD x1.1 ([],0)).1,(l.getD x1.1 ([],0)).2)]).length+(cutR (normV (List.take x1.1 l)) (some (x2.1:Int)) none).length)*24<=140737488355328)/\
             ((i64R ((x1.1:Int)+1))/\
             (∃ x4 : { i : Nat // i ≤ l.length },
              ((l.length-x4.1<l.length-x1.1)/\
              ((l=l)/\
              (((l.length:Int)=(l.length:Int))/\
              (((x1.1:Int)+1=(x4.1:Int))/\
              ([]++cutR (normV (List.take x1.1 l)) none (some (x2.1:Int))++[((l.getD x1.1 ([],0)).1,(l.getD x1.1 ([],0)).2)]++cutR (normV (List.take x1.1 l)) (some (x2.1:Int)) none=normV (List.take x4.1 l)))))))))))))/\
            (((0 ≤ (↑x2.val : Int) ∧ (↑x2.val : Int) ≤ (↑(normV (List.take x1.val l)).length : Int)) ∧
             (((0+(cutR (normV (List.take x1.1 l)) none (some (x2.1:Int))).length)*24<=140737488355328)/\
             ((0<=(x2.1:Int)/\(x2.1:Int)<=(↑(normV (List.take x1.1 l)).length:Int))/\
             (((([]++cutR (normV (List.take x1.1 l)) none (some (x2.1:Int))).length+[((l.getD x1.1 ([],0)).1,(l.getD x1.1 ([],0)).2)].length)*24<=140737488355328)/\
             (((([]++cutR (normV (List.take x1.1 l)) none (some (x2.1:Int))++[((l.getD x1.1 ([],0)).1,(l.getD x1.1 ([],0)).2)]).length+(cutR (normV (List.take x1.1 l)) (some (x2.1:Int)) none).length)*24<=140737488355328)/\
             ((i64R ((x1.1:Int)+1))/\
             (∃ x4 : { i : Nat // i ≤ l.length },
              ((l.length-x4.1<l.length-x1.1)/\
              ((l=l)/\
              (((l.length:Int)=(l.length:Int))/\
              (((x1.1:Int)+1=(x4.1:Int))/\
              ([]++cutR (normV (List.take x1.1 l)) none (some (x2.1:Int))++[((l.getD x1.1 ([],0)).1,(l.getD x1.1 ([],0)).2)]++cutR (normV (List.take x1.1 l)) (some (x2.1:Int)) none=normV (List.take x4.1 l)))))))))))))/\
            (((0 ≤ (↑x2.val : Int) ∧ (↑x2.val : Int) ≤ (↑(normV (List.take x1.val l)).length : Int)) ∧
             ((0<=(x2.1:Int)/\(x2.1:Int)<=(↑(normV (List.take x1.1 l)).length:Int))/\
             (((0+(cutR (normV (List.take x1.1 l)) none (some (x2.1:Int))).length)*24<=140737488355328)/\
             (((([]++cutR (normV (List.take x1.1 l)) none (some (x2.1:Int))).length+[((l.getD x1.1 ([],0)).1,(l.getD x1.1 ([],0)).2)].length)*24<=140737488355328)/\
             (((([]++cutR (normV (List.take x1.1 l)) none (some (x2.1:Int))++[((l.getD x1.1 ([],0)).1,(l.getD x1.1 ([],0)).2)]).length+(cutR (normV (List.take x1.1 l)) (some (x2.1:Int)) none).length)*24<=140737488355328)/\
             ((i64R ((x1.1:Int)+1))/\
             (∃ x4 : { i : Nat // i ≤ l.length },
              ((l.length-x4.1<l.length-x1.1)/\
              ((l=l)/\
              (((l.length:Int)=(l.length:Int))/\
              (((x1.1:Int)+1=(x4.1:Int))/\
              ([]++cutR (normV (List.take x1.1 l)) none (some (x2.1:Int))++[((l.getD x1.1 ([],0)).1,(l.getD x1.1 ([],0)).2)]++cutR (normV (List.take x1.1 l)) (some (x2.1:Int)) none=normV (List.take x4.1 l)))))))))))))/\
            (((0 ≤ (↑x2.val : Int) ∧ (↑x2.val : Int) ≤ (↑(normV (List.take x1.val l)).length : Int)) ∧
             ((0<=(x2.1:Int)/\(x2.1:Int)<=(↑(normV (List.take x1.1 l)).length:Int))/\
             (((0+(cutR (normV (List.take x1.1 l)) none (some (x2.1:Int))).length)*24<=140737488355328)/\
             (((([]++cutR (normV (List.take x1.1 l)) none (some (x2.1:Int))).length+[((l.getD x1.1 ([],0)).1,(l.getD x1.1 ([],0)).2)].length)*24<=140737488355328)/\
             (((([]++cutR (normV (List.take x1.1 l)) none (some (x2.1:Int))++[((l.getD x1.1 ([],0)).1,(l.getD x1.1 ([],0)).2)]).length+(cutR (normV (List.take x1.1 l)) (some (x2.1:Int)) none).length)*24<=140737488355328)/\
             ((i64R ((x1.1:Int)+1))/\
             (∃ x4 : { i : Nat // i ≤ l.length },
              ((l.length-x4.1<l.length-x1.1)/\
              ((l=l)/\
              (((l.length:Int)=(l.length:Int))/\
              (((x1.1:Int)+1=(x4.1:Int))/\
              ([]++cutR (normV (List.take x1.1 l)) none (some (x2.1:Int))++[((l.getD x1.1 ([],0)).1,(l.getD x1.1 ([],0)).2)]++cutR (normV (List.take x1.1 l)) (some (x2.1:Int)) none=normV (List.take x4.1 l)))))))))))))/\
            (((0 ≤ (↑x2.val : Int) ∧ (↑x2.val : Int) ≤ (↑(normV (List.take x1.val l)).length : Int)) ∧
             ((0<=(x2.1:Int)/\(x2.1:Int)<=(↑(normV (List.take x1.1 l)).length:Int))/\
             (((0+(cutR (normV (List.take x1.1 l)) none (some (x2.1:Int))).length)*24<=140737488355328)/\
             (((([]++cutR (normV (List.take x1.1 l)) none (some (x2.1:Int))).length+[((l.getD x1.1 ([],0)).1,(l.getD x1.1 ([],0)).2)].length)*24<=140737488355328)/\
             (((([]++cutR (normV (List.take x1.1 l)) none (some (x2.1:Int))++[((l.getD x1.1 ([],0)).1,(l.getD x1.1 ([],0)).2)]).length+(cutR (normV (List.take x1.1 l)) (some (x2.1:Int)) none).length)*24<=140737488355328)/\
             ((i64R ((x1.1:Int)+1))/\
             (∃ x4 : { i : Nat // i ≤ l.length },
              ((l.length-x4.1<l.length-x1.1)/\
              ((l=l)/\
              (((l.length:Int)=(l.length:Int))/\
              (((x1.1:Int)+1=(x4.1:Int))/\
              ([]++cutR (normV (List.take x1.1 l)) none (some (x2.1:Int))++[((l.getD x1.1 ([],0)).1,(l.getD x1.1 ([],0)).2)]++cutR (normV (List.take x1.1 l)) (some (x2.1:Int)) none=normV (List.take x4.1 l)))))))))))))/\
            ((0<=(x2.1:Int)/\(x2.1:Int)<=(↑(normV (List.take x1.1 l)).length:Int))/\
            ((0<=(x2.1:Int)/\(x2.1:Int)<=(↑(normV (List.take x1.1 l)).length:Int))/\
            (((0+(cutR (normV (List.take x1.1 l)) none (some (x2.1:Int))).length)*24<=140737488355328)/\
            (((([]++cutR (normV (List.take x1.1 l)) none (some (x2.1:Int))).length+[((l.getD x1.1 ([],0)).1,(l.getD x1.1 ([],0)).2)].length)*24<=140737488355328)/\
            (((([]++cutR (normV (List.take x1.1 l)) none (some (x2.1:Int))++[((l.getD x1.1 ([],0)).1,(l.getD x1.1 ([],0)).2)]).length+(cutR (normV (List.take x1.1 l)) (some (x2.1:Int)) none).length)*24<=140737488355328)/\
            ((i64R ((x1.1:Int)+1))/\
            (∃ x4 : { i : Nat // i ≤ l.length },
             ((l.length-x4.1<l.length-x1.1)/\
             ((l=l)/\
             (((l.length:Int)=(l.length:Int))/\
             (((x1.1:Int)+1=(x4.1:Int))/\
             ([]++cutR (normV (List.take x1.1 l)) none (some (x2.1:Int))++[((l.getD x1.1 ([],0)).1,(l.getD x1.1 ([],0)).2)]++cutR (normV (List.take x1.1 l)) (some (x2.1:Int)) none=normV (List.take x4.1 l)))))))))))))))))))))))))))))))/\
        (¬(↑x2.val : Int) < (↑(normV (List.take x1.val l)).length : Int) →
         ((((↑x2.val : Int) < (↑(normV (List.take x1.val l)).length : Int) →
            ((0<=(x2.1:Int)/\(x2.1:Int)<(↑(normV (List.take x1.1 l)).length:Int))/\
            ((x2.1<(normV (List.take x1.1 l)).length)/\
            ((((normV (List.take x1.val l)).getD x2.val ([],0)).fst=(l.getD x1.val ([],0)).fst →
              ((0<=(x2.1:Int)/\(x2.1:Int)<(↑(normV (List.take x1.1 l)).length:Int))/\
              ((x2.1<(normV (List.take x1.1 l)).length)/\
              ((i64R (((normV (List.take x1.1 l)).getD x2.1 ([],0)).2+(l.getD x1.1 ([],0)).2))/\
              ((0<=(x2.1:Int)/\(x2.1:Int)<(↑(normV (List.take x1.1 l)).length:Int))/\
              ((x2.1<(normV (List.take x1.1 l)).length)/\
              ((i64R ((x1.1:Int)+1))/\
              (∃ x3 : { i : Nat // i ≤ l.length },
               ((l.length-x3.1<l.length-x1.1)/\
               ((l=l)/\
               (((l.length:Int)=(l.length:Int))/\
               (((x1.1:Int)+1=(x3.1:Int))/\
               ((normV (List.take x1.1 l)).set x2.1     (((normV (List.take x1.1 l)).getD x2.1 ([],0)).1,      (if ((normV (List.take x1.1 l)).getD x2.1 ([],0)).2+(l.getD x1.1 ([],0)).2<1073741824 then ((normV (List.take x1.1 l)).getD x2.1 ([],0)).2+(l.getD x1.1 ([],0)).2 else 1073741824)) =   normV (List.take x3.1 l))))))))))))))/\
            (¬((normV (List.take x1.val l)).getD x2.val ([], 0)).fst = (l.getD x1.val ([], 0)).fst →
             (∃ x3 : { u : Unit // x2.val < (normV (List.take x1.val l)).length → sless ((normV (List.take x1.val l)).getD x2.val ([], 0)).fst (l.getD x1.val ([], 0)).fst = false ∧ ((normV (List.take x1.val l)).getD x2.val ([], 0)).fst ≠ (l.getD x1.val ([], 0)).fst },
              ((normV (List.take x1.1 l)=normV (List.take x1.1 l))/\
              (((x2.1:Int)=(x2.1:Int))/\
              ((l=l)/\
              (((l.length:Int)=(l.length:Int))/\
              (((x1.1:Int)=(x1.1:Int))/\
              (((l.getD x1.1 ([],0)).1=(l.getD x1.1 ([],0)).1)/\
              ((l.getD x1.1 ([],0)).2=(l.getD x1.1 ([],0)).2)))))))))))))/\
          (¬(↑x2.val : Int) < (↑(normV (List.take x1.val l)).length : Int) →
           (∃ x3 : { u : Unit // x2.val < (normV (List.take x1.val l)).length → sless ((normV (List.take x1.val l)).getD x2.val ([], 0)).fst (l.getD x1.val ([], 0)).fst = false ∧ ((normV (List.take x1.val l)).getD x2.val ([], 0)).fst ≠ (l.getD x1.val ([], 0)).fst },
            ((normV (List.take x1.1 l)=normV (List.take x1.1 l))/\
            (((x2.1:Int)=(x2.1:Int))/\
            ((l=l)/\
            (((l.length:Int)=(l.length:Int))/\
            (((x1.1:Int)=(x1.1:Int))/\
            (((l.getD x1.1 ([],0)).1=(l.getD x1.1 ([],0)).1)/\
            ((l.getD x1.1 ([],0)).2=(l.getD x1.1 ([],0)).2))))))))))/\
         (∀ x3 : { u : Unit // x2.val < (normV (List.take x1.val l)).length → sless ((normV (List.take x1.val l)).getD x2.val ([], 0)).fst (l.getD x1.val ([], 0)).fst = false ∧ ((normV (List.take x1.val l)).getD x2.val ([], 0)).fst ≠ (l.getD x1.val ([], 0)).fst },
          (((0 ≤ (↑x2.val : Int) ∧ (↑x2.val : Int) ≤ (↑(normV (List.take x1.val l)).length : Int)) ∧
           (((0+(cutR (normV (List.take x1.1 l)) none (some (x2.1:Int))).length)*24<=140737488355328)/\
           (((([]++cutR (normV (List.take x1.1 l)) none (some (x2.1:Int))).length+[((l.getD x1.1 ([],0)).1,(l.getD x1.1 ([],0)).2)].length)*24<=140737488355328)/\
           ((0<=(x2.1:Int)/\(x2.1:Int)<=(↑(normV (List.take x1.1 l)).length:Int))/\
           (((([]++cutR (normV (List.take x1.1 l)) none (some (x2.1:Int))++[((l.getD x1.1 ([],0)).1,(l.getD x1.1 ([],0)).2)]).length+(cutR (normV (List.take x1.1 l)) (some (x2.1:Int)) none).length)*24<=140737488355328)/\
           ((i64R ((x1.1:Int)+1))/\
           (∃ x4 : { i : Nat // i ≤ l.length },
            ((l.length-x4.1<l.length-x1.1)/\
            ((l=l)/\
            (((l.length:Int)=(l.length:Int))/\
            (((x1.1:Int)+1=(x4.1:Int))/\
            ([]++cutR (normV (List.take x1.1 l)) none (some (x2.1:Int))++[((l.getD x1.1 ([],0)).1,(l.getD x1.1 ([],0)).2)]++cutR (normV (List.take x1.1 l)) (some (x2.1:Int)) none=normV (List.take x4.1 l)))))))))))))/\
          (((0 ≤ (↑x2.val : Int) ∧ (↑x2.val : Int) ≤ (↑(normV (List.take x1.val l)).length : Int)) ∧
           (((0+(cutR (normV (List.take x1.1 l)) none (some (x2.1:Int))).length)*24<=140737488355328)/\
           (((([]++cutR (normV (List.take x1.1 l)) none (some (x2.1:Int))).length+[((l.getD x1.1 ([],0)).1,(l.getD x1.1 ([],0)).2)].length)*24<=140737488355328)/\
           ((0<=(x2.1:Int)/\(x2.1:Int)<=(↑(normV (List.take x1.1 l)).length:Int))/\
           (((([]++cutR (normV (List.take x1.1 l)) none (some (x2.1:Int))++[((l.getD x1.1 ([],0)).1,(l.getD x1.1 ([],0)).2)]).length+(cutR (normV (List.take x1.1 l)) (some (x2.1:Int)) none).length)*24<=140737488355328)/\
           ((i64R ((x1.1:Int)+1))/\
           (∃ x4 : { i : Nat // i ≤ l.length },
            ((l.length-x4.1<l.length-x1.1)/\
            ((l=l)/\
            (((l.length:Int)=(l.length:Int))/\
            (((x1.1:Int)+1=(x4.1:Int))/\
            ([]++cutR (normV (List.take x1.1 l)) none (some (x2.1:Int))++[((l.getD x1.1 ([],0)).1,(l.getD x1.1 ([],0)).2)]++cutR (normV (List.take x1.1 l)) (some (x2.1:Int)) none=normV (List.take x4.1 l)))))))))))))/\
          (((0 ≤ (↑x2.val : Int) ∧ (↑x2.val : Int) ≤ (↑(normV (List.take x1.val l)).length : Int)) ∧
           (((0+(cutR (normV (List.take x1.1 l)) none (some (x2.1:Int))).length)*24<=140737488355328)/\
           (((([]++cutR (normV (List.take x1.1 l)) none (some (x2.1:Int))).length+[((l.getD x1.1 ([],0)).1,(l.getD x1.1 ([],0)).2)].length)*24<=140737488355328)/\
           ((0<=(x2.1:Int)/\(x2.1:Int)<=(↑(normV (List.take x1.1 l)).length:Int))/\
           (((([]++cutR (normV (List.take x1.1 l)) none (some (x2.1:Int))++[((l.getD x1.1 ([],0)).1,(l.getD x1.1 ([],0)).2)]).length+(cutR (normV (List.take x1.1 l)) (some (x2.1:Int)) none).length)*24<=140737488355328)/\
           ((i64R ((x1.1:Int)+1))/\
           (∃ x4 : { i : Nat // i ≤ l.length },
            ((l.length-x4.1<l.length-x1.1)/\
            ((l=l)/\
            (((l.length:Int)=(l.length:Int))/\
            (((x1.1:Int)+1=(x4.1:Int))/\
            ([]++cutR (normV (List.take x1.1 l)) none (some (x2.1:Int))++[((l.getD x1.1 ([],0)).1,(l.getD x1.1 ([],0)).2)]++cutR (normV (List.take x1.1 l)) (some (x2.1:Int)) none=normV (List.take x4.1 l)))))))))))))/\
          (((0 ≤ (↑x2.val : Int) ∧ (↑x2.val : Int) ≤ (↑(normV (List.take x1.val l)).length : Int)) ∧
           (((0+(cutR (normV (List.take x1.1 l)) none (some (x2.1:Int))).length)*24<=140737488355328)/\
           (((([]++cutR (normV (List.take x1.1 l)) none (some (x2.1:Int))).length+[((l.getD x1.1 ([],0)).1,(l.getD x1.1 ([],0)).2)].length)*24<=140737488355328)/\
           ((0<=(x2.1:Int)/\(x2.1:Int)<=(↑(normV (List.take x1.1 l)).length:Int))/\
           (((([]++cutR (normV (List.take x1.1 l)) none (some (x2.1:Int))++[((l.getD x1.1 ([],0)).1,(l.getD x1.1 ([],0)).2)]).length+(cutR (normV (List.take x1.1 l)) (some (x2.1:Int)) none).length)*24<=140737488355328)/\
           ((i64R ((x1.1:Int)+1))/\
           (∃ x4 : { i : Nat // i ≤ l.length },
            ((l.length-x4.1<l.length-x1.1)/\
            ((l=l)/\
            (((l.length:Int)=(l.length:Int))/\
            (((x1.1:Int)+1=(x4.1:Int))/\
            ([]++cutR (normV (List.take x1.1 l)) none (some (x2.1:Int))++[((l.getD x1.1 ([],0)).1,(l.getD x1.1 ([],0)).2)]++cutR (normV (List.take x1.1 l)) (some (x2.1:Int)) none=normV (List.take x4.1 l)))))))))))))/\
          (((0 ≤ (↑x2.val : Int) ∧ (↑x2.val : Int) ≤ (↑(normV (List.take x1.val l)).length : Int)) ∧
           (((0+(cutR (normV (List.take x1.1 l)) none (some (x2.1:Int))).length)*24<=140737488355328)/\
           ((0<=(x2.1:Int)/\(x2.1:Int)<=(↑(normV (List.take x1.1 l)).length:Int))/\
           (((([]++cutR (normV (List.take x1.1 l)) none (some (x2.1:Int))).length+[((l.getD x1.1 ([],0)).1,(l.getD x1.1 ([],0)).2)].length)*24<=140737488355328)/\
           (((([]++cutR (normV (List.take x1.1 l)) none (some (x2.1:Int))++[((l.getD x1.1 ([],0)).1,(l.getD x1.1 ([],0)).2)]).length+(cutR (normV (List.take x1.1 l)) (some (x2.1:Int)) none).length)*24<=140737488355328)/\
           ((i64R ((x1.1:Int)+1))/\
           (∃ x4 : { i : Nat // i ≤ l.length },
            ((l.length-x4.1<l.length-x1.1)/\
            ((l=l)/\
            (((l.length:Int)=(l.length:Int))/\
            (((x1.1:Int)+1=(x4.1:Int))/\
            ([]++cutR (normV (List.take x1.1 l)) none (some (x2.1:Int))++[((l.getD x1.1 ([],0)).1,(l.getD x1.1 ([],0)).2)]++cutR (normV (List.take x1.1 l)) (some (x2.1:Int)) none=normV (List.take x4.1 l)))))))))))))/\
          (((0 ≤ (↑x2.val : Int) ∧ (↑x2.val : Int) ≤ (↑(normV (List.take x1.val l)).length : Int)) ∧
           (((0+(cutR (normV (List.take x1.1 l)) none (some (x2.1:Int))).length)*24<=140737488355328)/\
           ((0<=(x2.1:Int)/\(x2.1:Int)<=(↑(normV (List.take x1.1 l)).length:Int))/\
           (((([]++cutR (normV (List.take x1.1 l)) none (some (x2.1:Int))).length+[((l.getD x1.1 ([],0)).1,(l.getD x1.1 ([],0)).2)].length)*24<=140737488355328)/\
           (((([]++cutR (normV (List.take x1.1 l)) none (some (x2.1:Int))++[((l.getD x1.1 ([],0)).1,(l.getD x1.1 ([],0)).2)]).length+(cutR (normV (List.take x1.1 l)) (some (x2.1:Int)) none).length)*24<=140737488355328)/\
           ((i64R ((x1.1:Int)+1))/\
           (∃ x4 : { i : Nat // i ≤ l.length },
            ((l.length-x4.1<l.length-x1.1)/\
            ((l=l)/\
            (((l.length:Int)=(l.length:Int))/\
            (((x1.1:Int)+1=(x4.1:Int))/\
            ([]++cutR (normV (List.take x1.1 l)) none (some (x2.1:Int))++[((l.getD x1.1 ([],0)).1,(l.getD x1.1 ([],0)).2)]++cutR (normV (List.take x1.1 l)) (some (x2.1:Int)) none=normV (List.take x4.1 l)))))))))))))/\
          (((0 ≤ (↑x2.val : Int) ∧ (↑x2.val : Int) ≤ (↑(normV (List.take x1.val l)).length : Int)) ∧
           (((0+(cutR (normV (List.take x1.1 l)) none (some (x2.1:Int))).length)*24<=140737488355328)/\
           ((0<=(x2.1:Int)/\(x2.1:Int)<=(↑(normV (List.take x1.1 l)).length:Int))/\
           (((([]++cutR (normV (List.take x1.1 l)) none (some (x2.1:Int))).length+[((l.getD x1.1 ([],0)).1,(l.getD x1.1 ([],0)).2)].length)*24<=140737488355328)/\
           (((([]++cutR (normV (List.take x1.1 l)) none (some (x2.1:Int))++[((l.getD x1.1 ([],0)).1,(l.getD x1.1 ([],0)).2)]).length+(cutR (normV (List.take x1.1 l)) (some (x2.1:Int)) none).length)*24<=140737488355328)/\
           ((i64R ((x1.1:Int)+1))/\
           (∃ x4 : { i : Nat // i ≤ l.length },
            ((l.length-x4.1<l.length-x1.1)/\
            ((l=l)/\
            (((l.length:Int)=(l.length:Int))/\
            (((x1.1:Int)+1=(x4.1:Int))/\
            ([]++cutR (normV (List.take x1.1 l)) none (some (x2.1:Int))++[((l.getD x1.1 ([],0)).1,(l.getD x1.1 ([],0)).2)]++cutR (normV (List.take x1.1 l)) (some (x2.1:Int)) none=normV (List.take x4.1 l)))))))))))))/\
          (((0 ≤ (↑x2.val : Int) ∧ (↑x2.val : Int) ≤ (↑(normV (List.take x1.val l)).length : Int)) ∧
           (((0+(cutR (normV (List.take x1.1 l)) none (some (x2.1:Int))).length)*24<=140737488355328)/\
           ((0<=(x2.1:Int)/\(x2.1:Int)<=(↑(normV (List.take x1.1 l)).length:Int))/\
           (((([]++cutR (normV (List.take x1.1 l)) none (some (x2.1:Int))).length+[((l.getD x1.1 ([],0)).1,(l.getD x1.1 ([],0)).2)].length)*24<=140737488355328)/\
           (((([]++cutR (normV (List.take x1.1 l)) none (some (x2.1:Int))++[((l.getD x1.1 ([],0)).1,(l.getD x1.1 ([],0)).2)]).length+(cutR (normV (List.take x1.1 l)) (some (x2.1:Int)) none).length)*24<=140737488355328)/\
           ((i64R ((x1.1:Int)+1))/\
           (∃ x4 : { i : Nat // i ≤ l.length },
            ((l.length-x4.1<l.length-x1.1)/\
            ((l=l)/\
            (((l.length:Int)=(l.length:Int))/\
            (((x1.1:Int)+1=(x4.1:Int))/\
            ([]++cutR (normV (List.take x1.1 l)) none (some (x2.1:Int))++[((l.getD x1.1 ([],0)).1,(l.getD x1.1 ([],0)).2)]++cutR (normV (List.take x1.1 l)) (some (x2.1:Int)) none=normV (List.take x4.1 l)))))))))))))/\
          (((0 ≤ (↑x2.val : Int) ∧ (↑x2.val : Int) ≤ (↑(normV (List.take x1.val l)).length : Int)) ∧
           ((0<=(x2.1:Int)/\(x2.1:Int)<=(↑(normV (List.take x1.1 l)).length:Int))/\
           (((0+(cutR (normV (List.take x1.1 l)) none (some (x2.1:Int))).length)*24<=140737488355328)/\
           (((([]++cutR (normV (List.take x1.1 l)) none (some (x2.1:Int))).length+[((l.getD x1.1 ([],0)).1,(l.getD x1.1 ([],0)).2)].length)*24<=140737488355328)/\
           (((([]++cutR (normV (List.take x1.1 l)) none (some (x2.1:Int))++[((l.getD x1.1 ([],0)).1,(l.getD x1.1 ([],0)).2)]).length+(cutR (normV (List.take x1.1 l)) (some (x2.1:Int)) none).length)*24<=140737488355328)/\
           ((i64R ((x1.1:Int)+1))/\
           (∃ x4 : { i : Nat // i ≤ l.length },
            ((l.length-x4.1<l.length-x1.1)/\
            ((l=l)/\
            (((l.length:Int)=(l.length:Int))/\
            (((x1.1:Int)+1=(x4.1:Int))/\
            ([]++cutR (normV (List.take x1.1 l)) none (some (x2.1:Int))++[((l.getD x1.1 ([],0)).1,(l.getD x1.1 ([],0)).2)]++cutR (normV (List.take x1.1 l)) (some (x2.1:Int)) none=normV (List.take x4.1 l)))))))))))))/\
          (((0 ≤ (↑x2.val : Int) ∧ (↑x2.val : Int) ≤ (↑(normV (List.take x1.val l)).length : Int)) ∧
           ((0<=(x2.1:Int)/\(x2.1:Int)<=(↑(normV (List.take x1.1 l)).length:Int))/\
           (((0+(cutR (normV (List.take x1.1 l)) none (some (x2.1:Int))).length)*24<=140737488355328)/\
           (((([]++cutR (normV (List.take x1.1 l)) none (some (x2.1:Int))).length+[((l.getD x1.1 ([],0)).1,(l.getD x1.1 ([],0)).2)].length)*24<=140737488355328)/\
           (((([]++cutR (normV (List.take x1.1 l)) none (some (x2.1:Int))++[((l.getD x1.1 ([],0)).1,(l.getD x1.1 ([],0)).2)]).length+(cutR (normV (List.take x1.1 l)) (some (x2.1:Int)) none).length)*24<=140737488355328)/\
           ((i64R ((x1.1:Int)+1))/\
           (∃ x4 : { i : Nat // i ≤ l.length },
            ((l.length-x4.1<l.length-x1.1)/\
            ((l=l)/\
            (((l.length:Int)=(l.length:Int))/\
            (((x1.1:Int)+1=(x4.1:Int))/\
            ([]++cutR (normV (List.take x1.1 l)) none (some (x2.1:Int))++[((l.getD x1.1 ([],0)).1,(l.getD x1.1 ([],0)).2)]++cutR (normV (List.take x1.1 l)) (some (x2.1:Int)) none=normV (List.take x4.1 l)))))))))))))/\
          (((0 ≤ (↑x2.val : Int) ∧ (↑x2.val : Int) ≤ (↑(normV (List.take x1.val l)).length : Int)) ∧
           ((0<=(x2.1:Int)/\(x2.1:Int)<=(↑(normV (List.take x1.1 l)).length:Int))/\
           (((0+(cutR (normV (List.take x1.1 l)) none (some (x2.1:Int))).length)*24<=140737488355328)/\
           (((([]++cutR (normV (List.take x1.1 l)) none (some (x2.1:Int))).length+[((l.getD x1.1 ([],0)).1,(l.getD x1.1 ([],0)).2)].length)*24<=140737488355328)/\
           (((([]++cutR (normV (List.take x1.1 l)) none (some (x2.1:Int))++[((l.getD x1.1 ([],0)).1,(l.getD x1.1 ([],0)).2)]).length+(cutR (normV (List.take x1.1 l)) (some (x2.1:Int)) none).length)*24<=140737488355328)/\
           ((i64R ((x1.1:Int)+1))/\
           (∃ x4 : { i : Nat // i ≤ l.length },
            ((l.length-x4.1<l.length-x1.1)/\
            ((l=l)/\
            (((l.length:Int)=(l.length:Int))/\
            (((x1.1:Int)+1=(x4.1:Int))/\
            ([]++cutR (normV (List.take x1.1 l)) none (some (x2.1:Int))++[((l.getD x1.1 ([],0)).1,(l.getD x1.1 ([],0)).2)]++cutR (normV (List.take x1.1 l)) (some (x2.1:Int)) none=normV (List.take x4.1 l)))))))))))))/\
          ((0<=(x2.1:Int)/\(x2.1:Int)<=(↑(normV (List.take x1.1 l)).length:Int))/\
          ((0<=(x2.1:Int)/\(x2.1:Int)<=(↑(normV (List.take x1.1 l)).length:Int))/\
          (((0+(cutR (normV (List.take x1.1 l)) none (some (x2.1:Int))).length)*24<=140737488355328)/\
          (((([]++cutR (normV (List.take x1.1 l)) none (some (x2.1:Int))).length+[((l.getD x1.1 ([],0)).1,(l.getD x1.1 ([],0)).2)].length)*24<=140737488355328)/\
          (((([]++cutR (normV (List.take x1.1 l)) none (some (x2.1:Int))++[((l.getD x1.1 ([],0)).1,(l.getD x1.1 ([],0)).2)]).length+(cutR (normV (List.take x1.1 l)) (some (x2.1:Int)) none).length)*24<=140737488355328)/\
          ((i64R ((x1.1:Int)+1))/\
          (∃ x4 : { i : Nat // i ≤ l.length },
           ((l.length-x4.1<l.length-x1.1)/\
           ((l=l)/\
           (((l.length:Int)=(l.length:Int))/\
           (((x1.1:Int)+1=(x4.1:Int))/\
           ([]++cutR (normV (List.take x1.1 l)) none (some (x2.1:Int))++[((l.getD x1.1 ([],0)).1,(l.getD x1.1 ([],0)).2)]++cutR (normV (List.take x1.1 l)) (some (x2.1:Int)) none=normV (List.take x4.1 l))))))))))))))))))))))))))))))))/\
     (¬(↑x1.val : Int) < (↑l.length : Int) →
      ((65536 < (↑(normV (List.take x1.val l)).length:Int) →
        ((norO l=[])/\
        (6=norE l)))/\
      (¬65536 < (↑(normV (List.take x1.val l)).length : Int) →
       ((normV (List.take x1.1 l)=norO l)/\
       (0=norE l)))))))))/\
  (¬errL l = 0 →
   ((norO l=[])/\
   (errL l=norE l))))))) (by kernel_rfl) ?_
 refine ⟨hc1,hc2,fun he=>⟨⟨⟨0,Nat.zero_le _⟩,by repeat' (first | rfl | apply And.intro)⟩,?_⟩,fun he=>nor_bad he⟩
 have hz:=errL_zero he
 rintro ⟨i,hi⟩
 dsimp only
 have hnl:=len_normV (l.take i)
 rw [zP] at hnl
 refine ⟨fun h=>⟨by omega,⟨⟨0,Nat.zero_le _,fun j h=>absurd h (zS _)⟩,by repeat' (first | rfl | apply And.intro)⟩,?_⟩,fun h=>?_⟩
 rotate_left
 ·rw [List.take_of_length_le (show l.length<=i by omega)]
  exact ⟨nor_big he,nor_fine he⟩
 rintro ⟨a,ha,hlo⟩
 dsimp only at ha hlo ⊢
 have hil:i<l.length:=by omega
 have hw:=wE_zero.1 (hz (l.getD i ([],0)) (by rw [getD_lt hil];exact List.getElem_mem _))
 have hmore:=norm_more hil
 have hN:∀ x∈normV (l.take i),wE x=0:=normV_ok fun x hx=>hz x (List.mem_of_mem_take hx)
 have ins:∀ (u:{ u:Unit // ((a:Nat):Int).toNat<(normV (l.take i)).length->sless ((normV (l.take i)).getD ((a:Nat):Int).toNat ([],0)).1 (l.getD i ([],0)).1=false/\((normV (l.take i)).getD ((a:Nat):Int).toNat ([],0)).1≠(l.getD i ([],0)).1 }),[]++cutR (normV (l.take i)) none (some (a:Int))++[((l.getD i ([],0)).1,(l.getD i ([],0)).2)]++cutR (normV (l.take i)) (some (a:Int)) none=normV (l.take (i+1)):=by
  rintro ⟨_,hu⟩
  rw [hmore,insW_in hlo ha fun h=>hu h]
  rfl
 have c1:(cutR (normV (l.take i)) none (some (a:Int))).length<=(normV (l.take i)).length:=by unfold cutR;dsimp only;rw [zP];omega
 have c2:(cutR (normV (l.take i)) (some (a:Int)) none).length<=(normV (l.take i)).length:=by unfold cutR;dsimp only;rw [List.length_drop];omega
 have k1:(0+(cutR (normV (l.take i)) none (some (a:Int))).length)*24<=140737488355328:=by omega
 have k2:(([]++cutR (normV (l.take i)) none (some (a:Int))).length+[((l.getD i ([],0)).1,(l.getD i ([],0)).2)].length)*24<=140737488355328:=by
  rw [List.nil_append,zM,List.length_nil];omega
 have k3:(([]++cutR (normV (l.take i)) none (some (a:Int))++[((l.getD i ([],0)).1,(l.getD i ([],0)).2)]).length+(cutR (normV (l.take i)) (some (a:Int)) none).length)*24<=140737488355328:=by
  rw [List.nil_append,zL,zM,List.length_nil];omega
 have k4:i64R ((i:Int)+1):=by unfold i64R;omega
 have hit:∀ (h1:a<(normV (l.take i)).length) (h2:((normV (l.take i)).getD a ([],0)).1=(l.getD i ([],0)).1),i64R (((normV (l.take i)).getD a ([],0)).2+(l.getD i ([],0)).2)/\(normV (l.take i)).set a (((normV (l.take i)).getD a ([],0)).1,if ((normV (l.take i)).getD a ([],0)).2+(l.getD i ([],0)).2<1073741824 then ((normV (l.take i)).getD a ([],0)).2+(l.getD i ([],0)).2 else 1073741824)=normV (l.take (i+1)):=fun h1 h2=>by
  have hx:=wE_zero.1 (hN ((normV (l.take i)).getD a ([],0)) (by rw [getD_lt h1];exact List.getElem_mem _))
  refine ⟨by unfold i64R;omega,?_⟩
  rw [hmore,insW_at hlo h1 h2]
  congr 2
  split <;> omega
 refine ⟨fun h1=>⟨by omega,by omega,fun h2=>⟨by unfold i64R;omega,⟨a+1,by omega,step_all hlo h2⟩,by dsimp only;omega,by repeat' (first | rfl | apply And.intro)⟩,fun h2=>⟨⟨fun h3=>⟨by omega,by omega,fun h4=>⟨by omega,by omega,(hit (by omega) h4).1,by omega,by omega,k4,⟨i+1,by omega⟩,by dsimp only;omega,by repeat' (first | rfl | exact (hit (by omega) h4).2 | apply And.intro)⟩,fun h4=>⟨⟨(),fun _=>⟨by simpa using h2,h4⟩⟩,by repeat' (first | rfl | apply And.intro)⟩⟩,fun h3=>absurd h1 h3⟩,fun u=>?_⟩⟩,fun h1=>⟨⟨fun h3=>absurd h3 h1,fun h3=>⟨⟨(),fun h=>absurd h (by omega)⟩,by repeat' (first | rfl | apply And.intro)⟩⟩,fun u=>?_⟩⟩
 all_goals
  have hu:=ins u
  repeat' (first | exact k1 | exact k2 | exact k3 | exact k4 | omega | exact ⟨⟨i+1,by omega⟩,by dsimp only;omega,by repeat' (first | rfl | exact hu | apply And.intro)⟩ | apply And.intro)
end Go.EA
