/- Layer 10: the law of a word more. Conditions: none. -/
import Derived.Test.YtpgjilomblpcpaaDoorEDpm
import Derived.Test.YtpgjilomblpcpaaDoorEDu
import Derived.Test.YtpgjilomblpcpaaDoorEDj
import Derived.Test.YtpgjilomblpcpaaDoorEK25
import Derived.Test.YtpgjilomblpcpaaDoorELx5
import Derived.KernelRfl
set_option linter.unusedVariables false
set_option linter.unusedSimpArgs false
set_option maxRecDepth 100000
set_option maxHeartbeats 0
namespace Go.EA
open F
def moW (l:List Wd) (w0:List UInt8) (w1:Int):List Wd:=norO l++[(w0,w1)]
theorem w265 {S:SC} (hB:SB S) (q276:PrOk S 276 (pureP G276)) (q277:PrOk S 277 (pureP G277)) (q278:PrOk S 278 (pureP G278)) (q281:PrOk S 281 (pureP G281)) (q284:PrOk S 284 (pureP G284)) (q291:PrOk S 291 (pureP G291)) (q292:PrOk S 292 (pureP G292)) (q17:PrOk S 17 (pureP G17)) (h265:S.has 265 f265) (l:List (List UInt8×Int)) (w0:List UInt8) (w1:Int) (hl0:l.length<=1048576) (hs0:∀ x∈l,x.1.length<=1048576) (hw0:w0.length<=1048576):MF S 265 [] [den0 (.one (.row (.pair .str (.int .i64)) l)),den0 (.agg [.str w0,.int .i64 w1])] (hl []) fun v _=>v=.one (.bool true):=
 mfM hB [] [⟨276,G276,K276⟩,⟨277,G277,K277⟩,⟨278,G278,K278⟩,⟨281,G281,K281⟩,⟨284,G284,K284⟩,⟨291,G291,K291⟩,⟨292,G292,K292⟩,⟨17,G17,K17⟩] trivial ⟨⟨q276,K276_ok⟩,⟨q277,K277_ok⟩,⟨q278,K278_ok⟩,⟨q281,K281_ok⟩,⟨q284,K284_ok⟩,⟨q291,K291_ok⟩,⟨q292,K292_ok⟩,⟨q17,K17_ok⟩,trivial⟩ h265 (v:=.one .tt) (xs:=[.one (.row (.pair .str (.int .i64)) l),.agg [.str w0,.int .i64 w1]]) rfl rfl rfl (fun f id T L=>match f,id with
  | 265,4035=>some (.cut Unit fun _=>([(6,.one (.row (.pair .str (.int .i64)) (norO (moW l w0 w1)))),(7,.one (.int .i64 (norE (moW l w0 w1))))],[]))
  | 265,4057=>some (.cut Unit fun _=>([(8,.one (.vptr DwT (newD (norO l)) 0)),(9,.one (.int .i64 0))],[]))
  | 265,4061=>some (.cut Unit fun _=>([(10,.one (.vptr DwT (newD (norO (moW l w0 w1))) 0)),(11,.one (.int .i64 0))],[]))
  | 265,0=>some (.inv { i:Nat // i<=(norO l).length+1 } (fun x=>([(74,.one (.int .i64 x.1))],[])) (fun x=>(norO l).length+1-x.1))
  | _,_=>none) 4000 (VC.use (p:=
  (((!true)=true →
    (false=true))/\
  (¬(!true) = true →
   ((l.length<=1099511627776)/\
   ((SmW l)/\
   (((((0+(norO l).length)*24≤140737488355328) ∧
     (((([]++norO l).length+[(w0,w1)].length)*24<=140737488355328)/\
     ((([]++norO l++[(w0,w1)]).length<=1099511627776)/\
     ((SmW ([]++norO l++[(w0,w1)]))/\
     (∃ x1 : Unit,
      ((norO l=norO l)/\
      ((norE l=norE l)/\
      ((norO ([]++norO l++[(w0,w1)])=norO (moW l w0 w1))/\
      ((norE ([]++norO l++[(w0,w1)])=norE (moW l w0 w1))/\
      ((w0=w0)/\
      (w1=w1)))))))))))/\
    ((((0 + (norO l).length) * 24 ≤ 140737488355328) ∧
     (((([]++norO l).length+[(w0,w1)].length)*24<=140737488355328)/\
     ((([]++norO l++[(w0,w1)]).length<=1099511627776)/\
     ((SmW ([]++norO l++[(w0,w1)]))/\
     (∃ x1 : Unit,
      ((norO l=norO l)/\
      ((norE l=norE l)/\
      ((norO ([]++norO l++[(w0,w1)])=norO (moW l w0 w1))/\
      ((norE ([]++norO l++[(w0,w1)])=norE (moW l w0 w1))/\
      ((w0=w0)/\
      (w1=w1)))))))))))/\
    ((((0 + (norO l).length) * 24 ≤ 140737488355328) ∧
     (((([]++norO l).length+[(w0,w1)].length)*24<=140737488355328)/\
     ((([]++norO l++[(w0,w1)]).length<=1099511627776)/\
     ((SmW ([]++norO l++[(w0,w1)]))/\
     (∃ x1 : Unit,
      ((norO l=norO l)/\
      ((norE l=norE l)/\
      ((norO ([]++norO l++[(w0,w1)])=norO (moW l w0 w1))/\
      ((norE ([]++norO l++[(w0,w1)])=norE (moW l w0 w1))/\
      ((w0=w0)/\
      (w1=w1)))))))))))/\
    (((0+(norO l).length)*24<=140737488355328)/\
    (((([]++norO l).length+[(w0,w1)].length)*24<=140737488355328)/\
    ((([]++norO l++[(w0,w1)]).length<=1099511627776)/\
    ((SmW ([]++norO l++[(w0,w1)]))/\
    (∃ x1 : Unit,
     ((norO l=norO l)/\
     ((norE l=norE l)/\
     ((norO ([]++norO l++[(w0,w1)])=norO (moW l w0 w1))/\
     ((norE ([]++norO l++[(w0,w1)])=norE (moW l w0 w1))/\
     ((w0=w0)/\
     (w1=w1))))))))))))))/\
   (∀ x1 : Unit,
    (((norO l).length<=1048576)/\
    ((SmX (norO l))/\
    ((grtB (norO l)=true →
      True)/\
    (¬grtB (norO l) = true →
     ((100 < (↑w0.length:Int) →
       True)/\
     (¬100 < (↑w0.length : Int) →
      ((norE l=0 →
        ((norE (moW l w0 w1)=0 →
          ((((norO l).length ≤ 1099511627776) ∧
           ((SmW (norO l))/\
           ((isE (norO l)=0 →
             (∃ x2 : Unit,
              ((norO l=norO l)/\
              ((norO (moW l w0 w1)=norO (moW l w0 w1))/\
              ((newD (norO l)=newD (norO l))/\
              (((0:Int)=(0:Int))/\
              ((w0=w0)/\
              (w1=w1))))))))/\
           (¬isE (norO l) = 0 →
            (∃ x2 : Unit,
             False)))))/\
          (∀ x2 : Unit,
           ((((norO (moW l w0 w1)).length ≤ 1099511627776) ∧
            ((SmW (norO (moW l w0 w1)))/\
            ((isE (norO (moW l w0 w1))=0 →
              (∃ x3 : Unit,
               ((norO l=norO l)/\
               ((norO (moW l w0 w1)=norO (moW l w0 w1))/\
               ((newD (norO l)=newD (norO l))/\
               (((0:Int)=(0:Int))/\
               ((newD (norO (moW l w0 w1))=newD (norO (moW l w0 w1)))/\
               (((0:Int)=(0:Int))/\
               ((w0=w0)/\
               (w1=w1))))))))))/\
            (¬isE (norO (moW l w0 w1)) = 0 →
             (∃ x3 : Unit,
              False)))))/\
           (∀ x3 : Unit,
            (((0:Int)=(0:Int) →
              (((0:Int)=(0:Int) →
                ((((0 + (norO l).length) * 24 ≤ 140737488355328) ∧
                 (((([]++norO l).length+[(w0,w1)].length)*24<=140737488355328)/\
                 ((∃ x4:{ i:Nat // i≤(norO l).length+1 },
                   ((norO (moW l w0 w1)=norO (moW l w0 w1))/\
                   ((newD (norO l)=newD (norO l))/\
                   ((newD (norO (moW l w0 w1))=newD (norO (moW l w0 w1)))/\
                   (((↑([]++norO l++[(w0,w1)]).length:Int)=(↑([]++norO l++[(w0,w1)]).length:Int))/\
                   ((0=(x4.1:Int))/\
                   ((w0=w0)/\
                   ((w1=w1)/\
                   (([]++norO l++[(w0,w1)]=[]++norO l++[(w0,w1)])/\
                   ([(w0,w1)]=[(w0,w1)]))))))))))/\
                 (∀ x4 : { i : Nat // i ≤ (norO l).length + 1 },
                  (((↑x4.val:Int) < (↑([]++norO l++[(w0,w1)]).length:Int) →
                    ((0<=(x4.1:Int)/\(x4.1:Int)<(↑([]++norO l++[(w0,w1)]).length:Int))/\
                    ((x4.1<([]++norO l++[(w0,w1)]).length)/\
                    ((DwOk (List.map stD (stsR (norO (moW l w0 w1)))))/\
                    ((List.length (([]++norO l++[(w0,w1)]).getD x4.1 ([],0)).1<=1099511627776)/\
                    (((plE (([]++norO l++[(w0,w1)]).getD x4.val ([],0)).fst (List.map stD (stsR (norO (moW l w0 w1))))).snd=0 →
                      ((i64R ((x4.1:Int)+1))/\
                      (∃ x5 : { i : Nat // i ≤ (norO l).length + 1 },
                       (((norO l).length+1-x5.1<(norO l).length+1-x4.1)/\
                       ((norO (moW l w0 w1)=norO (moW l w0 w1))/\
                       ((newD (norO l)=newD (norO l))/\
                       ((newD (norO (moW l w0 w1))=newD (norO (moW l w0 w1)))/\
                       (((↑([]++norO l++[(w0,w1)]).length:Int)=(↑([]++norO l++[(w0,w1)]).length:Int))/\
                       (((x4.1:Int)+1=(x5.1:Int))/\
                       ((w0=w0)/\
                       ((w1=w1)/\
                       (([]++norO l++[(w0,w1)]=[]++norO l++[(w0,w1)])/\
                       ([(w0,w1)]=[(w0,w1)])))))))))))))/\
                    (¬(plE (([] ++ norO l ++ [(w0, w1)]).getD x4.val ([], 0)).fst (List.map stD (stsR (norO (moW l w0 w1))))).snd = 0 →
                     (false=true))))))))/\
                  (¬(↑x4.val : Int) < (↑([] ++ norO l ++ [(w0, w1)]).length : Int) →
                   ((w0.length<=1099511627776)/\
                   (((↑(List.map (fun x=>x.snd) (norO (moW l w0 w1))).length:Int)=(↑(norO (moW l w0 w1)).length:Int) →
                     ((i64R (2*(↑(List.map stD (stsR (norO l))).length:Int)))/\
                     ((i64R (2*(↑(List.map stD (stsR (norO l))).length:Int)+(↑(decR w0).length:Int)))/\
                     (decide ((↑(List.map stD (stsR (norO (moW l w0 w1)))).length:Int)<=2*(↑(List.map stD (stsR (norO l))).length:Int)+(↑(decR w0).length:Int))=true))))/\
                   (¬(↑(List.map (fun x => x.snd) (norO (moW l w0 w1))).length : Int) = (↑(norO (moW l w0 w1)).length : Int) →
                    (false=true))))))))))/\
                ((((0 + (norO l).length) * 24 ≤ 140737488355328) ∧
                 (((([]++norO l).length+[(w0,w1)].length)*24<=140737488355328)/\
                 ((∃ x4:{ i:Nat // i≤(norO l).length+1 },
                   ((norO (moW l w0 w1)=norO (moW l w0 w1))/\
                   ((newD (norO l)=newD (norO l))/\
                   ((newD (norO (moW l w0 w1))=newD (norO (moW l w0 w1)))/\
                   (((↑([]++norO l++[(w0,w1)]).length:Int)=(↑([]++norO l++[(w0,w1)]).length:Int))/\
                   ((0=(x4.1:Int))/\
                   ((w0=w0)/\
                   ((w1=w1)/\
                   (([]++norO l++[(w0,w1)]=[]++norO l++[(w0,w1)])/\
                   ([(w0,w1)]=[(w0,w1)]))))))))))/\
                 (∀ x4 : { i : Nat // i ≤ (norO l).length + 1 },
                  (((↑x4.val:Int) < (↑([]++norO l++[(w0,w1)]).length:Int) →
                    ((0<=(x4.1:Int)/\(x4.1:Int)<(↑([]++norO l++[(w0,w1)]).length:Int))/\
                    ((x4.1<([]++norO l++[(w0,w1)]).length)/\
                    ((DwOk (List.map stD (stsR (norO (moW l w0 w1)))))/\
                    ((List.length (([]++norO l++[(w0,w1)]).getD x4.1 ([],0)).1<=1099511627776)/\
                    (((plE (([]++norO l++[(w0,w1)]).getD x4.val ([],0)).fst (List.map stD (stsR (norO (moW l w0 w1))))).snd=0 →
                      ((i64R ((x4.1:Int)+1))/\
                      (∃ x5 : { i : Nat // i ≤ (norO l).length + 1 },
                       (((norO l).length+1-x5.1<(norO l).length+1-x4.1)/\
                       ((norO (moW l w0 w1)=norO (moW l w0 w1))/\
                       ((newD (norO l)=newD (norO l))/\
                       ((newD (norO (moW l w0 w1))=newD (norO (moW l w0 w1)))/\
                       (((↑([]++norO l++[(w0,w1)]).length:Int)=(↑([]++norO l++[(w0,w1)]).length:Int))/\
                       (((x4.1:Int)+1=(x5.1:Int))/\
                       ((w0=w0)/\
                       ((w1=w1)/\
                       (([]++norO l++[(w0,w1)]=[]++norO l++[(w0,w1)])/\
                       ([(w0,w1)]=[(w0,w1)])))))))))))))/\
                    (¬(plE (([] ++ norO l ++ [(w0, w1)]).getD x4.val ([], 0)).fst (List.map stD (stsR (norO (moW l w0 w1))))).snd = 0 →
                     (false=true))))))))/\
                  (¬(↑x4.val : Int) < (↑([] ++ norO l ++ [(w0, w1)]).length : Int) →
                   ((w0.length<=1099511627776)/\
                   (((↑(List.map (fun x=>x.snd) (norO (moW l w0 w1))).length:Int)=(↑(norO (moW l w0 w1)).length:Int) →
                     ((i64R (2*(↑(List.map stD (stsR (norO l))).length:Int)))/\
                     ((i64R (2*(↑(List.map stD (stsR (norO l))).length:Int)+(↑(decR w0).length:Int)))/\
                     (decide ((↑(List.map stD (stsR (norO (moW l w0 w1)))).length:Int)<=2*(↑(List.map stD (stsR (norO l))).length:Int)+(↑(decR w0).length:Int))=true))))/\
                   (¬(↑(List.map (fun x => x.snd) (norO (moW l w0 w1))).length : Int) = (↑(norO (moW l w0 w1)).length : Int) →
                    (false=true))))))))))/\
                ((((0 + (norO l).length) * 24 ≤ 140737488355328) ∧
                 (((([]++norO l).length+[(w0,w1)].length)*24<=140737488355328)/\
                 ((∃ x4:{ i:Nat // i≤(norO l).length+1 },
                   ((norO (moW l w0 w1)=norO (moW l w0 w1))/\
                   ((newD (norO l)=newD (norO l))/\
                   ((newD (norO (moW l w0 w1))=newD (norO (moW l w0 w1)))/\
                   (((↑([]++norO l++[(w0,w1)]).length:Int)=(↑([]++norO l++[(w0,w1)]).length:Int))/\
                   ((0=(x4.1:Int))/\
                   ((w0=w0)/\
                   ((w1=w1)/\
                   (([]++norO l++[(w0,w1)]=[]++norO l++[(w0,w1)])/\
                   ([(w0,w1)]=[(w0,w1)]))))))))))/\
                 (∀ x4 : { i : Nat // i ≤ (norO l).length + 1 },
                  (((↑x4.val:Int) < (↑([]++norO l++[(w0,w1)]).length:Int) →
                    ((0<=(x4.1:Int)/\(x4.1:Int)<(↑([]++norO l++[(w0,w1)]).length:Int))/\
                    ((x4.1<([]++norO l++[(w0,w1)]).length)/\
                    ((DwOk (List.map stD (stsR (norO (moW l w0 w1)))))/\
                    ((List.length (([]++norO l++[(w0,w1)]).getD x4.1 ([],0)).1<=1099511627776)/\
                    (((plE (([]++norO l++[(w0,w1)]).getD x4.val ([],0)).fst (List.map stD (stsR (norO (moW l w0 w1))))).snd=0 →
                      ((i64R ((x4.1:Int)+1))/\
                      (∃ x5 : { i : Nat // i ≤ (norO l).length + 1 },
                       (((norO l).length+1-x5.1<(norO l).length+1-x4.1)/\
                       ((norO (moW l w0 w1)=norO (moW l w0 w1))/\
                       ((newD (norO l)=newD (norO l))/\
                       ((newD (norO (moW l w0 w1))=newD (norO (moW l w0 w1)))/\
                       (((↑([]++norO l++[(w0,w1)]).length:Int)=(↑([]++norO l++[(w0,w1)]).length:Int))/\
                       (((x4.1:Int)+1=(x5.1:Int))/\
                       ((w0=w0)/\
                       ((w1=w1)/\
                       (([]++norO l++[(w0,w1)]=[]++norO l++[(w0,w1)])/\
                       ([(w0,w1)]=[(w0,w1)])))))))))))))/\
                    (¬(plE (([] ++ norO l ++ [(w0, w1)]).getD x4.val ([], 0)).fst (List.map stD (stsR (norO (moW l w0 w1))))).snd = 0 →
                     (false=true))))))))/\
                  (¬(↑x4.val : Int) < (↑([] ++ norO l ++ [(w0, w1)]).length : Int) →
                   ((w0.length<=1099511627776)/\
                   (((↑(List.map (fun x=>x.snd) (norO (moW l w0 w1))).length:Int)=(↑(norO (moW l w0 w1)).length:Int) →
                     ((i64R (2*(↑(List.map stD (stsR (norO l))).length:Int)))/\
                     ((i64R (2*(↑(List.map stD (stsR (norO l))).length:Int)+(↑(decR w0).length:Int)))/\
                     (decide ((↑(List.map stD (stsR (norO (moW l w0 w1)))).length:Int)<=2*(↑(List.map stD (stsR (norO l))).length:Int)+(↑(decR w0).length:Int))=true))))/\
                   (¬(↑(List.map (fun x => x.snd) (norO (moW l w0 w1))).length : Int) = (↑(norO (moW l w0 w1)).length : Int) →
                    (false=true))))))))))/\
                (((0+(norO l).length)*24<=140737488355328)/\
                (((([]++norO l).length+[(w0,w1)].length)*24<=140737488355328)/\
                ((∃ x4:{ i:Nat // i≤(norO l).length+1 },
                  ((norO (moW l w0 w1)=norO (moW l w0 w1))/\
                  ((newD (norO l)=newD (norO l))/\
                  ((newD (norO (moW l w0 w1))=newD (norO (moW l w0 w1)))/\
                  (((↑([]++norO l++[(w0,w1)]).length:Int)=(↑([]++norO l++[(w0,w1)]).length:Int))/\
                  ((0=(x4.1:Int))/\
                  ((w0=w0)/\
                  ((w1=w1)/\
                  (([(w0,w1)]=[(w0,w1)])/\
                  ([]++norO l++[(w0,w1)]=[]++norO l++[(w0,w1)]))))))))))/\
                (∀ x4 : { i : Nat // i ≤ (norO l).length + 1 },
                 (((↑x4.val:Int) < (↑([]++norO l++[(w0,w1)]).length:Int) →
                   ((0<=(x4.1:Int)/\(x4.1:Int)<(↑([]++norO l++[(w0,w1)]).length:Int))/\
                   ((x4.1<([]++norO l++[(w0,w1)]).length)/\
                   ((DwOk (List.map stD (stsR (norO (moW l w0 w1)))))/\
                   ((List.length (([]++norO l++[(w0,w1)]).getD x4.1 ([],0)).1<=1099511627776)/\
                   (((plE (([]++norO l++[(w0,w1)]).getD x4.val ([],0)).fst (List.map stD (stsR (norO (moW l w0 w1))))).snd=0 →
                     ((i64R ((x4.1:Int)+1))/\
                     (∃ x5 : { i : Nat // i ≤ (norO l).length + 1 },
                      (((norO l).length+1-x5.1<(norO l).length+1-x4.1)/\
                      ((norO (moW l w0 w1)=norO (moW l w0 w1))/\
                      ((newD (norO l)=newD (norO l))/\
                      ((newD (norO (moW l w0 w1))=newD (norO (moW l w0 w1)))/\
                      (((↑([]++norO l++[(w0,w1)]).length:Int)=(↑([]++norO l++[(w0,w1)]).length:Int))/\
                      (((x4.1:Int)+1=(x5.1:Int))/\
                      ((w0=w0)/\
                      ((w1=w1)/\
                      (([(w0,w1)]=[(w0,w1)])/\
                      ([]++norO l++[(w0,w1)]=[]++norO l++[(w0,w1)])))))))))))))/\
                   (¬(plE (([] ++ norO l ++ [(w0, w1)]).getD x4.val ([], 0)).fst (List.map stD (stsR (norO (moW l w0 w1))))).snd = 0 →
                    (false=true))))))))/\
                 (¬(↑x4.val : Int) < (↑([] ++ norO l ++ [(w0, w1)]).length : Int) →
                  ((w0.length<=1099511627776)/\
                  (((↑(List.map (fun x=>x.snd) (norO (moW l w0 w1))).length:Int)=(↑(norO (moW l w0 w1)).length:Int) →
                    ((i64R (2*(↑(List.map stD (stsR (norO l))).length:Int)))/\
                    ((i64R (2*(↑(List.map stD (stsR (norO l))).length:Int)+(↑(decR w0).length:Int)))/\
                    (decide ((↑(List.map stD (stsR (norO (moW l w0 w1)))).length:Int)<=2*(↑(List.map stD (stsR (norO l))).length:Int)+(↑(decR w0).length:Int))=true))))/\
                  (¬(↑(List.map (fun x => x.snd) (norO (moW l w0 w1))).length : Int) = (↑(norO (moW l w0 w1)).length : Int) →
                   (false=true))))))))))))))/\
              (¬(0 : Int) = (0 : Int) →
               (false=true))))/\
            (¬(0 : Int) = (0 : Int) →
             (false=true))))))))/\
        (¬norE (moW l w0 w1) = 0 →
         True)))/\
      (¬norE l = 0 →
       True))))))))))))))) (by kernel_rfl) (by
  have hw:SmW l:=fun x hx=>Nat.le_trans (hs0 x hx) (by decide)
  have hn1:=Nat.le_trans (norO_len l) hl0
  have hn2:SmX (norO l):=norO_sm hs0
  have hn3:∀ x∈moW l w0 w1,x.1.length<=1048576:=fun x hx=>by
   rcases zX.1 hx with hx | hx
   ·exact hn2 x hx
   ·rw [List.mem_singleton.1 hx];exact hw0
  have hml:(moW l w0 w1).length=(norO l).length+1:=by unfold moW;simp
  have hnil:([]++norO l++[(w0,w1)])=moW l w0 w1:=rfl
  have hn4:SmW (moW l w0 w1):=fun x hx=>Nat.le_trans (hn3 x hx) (by decide)
  have hm1:=Nat.le_trans (norO_len (moW l w0 w1)) (Nat.le_of_eq hml)
  have hm2:SmX (norO (moW l w0 w1)):=norO_sm hn3
  have h1l:[(w0,w1)].length=1:=rfl
  have hnl:([]++norO l).length=(norO l).length:=by simp
  rw [hnil,hnl,h1l,hml]
  refine ⟨fun h=>(by cases h),fun _=>⟨by omega,hw,?_,fun _=>⟨hn1,hn2,fun _=>trivial,fun _=>⟨fun _=>trivial,fun _=>⟨fun hz=>⟨fun hz2=>?_,fun _=>trivial⟩,fun _=>trivial⟩⟩⟩⟩⟩
  ·refine ⟨?_,?_,?_,?_⟩
   all_goals exact ⟨by omega,by omega,by omega,hn4,(),rfl,rfl,rfl,rfl,rfl,rfl⟩
  have hM:Mor l (w0,w1):=mor hz hz2
  have hB:=sts hM.hm
  have hT:=(nml hM.hm).tot
  have hT2:=(nml hM.he).tot
  have hA:=sts hM.he
  have hfa:=hA.few
  have hok:DwOk (List.map stD (stsR (norO (moW l w0 w1)))):=hB.ok hT
  have hst:=hM.st
  have hdl:(decR w0).length<=w0.length:=by
   unfold decR
   split
   ·rw [zR];exact runes_len w0
   ·exact Nat.zero_le _
  refine ⟨⟨by omega,fun x hx=>Nat.le_trans (hn2 x hx) (by decide),fun _=>⟨(),rfl,rfl,rfl,rfl,rfl,rfl⟩,fun h=>absurd hM.he h⟩,fun _=>⟨⟨by omega,fun x hx=>Nat.le_trans (hm2 x hx) (by decide),fun _=>⟨(),rfl,rfl,rfl,rfl,rfl,rfl,rfl,rfl⟩,fun h=>absurd hM.hm h⟩,fun _=>⟨fun _=>⟨fun _=>⟨?_,?_,?_,?_⟩,fun h=>absurd rfl h⟩,fun h=>absurd rfl h⟩⟩⟩
  all_goals
   refine ⟨by omega,by omega,⟨⟨0,Nat.zero_le _⟩,rfl,rfl,rfl,rfl,rfl,rfl,rfl,rfl,rfl⟩,?_⟩
   rintro ⟨i,hi⟩
   dsimp only
   refine ⟨fun h=>?_,fun h=>?_⟩
   ·have hmem:(moW l w0 w1).getD i ([],0)∈moW l w0 w1:=by
     rw [zA,zB (by rw [hml];omega)];exact List.getElem_mem _
    refine ⟨⟨by omega,h⟩,by omega,hok,Nat.le_trans (hn3 _ hmem) (by decide),fun _=>⟨by unfold i64R;omega,⟨i+1,by omega⟩,by dsimp only;omega,rfl,rfl,rfl,rfl,by push_cast;rfl,rfl,rfl,rfl,rfl⟩,fun h2=>absurd (hM.pl _ hmem) h2⟩
   ·refine ⟨by omega,fun _=>⟨?_,?_,decide_eq_true ?_⟩,fun h2=>absurd (by rw [zR]) h2⟩
    all_goals (simp only [zR];(try unfold i64R);have e:(norO l++[(w0,w1)])=moW l w0 w1:=rfl;rw [e] at hst;dsimp only at hst;omega)))
end Go.EA
