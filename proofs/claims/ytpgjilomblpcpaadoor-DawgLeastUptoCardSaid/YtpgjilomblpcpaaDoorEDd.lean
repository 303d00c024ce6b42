/- Layer 10: the law that states are the least. Conditions: none. -/
import Derived.Test.YtpgjilomblpcpaaDoorEDu
import Derived.Test.YtpgjilomblpcpaaDoorEDj
import Derived.Test.YtpgjilomblpcpaaDoorEK25
import Derived.Test.YtpgjilomblpcpaaDoorELx5
import Derived.KernelRfl
set_option linter.unusedVariables false
set_option linter.unusedSimpArgs false
set_option maxRecDepth 100000
set_option maxHeartbeats 0
namespace Go.EA
open F
def dlS (l:List Wd):List RSt:=stsR (norO l)
def dlL (l:List Wd):Int:=((List.map stD (stsR (norO l))).length:Int)
def dlO (l:List Wd) (i:Nat):List Ed:=if 0<=(i:Int)/\(i:Int)<(↑(List.map stD (stsR (norO l))).length:Int) then (stA (List.map stD (stsR (norO l))) i).1 else []
def dlN (l:List Wd) (i:Nat):Bool:=decide (0<=(i:Int)/\(i:Int)<(↑(List.map stD (stsR (norO l))).length:Int))&&(stA (List.map stD (stsR (norO l))) i).2.1
def dlW (l:List Wd) (i:Nat):Wd:=(norO l).getD i ([],0)
def bOf:SV->Option Bool
 | .one x=>x.b?
 | _=>none
theorem w264 {S:SC} (hB:SB S) (q276:PrOk S 276 (pureP G276)) (q277:PrOk S 277 (pureP G277)) (q278:PrOk S 278 (pureP G278)) (q281:PrOk S 281 (pureP G281)) (q282:PrOk S 282 (pureP G282)) (q285:PrOk S 285 (pureP G285)) (q286:PrOk S 286 (pureP G286)) (q291:PrOk S 291 (pureP G291)) (q17:PrOk S 17 (pureP G17)) (h264:S.has 264 f264) (l:List (List UInt8×Int)) (hl0:l.length<=1048576) (hs0:∀ x∈l,x.1.length<=1048576):MF S 264 [] [den0 (.one (.row (.pair .str (.int .i64)) l))] (hl []) fun v _=>v=.one (.bool true):=
 mfM hB [] [⟨276,G276,K276⟩,⟨277,G277,K277⟩,⟨278,G278,K278⟩,⟨281,G281,K281⟩,⟨282,G282,K282⟩,⟨285,G285,K285⟩,⟨286,G286,K286⟩,⟨291,G291,K291⟩,⟨17,G17,K17⟩] trivial ⟨⟨q276,K276_ok⟩,⟨q277,K277_ok⟩,⟨q278,K278_ok⟩,⟨q281,K281_ok⟩,⟨q282,K282_ok⟩,⟨q285,K285_ok⟩,⟨q286,K286_ok⟩,⟨q291,K291_ok⟩,⟨q17,K17_ok⟩,trivial⟩ h264 (v:=.one .tt) (xs:=[.one (.row (.pair .str (.int .i64)) l)]) rfl rfl rfl (fun f id T L=>match f,id with
  | 264,4100=>some (.cut Unit fun _=>([],[]))
  | 264,4131=>some (.cut Unit fun _=>([],[]))
  | 264,4027=>match T.getD 135 .junk,T.getD 21 .junk with | .one (.int _ i),.one (.int _ j)=>some (.cut { q:Bool // q=true->(rAt (stsR (norO l)) j.toNat).2.1=(rAt (stsR (norO l)) i.toNat).2.1/\(outR (stsR (norO l)) i.toNat).length=(outR (stsR (norO l)) j.toNat).length } fun x=>([(26,.one (.bool x.1))],[])) | _,_=>none
  | 264,0=>some (.inv { i:Nat // i<=(norO l).length } (fun x=>([(54,.one (.int .i64 x.1)),(9,.one (.int .i64 (1+(tot (wdR ((norO l).take x.1)):Int))))],[])) (fun x=>(norO l).length-x.1))
  | 264,2=>match T.getD 7 .junk with | .one (.mp m)=>some (.inv { s:Nat×Ld // s.1<=(stsR (norO l)).length/\LedOk (stsR (norO l)) s.1 0 s.2 } (fun x=>([(70,.one (.int .i64 x.1.1)),(8,.one (.int .i64 (edgN ((stsR (norO l)).take x.1.1))))],[(m,.mapo (.int .i64) .bool x.1.2)])) (fun x=>(stsR (norO l)).length-x.1.1)) | _=>none
  | 264,4=>match T.getD 7 .junk,T.getD 14 .junk with | .one (.mp m),.one (.int _ z)=>some (.inv { s:Nat×Ld // s.1<=(outR (stsR (norO l)) z.toNat).length/\LedOk (stsR (norO l)) z.toNat s.1 s.2 } (fun x=>([(102,.one (.int .i64 x.1.1))],[(m,.mapo (.int .i64) .bool x.1.2)])) (fun x=>(outR (stsR (norO l)) z.toNat).length-x.1.1)) | _,_=>none
  | 264,6=>match T.getD 14 .junk with | .one (.int _ z)=>some (.inv { j:Nat // j<=z.toNat } (fun x=>([(136,.one (.int .i64 x.1))],[])) (fun x=>z.toNat-x.1)) | _=>none
  | 264,8=>match bOf (T.getD 26 .junk),T.getD 15 .junk,T.getD 22 .junk with | some q,.one (.row (.pair (.int .i32) (.int .i64)) a),.one (.row (.pair (.int .i32) (.int .i64)) b)=>some (.inv { p:Nat×Bool // p.1<=a.length/\(p.2=true->q=true/\a.take p.1=b.take p.1) } (fun x=>([(26,.one (.bool x.1.2)),(27,.one (.int .i64 x.1.1))],[])) (fun x=>a.length-x.1.1)) | _,_,_=>none
  | _,_=>none) 4000 (VC.use (p:=
  (((!true)=true →
    (false=true)) /\
  (¬(!true) = true →
   ((l.length<=1099511627776) /\
   ((SmW l) /\
   (((norO l).length<=1048576) /\
   ((SmX (norO l)) /\
   ((grtB (norO l)=true →
     True) /\
   (¬grtB (norO l) = true →
    ((norE l=0 →
      (((norO l).length<=1099511627776) /\
      ((SmW (norO l)) /\
      ((isE (norO l)=0 →
        (((0:Int)=(0:Int) →
          ((∃ x1:{ i:Nat // i≤(norO l).length },
            ((newD (norO l)=newD (norO l)) /\
            (((dlL l)=(dlL l)) /\
            (((0:Int)=(0:Int)) /\
            ((1=1+(↑(tot (wdR (List.take x1.1 (norO l)))):Int)) /\
            ((norO l=norO l) /\
            (((↑(norO l).length:Int)=(↑(norO l).length:Int)) /\
            ((0=(x1.1:Int)) /\
            ([((0:Int),true)]=[((0:Int),true)]))))))))) /\
          (∀ x1 : { i : Nat // i ≤ (norO l).length },
           (((↑x1.val:Int) < (↑(norO l).length:Int) →
             ((0<=(x1.1:Int)/\(x1.1:Int)<(↑(norO l).length:Int)) /\
             ((List.length (dlW l x1.1).1<=1099511627776) /\
             ((i64R (1+(↑(tot (wdR (List.take x1.1 (norO l)))):Int)+(↑(decR (dlW l x1.1).1).length:Int))) /\
             ((i64R ((x1.1:Int)+1)) /\
             (∃ x2 : { i : Nat // i ≤ (norO l).length },
              (((norO l).length-x2.1<(norO l).length-x1.1) /\
              ((newD (norO l)=newD (norO l)) /\
              (((dlL l)=(dlL l)) /\
              (((0:Int)=(0:Int)) /\
              ((1+(↑(tot (wdR (List.take x1.1 (norO l)))):Int)+(↑(decR (dlW l x1.1).1).length:Int)=1+(↑(tot (wdR (List.take x2.1 (norO l)))):Int)) /\
              ((norO l=norO l) /\
              (((↑(norO l).length:Int)=(↑(norO l).length:Int)) /\
              (((x1.1:Int)+1=(x2.1:Int)) /\
              ([((0:Int),true)]=[((0:Int),true)]))))))))))))))) /\
           (¬(↑x1.val : Int) < (↑(norO l).length : Int) →
            ((∃ x2:{ s:Nat×Ld // s.fst≤(dlS l).length∧LedOk (dlS l) s.fst 0 s.snd },
              ((newD (norO l)=newD (norO l)) /\
              (((dlL l)=(dlL l)) /\
              ((0=edgN (List.take x2.1.1 (dlS l))) /\
              ((1+(↑(tot (wdR (List.take x1.1 (norO l)))):Int)=1+(↑(tot (wdR (List.take x1.1 (norO l)))):Int)) /\
              (((dlL l)=(dlL l)) /\
              ((0=(x2.1.1:Int)) /\
              ([((0:Int),true)]=x2.1.2)))))))) /\
            (∀ x2 : { s : Nat × Ld // s.fst ≤ (dlS l).length ∧ LedOk (dlS l) s.fst 0 s.snd },
             (((↑x2.val.fst:Int) < (dlL l) →
               ((EdS (List.map stD (dlS l))) /\
               ((i64R (edgN (List.take x2.1.1 (dlS l))+(↑(dlO l x2.1.1).length:Int))) /\
               ((((↑(dlO l x2.val.fst).length : Int) = 0 →
                  (((!(dlN l x2.val.fst))=true →
                    ((0 < (↑x2.val.fst:Int) →
                      (false=true)) /\
                    (¬0 < (↑x2.val.fst : Int) →
                     (∃ x3 : Unit,
                      ((newD (norO l)=newD (norO l)) /\
                      (((dlL l)=(dlL l)) /\
                      ((edgN (List.take x2.1.1 (dlS l))+(↑(dlO l x2.1.1).length:Int)=edgN (List.take x2.1.1 (dlS l))+(↑(dlO l x2.1.1).length:Int)) /\
                      ((1+(↑(tot (wdR (List.take x1.1 (norO l)))):Int)=1+(↑(tot (wdR (List.take x1.1 (norO l)))):Int)) /\
                      (((x2.1.1:Int)=(x2.1.1:Int)) /\
                      (((dlO l x2.1.1)=dlO l x2.1.1) /\
                      (((dlN l x2.1.1)=(dlN l x2.1.1)) /\
                      (((dlL l)=(dlL l)) /\
                      (((x2.1.1:Int)=(x2.1.1:Int)) /\
                      (x2.1.2=x2.1.2)))))))))))))) /\
                  (¬(!(dlN l x2.val.fst)) = true →
                   (∃ x3 : Unit,
                    ((newD (norO l)=newD (norO l)) /\
                    (((dlL l)=(dlL l)) /\
                    ((edgN (List.take x2.1.1 (dlS l))+(↑(dlO l x2.1.1).length:Int)=edgN (List.take x2.1.1 (dlS l))+(↑(dlO l x2.1.1).length:Int)) /\
                    ((1+(↑(tot (wdR (List.take x1.1 (norO l)))):Int)=1+(↑(tot (wdR (List.take x1.1 (norO l)))):Int)) /\
                    (((x2.1.1:Int)=(x2.1.1:Int)) /\
                    (((dlO l x2.1.1)=dlO l x2.1.1) /\
                    (((dlN l x2.1.1)=(dlN l x2.1.1)) /\
                    (((dlL l)=(dlL l)) /\
                    (((x2.1.1:Int)=(x2.1.1:Int)) /\
                    (x2.1.2=x2.1.2)))))))))))))) /\
                (¬(↑(dlO l x2.val.fst).length : Int) = 0 →
                 (∃ x3 : Unit,
                  ((newD (norO l)=newD (norO l)) /\
                  (((dlL l)=(dlL l)) /\
                  ((edgN (List.take x2.1.1 (dlS l))+(↑(dlO l x2.1.1).length:Int)=edgN (List.take x2.1.1 (dlS l))+(↑(dlO l x2.1.1).length:Int)) /\
                  ((1+(↑(tot (wdR (List.take x1.1 (norO l)))):Int)=1+(↑(tot (wdR (List.take x1.1 (norO l)))):Int)) /\
                  (((x2.1.1:Int)=(x2.1.1:Int)) /\
                  (((dlO l x2.1.1)=dlO l x2.1.1) /\
                  (((dlN l x2.1.1)=(dlN l x2.1.1)) /\
                  (((dlL l)=(dlL l)) /\
                  (((x2.1.1:Int)=(x2.1.1:Int)) /\
                  (x2.1.2=x2.1.2))))))))))))) /\
               (∀ x3 : Unit,
                ((∃ x4:{ s:Nat×Ld // s.fst≤(outR (dlS l) x2.val.fst).length∧LedOk (dlS l) x2.val.fst s.fst s.snd },
                  ((newD (norO l)=newD (norO l)) /\
                  (((dlL l)=(dlL l)) /\
                  ((edgN (List.take x2.1.1 (dlS l))+(↑(dlO l x2.1.1).length:Int)=edgN (List.take x2.1.1 (dlS l))+(↑(dlO l x2.1.1).length:Int)) /\
                  ((1+(↑(tot (wdR (List.take x1.1 (norO l)))):Int)=1+(↑(tot (wdR (List.take x1.1 (norO l)))):Int)) /\
                  (((x2.1.1:Int)=(x2.1.1:Int)) /\
                  (((dlO l x2.1.1)=dlO l x2.1.1) /\
                  (((dlN l x2.1.1)=(dlN l x2.1.1)) /\
                  (((dlL l)=(dlL l)) /\
                  (((x2.1.1:Int)=(x2.1.1:Int)) /\
                  (((dlO l x2.1.1)=dlO l x2.1.1) /\
                  (((↑(dlO l x2.1.1).length:Int)=(↑(dlO l x2.1.1).length:Int)) /\
                  ((0=(x4.1.1:Int)) /\
                  (x2.1.2=x4.1.2)))))))))))))) /\
                (∀ x4 : { s : Nat × Ld // s.fst ≤ (outR (dlS l) x2.val.fst).length ∧ LedOk (dlS l) x2.val.fst s.fst s.snd },
                 (((↑x4.val.fst:Int) < (↑(dlO l x2.val.fst).length:Int) →
                   ((0<=(x4.1.1:Int)/\(x4.1.1:Int)<(↑(dlO l x2.1.1).length:Int)) /\
                   (((((dlO l x2.val.fst).getD x4.val.fst (0, 0)).snd ≤ 0 →
                      (false=true)) /\
                    (¬((dlO l x2.val.fst).getD x4.val.fst (0, 0)).snd ≤ 0 →
                     (((dlL l)≤((dlO l x2.val.fst).getD x4.val.fst (0,0)).snd →
                       (false=true)) /\
                     (¬(dlL l) ≤ ((dlO l x2.val.fst).getD x4.val.fst (0, 0)).snd →
                      ((0 < (↑x4.val.fst:Int) →
                        ((i64R ((x4.1.1:Int)-1)) /\
                        ((0<=(x4.1.1:Int)-1/\(x4.1.1:Int)-1<(↑(dlO l x2.1.1).length:Int)) /\
                        ((((dlO l x2.val.fst).getD x4.val.fst (0,0)).fst≤((dlO l x2.val.fst).getD ((↑x4.val.fst:Int) - 1).toNat (0,0)).fst →
                          (false=true)) /\
                        (¬((dlO l x2.val.fst).getD x4.val.fst (0, 0)).fst ≤ ((dlO l x2.val.fst).getD ((↑x4.val.fst : Int) - 1).toNat (0, 0)).fst →
                         (∃ x5 : Unit,
                          ((newD (norO l)=newD (norO l)) /\
                          (((dlL l)=(dlL l)) /\
                          ((edgN (List.take x2.1.1 (dlS l))+(↑(dlO l x2.1.1).length:Int)=edgN (List.take x2.1.1 (dlS l))+(↑(dlO l x2.1.1).length:Int)) /\
                          ((1+(↑(tot (wdR (List.take x1.1 (norO l)))):Int)=1+(↑(tot (wdR (List.take x1.1 (norO l)))):Int)) /\
                          (((x2.1.1:Int)=(x2.1.1:Int)) /\
                          (((dlO l x2.1.1)=dlO l x2.1.1) /\
                          (((dlN l x2.1.1)=(dlN l x2.1.1)) /\
                          (((dlL l)=(dlL l)) /\
                          (((x2.1.1:Int)=(x2.1.1:Int)) /\
                          (((dlO l x2.1.1)=dlO l x2.1.1) /\
                          (((↑(dlO l x2.1.1).length:Int)=(↑(dlO l x2.1.1).length:Int)) /\
                          (((x4.1.1:Int)=(x4.1.1:Int)) /\
                          ((x4.1.2=x4.1.2) /\
                          ((((dlO l x2.1.1).getD x4.1.1 (0,0)).1=((dlO l x2.1.1).getD x4.1.1 (0,0)).1) /\
                          (((dlO l x2.1.1).getD x4.1.1 (0,0)).2=((dlO l x2.1.1).getD x4.1.1 (0,0)).2))))))))))))))))))))) /\
                      (¬0 < (↑x4.val.fst : Int) →
                       (∃ x5 : Unit,
                        ((newD (norO l)=newD (norO l)) /\
                        (((dlL l)=(dlL l)) /\
                        ((edgN (List.take x2.1.1 (dlS l))+(↑(dlO l x2.1.1).length:Int)=edgN (List.take x2.1.1 (dlS l))+(↑(dlO l x2.1.1).length:Int)) /\
                        ((1+(↑(tot (wdR (List.take x1.1 (norO l)))):Int)=1+(↑(tot (wdR (List.take x1.1 (norO l)))):Int)) /\
                        (((x2.1.1:Int)=(x2.1.1:Int)) /\
                        (((dlO l x2.1.1)=dlO l x2.1.1) /\
                        (((dlN l x2.1.1)=(dlN l x2.1.1)) /\
                        (((dlL l)=(dlL l)) /\
                        (((x2.1.1:Int)=(x2.1.1:Int)) /\
                        (((dlO l x2.1.1)=dlO l x2.1.1) /\
                        (((↑(dlO l x2.1.1).length:Int)=(↑(dlO l x2.1.1).length:Int)) /\
                        (((x4.1.1:Int)=(x4.1.1:Int)) /\
                        ((x4.1.2=x4.1.2) /\
                        ((((dlO l x2.1.1).getD x4.1.1 (0,0)).1=((dlO l x2.1.1).getD x4.1.1 (0,0)).1) /\
                        (((dlO l x2.1.1).getD x4.1.1 (0,0)).2=((dlO l x2.1.1).getD x4.1.1 (0,0)).2)))))))))))))))))))))) /\
                   (∀ x5 : Unit,
                    ((i64R ((x4.1.1:Int)+1)) /\
                    (∃ x6 : { s : Nat × Ld // s.fst ≤ (outR (dlS l) x2.val.fst).length ∧ LedOk (dlS l) x2.val.fst s.fst s.snd },
                     (((outR (dlS l) x2.1.1).length-x6.1.1<(outR (dlS l) x2.1.1).length-x4.1.1) /\
                     ((newD (norO l)=newD (norO l)) /\
                     (((dlL l)=(dlL l)) /\
                     ((edgN (List.take x2.1.1 (dlS l))+(↑(dlO l x2.1.1).length:Int)=edgN (List.take x2.1.1 (dlS l))+(↑(dlO l x2.1.1).length:Int)) /\
                     ((1+(↑(tot (wdR (List.take x1.1 (norO l)))):Int)=1+(↑(tot (wdR (List.take x1.1 (norO l)))):Int)) /\
                     (((x2.1.1:Int)=(x2.1.1:Int)) /\
                     (((dlO l x2.1.1)=dlO l x2.1.1) /\
                     (((dlN l x2.1.1)=(dlN l x2.1.1)) /\
                     (((dlL l)=(dlL l)) /\
                     (((x2.1.1:Int)=(x2.1.1:Int)) /\
                     (((dlO l x2.1.1)=dlO l x2.1.1) /\
                     (((↑(dlO l x2.1.1).length:Int)=(↑(dlO l x2.1.1).length:Int)) /\
                     (((x4.1.1:Int)+1=(x6.1.1:Int)) /\
                     (((Ty.int IntKind.i64).mput x4.1.2 ((dlO l x2.1.1).getD x4.1.1 ((0:Int),(0:Int))).2 true)=x6.1.2)))))))))))))))))))) /\
                 (¬(↑x4.val.fst : Int) < (↑(dlO l x2.val.fst).length : Int) →
                  ((∃ x5:{ j:Nat // j≤x2.val.fst },
                    ((newD (norO l)=newD (norO l)) /\
                    (((dlL l)=(dlL l)) /\
                    ((edgN (List.take x2.1.1 (dlS l))+(↑(dlO l x2.1.1).length:Int)=edgN (List.take x2.1.1 (dlS l))+(↑(dlO l x2.1.1).length:Int)) /\
                    ((1+(↑(tot (wdR (List.take x1.1 (norO l)))):Int)=1+(↑(tot (wdR (List.take x1.1 (norO l)))):Int)) /\
                    (((dlO l x2.1.1)=dlO l x2.1.1) /\
                    (((dlN l x2.1.1)=(dlN l x2.1.1)) /\
                    (((dlL l)=(dlL l)) /\
                    (((x2.1.1:Int)=(x2.1.1:Int)) /\
                    (((x2.1.1:Int)=(x2.1.1:Int)) /\
                    ((0=(x5.1:Int)) /\
                    (x4.1.2=x4.1.2)))))))))))) /\
                  (∀ x5 : { j : Nat // j ≤ x2.val.fst },
                   (((↑x5.val:Int) < (↑x2.val.fst:Int) →
                     ((EdS (List.map stD (dlS l))) /\
                     (((decide ((dlN l x5.val) = (dlN l x2.val.fst)) = true →
                        (∃ x6 : { q : Bool // q = true → (rAt (dlS l) x5.val).snd.fst = (rAt (dlS l) x2.val.fst).snd.fst ∧ (outR (dlS l) x2.val.fst).length = (outR (dlS l) x5.val).length },
                         ((newD (norO l)=newD (norO l)) /\
                         (((dlL l)=(dlL l)) /\
                         ((edgN (List.take x2.1.1 (dlS l))+(↑(dlO l x2.1.1).length:Int)=edgN (List.take x2.1.1 (dlS l))+(↑(dlO l x2.1.1).length:Int)) /\
                         ((1+(↑(tot (wdR (List.take x1.1 (norO l)))):Int)=1+(↑(tot (wdR (List.take x1.1 (norO l)))):Int)) /\
                         (((dlO l x2.1.1)=dlO l x2.1.1) /\
                         (((dlN l x2.1.1)=(dlN l x2.1.1)) /\
                         (((dlO l x5.1)=dlO l x5.1) /\
                         ((decide ((↑(dlO l x2.1.1).length:Int)=(↑(dlO l x5.1).length:Int))=x6.1) /\
                         (((dlL l)=(dlL l)) /\
                         (((x2.1.1:Int)=(x2.1.1:Int)) /\
                         (((x2.1.1:Int)=(x2.1.1:Int)) /\
                         (((x5.1:Int)=(x5.1:Int)) /\
                         (x4.1.2=x4.1.2))))))))))))))) /\
                      (¬decide ((dlN l x5.val) = (dlN l x2.val.fst)) = true →
                       (∃ x6 : { q : Bool // q = true → (rAt (dlS l) x5.val).snd.fst = (rAt (dlS l) x2.val.fst).snd.fst ∧ (outR (dlS l) x2.val.fst).length = (outR (dlS l) x5.val).length },
                        ((newD (norO l)=newD (norO l)) /\
                        (((dlL l)=(dlL l)) /\
                        ((edgN (List.take x2.1.1 (dlS l))+(↑(dlO l x2.1.1).length:Int)=edgN (List.take x2.1.1 (dlS l))+(↑(dlO l x2.1.1).length:Int)) /\
                        ((1+(↑(tot (wdR (List.take x1.1 (norO l)))):Int)=1+(↑(tot (wdR (List.take x1.1 (norO l)))):Int)) /\
                        (((dlO l x2.1.1)=dlO l x2.1.1) /\
                        (((dlN l x2.1.1)=(dlN l x2.1.1)) /\
                        (((dlO l x5.1)=dlO l x5.1) /\
                        ((false=x6.1) /\
                        (((dlL l)=(dlL l)) /\
                        (((x2.1.1:Int)=(x2.1.1:Int)) /\
                        (((x2.1.1:Int)=(x2.1.1:Int)) /\
                        (((x5.1:Int)=(x5.1:Int)) /\
                        (x4.1.2=x4.1.2)))))))))))))))) /\
                     (∀ x6 : { q : Bool // q = true → (rAt (dlS l) x5.val).snd.fst = (rAt (dlS l) x2.val.fst).snd.fst ∧ (outR (dlS l) x2.val.fst).length = (outR (dlS l) x5.val).length },
                      ((∃ x7:{ p:Nat×Bool // p.fst≤(dlO l x2.val.fst).length∧(p.snd=true→x6.val=true∧List.take p.fst (dlO l x2.val.fst)=List.take p.fst (dlO l x5.val)) },
                        ((newD (norO l)=newD (norO l)) /\
                        (((dlL l)=(dlL l)) /\
                        ((edgN (List.take x2.1.1 (dlS l))+(↑(dlO l x2.1.1).length:Int)=edgN (List.take x2.1.1 (dlS l))+(↑(dlO l x2.1.1).length:Int)) /\
                        ((1+(↑(tot (wdR (List.take x1.1 (norO l)))):Int)=1+(↑(tot (wdR (List.take x1.1 (norO l)))):Int)) /\
                        (((dlO l x2.1.1)=dlO l x2.1.1) /\
                        (((dlN l x2.1.1)=(dlN l x2.1.1)) /\
                        (((dlO l x5.1)=dlO l x5.1) /\
                        ((x6.1=x7.1.2) /\
                        ((0=(x7.1.1:Int)) /\
                        (((dlL l)=(dlL l)) /\
                        (((x2.1.1:Int)=(x2.1.1:Int)) /\
                        (((x2.1.1:Int)=(x2.1.1:Int)) /\
                        (((x5.1:Int)=(x5.1:Int)) /\
                        (x4.1.2=x4.1.2))))))))))))))) /\
                      (∀ x7 : { p : Nat × Bool // p.fst ≤ (dlO l x2.val.fst).length ∧ (p.snd = true → x6.val = true ∧ List.take p.fst (dlO l x2.val.fst) = List.take p.fst (dlO l x5.val)) },
                       ((x7.val.snd=true →
                         (((↑x7.val.fst:Int) < (↑(dlO l x2.val.fst).length:Int) →
                           ((0<=(x7.1.1:Int)/\(x7.1.1:Int)<(↑(dlO l x2.1.1).length:Int)) /\
                           ((0<=(x7.1.1:Int)/\(x7.1.1:Int)<(↑(dlO l x5.1).length:Int)) /\
                           ((i64R ((x7.1.1:Int)+1)) /\
                           (∃ x8 : { p : Nat × Bool // p.fst ≤ (dlO l x2.val.fst).length ∧ (p.snd = true → x6.val = true ∧ List.take p.fst (dlO l x2.val.fst) = List.take p.fst (dlO l x5.val)) },
                            (((dlO l x2.1.1).length-x8.1.1<(dlO l x2.1.1).length-x7.1.1) /\
                            ((newD (norO l)=newD (norO l)) /\
                            (((dlL l)=(dlL l)) /\
                            ((edgN (List.take x2.1.1 (dlS l))+(↑(dlO l x2.1.1).length:Int)=edgN (List.take x2.1.1 (dlS l))+(↑(dlO l x2.1.1).length:Int)) /\
                            ((1+(↑(tot (wdR (List.take x1.1 (norO l)))):Int)=1+(↑(tot (wdR (List.take x1.1 (norO l)))):Int)) /\
                            (((dlO l x2.1.1)=dlO l x2.1.1) /\
                            (((dlN l x2.1.1)=(dlN l x2.1.1)) /\
                            (((dlO l x5.1)=dlO l x5.1) /\
                            ((sameS (List.take 2 (List.drop 0 (((Ty.int IntKind.i32).pair (Ty.int IntKind.i64)).cells ((dlO l x2.1.1).getD x7.1.1 (0,0))))) (List.take 2 (List.drop 0 (((Ty.int IntKind.i32).pair (Ty.int IntKind.i64)).cells ((dlO l x5.1).getD x7.1.1 (0,0)))))=x8.1.2) /\
                            (((x7.1.1:Int)+1=(x8.1.1:Int)) /\
                            (((dlL l)=(dlL l)) /\
                            (((x2.1.1:Int)=(x2.1.1:Int)) /\
                            (((x2.1.1:Int)=(x2.1.1:Int)) /\
                            (((x5.1:Int)=(x5.1:Int)) /\
                            (x4.1.2=x4.1.2)))))))))))))))))))) /\
                         (¬(↑x7.val.fst : Int) < (↑(dlO l x2.val.fst).length : Int) →
                          ((x7.val.snd=true →
                            (false=true)) /\
                          (¬x7.val.snd = true →
                           ((i64R ((x5.1:Int)+1)) /\
                           (∃ x8 : { j : Nat // j ≤ x2.val.fst },
                            ((x2.1.1-x8.1<x2.1.1-x5.1) /\
                            ((newD (norO l)=newD (norO l)) /\
                            (((dlL l)=(dlL l)) /\
                            ((edgN (List.take x2.1.1 (dlS l))+(↑(dlO l x2.1.1).length:Int)=edgN (List.take x2.1.1 (dlS l))+(↑(dlO l x2.1.1).length:Int)) /\
                            ((1+(↑(tot (wdR (List.take x1.1 (norO l)))):Int)=1+(↑(tot (wdR (List.take x1.1 (norO l)))):Int)) /\
                            (((dlO l x2.1.1)=dlO l x2.1.1) /\
                            (((dlN l x2.1.1)=(dlN l x2.1.1)) /\
                            (((dlL l)=(dlL l)) /\
                            (((x2.1.1:Int)=(x2.1.1:Int)) /\
                            (((x2.1.1:Int)=(x2.1.1:Int)) /\
                            (((x5.1:Int)+1=(x8.1:Int)) /\
                            (x4.1.2=x4.1.2))))))))))))))))))) /\
                       (¬x7.val.snd = true →
                        ((x7.val.snd=true →
                          (false=true)) /\
                        (¬x7.val.snd = true →
                         ((i64R ((x5.1:Int)+1)) /\
                         (∃ x8 : { j : Nat // j ≤ x2.val.fst },
                          ((x2.1.1-x8.1<x2.1.1-x5.1) /\
                          ((newD (norO l)=newD (norO l)) /\
                          (((dlL l)=(dlL l)) /\
                          ((edgN (List.take x2.1.1 (dlS l))+(↑(dlO l x2.1.1).length:Int)=edgN (List.take x2.1.1 (dlS l))+(↑(dlO l x2.1.1).length:Int)) /\
                          ((1+(↑(tot (wdR (List.take x1.1 (norO l)))):Int)=1+(↑(tot (wdR (List.take x1.1 (norO l)))):Int)) /\
                          (((dlO l x2.1.1)=dlO l x2.1.1) /\
                          (((dlN l x2.1.1)=(dlN l x2.1.1)) /\
                          (((dlL l)=(dlL l)) /\
                          (((x2.1.1:Int)=(x2.1.1:Int)) /\
                          (((x2.1.1:Int)=(x2.1.1:Int)) /\
                          (((x5.1:Int)+1=(x8.1:Int)) /\
                          (x4.1.2=x4.1.2)))))))))))))))))))))))) /\
                   (¬(↑x5.val : Int) < (↑x2.val.fst : Int) →
                    ((i64R ((x2.1.1:Int)+1)) /\
                    (∃ x6 : { s : Nat × Ld // s.fst ≤ (dlS l).length ∧ LedOk (dlS l) s.fst 0 s.snd },
                     (((dlS l).length-x6.1.1<(dlS l).length-x2.1.1) /\
                     ((newD (norO l)=newD (norO l)) /\
                     (((dlL l)=(dlL l)) /\
                     ((edgN (List.take x2.1.1 (dlS l))+(↑(dlO l x2.1.1).length:Int)=edgN (List.take x6.1.1 (dlS l))) /\
                     ((1+(↑(tot (wdR (List.take x1.1 (norO l)))):Int)=1+(↑(tot (wdR (List.take x1.1 (norO l)))):Int)) /\
                     (((dlL l)=(dlL l)) /\
                     (((x2.1.1:Int)+1=(x6.1.1:Int)) /\
                     (x4.1.2=x6.1.2))))))))))))))))))))))) /\
             (¬(↑x2.val.fst : Int) < (dlL l) →
              (((↑(List.length x2.val.snd):Int)=(dlL l) →
                ((edgN (List.take x2.val.fst (dlS l))=edgN (dlS l) →
                  (decide ((dlL l)<=1+(↑(tot (wdR (List.take x1.1 (norO l)))):Int))=true)) /\
                (¬edgN (List.take x2.val.fst (dlS l)) = edgN (dlS l) →
                 (false=true)))) /\
              (¬(↑(List.length x2.val.snd) : Int) = (dlL l) →
               (false=true)))))))))))) /\
        (¬(0 : Int) = (0 : Int) →
         (false=true)))) /\
      (¬isE (norO l) = 0 →
       ((isE (norO l)=0 →
         False) /\
       (¬isE (norO l) = 0 →
        (false=true)))))))) /\
    (¬norE l = 0 →
     True))))))))))) (by kernel_rfl) (by
  have hw:SmW l:=fun x hx=>Nat.le_trans (hs0 x hx) (by decide)
  have hn1:=Nat.le_trans (norO_len l) hl0
  have hn2:SmX (norO l):=norO_sm hs0
  refine ⟨fun h=>(by cases h),fun _=>⟨by omega,hw,hn1,hn2,fun _=>trivial,fun _=>⟨fun hz=>?_,fun _=>trivial⟩⟩⟩
  obtain ⟨e1,e2,e3⟩:=nor_zero hz
  have he:isE (norO l)=0:=by rw [e1];exact e3
  have hw2:SmW (norO l):=fun x hx=>Nat.le_trans (hn2 x hx) (by decide)
  have hS:=sts he
  have hT:=(nml he).tot
  have hfew:=hS.few
  have hE:EdS (List.map stD (stsR (norO l))):=hS.eds hT
  have hpL:dlL l=((stsR (norO l)).length:Int):=by unfold dlL;rw [List.length_map]
  have hst:∀ i,i<(stsR (norO l)).length->stA (List.map stD (stsR (norO l))) i=stD (rAt (stsR (norO l)) i):=fun i hi=>sAt_map hi
  have hpO:∀ i,i<(stsR (norO l)).length->dlO l i=outR (stsR (norO l)) i:=fun i hi=>by
   unfold dlO;rw [if_pos ⟨by omega,by rw [List.length_map];omega⟩,hst i hi];rfl
  have hpN:∀ i,i<(stsR (norO l)).length->dlN l i=(rAt (stsR (norO l)) i).2.1:=fun i hi=>by
   unfold dlN;rw [decide_eq_true ⟨by omega,by rw [List.length_map];omega⟩,hst i hi];rfl
  have hmem:∀ i,i<(stsR (norO l)).length->rAt (stsR (norO l)) i∈stsR (norO l):=fun i hi=>by unfold rAt;rw [zA,zB hi];exact List.getElem_mem _
  have hEa:∀ i,i<(stsR (norO l)).length->EdR (outR (stsR (norO l)) i):=fun i hi=>hE (stD (rAt (stsR (norO l)) i)) (List.mem_map_of_mem (hmem i hi))
  unfold dlS
  refine ⟨by omega,hw2,fun _=>⟨fun _=>⟨⟨⟨0,Nat.zero_le _⟩,rfl,rfl,rfl,rfl,rfl,rfl,rfl,rfl⟩,?_⟩,fun h=>absurd rfl h⟩,fun h=>⟨fun h'=>absurd h' h,fun _=>absurd he h⟩⟩
  rintro ⟨i,hi⟩
  dsimp only
  have ht1:=tot_take (norO l) i
  refine ⟨fun h=>?_,fun h=>?_⟩
  ·have ht2:=tot_take (norO l) (i+1)
   have hst2:tot (wdR ((norO l).take (i+1)))=tot (wdR ((norO l).take i))+(decR (dlW l i).1).length:=by rw [wdR_step (by omega),tot_app];rfl
   have hpw:(dlW l i).1.length<=1048576:=hn2.at i
   refine ⟨⟨by omega,h⟩,by omega,by unfold i64R;omega,by unfold i64R;omega,⟨i+1,by omega⟩,by dsimp only;omega,rfl,rfl,rfl,?_,rfl,rfl,by push_cast;rfl,rfl⟩
   dsimp only;rw [hst2];push_cast;omega
  refine ⟨⟨⟨(0,[(0,true)]),Nat.zero_le _,LedOk.zero _⟩,rfl,rfl,rfl,rfl,rfl,rfl,rfl⟩,?_⟩
  rintro ⟨⟨a,led⟩,ha,hled⟩
  dsimp only at ha hled ⊢
  rw [hpL]
  refine ⟨fun h1=>?_,fun h1=>?_⟩
  ·have ha':a<(stsR (norO l)).length:=by omega
   have hg:edgN ((stsR (norO l)).take (a+1))=edgN ((stsR (norO l)).take a)+((outR (stsR (norO l)) a).length:Int):=edgN_step ha'
   have hb0:=edgN_le (l:=(stsR (norO l)).take a) (b:=4194305) fun s hs=>(hE (stD s) (List.mem_map_of_mem (List.mem_of_mem_take hs))).2.2
   have hta:((stsR (norO l)).take a).length=a:=by rw [zP];omega
   rw [hta] at hb0
   have hoa:=(hEa a ha').2.2
   rw [hpO a ha',hpN a ha']
   refine ⟨hE,by unfold i64R;omega,⟨fun h2=>⟨fun h3=>⟨fun h4=>absurd ⟨List.eq_nil_of_length_eq_zero (show (outR (stsR (norO l)) a).length=0 by omega),by simpa using h3⟩ (hS.some ha' (by omega)),fun _=>⟨(),rfl,rfl,rfl,rfl,rfl,rfl,rfl,rfl,rfl,rfl⟩⟩,fun _=>⟨(),rfl,rfl,rfl,rfl,rfl,rfl,rfl,rfl,rfl,rfl⟩⟩,fun _=>⟨(),rfl,rfl,rfl,rfl,rfl,rfl,rfl,rfl,rfl,rfl⟩⟩,fun _=>⟨⟨⟨(0,led),Nat.zero_le _,hled⟩,rfl,rfl,rfl,rfl,rfl,rfl,rfl,rfl,rfl,rfl,rfl,rfl,rfl⟩,?_⟩⟩
   rintro ⟨⟨k,ld⟩,hk,hl⟩
   dsimp only at hk hl ⊢
   refine ⟨fun h2=>?_,fun h2=>?_⟩
   ·have hk':k<(outR (stsR (norO l)) a).length:=by omega
    have hto:=hS.edge _ _ (hmem a ha') (getE_mem hk')
    refine ⟨⟨by omega,h2⟩,⟨fun h3=>absurd h3 (by have:=hto.1;unfold outR at *;omega),fun _=>⟨fun h3=>absurd h3 (by have:=hto.2;unfold outR at *;omega),fun _=>⟨fun h3=>⟨by unfold i64R;omega,⟨by omega,by omega⟩,fun h4=>?_,fun _=>⟨(),rfl,rfl,rfl,rfl,rfl,rfl,rfl,rfl,rfl,rfl,rfl,rfl,rfl,rfl,rfl⟩⟩,fun _=>⟨(),rfl,rfl,rfl,rfl,rfl,rfl,rfl,rfl,rfl,rfl,rfl,rfl,rfl,rfl,rfl⟩⟩⟩⟩,fun _=>⟨by unfold i64R;omega,⟨(k+1,_),hk',hl.step hk'⟩,by dsimp only;omega,rfl,rfl,rfl,rfl,rfl,rfl,rfl,rfl,rfl,rfl,rfl,by push_cast;rfl,rfl⟩⟩
    have h5:=(hEa a ha').mono (i:=k-1) (j:=k) (by omega) hk'
    rw [show ((k:Int)-1).toNat=k-1 by omega] at h4
    omega
   ·refine ⟨⟨⟨0,Nat.zero_le _⟩,rfl,rfl,rfl,rfl,rfl,rfl,rfl,rfl,rfl,rfl,rfl⟩,?_⟩
    rintro ⟨j,hj⟩
    dsimp only
    refine ⟨fun h3=>?_,fun h3=>?_⟩
    ·have hj':j<(stsR (norO l)).length:=by omega
     rw [hpO j hj',hpN j hj']
     refine ⟨hE,⟨fun h4=>⟨⟨decide (((outR (stsR (norO l)) a).length:Int)=((outR (stsR (norO l)) j).length:Int)),fun h5=>⟨of_decide_eq_true h4,by have:=of_decide_eq_true h5;omega⟩⟩,rfl,rfl,rfl,rfl,rfl,rfl,rfl,rfl,rfl,rfl,rfl,rfl,rfl⟩,fun h4=>⟨⟨false,fun h5=>(by cases h5)⟩,rfl,rfl,rfl,rfl,rfl,rfl,rfl,rfl,rfl,rfl,rfl,rfl,rfl⟩⟩,?_⟩
     rintro ⟨q,hq⟩
     dsimp only
     refine ⟨⟨⟨(0,q),Nat.zero_le _,fun h=>⟨h,rfl⟩⟩,rfl,rfl,rfl,rfl,rfl,rfl,rfl,rfl,rfl,rfl,rfl,rfl,rfl,rfl⟩,?_⟩
     rintro ⟨⟨p,b⟩,hp,hb⟩
     dsimp only at hp hb ⊢
     refine ⟨fun h4=>⟨fun h5=>?_,fun h5=>⟨fun _=>?_,fun h6=>absurd h4 h6⟩⟩,fun h4=>⟨fun h6=>absurd h6 h4,fun _=>⟨by unfold i64R;omega,⟨j+1,by omega⟩,by dsimp only;omega,rfl,rfl,rfl,rfl,rfl,rfl,rfl,rfl,rfl,by push_cast;rfl,rfl⟩⟩⟩
     ·obtain ⟨b1,b2⟩:=hb h4
      obtain ⟨q1,q2⟩:=hq b1
      have hpa:p<(outR (stsR (norO l)) a).length:=by omega
      refine ⟨⟨by omega,h5⟩,⟨by omega,by omega⟩,by unfold i64R;omega,⟨(p+1,decide ((outR (stsR (norO l)) a).getD p (0,0)=(outR (stsR (norO l)) j).getD p (0,0))),hpa,fun h6=>⟨b1,?_⟩⟩,by dsimp only;omega,rfl,rfl,rfl,rfl,rfl,rfl,rfl,same_ed _ _,by push_cast;rfl,rfl,rfl,rfl,rfl,rfl⟩
      rw [take_succ_getD (0,0) hpa,take_succ_getD (0,0) (by omega),b2,of_decide_eq_true h6]
     ·exfalso
      obtain ⟨b1,b2⟩:=hb h4
      obtain ⟨q1,q2⟩:=hq b1
      exact hS.two ha' (show j<a by omega) ⟨q1,take_eq b2 (show (outR (stsR (norO l)) a).length<=p by omega) q2⟩
    ·obtain rfl:k=(outR (stsR (norO l)) a).length:=by omega
     exact ⟨by unfold i64R;omega,⟨(a+1,ld),ha',hl.next⟩,by dsimp only;omega,rfl,rfl,hg.symm,rfl,rfl,by push_cast;rfl,rfl⟩
  ·obtain rfl:a=(stsR (norO l)).length:=by omega
   have h2:=hled.all hS hS.edge
   rw [h2,List.take_of_length_le (zJ _)]
   refine ⟨fun _=>⟨fun _=>decide_eq_true ?_,fun h=>absurd rfl h⟩,fun h=>absurd rfl h⟩
   rw [List.take_of_length_le (show (norO l).length<=i by omega)]
   omega))
end Go.EA
