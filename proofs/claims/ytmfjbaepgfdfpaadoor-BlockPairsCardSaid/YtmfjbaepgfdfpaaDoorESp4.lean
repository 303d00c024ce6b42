/- Layer 4: the steps of two tokens. Conditions: none. (Printed by a program of this project's own.) -/
import Derived.Test.YtmfjbaepgfdfpaaDoorEDi
import Derived.Test.YtmfjbaepgfdfpaaDoorEWk
import Derived.Test.YtmfjbaepgfdfpaaDoorEK9
import Derived.KernelRfl
set_option linter.unusedVariables false
set_option linter.unusedSimpArgs false
set_option maxRecDepth 100000
set_option maxHeartbeats 0
namespace Go.EA
open F
def P214:List UInt8×List UInt8→List SV:=fun (s,t)=>[.one (.str s),.one (.str t)]
def R214:List UInt8×List UInt8→SV×List Prop:=fun (s,t)=>(.tup [.o (.row StpT (stepsV s t)),.o (.int .i64 (twoE s t))],[s.length≤1099511627776,t.length≤1099511627776])
def K214:Con:=⟨false,[none,none],fun xs=>match xs with | [.one (.str s),.one (.str t)]=>some (R214 (s,t)) | _=>none⟩
noncomputable def G214:GP:=conG P214 R214
theorem P214_inj:∀ a b,(P214 a).map den0=(P214 b).map den0→a=b:=by
  rintro ⟨a0,a1⟩ ⟨b0,b1⟩ h
  simp only [P214,List.map_cons,List.map_nil,den0,den0L,List.cons.injEq,AV.one.injEq,AV.agg.injEq,Lf.int.injEq,Lf.str.injEq,Lf.bool.injEq,Lf.vrow.injEq,and_true,true_and,and_assoc] at h
  obtain ⟨h0,h1⟩:=h
  subst h0 h1
  rfl
theorem K214_ok:ConG G214 K214:=conG_of P214_inj (fun ⟨_,_⟩ ⟨_,_⟩=>rfl) (fun ⟨_,_⟩=>rfl) fun xs r h=>by
  simp only [K214] at h
  split at h
  · cases h;rename_i s t;exact ⟨(s,t),rfl,rfl⟩
  · cases h
theorem pr214 {S:SC} (hB:SB S) (q20:PrOk S 20 (pureP G20)) (q255:PrOk S 255 (pureP G255)) (q256:PrOk S 256 (pureP G256)) (h237:S.has 237 f237) (h239:S.has 239 f239) (h258:S.has 258 f258) (h238:S.has 238 f238) (h257:S.has 257 f257) (h240:S.has 240 f240) (h214:S.has 214 f214):PrOk S 214 (pureP G214):=by
  refine prM hB [(237,f237),(239,f239),(258,f258),(238,f238),(257,f257),(240,f240)] [⟨20,G20,K20⟩,⟨255,G255,K255⟩,⟨256,G256,K256⟩] ⟨h237,h239,h258,h238,h257,h240,trivial⟩ ⟨⟨q20,K20_ok⟩,⟨q255,K255_ok⟩,⟨q256,K256_ok⟩,trivial⟩ h214 (fun ⟨s,t⟩=>⟨rfl,rfl,rfl⟩) (fun (s,t)=>fun f id T L=>match f,id with
      | 237,0=>match L.getD 0 .dead with | .cell [.row (.int .i32) a,.row (.int .i32) b,.osl f,.osl k]=>some (.inv { i:Nat // i≤a.length+1 } (fun x=>([(53,.one (.int .i64 x.1))],[(f,.row (.int .u8) (gF a b (x.1*(b.length+1)))),(k,.row (.int .u8) (gK a b (x.1*(b.length+1))))])) (fun x=>a.length+1 - x.1)) | _=>none
      | 237,2=>match L.getD 0 .dead,T.getD 11 .junk with | .cell [.row (.int .i32) a,.row (.int .i32) b,.osl f,.osl k],.one (.int _ i)=>some (.inv { j:Nat // j≤b.length+1 } (fun y=>([(59,.one (.int .i64 y.1))],[(f,.row (.int .u8) (gF a b (i.toNat*(b.length+1)+y.1))),(k,.row (.int .u8) (gK a b (i.toNat*(b.length+1)+y.1)))])) (fun y=>b.length+1 - y.1)) | _,_=>none
      | 258,0=>match L.getD 0 .dead with | .cell [.row (.int .i32) a,.row (.int .i32) b,.osl f,.osl k]=>some (.inv (Walk a b) (fun x=>([(3,.one (.int .i64 x.1.1)),(4,.one (.int .i64 x.1.2.1))],[(4,.cell [.osl 6]),(6,.row StpT x.1.2.2)])) (fun x=>x.1.1+x.1.2.1)) | _=>none
      | 240,0=>match L.getD 6 .dead with | .row (.pair (.int .i64) (.pair (.int .i32) (.int .i32))) l=>some (.inv { p:Nat×List Stp // Rvd (0,0,0) l p } (fun x=>([(2,.one (.int .i64 x.1.1)),(3,.one (.int .i64 ((l.length:Int) - 1 - x.1.1)))],[(6,.row StpT x.1.2)])) (fun x=>l.length - x.1.1)) | _=>none
      | _,_=>none) 4000 ?_
  rintro ⟨s,t⟩ hc
  have hc1:s.length≤1099511627776:=hc.1
  have hc2:t.length≤1099511627776:=hc.2.1
  refine VC.use (p:=
    ((s.length≤1099511627776) ∧
    ((tokE s=0 →
      ((t.length≤1099511627776) ∧
      ((tokE t=0 →
        ((i64R ((↑(tokR s).length:Int)+1)) ∧
        ((i64R ((↑(tokR t).length:Int)+1)) ∧
        ((i64R (((↑(tokR s).length:Int)+1)*((↑(tokR t).length:Int)+1))) ∧
        (((0 ≤ ((↑(tokR s).length : Int) + 1) * ((↑(tokR t).length : Int) + 1) ∧ ((↑(tokR s).length : Int) + 1) * ((↑(tokR t).length : Int) + 1) ≤ ((↑(tokR s).length : Int) + 1) * ((↑(tokR t).length : Int) + 1) ∧ ((↑(tokR s).length : Int) + 1) * ((↑(tokR t).length : Int) + 1) * 1 ≤ 140737488355328 ∧ ((↑(tokR s).length : Int) + 1) * ((↑(tokR t).length : Int) + 1) ≤ 140737488355328) ∧
         ((0≤((↑(tokR s).length:Int)+1)*((↑(tokR t).length:Int)+1)∧((↑(tokR s).length:Int)+1)*((↑(tokR t).length:Int)+1)≤((↑(tokR s).length:Int)+1)*((↑(tokR t).length:Int)+1)∧((↑(tokR s).length:Int)+1)*((↑(tokR t).length:Int)+1)*1≤140737488355328∧((↑(tokR s).length:Int)+1)*((↑(tokR t).length:Int)+1)≤140737488355328) ∧
         ((i64R ((↑(tokR s).length:Int)+1)) ∧
         ((∃ x1:{ i:Nat // i≤(tokR s).length+1 },
           ((tokR t=tokR t) ∧
           (((↑(tokR s).length:Int)+1=(↑(tokR s).length:Int)+1) ∧
           ((0=(↑x1.val:Int)) ∧
           ((tokR s=tokR s) ∧
           ((tokR t=tokR t) ∧
           ((List.replicate (((↑(tokR s).length:Int)+1)*((↑(tokR t).length:Int)+1)).toNat 0=gF (tokR s) (tokR t) (x1.val*((tokR t).length+1))) ∧
           (List.replicate (((↑(tokR s).length:Int)+1)*((↑(tokR t).length:Int)+1)).toNat 0=gK (tokR s) (tokR t) (x1.val*((tokR t).length+1)))))))))) ∧
         (∀ x1 : { i : Nat // i ≤ (tokR s).length + 1 },
          (((↑x1.val:Int) < (↑(tokR s).length:Int)+1 →
            ((i64R ((↑(tokR t).length:Int)+1)) ∧
            ((∃ x2:{ j:Nat // j≤(tokR t).length+1 },
              ((tokR t=tokR t) ∧
              (((↑x1.val:Int)=(↑x1.val:Int)) ∧
              (((↑(tokR s).length:Int)+1=(↑(tokR s).length:Int)+1) ∧
              (((↑x1.val:Int)=(↑x1.val:Int)) ∧
              (((↑(tokR t).length:Int)+1=(↑(tokR t).length:Int)+1) ∧
              ((0=(↑x2.val:Int)) ∧
              ((tokR s=tokR s) ∧
              ((tokR t=tokR t) ∧
              ((gF (tokR s) (tokR t) (x1.val*((tokR t).length+1))=gF (tokR s) (tokR t) (x1.val*((tokR t).length+1)+x2.val)) ∧
              (gK (tokR s) (tokR t) (x1.val*((tokR t).length+1))=gK (tokR s) (tokR t) (x1.val*((tokR t).length+1)+x2.val)))))))))))) ∧
            (∀ x2 : { j : Nat // j ≤ (tokR t).length + 1 },
             (((↑x2.val:Int) < (↑(tokR t).length:Int)+1 →
               ((i64R ((↑x1.val:Int)+(↑x2.val:Int))) ∧
               ((0 < (↑x1.val:Int)+(↑x2.val:Int) →
                 ((0≤(↑x1.val:Int)∧(↑x1.val:Int)≤1048576) ∧
                 ((0≤(↑x2.val:Int)∧(↑x2.val:Int)≤1048576) ∧
                 (((tokR t).length≤1048576) ∧
                 ((0≤(↑x1.val:Int)∧(↑x1.val:Int)≤1048576) ∧
                 ((0≤(↑x2.val:Int)∧(↑x2.val:Int)≤1048576) ∧
                 (((tokR t).length≤1048576) ∧
                 ((0≤(↑x1.val:Int)∧(↑x1.val:Int)≤(↑(tokR s).length:Int)) ∧
                 ((0≤(↑x2.val:Int)∧(↑x2.val:Int)≤(↑(tokR t).length:Int)) ∧
                 (((tokR s).length≤1048575∧(tokR t).length≤1048575) ∧
                 (((↑(gF (tokR s) (tokR t) (x1.val*((tokR t).length+1)+x2.val)).length:Int)=((↑(tokR s).length:Int)+1)*((↑(tokR t).length:Int)+1)) ∧
                 ((0≤(↑x1.val:Int)*((↑(tokR t).length:Int)+1)+(↑x2.val:Int)∧(↑x1.val:Int)*((↑(tokR t).length:Int)+1)+(↑x2.val:Int) < (↑(gK (tokR s) (tokR t) (x1.val*((tokR t).length+1)+x2.val)).length:Int)) ∧
                 ((((↑x1.val:Int)*((↑(tokR t).length:Int)+1)+(↑x2.val:Int)).toNat < (gK (tokR s) (tokR t) (x1.val*((tokR t).length+1)+x2.val)).length) ∧
                 ((0≤(↑x1.val:Int)*((↑(tokR t).length:Int)+1)+(↑x2.val:Int)∧(↑x1.val:Int)*((↑(tokR t).length:Int)+1)+(↑x2.val:Int) < (↑(gF (tokR s) (tokR t) (x1.val*((tokR t).length+1)+x2.val)).length:Int)) ∧
                 ((((↑x1.val:Int)*((↑(tokR t).length:Int)+1)+(↑x2.val:Int)).toNat < (gF (tokR s) (tokR t) (x1.val*((tokR t).length+1)+x2.val)).length) ∧
                 ((i64R ((↑x2.val:Int)+1)) ∧
                 (∃ x3 : { j : Nat // j ≤ (tokR t).length + 1 },
                  (((tokR t).length+1 - x3.val < (tokR t).length+1 - x2.val) ∧
                  ((tokR t=tokR t) ∧
                  (((↑x1.val:Int)=(↑x1.val:Int)) ∧
                  (((↑(tokR s).length:Int)+1=(↑(tokR s).length:Int)+1) ∧
                  (((↑x1.val:Int)=(↑x1.val:Int)) ∧
                  (((↑(tokR t).length:Int)+1=(↑(tokR t).length:Int)+1) ∧
                  (((↑x2.val:Int)+1=(↑x3.val:Int)) ∧
                  ((tokR s=tokR s) ∧
                  ((tokR t=tokR t) ∧
                  (((gF (tokR s) (tokR t) (x1.val*((tokR t).length+1)+x2.val)).set ((↑x1.val:Int)*((↑(tokR t).length:Int)+1)+(↑x2.val:Int)).toNat (bestOf (tokR s) (tokR t) (gF (tokR s) (tokR t) (x1.val*((tokR t).length+1)+x2.val)) (↑x1.val:Int) (↑x2.val:Int)).snd=gF (tokR s) (tokR t) (x1.val*((tokR t).length+1)+x3.val)) ∧
                  ((gK (tokR s) (tokR t) (x1.val*((tokR t).length+1)+x2.val)).set ((↑x1.val:Int)*((↑(tokR t).length:Int)+1)+(↑x2.val:Int)).toNat (bestOf (tokR s) (tokR t) (gF (tokR s) (tokR t) (x1.val*((tokR t).length+1)+x2.val)) (↑x1.val:Int) (↑x2.val:Int)).fst=gK (tokR s) (tokR t) (x1.val*((tokR t).length+1)+x3.val))))))))))))))))))))))))))))) ∧
               (¬0 < (↑x1.val : Int) + (↑x2.val : Int) →
                ((i64R ((↑x2.val:Int)+1)) ∧
                (∃ x3 : { j : Nat // j ≤ (tokR t).length + 1 },
                 (((tokR t).length+1 - x3.val < (tokR t).length+1 - x2.val) ∧
                 ((tokR t=tokR t) ∧
                 (((↑x1.val:Int)=(↑x1.val:Int)) ∧
                 (((↑(tokR s).length:Int)+1=(↑(tokR s).length:Int)+1) ∧
                 (((↑x1.val:Int)=(↑x1.val:Int)) ∧
                 (((↑(tokR t).length:Int)+1=(↑(tokR t).length:Int)+1) ∧
                 (((↑x2.val:Int)+1=(↑x3.val:Int)) ∧
                 ((tokR s=tokR s) ∧
                 ((tokR t=tokR t) ∧
                 ((gF (tokR s) (tokR t) (x1.val*((tokR t).length+1)+x2.val)=gF (tokR s) (tokR t) (x1.val*((tokR t).length+1)+x3.val)) ∧
                 (gK (tokR s) (tokR t) (x1.val*((tokR t).length+1)+x2.val)=gK (tokR s) (tokR t) (x1.val*((tokR t).length+1)+x3.val)))))))))))))))))) ∧
             (¬(↑x2.val : Int) < (↑(tokR t).length : Int) + 1 →
              ((i64R ((↑x1.val:Int)+1)) ∧
              (∃ x3 : { i : Nat // i ≤ (tokR s).length + 1 },
               (((tokR s).length+1 - x3.val < (tokR s).length+1 - x1.val) ∧
               ((tokR t=tokR t) ∧
               (((↑(tokR s).length:Int)+1=(↑(tokR s).length:Int)+1) ∧
               (((↑x1.val:Int)+1=(↑x3.val:Int)) ∧
               ((tokR s=tokR s) ∧
               ((tokR t=tokR t) ∧
               ((gF (tokR s) (tokR t) (x1.val*((tokR t).length+1)+x2.val)=gF (tokR s) (tokR t) (x3.val*((tokR t).length+1))) ∧
               (gK (tokR s) (tokR t) (x1.val*((tokR t).length+1)+x2.val)=gK (tokR s) (tokR t) (x3.val*((tokR t).length+1)))))))))))))))))) ∧
          (¬(↑x1.val : Int) < (↑(tokR s).length : Int) + 1 →
           ((∃ x2:Walk (tokR s) (tokR t),
             (((↑(tokR s).length:Int)=(↑x2.val.fst:Int)) ∧
             (((↑(tokR t).length:Int)=(↑x2.val.snd.fst:Int)) ∧
             ((tokR s=tokR s) ∧
             ((tokR t=tokR t) ∧
             ((gF (tokR s) (tokR t) (x1.val*((tokR t).length+1))=gF (tokR s) (tokR t) (x1.val*((tokR t).length+1))) ∧
             ((gK (tokR s) (tokR t) (x1.val*((tokR t).length+1))=gK (tokR s) (tokR t) (x1.val*((tokR t).length+1))) ∧
             ((x2.val.snd.snd=[]) ∧
             (x2.val.snd.snd=[]))))))))) ∧
           (∀ x2 : Walk (tokR s) (tokR t),
            ((i64R ((↑x2.val.fst:Int)+(↑x2.val.snd.fst:Int))) ∧
            ((0 < (↑x2.val.fst:Int)+(↑x2.val.snd.fst:Int) →
              ((0≤(↑x2.val.fst:Int)∧(↑x2.val.fst:Int)≤1048576) ∧
              ((0≤(↑x2.val.snd.fst:Int)∧(↑x2.val.snd.fst:Int)≤1048576) ∧
              (((tokR t).length≤1048576) ∧
              ((0≤(↑x2.val.fst:Int)*((↑(tokR t).length:Int)+1)+(↑x2.val.snd.fst:Int)∧(↑x2.val.fst:Int)*((↑(tokR t).length:Int)+1)+(↑x2.val.snd.fst:Int) < (↑(gK (tokR s) (tokR t) (x1.val*((tokR t).length+1))).length:Int)) ∧
              ((((↑x2.val.fst:Int)*((↑(tokR t).length:Int)+1)+(↑x2.val.snd.fst:Int)).toNat < (gK (tokR s) (tokR t) (x1.val*((tokR t).length+1))).length) ∧
              ((i64R ((gK (tokR s) (tokR t) (x1.val*((tokR t).length+1))).getD ((↑x2.val.fst:Int)*((↑(tokR t).length:Int)+1)+(↑x2.val.snd.fst:Int)).toNat 0)) ∧
              (((gK (tokR s) (tokR t) (x1.val*((tokR t).length+1))).getD ((↑x2.val.fst:Int)*((↑(tokR t).length:Int)+1)+(↑x2.val.snd.fst:Int)).toNat 0=3 →
                (((gK (tokR s) (tokR t) (x1.val*((tokR t).length+1))).getD ((↑x2.val.fst:Int)*((↑(tokR t).length:Int)+1)+(↑x2.val.snd.fst:Int)).toNat 0=2 →
                  (((x2.val.snd.snd.length+[((gK (tokR s) (tokR t) (x1.val*((tokR t).length+1))).getD ((↑x2.val.fst:Int)*((↑(tokR t).length:Int)+1)+(↑x2.val.snd.fst:Int)).toNat 0,0,0)].length)*16≤140737488355328) ∧
                  (∃ x3 : Walk (tokR s) (tokR t),
                   ((x3.val.fst+x3.val.snd.fst < x2.val.fst+x2.val.snd.fst) ∧
                   (((↑x2.val.fst:Int)=(↑x3.val.fst:Int)) ∧
                   (((↑x2.val.snd.fst:Int)=(↑x3.val.snd.fst:Int)) ∧
                   ((tokR s=tokR s) ∧
                   ((tokR t=tokR t) ∧
                   ((gF (tokR s) (tokR t) (x1.val*((tokR t).length+1))=gF (tokR s) (tokR t) (x1.val*((tokR t).length+1))) ∧
                   ((gK (tokR s) (tokR t) (x1.val*((tokR t).length+1))=gK (tokR s) (tokR t) (x1.val*((tokR t).length+1))) ∧
                   (x2.val.snd.snd++[((gK (tokR s) (tokR t) (x1.val*((tokR t).length+1))).getD ((↑x2.val.fst:Int)*((↑(tokR t).length:Int)+1)+(↑x2.val.snd.fst:Int)).toNat 0,0,0)]=x3.val.snd.snd))))))))))) ∧
                (¬(gK (tokR s) (tokR t) (x1.val * ((tokR t).length + 1))).getD ((↑x2.val.fst : Int) * ((↑(tokR t).length : Int) + 1) + (↑x2.val.snd.fst : Int)).toNat 0 = 2 →
                 ((i64R ((↑x2.val.snd.fst:Int) - 1)) ∧
                 ((0≤(↑x2.val.snd.fst:Int) - 1∧(↑x2.val.snd.fst:Int) - 1 < (↑(tokR t).length:Int)) ∧
                 (((x2.val.snd.snd.length+[((gK (tokR s) (tokR t) (x1.val*((tokR t).length+1))).getD ((↑x2.val.fst:Int)*((↑(tokR t).length:Int)+1)+(↑x2.val.snd.fst:Int)).toNat 0,0,(tokR t).getD ((↑x2.val.snd.fst:Int) - 1).toNat 0)].length)*16≤140737488355328) ∧
                 (∃ x3 : Walk (tokR s) (tokR t),
                  ((x3.val.fst+x3.val.snd.fst < x2.val.fst+x2.val.snd.fst) ∧
                  (((↑x2.val.fst:Int)=(↑x3.val.fst:Int)) ∧
                  (((↑x2.val.snd.fst:Int) - 1=(↑x3.val.snd.fst:Int)) ∧
                  ((tokR s=tokR s) ∧
                  ((tokR t=tokR t) ∧
                  ((gF (tokR s) (tokR t) (x1.val*((tokR t).length+1))=gF (tokR s) (tokR t) (x1.val*((tokR t).length+1))) ∧
                  ((gK (tokR s) (tokR t) (x1.val*((tokR t).length+1))=gK (tokR s) (tokR t) (x1.val*((tokR t).length+1))) ∧
                  (x2.val.snd.snd++[((gK (tokR s) (tokR t) (x1.val*((tokR t).length+1))).getD ((↑x2.val.fst:Int)*((↑(tokR t).length:Int)+1)+(↑x2.val.snd.fst:Int)).toNat 0,0,(tokR t).getD ((↑x2.val.snd.fst:Int) - 1).toNat 0)]=x3.val.snd.snd))))))))))))))) ∧
              (¬(gK (tokR s) (tokR t) (x1.val * ((tokR t).length + 1))).getD ((↑x2.val.fst : Int) * ((↑(tokR t).length : Int) + 1) + (↑x2.val.snd.fst : Int)).toNat 0 = 3 →
               ((i64R ((↑x2.val.fst:Int) - 1)) ∧
               ((0≤(↑x2.val.fst:Int) - 1∧(↑x2.val.fst:Int) - 1 < (↑(tokR s).length:Int)) ∧
               (((gK (tokR s) (tokR t) (x1.val*((tokR t).length+1))).getD ((↑x2.val.fst:Int)*((↑(tokR t).length:Int)+1)+(↑x2.val.snd.fst:Int)).toNat 0=2 →
                 (((x2.val.snd.snd.length+[((gK (tokR s) (tokR t) (x1.val*((tokR t).length+1))).getD ((↑x2.val.fst:Int)*((↑(tokR t).length:Int)+1)+(↑x2.val.snd.fst:Int)).toNat 0,(tokR s).getD ((↑x2.val.fst:Int) - 1).toNat 0,0)].length)*16≤140737488355328) ∧
                 (∃ x3 : Walk (tokR s) (tokR t),
                  ((x3.val.fst+x3.val.snd.fst < x2.val.fst+x2.val.snd.fst) ∧
                  (((↑x2.val.fst:Int) - 1=(↑x3.val.fst:Int)) ∧
                  (((↑x2.val.snd.fst:Int)=(↑x3.val.snd.fst:Int)) ∧
                  ((tokR s=tokR s) ∧
                  ((tokR t=tokR t) ∧
                  ((gF (tokR s) (tokR t) (x1.val*((tokR t).length+1))=gF (tokR s) (tokR t) (x1.val*((tokR t).length+1))) ∧
                  ((gK (tokR s) (tokR t) (x1.val*((tokR t).length+1))=gK (tokR s) (tokR t) (x1.val*((tokR t).length+1))) ∧
                  (x2.val.snd.snd++[((gK (tokR s) (tokR t) (x1.val*((tokR t).length+1))).getD ((↑x2.val.fst:Int)*((↑(tokR t).length:Int)+1)+(↑x2.val.snd.fst:Int)).toNat 0,(tokR s).getD ((↑x2.val.fst:Int) - 1).toNat 0,0)]=x3.val.snd.snd))))))))))) ∧
               (¬(gK (tokR s) (tokR t) (x1.val * ((tokR t).length + 1))).getD ((↑x2.val.fst : Int) * ((↑(tokR t).length : Int) + 1) + (↑x2.val.snd.fst : Int)).toNat 0 = 2 →
                ((i64R ((↑x2.val.snd.fst:Int) - 1)) ∧
                ((0≤(↑x2.val.snd.fst:Int) - 1∧(↑x2.val.snd.fst:Int) - 1 < (↑(tokR t).length:Int)) ∧
                (((x2.val.snd.snd.length+[((gK (tokR s) (tokR t) (x1.val*((tokR t).length+1))).getD ((↑x2.val.fst:Int)*((↑(tokR t).length:Int)+1)+(↑x2.val.snd.fst:Int)).toNat 0,(tokR s).getD ((↑x2.val.fst:Int) - 1).toNat 0,(tokR t).getD ((↑x2.val.snd.fst:Int) - 1).toNat 0)].length)*16≤140737488355328) ∧
                (∃ x3 : Walk (tokR s) (tokR t),
                 ((x3.val.fst+x3.val.snd.fst < x2.val.fst+x2.val.snd.fst) ∧
                 (((↑x2.val.fst:Int) - 1=(↑x3.val.fst:Int)) ∧
                 (((↑x2.val.snd.fst:Int) - 1=(↑x3.val.snd.fst:Int)) ∧
                 ((tokR s=tokR s) ∧
                 ((tokR t=tokR t) ∧
                 ((gF (tokR s) (tokR t) (x1.val*((tokR t).length+1))=gF (tokR s) (tokR t) (x1.val*((tokR t).length+1))) ∧
                 ((gK (tokR s) (tokR t) (x1.val*((tokR t).length+1))=gK (tokR s) (tokR t) (x1.val*((tokR t).length+1))) ∧
                 (x2.val.snd.snd++[((gK (tokR s) (tokR t) (x1.val*((tokR t).length+1))).getD ((↑x2.val.fst:Int)*((↑(tokR t).length:Int)+1)+(↑x2.val.snd.fst:Int)).toNat 0,(tokR s).getD ((↑x2.val.fst:Int) - 1).toNat 0,(tokR t).getD ((↑x2.val.snd.fst:Int) - 1).toNat 0)]=x3.val.snd.snd))))))))))))))))))))))))) ∧
            (¬0 < (↑x2.val.fst : Int) + (↑x2.val.snd.fst : Int) →
             ((i64R ((↑x2.val.snd.snd.length:Int) - 1)) ∧
             ((∃ x3:{ p:Nat×List Stp // Rvd (0,0,0) x2.val.snd.snd p },
               ((0=(↑x3.val.fst:Int)) ∧
               (((↑x2.val.snd.snd.length:Int) - 1=(↑x2.val.snd.snd.length:Int) - 1 - (↑x3.val.fst:Int)) ∧
               ((tokR s=tokR s) ∧
               ((tokR t=tokR t) ∧
               ((gF (tokR s) (tokR t) (x1.val*((tokR t).length+1))=gF (tokR s) (tokR t) (x1.val*((tokR t).length+1))) ∧
               ((gK (tokR s) (tokR t) (x1.val*((tokR t).length+1))=gK (tokR s) (tokR t) (x1.val*((tokR t).length+1))) ∧
               (x2.val.snd.snd=x3.val.snd)))))))) ∧
             (∀ x3 : { p : Nat × List Stp // Rvd (0, 0, 0) x2.val.snd.snd p },
              (((↑x3.val.fst:Int) < (↑x2.val.snd.snd.length:Int) - 1 - (↑x3.val.fst:Int) →
                ((0≤(↑x2.val.snd.snd.length:Int) - 1 - (↑x3.val.fst:Int)∧(↑x2.val.snd.snd.length:Int) - 1 - (↑x3.val.fst:Int) < (↑x3.val.snd.length:Int)) ∧
                ((((↑x2.val.snd.snd.length:Int) - 1 - (↑x3.val.fst:Int)).toNat < x3.val.snd.length) ∧
                ((0≤(↑x3.val.fst:Int)∧(↑x3.val.fst:Int) < (↑x3.val.snd.length:Int)) ∧
                ((x3.val.fst < x3.val.snd.length) ∧
                ((0≤(↑x3.val.fst:Int)∧(↑x3.val.fst:Int) < (↑x3.val.snd.length:Int)) ∧
                ((x3.val.fst < x3.val.snd.length) ∧
                ((0≤(↑x2.val.snd.snd.length:Int) - 1 - (↑x3.val.fst:Int)∧(↑x2.val.snd.snd.length:Int) - 1 - (↑x3.val.fst:Int) < (↑(x3.val.snd.set x3.val.fst ((x3.val.snd.getD ((↑x2.val.snd.snd.length:Int) - 1 - (↑x3.val.fst:Int)).toNat (0,0,0)).fst,(x3.val.snd.getD ((↑x2.val.snd.snd.length:Int) - 1 - (↑x3.val.fst:Int)).toNat (0,0,0)).snd.fst,(x3.val.snd.getD ((↑x2.val.snd.snd.length:Int) - 1 - (↑x3.val.fst:Int)).toNat (0,0,0)).snd.snd)).length:Int)) ∧
                ((((↑x2.val.snd.snd.length:Int) - 1 - (↑x3.val.fst:Int)).toNat < (x3.val.snd.set x3.val.fst ((x3.val.snd.getD ((↑x2.val.snd.snd.length:Int) - 1 - (↑x3.val.fst:Int)).toNat (0,0,0)).fst,(x3.val.snd.getD ((↑x2.val.snd.snd.length:Int) - 1 - (↑x3.val.fst:Int)).toNat (0,0,0)).snd.fst,(x3.val.snd.getD ((↑x2.val.snd.snd.length:Int) - 1 - (↑x3.val.fst:Int)).toNat (0,0,0)).snd.snd)).length) ∧
                ((i64R ((↑x3.val.fst:Int)+1)) ∧
                ((i64R ((↑x2.val.snd.snd.length:Int) - 1 - (↑x3.val.fst:Int) - 1)) ∧
                (∃ x4 : { p : Nat × List Stp // Rvd (0, 0, 0) x2.val.snd.snd p },
                 ((x2.val.snd.snd.length - x4.val.fst < x2.val.snd.snd.length - x3.val.fst) ∧
                 (((↑x3.val.fst:Int)+1=(↑x4.val.fst:Int)) ∧
                 (((↑x2.val.snd.snd.length:Int) - 1 - (↑x3.val.fst:Int) - 1=(↑x2.val.snd.snd.length:Int) - 1 - (↑x4.val.fst:Int)) ∧
                 ((tokR s=tokR s) ∧
                 ((tokR t=tokR t) ∧
                 ((gF (tokR s) (tokR t) (x1.val*((tokR t).length+1))=gF (tokR s) (tokR t) (x1.val*((tokR t).length+1))) ∧
                 ((gK (tokR s) (tokR t) (x1.val*((tokR t).length+1))=gK (tokR s) (tokR t) (x1.val*((tokR t).length+1))) ∧
                 ((x3.val.snd.set x3.val.fst ((x3.val.snd.getD ((↑x2.val.snd.snd.length:Int) - 1 - (↑x3.val.fst:Int)).toNat (0,0,0)).fst,(x3.val.snd.getD ((↑x2.val.snd.snd.length:Int) - 1 - (↑x3.val.fst:Int)).toNat (0,0,0)).snd.fst,(x3.val.snd.getD ((↑x2.val.snd.snd.length:Int) - 1 - (↑x3.val.fst:Int)).toNat (0,0,0)).snd.snd)).set ((↑x2.val.snd.snd.length:Int) - 1 - (↑x3.val.fst:Int)).toNat ((x3.val.snd.getD x3.val.fst (0,0,0)).fst,(x3.val.snd.getD x3.val.fst (0,0,0)).snd.fst,(x3.val.snd.getD x3.val.fst (0,0,0)).snd.snd)=x4.val.snd)))))))))))))))))))) ∧
              (¬(↑x3.val.fst : Int) < (↑x2.val.snd.snd.length : Int) - 1 - (↑x3.val.fst : Int) →
               ((x3.val.snd=stepsV s t) ∧
               (0=twoE s t))))))))))))))))))) ∧
        (((0 ≤ ((↑(tokR s).length : Int) + 1) * ((↑(tokR t).length : Int) + 1) ∧ ((↑(tokR s).length : Int) + 1) * ((↑(tokR t).length : Int) + 1) ≤ ((↑(tokR s).length : Int) + 1) * ((↑(tokR t).length : Int) + 1) ∧ ((↑(tokR s).length : Int) + 1) * ((↑(tokR t).length : Int) + 1) * 1 ≤ 140737488355328 ∧ ((↑(tokR s).length : Int) + 1) * ((↑(tokR t).length : Int) + 1) ≤ 140737488355328) ∧
         ((0≤((↑(tokR s).length:Int)+1)*((↑(tokR t).length:Int)+1)∧((↑(tokR s).length:Int)+1)*((↑(tokR t).length:Int)+1)≤((↑(tokR s).length:Int)+1)*((↑(tokR t).length:Int)+1)∧((↑(tokR s).length:Int)+1)*((↑(tokR t).length:Int)+1)*1≤140737488355328∧((↑(tokR s).length:Int)+1)*((↑(tokR t).length:Int)+1)≤140737488355328) ∧
         ((i64R ((↑(tokR s).length:Int)+1)) ∧
         ((∃ x1:{ i:Nat // i≤(tokR s).length+1 },
           ((tokR t=tokR t) ∧
           (((↑(tokR s).length:Int)+1=(↑(tokR s).length:Int)+1) ∧
           ((0=(↑x1.val:Int)) ∧
           ((tokR s=tokR s) ∧
           ((tokR t=tokR t) ∧
           ((List.replicate (((↑(tokR s).length:Int)+1)*((↑(tokR t).length:Int)+1)).toNat 0=gK (tokR s) (tokR t) (x1.val*((tokR t).length+1))) ∧
           (List.replicate (((↑(tokR s).length:Int)+1)*((↑(tokR t).length:Int)+1)).toNat 0=gF (tokR s) (tokR t) (x1.val*((tokR t).length+1)))))))))) ∧
         (∀ x1 : { i : Nat // i ≤ (tokR s).length + 1 },
          (((↑x1.val:Int) < (↑(tokR s).length:Int)+1 →
            ((i64R ((↑(tokR t).length:Int)+1)) ∧
            ((∃ x2:{ j:Nat // j≤(tokR t).length+1 },
              ((tokR t=tokR t) ∧
              (((↑x1.val:Int)=(↑x1.val:Int)) ∧
              (((↑(tokR s).length:Int)+1=(↑(tokR s).length:Int)+1) ∧
              (((↑x1.val:Int)=(↑x1.val:Int)) ∧
              (((↑(tokR t).length:Int)+1=(↑(tokR t).length:Int)+1) ∧
              ((0=(↑x2.val:Int)) ∧
              ((tokR s=tokR s) ∧
              ((tokR t=tokR t) ∧
              ((gK (tokR s) (tokR t) (x1.val*((tokR t).length+1))=gK (tokR s) (tokR t) (x1.val*((tokR t).length+1)+x2.val)) ∧
              (gF (tokR s) (tokR t) (x1.val*((tokR t).length+1))=gF (tokR s) (tokR t) (x1.val*((tokR t).length+1)+x2.val)))))))))))) ∧
            (∀ x2 : { j : Nat // j ≤ (tokR t).length + 1 },
             (((↑x2.val:Int) < (↑(tokR t).length:Int)+1 →
               ((i64R ((↑x1.val:Int)+(↑x2.val:Int))) ∧
               ((0 < (↑x1.val:Int)+(↑x2.val:Int) →
                 ((0≤(↑x1.val:Int)∧(↑x1.val:Int)≤1048576) ∧
                 ((0≤(↑x2.val:Int)∧(↑x2.val:Int)≤1048576) ∧
                 (((tokR t).length≤1048576) ∧
                 ((0≤(↑x1.val:Int)∧(↑x1.val:Int)≤1048576) ∧
                 ((0≤(↑x2.val:Int)∧(↑x2.val:Int)≤1048576) ∧
                 (((tokR t).length≤1048576) ∧
                 ((0≤(↑x1.val:Int)∧(↑x1.val:Int)≤(↑(tokR s).length:Int)) ∧
                 ((0≤(↑x2.val:Int)∧(↑x2.val:Int)≤(↑(tokR t).length:Int)) ∧
                 (((tokR s).length≤1048575∧(tokR t).length≤1048575) ∧
                 (((↑(gF (tokR s) (tokR t) (x1.val*((tokR t).length+1)+x2.val)).length:Int)=((↑(tokR s).length:Int)+1)*((↑(tokR t).length:Int)+1)) ∧
                 ((0≤(↑x1.val:Int)*((↑(tokR t).length:Int)+1)+(↑x2.val:Int)∧(↑x1.val:Int)*((↑(tokR t).length:Int)+1)+(↑x2.val:Int) < (↑(gK (tokR s) (tokR t) (x1.val*((tokR t).length+1)+x2.val)).length:Int)) ∧
                 ((((↑x1.val:Int)*((↑(tokR t).length:Int)+1)+(↑x2.val:Int)).toNat < (gK (tokR s) (tokR t) (x1.val*((tokR t).length+1)+x2.val)).length) ∧
                 ((0≤(↑x1.val:Int)*((↑(tokR t).length:Int)+1)+(↑x2.val:Int)∧(↑x1.val:Int)*((↑(tokR t).length:Int)+1)+(↑x2.val:Int) < (↑(gF (tokR s) (tokR t) (x1.val*((tokR t).length+1)+x2.val)).length:Int)) ∧
                 ((((↑x1.val:Int)*((↑(tokR t).length:Int)+1)+(↑x2.val:Int)).toNat < (gF (tokR s) (tokR t) (x1.val*((tokR t).length+1)+x2.val)).length) ∧
                 ((i64R ((↑x2.val:Int)+1)) ∧
                 (∃ x3 : { j : Nat // j ≤ (tokR t).length + 1 },
                  (((tokR t).length+1 - x3.val < (tokR t).length+1 - x2.val) ∧
                  ((tokR t=tokR t) ∧
                  (((↑x1.val:Int)=(↑x1.val:Int)) ∧
                  (((↑(tokR s).length:Int)+1=(↑(tokR s).length:Int)+1) ∧
                  (((↑x1.val:Int)=(↑x1.val:Int)) ∧
                  (((↑(tokR t).length:Int)+1=(↑(tokR t).length:Int)+1) ∧
                  (((↑x2.val:Int)+1=(↑x3.val:Int)) ∧
                  ((tokR s=tokR s) ∧
                  ((tokR t=tokR t) ∧
                  (((gK (tokR s) (tokR t) (x1.val*((tokR t).length+1)+x2.val)).set ((↑x1.val:Int)*((↑(tokR t).length:Int)+1)+(↑x2.val:Int)).toNat (bestOf (tokR s) (tokR t) (gF (tokR s) (tokR t) (x1.val*((tokR t).length+1)+x2.val)) (↑x1.val:Int) (↑x2.val:Int)).fst=gK (tokR s) (tokR t) (x1.val*((tokR t).length+1)+x3.val)) ∧
                  ((gF (tokR s) (tokR t) (x1.val*((tokR t).length+1)+x2.val)).set ((↑x1.val:Int)*((↑(tokR t).length:Int)+1)+(↑x2.val:Int)).toNat (bestOf (tokR s) (tokR t) (gF (tokR s) (tokR t) (x1.val*((tokR t).length+1)+x2.val)) (↑x1.val:Int) (↑x2.val:Int)).snd=gF (tokR s) (tokR t) (x1.val*((tokR t).length+1)+x3.val))))))))))))))))))))))))))))) ∧
               (¬0 < (↑x1.val : Int) + (↑x2.val : Int) →
                ((i64R ((↑x2.val:Int)+1)) ∧
                (∃ x3 : { j : Nat // j ≤ (tokR t).length + 1 },
                 (((tokR t).length+1 - x3.val < (tokR t).length+1 - x2.val) ∧
                 ((tokR t=tokR t) ∧
                 (((↑x1.val:Int)=(↑x1.val:Int)) ∧
                 (((↑(tokR s).length:Int)+1=(↑(tokR s).length:Int)+1) ∧
                 (((↑x1.val:Int)=(↑x1.val:Int)) ∧
                 (((↑(tokR t).length:Int)+1=(↑(tokR t).length:Int)+1) ∧
                 (((↑x2.val:Int)+1=(↑x3.val:Int)) ∧
                 ((tokR s=tokR s) ∧
                 ((tokR t=tokR t) ∧
                 ((gK (tokR s) (tokR t) (x1.val*((tokR t).length+1)+x2.val)=gK (tokR s) (tokR t) (x1.val*((tokR t).length+1)+x3.val)) ∧
                 (gF (tokR s) (tokR t) (x1.val*((tokR t).length+1)+x2.val)=gF (tokR s) (tokR t) (x1.val*((tokR t).length+1)+x3.val)))))))))))))))))) ∧
             (¬(↑x2.val : Int) < (↑(tokR t).length : Int) + 1 →
              ((i64R ((↑x1.val:Int)+1)) ∧
              (∃ x3 : { i : Nat // i ≤ (tokR s).length + 1 },
               (((tokR s).length+1 - x3.val < (tokR s).length+1 - x1.val) ∧
               ((tokR t=tokR t) ∧
               (((↑(tokR s).length:Int)+1=(↑(tokR s).length:Int)+1) ∧
               (((↑x1.val:Int)+1=(↑x3.val:Int)) ∧
               ((tokR s=tokR s) ∧
               ((tokR t=tokR t) ∧
               ((gK (tokR s) (tokR t) (x1.val*((tokR t).length+1)+x2.val)=gK (tokR s) (tokR t) (x3.val*((tokR t).length+1))) ∧
               (gF (tokR s) (tokR t) (x1.val*((tokR t).length+1)+x2.val)=gF (tokR s) (tokR t) (x3.val*((tokR t).length+1)))))))))))))))))) ∧
          (¬(↑x1.val : Int) < (↑(tokR s).length : Int) + 1 →
           ((∃ x2:Walk (tokR s) (tokR t),
             (((↑(tokR s).length:Int)=(↑x2.val.fst:Int)) ∧
             (((↑(tokR t).length:Int)=(↑x2.val.snd.fst:Int)) ∧
             ((tokR s=tokR s) ∧
             ((tokR t=tokR t) ∧
             ((gK (tokR s) (tokR t) (x1.val*((tokR t).length+1))=gK (tokR s) (tokR t) (x1.val*((tokR t).length+1))) ∧
             ((gF (tokR s) (tokR t) (x1.val*((tokR t).length+1))=gF (tokR s) (tokR t) (x1.val*((tokR t).length+1))) ∧
             ((x2.val.snd.snd=[]) ∧
             (x2.val.snd.snd=[]))))))))) ∧
           (∀ x2 : Walk (tokR s) (tokR t),
            ((i64R ((↑x2.val.fst:Int)+(↑x2.val.snd.fst:Int))) ∧
            ((0 < (↑x2.val.fst:Int)+(↑x2.val.snd.fst:Int) →
              ((0≤(↑x2.val.fst:Int)∧(↑x2.val.fst:Int)≤1048576) ∧
              ((0≤(↑x2.val.snd.fst:Int)∧(↑x2.val.snd.fst:Int)≤1048576) ∧
              (((tokR t).length≤1048576) ∧
              ((0≤(↑x2.val.fst:Int)*((↑(tokR t).length:Int)+1)+(↑x2.val.snd.fst:Int)∧(↑x2.val.fst:Int)*((↑(tokR t).length:Int)+1)+(↑x2.val.snd.fst:Int) < (↑(gK (tokR s) (tokR t) (x1.val*((tokR t).length+1))).length:Int)) ∧
              ((((↑x2.val.fst:Int)*((↑(tokR t).length:Int)+1)+(↑x2.val.snd.fst:Int)).toNat < (gK (tokR s) (tokR t) (x1.val*((tokR t).length+1))).length) ∧
              ((i64R ((gK (tokR s) (tokR t) (x1.val*((tokR t).length+1))).getD ((↑x2.val.fst:Int)*((↑(tokR t).length:Int)+1)+(↑x2.val.snd.fst:Int)).toNat 0)) ∧
              (((gK (tokR s) (tokR t) (x1.val*((tokR t).length+1))).getD ((↑x2.val.fst:Int)*((↑(tokR t).length:Int)+1)+(↑x2.val.snd.fst:Int)).toNat 0=3 →
                (((gK (tokR s) (tokR t) (x1.val*((tokR t).length+1))).getD ((↑x2.val.fst:Int)*((↑(tokR t).length:Int)+1)+(↑x2.val.snd.fst:Int)).toNat 0=2 →
                  (((x2.val.snd.snd.length+[((gK (tokR s) (tokR t) (x1.val*((tokR t).length+1))).getD ((↑x2.val.fst:Int)*((↑(tokR t).length:Int)+1)+(↑x2.val.snd.fst:Int)).toNat 0,0,0)].length)*16≤140737488355328) ∧
                  (∃ x3 : Walk (tokR s) (tokR t),
                   ((x3.val.fst+x3.val.snd.fst < x2.val.fst+x2.val.snd.fst) ∧
                   (((↑x2.val.fst:Int)=(↑x3.val.fst:Int)) ∧
                   (((↑x2.val.snd.fst:Int)=(↑x3.val.snd.fst:Int)) ∧
                   ((tokR s=tokR s) ∧
                   ((tokR t=tokR t) ∧
                   ((gK (tokR s) (tokR t) (x1.val*((tokR t).length+1))=gK (tokR s) (tokR t) (x1.val*((tokR t).length+1))) ∧
                   ((gF (tokR s) (tokR t) (x1.val*((tokR t).length+1))=gF (tokR s) (tokR t) (x1.val*((tokR t).length+1))) ∧
                   (x2.val.snd.snd++[((gK (tokR s) (tokR t) (x1.val*((tokR t).length+1))).getD ((↑x2.val.fst:Int)*((↑(tokR t).length:Int)+1)+(↑x2.val.snd.fst:Int)).toNat 0,0,0)]=x3.val.snd.snd))))))))))) ∧
                (¬(gK (tokR s) (tokR t) (x1.val * ((tokR t).length + 1))).getD ((↑x2.val.fst : Int) * ((↑(tokR t).length : Int) + 1) + (↑x2.val.snd.fst : Int)).toNat 0 = 2 →
                 ((i64R ((↑x2.val.snd.fst:Int) - 1)) ∧
                 ((0≤(↑x2.val.snd.fst:Int) - 1∧(↑x2.val.snd.fst:Int) - 1 < (↑(tokR t).length:Int)) ∧
                 (((x2.val.snd.snd.length+[((gK (tokR s) (tokR t) (x1.val*((tokR t).length+1))).getD ((↑x2.val.fst:Int)*((↑(tokR t).length:Int)+1)+(↑x2.val.snd.fst:Int)).toNat 0,0,(tokR t).getD ((↑x2.val.snd.fst:Int) - 1).toNat 0)].length)*16≤140737488355328) ∧
                 (∃ x3 : Walk (tokR s) (tokR t),
                  ((x3.val.fst+x3.val.snd.fst < x2.val.fst+x2.val.snd.fst) ∧
                  (((↑x2.val.fst:Int)=(↑x3.val.fst:Int)) ∧
                  (((↑x2.val.snd.fst:Int) - 1=(↑x3.val.snd.fst:Int)) ∧
                  ((tokR s=tokR s) ∧
                  ((tokR t=tokR t) ∧
                  ((gK (tokR s) (tokR t) (x1.val*((tokR t).length+1))=gK (tokR s) (tokR t) (x1.val*((tokR t).length+1))) ∧
                  ((gF (tokR s) (tokR t) (x1.val*((tokR t).length+1))=gF (tokR s) (tokR t) (x1.val*((tokR t).length+1))) ∧
                  (x2.val.snd.snd++[((gK (tokR s) (tokR t) (x1.val*((tokR t).length+1))).getD ((↑x2.val.fst:Int)*((↑(tokR t).length:Int)+1)+(↑x2.val.snd.fst:Int)).toNat 0,0,(tokR t).getD ((↑x2.val.snd.fst:Int) - 1).toNat 0)]=x3.val.snd.snd))))))))))))))) ∧
              (¬(gK (tokR s) (tokR t) (x1.val * ((tokR t).length + 1))).getD ((↑x2.val.fst : Int) * ((↑(tokR t).length : Int) + 1) + (↑x2.val.snd.fst : Int)).toNat 0 = 3 →
               ((i64R ((↑x2.val.fst:Int) - 1)) ∧
               ((0≤(↑x2.val.fst:Int) - 1∧(↑x2.val.fst:Int) - 1 < (↑(tokR s).length:Int)) ∧
               (((gK (tokR s) (tokR t) (x1.val*((tokR t).length+1))).getD ((↑x2.val.fst:Int)*((↑(tokR t).length:Int)+1)+(↑x2.val.snd.fst:Int)).toNat 0=2 →
                 (((x2.val.snd.snd.length+[((gK (tokR s) (tokR t) (x1.val*((tokR t).length+1))).getD ((↑x2.val.fst:Int)*((↑(tokR t).length:Int)+1)+(↑x2.val.snd.fst:Int)).toNat 0,(tokR s).getD ((↑x2.val.fst:Int) - 1).toNat 0,0)].length)*16≤140737488355328) ∧
                 (∃ x3 : Walk (tokR s) (tokR t),
                  ((x3.val.fst+x3.val.snd.fst < x2.val.fst+x2.val.snd.fst) ∧
                  (((↑x2.val.fst:Int) - 1=(↑x3.val.fst:Int)) ∧
                  (((↑x2.val.snd.fst:Int)=(↑x3.val.snd.fst:Int)) ∧
                  ((tokR s=tokR s) ∧
                  ((tokR t=tokR t) ∧
                  ((gK (tokR s) (tokR t) (x1.val*((tokR t).length+1))=gK (tokR s) (tokR t) (x1.val*((tokR t).length+1))) ∧
                  ((gF (tokR s) (tokR t) (x1.val*((tokR t).length+1))=gF (tokR s) (tokR t) (x1.val*((tokR t).length+1))) ∧
                  (x2.val.snd.snd++[((gK (tokR s) (tokR t) (x1.val*((tokR t).length+1))).getD ((↑x2.val.fst:Int)*((↑(tokR t).length:Int)+1)+(↑x2.val.snd.fst:Int)).toNat 0,(tokR s).getD ((↑x2.val.fst:Int) - 1).toNat 0,0)]=x3.val.snd.snd))))))))))) ∧
               (¬(gK (tokR s) (tokR t) (x1.val * ((tokR t).length + 1))).getD ((↑x2.val.fst : Int) * ((↑(tokR t).length : Int) + 1) + (↑x2.val.snd.fst : Int)).toNat 0 = 2 →
                ((i64R ((↑x2.val.snd.fst:Int) - 1)) ∧
                ((0≤(↑x2.val.snd.fst:Int) - 1∧(↑x2.val.snd.fst:Int) - 1 < (↑(tokR t).length:Int)) ∧
                (((x2.val.snd.snd.length+[((gK (tokR s) (tokR t) (x1.val*((tokR t).length+1))).getD ((↑x2.val.fst:Int)*((↑(tokR t).length:Int)+1)+(↑x2.val.snd.fst:Int)).toNat 0,(tokR s).getD ((↑x2.val.fst:Int) - 1).toNat 0,(tokR t).getD ((↑x2.val.snd.fst:Int) - 1).toNat 0)].length)*16≤140737488355328) ∧
                (∃ x3 : Walk (tokR s) (tokR t),
                 ((x3.val.fst+x3.val.snd.fst < x2.val.fst+x2.val.snd.fst) ∧
                 (((↑x2.val.fst:Int) - 1=(↑x3.val.fst:Int)) ∧
                 (((↑x2.val.snd.fst:Int) - 1=(↑x3.val.snd.fst:Int)) ∧
                 ((tokR s=tokR s) ∧
                 ((tokR t=tokR t) ∧
                 ((gK (tokR s) (tokR t) (x1.val*((tokR t).length+1))=gK (tokR s) (tokR t) (x1.val*((tokR t).length+1))) ∧
                 ((gF (tokR s) (tokR t) (x1.val*((tokR t).length+1))=gF (tokR s) (tokR t) (x1.val*((tokR t).length+1))) ∧
                 (x2.val.snd.snd++[((gK (tokR s) (tokR t) (x1.val*((tokR t).length+1))).getD ((↑x2.val.fst:Int)*((↑(tokR t).length:Int)+1)+(↑x2.val.snd.fst:Int)).toNat 0,(tokR s).getD ((↑x2.val.fst:Int) - 1).toNat 0,(tokR t).getD ((↑x2.val.snd.fst:Int) - 1).toNat 0)]=x3.val.snd.snd))))))))))))))))))))))))) ∧
            (¬0 < (↑x2.val.fst : Int) + (↑x2.val.snd.fst : Int) →
             ((i64R ((↑x2.val.snd.snd.length:Int) - 1)) ∧
             ((∃ x3:{ p:Nat×List Stp // Rvd (0,0,0) x2.val.snd.snd p },
               ((0=(↑x3.val.fst:Int)) ∧
               (((↑x2.val.snd.snd.length:Int) - 1=(↑x2.val.snd.snd.length:Int) - 1 - (↑x3.val.fst:Int)) ∧
               ((tokR s=tokR s) ∧
               ((tokR t=tokR t) ∧
               ((gK (tokR s) (tokR t) (x1.val*((tokR t).length+1))=gK (tokR s) (tokR t) (x1.val*((tokR t).length+1))) ∧
               ((gF (tokR s) (tokR t) (x1.val*((tokR t).length+1))=gF (tokR s) (tokR t) (x1.val*((tokR t).length+1))) ∧
               (x2.val.snd.snd=x3.val.snd)))))))) ∧
             (∀ x3 : { p : Nat × List Stp // Rvd (0, 0, 0) x2.val.snd.snd p },
              (((↑x3.val.fst:Int) < (↑x2.val.snd.snd.length:Int) - 1 - (↑x3.val.fst:Int) →
                ((0≤(↑x2.val.snd.snd.length:Int) - 1 - (↑x3.val.fst:Int)∧(↑x2.val.snd.snd.length:Int) - 1 - (↑x3.val.fst:Int) < (↑x3.val.snd.length:Int)) ∧
                ((((↑x2.val.snd.snd.length:Int) - 1 - (↑x3.val.fst:Int)).toNat < x3.val.snd.length) ∧
                ((0≤(↑x3.val.fst:Int)∧(↑x3.val.fst:Int) < (↑x3.val.snd.length:Int)) ∧
                ((x3.val.fst < x3.val.snd.length) ∧
                ((0≤(↑x3.val.fst:Int)∧(↑x3.val.fst:Int) < (↑x3.val.snd.length:Int)) ∧
                ((x3.val.fst < x3.val.snd.length) ∧
                ((0≤(↑x2.val.snd.snd.length:Int) - 1 - (↑x3.val.fst:Int)∧(↑x2.val.snd.snd.length:Int) - 1 - (↑x3.val.fst:Int) < (↑(x3.val.snd.set x3.val.fst ((x3.val.snd.getD ((↑x2.val.snd.snd.length:Int) - 1 - (↑x3.val.fst:Int)).toNat (0,0,0)).fst,(x3.val.snd.getD ((↑x2.val.snd.snd.length:Int) - 1 - (↑x3.val.fst:Int)).toNat (0,0,0)).snd.fst,(x3.val.snd.getD ((↑x2.val.snd.snd.length:Int) - 1 - (↑x3.val.fst:Int)).toNat (0,0,0)).snd.snd)).length:Int)) ∧
                ((((↑x2.val.snd.snd.length:Int) - 1 - (↑x3.val.fst:Int)).toNat < (x3.val.snd.set x3.val.fst ((x3.val.snd.getD ((↑x2.val.snd.snd.length:Int) - 1 - (↑x3.val.fst:Int)).toNat (0,0,0)).fst,(x3.val.snd.getD ((↑x2.val.snd.snd.length:Int) - 1 - (↑x3.val.fst:Int)).toNat (0,0,0)).snd.fst,(x3.val.snd.getD ((↑x2.val.snd.snd.length:Int) - 1 - (↑x3.val.fst:Int)).toNat (0,0,0)).snd.snd)).length) ∧
                ((i64R ((↑x3.val.fst:Int)+1)) ∧
                ((i64R ((↑x2.val.snd.snd.length:Int) - 1 - (↑x3.val.fst:Int) - 1)) ∧
                (∃ x4 : { p : Nat × List Stp // Rvd (0, 0, 0) x2.val.snd.snd p },
                 ((x2.val.snd.snd.length - x4.val.fst < x2.val.snd.snd.length - x3.val.fst) ∧
                 (((↑x3.val.fst:Int)+1=(↑x4.val.fst:Int)) ∧
                 (((↑x2.val.snd.snd.length:Int) - 1 - (↑x3.val.fst:Int) - 1=(↑x2.val.snd.snd.length:Int) - 1 - (↑x4.val.fst:Int)) ∧
                 ((tokR s=tokR s) ∧
                 ((tokR t=tokR t) ∧
                 ((gK (tokR s) (tokR t) (x1.val*((tokR t).length+1))=gK (tokR s) (tokR t) (x1.val*((tokR t).length+1))) ∧
                 ((gF (tokR s) (tokR t) (x1.val*((tokR t).length+1))=gF (tokR s) (tokR t) (x1.val*((tokR t).length+1))) ∧
                 ((x3.val.snd.set x3.val.fst ((x3.val.snd.getD ((↑x2.val.snd.snd.length:Int) - 1 - (↑x3.val.fst:Int)).toNat (0,0,0)).fst,(x3.val.snd.getD ((↑x2.val.snd.snd.length:Int) - 1 - (↑x3.val.fst:Int)).toNat (0,0,0)).snd.fst,(x3.val.snd.getD ((↑x2.val.snd.snd.length:Int) - 1 - (↑x3.val.fst:Int)).toNat (0,0,0)).snd.snd)).set ((↑x2.val.snd.snd.length:Int) - 1 - (↑x3.val.fst:Int)).toNat ((x3.val.snd.getD x3.val.fst (0,0,0)).fst,(x3.val.snd.getD x3.val.fst (0,0,0)).snd.fst,(x3.val.snd.getD x3.val.fst (0,0,0)).snd.snd)=x4.val.snd)))))))))))))))))))) ∧
              (¬(↑x3.val.fst : Int) < (↑x2.val.snd.snd.length : Int) - 1 - (↑x3.val.fst : Int) →
               ((x3.val.snd=stepsV s t) ∧
               (0=twoE s t))))))))))))))))))) ∧
        ((0≤((↑(tokR s).length:Int)+1)*((↑(tokR t).length:Int)+1)∧((↑(tokR s).length:Int)+1)*((↑(tokR t).length:Int)+1)≤((↑(tokR s).length:Int)+1)*((↑(tokR t).length:Int)+1)∧((↑(tokR s).length:Int)+1)*((↑(tokR t).length:Int)+1)*1≤140737488355328∧((↑(tokR s).length:Int)+1)*((↑(tokR t).length:Int)+1)≤140737488355328) ∧
        ((0≤((↑(tokR s).length:Int)+1)*((↑(tokR t).length:Int)+1)∧((↑(tokR s).length:Int)+1)*((↑(tokR t).length:Int)+1)≤((↑(tokR s).length:Int)+1)*((↑(tokR t).length:Int)+1)∧((↑(tokR s).length:Int)+1)*((↑(tokR t).length:Int)+1)*1≤140737488355328∧((↑(tokR s).length:Int)+1)*((↑(tokR t).length:Int)+1)≤140737488355328) ∧
        ((i64R ((↑(tokR s).length:Int)+1)) ∧
        ((∃ x1:{ i:Nat // i≤(tokR s).length+1 },
          ((tokR t=tokR t) ∧
          (((↑(tokR s).length:Int)+1=(↑(tokR s).length:Int)+1) ∧
          ((0=(↑x1.val:Int)) ∧
          ((tokR s=tokR s) ∧
          ((tokR t=tokR t) ∧
          ((List.replicate (((↑(tokR s).length:Int)+1)*((↑(tokR t).length:Int)+1)).toNat 0=gF (tokR s) (tokR t) (x1.val*((tokR t).length+1))) ∧
          (List.replicate (((↑(tokR s).length:Int)+1)*((↑(tokR t).length:Int)+1)).toNat 0=gK (tokR s) (tokR t) (x1.val*((tokR t).length+1)))))))))) ∧
        (∀ x1 : { i : Nat // i ≤ (tokR s).length + 1 },
         (((↑x1.val:Int) < (↑(tokR s).length:Int)+1 →
           ((i64R ((↑(tokR t).length:Int)+1)) ∧
           ((∃ x2:{ j:Nat // j≤(tokR t).length+1 },
             ((tokR t=tokR t) ∧
             (((↑x1.val:Int)=(↑x1.val:Int)) ∧
             (((↑(tokR s).length:Int)+1=(↑(tokR s).length:Int)+1) ∧
             (((↑x1.val:Int)=(↑x1.val:Int)) ∧
             (((↑(tokR t).length:Int)+1=(↑(tokR t).length:Int)+1) ∧
             ((0=(↑x2.val:Int)) ∧
             ((tokR s=tokR s) ∧
             ((tokR t=tokR t) ∧
             ((gF (tokR s) (tokR t) (x1.val*((tokR t).length+1))=gF (tokR s) (tokR t) (x1.val*((tokR t).length+1)+x2.val)) ∧
             (gK (tokR s) (tokR t) (x1.val*((tokR t).length+1))=gK (tokR s) (tokR t) (x1.val*((tokR t).length+1)+x2.val)))))))))))) ∧
           (∀ x2 : { j : Nat // j ≤ (tokR t).length + 1 },
            (((↑x2.val:Int) < (↑(tokR t).length:Int)+1 →
              ((i64R ((↑x1.val:Int)+(↑x2.val:Int))) ∧
              ((0 < (↑x1.val:Int)+(↑x2.val:Int) →
                ((0≤(↑x1.val:Int)∧(↑x1.val:Int)≤1048576) ∧
                ((0≤(↑x2.val:Int)∧(↑x2.val:Int)≤1048576) ∧
                (((tokR t).length≤1048576) ∧
                ((0≤(↑x1.val:Int)∧(↑x1.val:Int)≤1048576) ∧
                ((0≤(↑x2.val:Int)∧(↑x2.val:Int)≤1048576) ∧
                (((tokR t).length≤1048576) ∧
                ((0≤(↑x1.val:Int)∧(↑x1.val:Int)≤(↑(tokR s).length:Int)) ∧
                ((0≤(↑x2.val:Int)∧(↑x2.val:Int)≤(↑(tokR t).length:Int)) ∧
                (((tokR s).length≤1048575∧(tokR t).length≤1048575) ∧
                (((↑(gF (tokR s) (tokR t) (x1.val*((tokR t).length+1)+x2.val)).length:Int)=((↑(tokR s).length:Int)+1)*((↑(tokR t).length:Int)+1)) ∧
                ((0≤(↑x1.val:Int)*((↑(tokR t).length:Int)+1)+(↑x2.val:Int)∧(↑x1.val:Int)*((↑(tokR t).length:Int)+1)+(↑x2.val:Int) < (↑(gK (tokR s) (tokR t) (x1.val*((tokR t).length+1)+x2.val)).length:Int)) ∧
                ((((↑x1.val:Int)*((↑(tokR t).length:Int)+1)+(↑x2.val:Int)).toNat < (gK (tokR s) (tokR t) (x1.val*((tokR t).length+1)+x2.val)).length) ∧
                ((0≤(↑x1.val:Int)*((↑(tokR t).length:Int)+1)+(↑x2.val:Int)∧(↑x1.val:Int)*((↑(tokR t).length:Int)+1)+(↑x2.val:Int) < (↑(gF (tokR s) (tokR t) (x1.val*((tokR t).length+1)+x2.val)).length:Int)) ∧
                ((((↑x1.val:Int)*((↑(tokR t).length:Int)+1)+(↑x2.val:Int)).toNat < (gF (tokR s) (tokR t) (x1.val*((tokR t).length+1)+x2.val)).length) ∧
                ((i64R ((↑x2.val:Int)+1)) ∧
                (∃ x3 : { j : Nat // j ≤ (tokR t).length + 1 },
                 (((tokR t).length+1 - x3.val < (tokR t).length+1 - x2.val) ∧
                 ((tokR t=tokR t) ∧
                 (((↑x1.val:Int)=(↑x1.val:Int)) ∧
                 (((↑(tokR s).length:Int)+1=(↑(tokR s).length:Int)+1) ∧
                 (((↑x1.val:Int)=(↑x1.val:Int)) ∧
                 (((↑(tokR t).length:Int)+1=(↑(tokR t).length:Int)+1) ∧
                 (((↑x2.val:Int)+1=(↑x3.val:Int)) ∧
                 ((tokR s=tokR s) ∧
                 ((tokR t=tokR t) ∧
                 (((gF (tokR s) (tokR t) (x1.val*((tokR t).length+1)+x2.val)).set ((↑x1.val:Int)*((↑(tokR t).length:Int)+1)+(↑x2.val:Int)).toNat (bestOf (tokR s) (tokR t) (gF (tokR s) (tokR t) (x1.val*((tokR t).length+1)+x2.val)) (↑x1.val:Int) (↑x2.val:Int)).snd=gF (tokR s) (tokR t) (x1.val*((tokR t).length+1)+x3.val)) ∧
                 ((gK (tokR s) (tokR t) (x1.val*((tokR t).length+1)+x2.val)).set ((↑x1.val:Int)*((↑(tokR t).length:Int)+1)+(↑x2.val:Int)).toNat (bestOf (tokR s) (tokR t) (gF (tokR s) (tokR t) (x1.val*((tokR t).length+1)+x2.val)) (↑x1.val:Int) (↑x2.val:Int)).fst=gK (tokR s) (tokR t) (x1.val*((tokR t).length+1)+x3.val))))))))))))))))))))))))))))) ∧
              (¬0 < (↑x1.val : Int) + (↑x2.val : Int) →
               ((i64R ((↑x2.val:Int)+1)) ∧
               (∃ x3 : { j : Nat // j ≤ (tokR t).length + 1 },
                (((tokR t).length+1 - x3.val < (tokR t).length+1 - x2.val) ∧
                ((tokR t=tokR t) ∧
                (((↑x1.val:Int)=(↑x1.val:Int)) ∧
                (((↑(tokR s).length:Int)+1=(↑(tokR s).length:Int)+1) ∧
                (((↑x1.val:Int)=(↑x1.val:Int)) ∧
                (((↑(tokR t).length:Int)+1=(↑(tokR t).length:Int)+1) ∧
                (((↑x2.val:Int)+1=(↑x3.val:Int)) ∧
                ((tokR s=tokR s) ∧
                ((tokR t=tokR t) ∧
                ((gF (tokR s) (tokR t) (x1.val*((tokR t).length+1)+x2.val)=gF (tokR s) (tokR t) (x1.val*((tokR t).length+1)+x3.val)) ∧
                (gK (tokR s) (tokR t) (x1.val*((tokR t).length+1)+x2.val)=gK (tokR s) (tokR t) (x1.val*((tokR t).length+1)+x3.val)))))))))))))))))) ∧
            (¬(↑x2.val : Int) < (↑(tokR t).length : Int) + 1 →
             ((i64R ((↑x1.val:Int)+1)) ∧
             (∃ x3 : { i : Nat // i ≤ (tokR s).length + 1 },
              (((tokR s).length+1 - x3.val < (tokR s).length+1 - x1.val) ∧
              ((tokR t=tokR t) ∧
              (((↑(tokR s).length:Int)+1=(↑(tokR s).length:Int)+1) ∧
              (((↑x1.val:Int)+1=(↑x3.val:Int)) ∧
              ((tokR s=tokR s) ∧
              ((tokR t=tokR t) ∧
              ((gF (tokR s) (tokR t) (x1.val*((tokR t).length+1)+x2.val)=gF (tokR s) (tokR t) (x3.val*((tokR t).length+1))) ∧
              (gK (tokR s) (tokR t) (x1.val*((tokR t).length+1)+x2.val)=gK (tokR s) (tokR t) (x3.val*((tokR t).length+1)))))))))))))))))) ∧
         (¬(↑x1.val : Int) < (↑(tokR s).length : Int) + 1 →
          ((∃ x2:Walk (tokR s) (tokR t),
            (((↑(tokR s).length:Int)=(↑x2.val.fst:Int)) ∧
            (((↑(tokR t).length:Int)=(↑x2.val.snd.fst:Int)) ∧
            ((tokR s=tokR s) ∧
            ((tokR t=tokR t) ∧
            ((gF (tokR s) (tokR t) (x1.val*((tokR t).length+1))=gF (tokR s) (tokR t) (x1.val*((tokR t).length+1))) ∧
            ((gK (tokR s) (tokR t) (x1.val*((tokR t).length+1))=gK (tokR s) (tokR t) (x1.val*((tokR t).length+1))) ∧
            ((x2.val.snd.snd=[]) ∧
            (x2.val.snd.snd=[]))))))))) ∧
          (∀ x2 : Walk (tokR s) (tokR t),
           ((i64R ((↑x2.val.fst:Int)+(↑x2.val.snd.fst:Int))) ∧
           ((0 < (↑x2.val.fst:Int)+(↑x2.val.snd.fst:Int) →
             ((0≤(↑x2.val.fst:Int)∧(↑x2.val.fst:Int)≤1048576) ∧
             ((0≤(↑x2.val.snd.fst:Int)∧(↑x2.val.snd.fst:Int)≤1048576) ∧
             (((tokR t).length≤1048576) ∧
             ((0≤(↑x2.val.fst:Int)*((↑(tokR t).length:Int)+1)+(↑x2.val.snd.fst:Int)∧(↑x2.val.fst:Int)*((↑(tokR t).length:Int)+1)+(↑x2.val.snd.fst:Int) < (↑(gK (tokR s) (tokR t) (x1.val*((tokR t).length+1))).length:Int)) ∧
             ((((↑x2.val.fst:Int)*((↑(tokR t).length:Int)+1)+(↑x2.val.snd.fst:Int)).toNat < (gK (tokR s) (tokR t) (x1.val*((tokR t).length+1))).length) ∧
             ((i64R ((gK (tokR s) (tokR t) (x1.val*((tokR t).length+1))).getD ((↑x2.val.fst:Int)*((↑(tokR t).length:Int)+1)+(↑x2.val.snd.fst:Int)).toNat 0)) ∧
             (((gK (tokR s) (tokR t) (x1.val*((tokR t).length+1))).getD ((↑x2.val.fst:Int)*((↑(tokR t).length:Int)+1)+(↑x2.val.snd.fst:Int)).toNat 0=3 →
               (((gK (tokR s) (tokR t) (x1.val*((tokR t).length+1))).getD ((↑x2.val.fst:Int)*((↑(tokR t).length:Int)+1)+(↑x2.val.snd.fst:Int)).toNat 0=2 →
                 (((x2.val.snd.snd.length+[((gK (tokR s) (tokR t) (x1.val*((tokR t).length+1))).getD ((↑x2.val.fst:Int)*((↑(tokR t).length:Int)+1)+(↑x2.val.snd.fst:Int)).toNat 0,0,0)].length)*16≤140737488355328) ∧
                 (∃ x3 : Walk (tokR s) (tokR t),
                  ((x3.val.fst+x3.val.snd.fst < x2.val.fst+x2.val.snd.fst) ∧
                  (((↑x2.val.fst:Int)=(↑x3.val.fst:Int)) ∧
                  (((↑x2.val.snd.fst:Int)=(↑x3.val.snd.fst:Int)) ∧
                  ((tokR s=tokR s) ∧
                  ((tokR t=tokR t) ∧
                  ((gF (tokR s) (tokR t) (x1.val*((tokR t).length+1))=gF (tokR s) (tokR t) (x1.val*((tokR t).length+1))) ∧
                  ((gK (tokR s) (tokR t) (x1.val*((tokR t).length+1))=gK (tokR s) (tokR t) (x1.val*((tokR t).length+1))) ∧
                  (x2.val.snd.snd++[((gK (tokR s) (tokR t) (x1.val*((tokR t).length+1))).getD ((↑x2.val.fst:Int)*((↑(tokR t).length:Int)+1)+(↑x2.val.snd.fst:Int)).toNat 0,0,0)]=x3.val.snd.snd))))))))))) ∧
               (¬(gK (tokR s) (tokR t) (x1.val * ((tokR t).length + 1))).getD ((↑x2.val.fst : Int) * ((↑(tokR t).length : Int) + 1) + (↑x2.val.snd.fst : Int)).toNat 0 = 2 →
                ((i64R ((↑x2.val.snd.fst:Int) - 1)) ∧
                ((0≤(↑x2.val.snd.fst:Int) - 1∧(↑x2.val.snd.fst:Int) - 1 < (↑(tokR t).length:Int)) ∧
                (((x2.val.snd.snd.length+[((gK (tokR s) (tokR t) (x1.val*((tokR t).length+1))).getD ((↑x2.val.fst:Int)*((↑(tokR t).length:Int)+1)+(↑x2.val.snd.fst:Int)).toNat 0,0,(tokR t).getD ((↑x2.val.snd.fst:Int) - 1).toNat 0)].length)*16≤140737488355328) ∧
                (∃ x3 : Walk (tokR s) (tokR t),
                 ((x3.val.fst+x3.val.snd.fst < x2.val.fst+x2.val.snd.fst) ∧
                 (((↑x2.val.fst:Int)=(↑x3.val.fst:Int)) ∧
                 (((↑x2.val.snd.fst:Int) - 1=(↑x3.val.snd.fst:Int)) ∧
                 ((tokR s=tokR s) ∧
                 ((tokR t=tokR t) ∧
                 ((gF (tokR s) (tokR t) (x1.val*((tokR t).length+1))=gF (tokR s) (tokR t) (x1.val*((tokR t).length+1))) ∧
                 ((gK (tokR s) (tokR t) (x1.val*((tokR t).length+1))=gK (tokR s) (tokR t) (x1.val*((tokR t).length+1))) ∧
                 (x2.val.snd.snd++[((gK (tokR s) (tokR t) (x1.val*((tokR t).length+1))).getD ((↑x2.val.fst:Int)*((↑(tokR t).length:Int)+1)+(↑x2.val.snd.fst:Int)).toNat 0,0,(tokR t).getD ((↑x2.val.snd.fst:Int) - 1).toNat 0)]=x3.val.snd.snd))))))))))))))) ∧
             (¬(gK (tokR s) (tokR t) (x1.val * ((tokR t).length + 1))).getD ((↑x2.val.fst : Int) * ((↑(tokR t).length : Int) + 1) + (↑x2.val.snd.fst : Int)).toNat 0 = 3 →
              ((i64R ((↑x2.val.fst:Int) - 1)) ∧
              ((0≤(↑x2.val.fst:Int) - 1∧(↑x2.val.fst:Int) - 1 < (↑(tokR s).length:Int)) ∧
              (((gK (tokR s) (tokR t) (x1.val*((tokR t).length+1))).getD ((↑x2.val.fst:Int)*((↑(tokR t).length:Int)+1)+(↑x2.val.snd.fst:Int)).toNat 0=2 →
                (((x2.val.snd.snd.length+[((gK (tokR s) (tokR t) (x1.val*((tokR t).length+1))).getD ((↑x2.val.fst:Int)*((↑(tokR t).length:Int)+1)+(↑x2.val.snd.fst:Int)).toNat 0,(tokR s).getD ((↑x2.val.fst:Int) - 1).toNat 0,0)].length)*16≤140737488355328) ∧
                (∃ x3 : Walk (tokR s) (tokR t),
                 ((x3.val.fst+x3.val.snd.fst < x2.val.fst+x2.val.snd.fst) ∧
                 (((↑x2.val.fst:Int) - 1=(↑x3.val.fst:Int)) ∧
                 (((↑x2.val.snd.fst:Int)=(↑x3.val.snd.fst:Int)) ∧
                 ((tokR s=tokR s) ∧
                 ((tokR t=tokR t) ∧
                 ((gF (tokR s) (tokR t) (x1.val*((tokR t).length+1))=gF (tokR s) (tokR t) (x1.val*((tokR t).length+1))) ∧
                 ((gK (tokR s) (tokR t) (x1.val*((tokR t).length+1))=gK (tokR s) (tokR t) (x1.val*((tokR t).length+1))) ∧
                 (x2.val.snd.snd++[((gK (tokR s) (tokR t) (x1.val*((tokR t).length+1))).getD ((↑x2.val.fst:Int)*((↑(tokR t).length:Int)+1)+(↑x2.val.snd.fst:Int)).toNat 0,(tokR s).getD ((↑x2.val.fst:Int) - 1).toNat 0,0)]=x3.val.snd.snd))))))))))) ∧
              (¬(gK (tokR s) (tokR t) (x1.val * ((tokR t).length + 1))).getD ((↑x2.val.fst : Int) * ((↑(tokR t).length : Int) + 1) + (↑x2.val.snd.fst : Int)).toNat 0 = 2 →
               ((i64R ((↑x2.val.snd.fst:Int) - 1)) ∧
               ((0≤(↑x2.val.snd.fst:Int) - 1∧(↑x2.val.snd.fst:Int) - 1 < (↑(tokR t).length:Int)) ∧
               (((x2.val.snd.snd.length+[((gK (tokR s) (tokR t) (x1.val*((tokR t).length+1))).getD ((↑x2.val.fst:Int)*((↑(tokR t).length:Int)+1)+(↑x2.val.snd.fst:Int)).toNat 0,(tokR s).getD ((↑x2.val.fst:Int) - 1).toNat 0,(tokR t).getD ((↑x2.val.snd.fst:Int) - 1).toNat 0)].length)*16≤140737488355328) ∧
               (∃ x3 : Walk (tokR s) (tokR t),
                ((x3.val.fst+x3.val.snd.fst < x2.val.fst+x2.val.snd.fst) ∧
                (((↑x2.val.fst:Int) - 1=(↑x3.val.fst:Int)) ∧
                (((↑x2.val.snd.fst:Int) - 1=(↑x3.val.snd.fst:Int)) ∧
                ((tokR s=tokR s) ∧
                ((tokR t=tokR t) ∧
                ((gF (tokR s) (tokR t) (x1.val*((tokR t).length+1))=gF (tokR s) (tokR t) (x1.val*((tokR t).length+1))) ∧
                ((gK (tokR s) (tokR t) (x1.val*((tokR t).length+1))=gK (tokR s) (tokR t) (x1.val*((tokR t).length+1))) ∧
                (x2.val.snd.snd++[((gK (tokR s) (tokR t) (x1.val*((tokR t).length+1))).getD ((↑x2.val.fst:Int)*((↑(tokR t).length:Int)+1)+(↑x2.val.snd.fst:Int)).toNat 0,(tokR s).getD ((↑x2.val.fst:Int) - 1).toNat 0,(tokR t).getD ((↑x2.val.snd.fst:Int) - 1).toNat 0)]=x3.val.snd.snd))))))))))))))))))))))))) ∧
           (¬0 < (↑x2.val.fst : Int) + (↑x2.val.snd.fst : Int) →
            ((i64R ((↑x2.val.snd.snd.length:Int) - 1)) ∧
            ((∃ x3:{ p:Nat×List Stp // Rvd (0,0,0) x2.val.snd.snd p },
              ((0=(↑x3.val.fst:Int)) ∧
              (((↑x2.val.snd.snd.length:Int) - 1=(↑x2.val.snd.snd.length:Int) - 1 - (↑x3.val.fst:Int)) ∧
              ((tokR s=tokR s) ∧
              ((tokR t=tokR t) ∧
              ((gF (tokR s) (tokR t) (x1.val*((tokR t).length+1))=gF (tokR s) (tokR t) (x1.val*((tokR t).length+1))) ∧
              ((gK (tokR s) (tokR t) (x1.val*((tokR t).length+1))=gK (tokR s) (tokR t) (x1.val*((tokR t).length+1))) ∧
              (x2.val.snd.snd=x3.val.snd)))))))) ∧
            (∀ x3 : { p : Nat × List Stp // Rvd (0, 0, 0) x2.val.snd.snd p },
             (((↑x3.val.fst:Int) < (↑x2.val.snd.snd.length:Int) - 1 - (↑x3.val.fst:Int) →
               ((0≤(↑x2.val.snd.snd.length:Int) - 1 - (↑x3.val.fst:Int)∧(↑x2.val.snd.snd.length:Int) - 1 - (↑x3.val.fst:Int) < (↑x3.val.snd.length:Int)) ∧
               ((((↑x2.val.snd.snd.length:Int) - 1 - (↑x3.val.fst:Int)).toNat < x3.val.snd.length) ∧
               ((0≤(↑x3.val.fst:Int)∧(↑x3.val.fst:Int) < (↑x3.val.snd.length:Int)) ∧
               ((x3.val.fst < x3.val.snd.length) ∧
               ((0≤(↑x3.val.fst:Int)∧(↑x3.val.fst:Int) < (↑x3.val.snd.length:Int)) ∧
               ((x3.val.fst < x3.val.snd.length) ∧
               ((0≤(↑x2.val.snd.snd.length:Int) - 1 - (↑x3.val.fst:Int)∧(↑x2.val.snd.snd.length:Int) - 1 - (↑x3.val.fst:Int) < (↑(x3.val.snd.set x3.val.fst ((x3.val.snd.getD ((↑x2.val.snd.snd.length:Int) - 1 - (↑x3.val.fst:Int)).toNat (0,0,0)).fst,(x3.val.snd.getD ((↑x2.val.snd.snd.length:Int) - 1 - (↑x3.val.fst:Int)).toNat (0,0,0)).snd.fst,(x3.val.snd.getD ((↑x2.val.snd.snd.length:Int) - 1 - (↑x3.val.fst:Int)).toNat (0,0,0)).snd.snd)).length:Int)) ∧
               ((((↑x2.val.snd.snd.length:Int) - 1 - (↑x3.val.fst:Int)).toNat < (x3.val.snd.set x3.val.fst ((x3.val.snd.getD ((↑x2.val.snd.snd.length:Int) - 1 - (↑x3.val.fst:Int)).toNat (0,0,0)).fst,(x3.val.snd.getD ((↑x2.val.snd.snd.length:Int) - 1 - (↑x3.val.fst:Int)).toNat (0,0,0)).snd.fst,(x3.val.snd.getD ((↑x2.val.snd.snd.length:Int) - 1 - (↑x3.val.fst:Int)).toNat (0,0,0)).snd.snd)).length) ∧
               ((i64R ((↑x3.val.fst:Int)+1)) ∧
               ((i64R ((↑x2.val.snd.snd.length:Int) - 1 - (↑x3.val.fst:Int) - 1)) ∧
               (∃ x4 : { p : Nat × List Stp // Rvd (0, 0, 0) x2.val.snd.snd p },
                ((x2.val.snd.snd.length - x4.val.fst < x2.val.snd.snd.length - x3.val.fst) ∧
                (((↑x3.val.fst:Int)+1=(↑x4.val.fst:Int)) ∧
                (((↑x2.val.snd.snd.length:Int) - 1 - (↑x3.val.fst:Int) - 1=(↑x2.val.snd.snd.length:Int) - 1 - (↑x4.val.fst:Int)) ∧
                ((tokR s=tokR s) ∧
                ((tokR t=tokR t) ∧
                ((gF (tokR s) (tokR t) (x1.val*((tokR t).length+1))=gF (tokR s) (tokR t) (x1.val*((tokR t).length+1))) ∧
                ((gK (tokR s) (tokR t) (x1.val*((tokR t).length+1))=gK (tokR s) (tokR t) (x1.val*((tokR t).length+1))) ∧
                ((x3.val.snd.set x3.val.fst ((x3.val.snd.getD ((↑x2.val.snd.snd.length:Int) - 1 - (↑x3.val.fst:Int)).toNat (0,0,0)).fst,(x3.val.snd.getD ((↑x2.val.snd.snd.length:Int) - 1 - (↑x3.val.fst:Int)).toNat (0,0,0)).snd.fst,(x3.val.snd.getD ((↑x2.val.snd.snd.length:Int) - 1 - (↑x3.val.fst:Int)).toNat (0,0,0)).snd.snd)).set ((↑x2.val.snd.snd.length:Int) - 1 - (↑x3.val.fst:Int)).toNat ((x3.val.snd.getD x3.val.fst (0,0,0)).fst,(x3.val.snd.getD x3.val.fst (0,0,0)).snd.fst,(x3.val.snd.getD x3.val.fst (0,0,0)).snd.snd)=x4.val.snd)))))))))))))))))))) ∧
             (¬(↑x3.val.fst : Int) < (↑x2.val.snd.snd.length : Int) - 1 - (↑x3.val.fst : Int) →
              ((x3.val.snd=stepsV s t) ∧
              (0=twoE s t))))))))))))))))))))))))) ∧
      (¬tokE t = 0 →
       ((tokE t=0 →
         False) ∧
       (¬tokE t = 0 →
        ((stepsV s t=[]) ∧
        (tokE t=twoE s t)))))))) ∧
    (¬tokE s = 0 →
     ((tokE s=0 →
       False) ∧
     (¬tokE s = 0 →
      ((stepsV s t=[]) ∧
      (tokE s=twoE s t)))))))) (by kernel_rfl) ?_
  have ha:=tok64 (s:=s)
  have hb:=tok64 (s:=t)
  have hc:=gN_cast (tokR s) (tokR t)
  have hN:=gN_le ha hb
  have hN0:=gN_pos (tokR s) (tokR t)
  refine ⟨hc1,fun h1=>⟨hc2,fun h2=>?_,fun h2=>⟨fun h3=>absurd h3 h2,fun _=>?_⟩⟩,fun h1=>⟨fun h3=>absurd h3 h1,fun _=>?_⟩⟩
  rotate_left
  · have:=(two_b h1 h2).1;exact ⟨stepsV_no (by omega),this⟩
  · have:=(two_a (t:=t) h1).1;exact ⟨stepsV_no (by omega),this⟩
  have hE:=two_ok h1 h2
  refine ⟨by unfold i64R;omega,by unfold i64R;omega,by unfold i64R;omega,?_,?_,?_⟩
  · refine ⟨by omega,by omega,by unfold i64R;omega,⟨⟨0,by omega⟩,rfl,rfl,rfl,rfl,rfl,fill_zero (fewAt (tokR s) (tokR t)) _ _,fill_zero (kindAt (tokR s) (tokR t)) _ _⟩,?_⟩
    rintro ⟨x,hx⟩
    dsimp only
    refine ⟨fun h=>⟨by unfold i64R;omega,⟨⟨0,by omega⟩,rfl,rfl,rfl,rfl,rfl,rfl,rfl,rfl,rfl,rfl⟩,?_⟩,fun h=>?_⟩
    · rintro ⟨y,hy⟩
      dsimp only
      refine ⟨fun h2=>⟨by unfold i64R;omega,fun h3=>?_,fun h3=>⟨by unfold i64R;omega,⟨⟨y+1,by omega⟩,by dsimp only;omega,rfl,rfl,rfl,rfl,rfl,by push_cast;rfl,rfl,rfl,fill_skipF h3,fill_skipK h3⟩⟩⟩,
        fun h2=>⟨by unfold i64R;omega,⟨⟨x+1,by omega⟩,by dsimp only;omega,rfl,rfl,by push_cast;rfl,rfl,rfl,fill_next hy h2,fill_next hy h2⟩⟩⟩
      have hp:x*((tokR t).length+1)+y < gN (tokR s) (tokR t):=place_lt (by omega) (by omega)
      have hq:0≤(x:Int)*(((tokR t).length:Int)+1)+(y:Int)∧(x:Int)*(((tokR t).length:Int)+1)+(y:Int) < ((gN (tokR s) (tokR t):Nat):Int):=by rw [place];omega
      refine ⟨by omega,by omega,by omega,by omega,by omega,by omega,by omega,by omega,by omega,fill_len _ _ _ _,by rw [tabl_len];exact hq,by rw [tabl_len];omega,by rw [tabl_len];exact hq,by rw [tabl_len];omega,by unfold i64R;omega,⟨⟨y+1,by omega⟩,by dsimp only;omega,rfl,rfl,rfl,rfl,rfl,by push_cast;rfl,rfl,rfl,fill_setF ha hb (by omega) (by omega) h3,fill_setK ha hb (by omega) (by omega) h3⟩⟩
    · have hge:gN (tokR s) (tokR t)≤x*((tokR t).length+1):=by
        obtain rfl:x=(tokR s).length+1:=by omega
        exact Nat.le_refl _
      refine ⟨⟨⟨((tokR s).length,(tokR t).length,[]),Nat.le_refl _,Nat.le_refl _,walk_start _ _⟩,rfl,rfl,rfl,rfl,rfl,rfl,rfl,rfl⟩,?_⟩
      rintro ⟨⟨i,j,o⟩,hw⟩
      have hwl:=walk_len hw
      obtain ⟨hi,hj,hw⟩:=hw
      dsimp only at hi hj hw hwl ⊢
      refine ⟨by unfold i64R;omega,fun h0=>?_,fun h0=>?_⟩
      · have hk:=kind_read hi hj hge
        obtain ⟨n3,n2,nw⟩:=walk_next hi hj hw (by omega) hk
        have hkr:=kindL_r (rv (tokR s) i) (rv (tokR t) j)
        rw [← hk] at hkr
        have hp:=place_lt hi hj
        have hq:0≤(i:Int)*(((tokR t).length:Int)+1)+(j:Int)∧(i:Int)*(((tokR t).length:Int)+1)+(j:Int) < ((gN (tokR s) (tokR t):Nat):Int):=by rw [place];omega
        have ei:((i:Int) - 1).toNat=i - 1:=by omega
        have ej:((j:Int) - 1).toNat=j - 1:=by omega
        clear hk
        refine ⟨by omega,by omega,by omega,by rw [tabl_len];exact hq,by rw [tabl_len];omega,?_⟩
        generalize (gK (tokR s) (tokR t) (x*((tokR t).length+1))).getD ((i:Int)*(((tokR t).length:Int)+1)+(j:Int)).toNat 0=k at *
        rw [ei,ej]
        refine ⟨by unfold i64R;omega,fun h3=>⟨fun h2=>?_,fun h2=>?_⟩,fun h3=>⟨by unfold i64R;omega,?_,fun h2=>?_,fun h2=>?_⟩⟩
        · exfalso;omega
        · have:=n2 h2
          simp only [if_neg (show ¬ k≠3 by omega),if_pos (show k≠2 from h2)] at nw
          exact ⟨by unfold i64R;omega,by omega,by simp only [List.length_cons,List.length_nil];omega,⟨⟨(i,j - 1,o++[(k,0,(tokR t).getD (j - 1) 0)]),by dsimp only;omega,by dsimp only;omega,nw⟩,by dsimp only;omega,by first | rfl | (dsimp only;omega),by first | rfl | (dsimp only;omega),rfl,rfl,rfl,rfl,rfl⟩⟩
        · have:=n3 h3;omega
        · have:=n3 h3
          simp only [if_pos (show k≠3 from h3),if_neg (show ¬ k≠2 by omega)] at nw
          exact ⟨by simp only [List.length_cons,List.length_nil];omega,⟨⟨(i - 1,j,o++[(k,(tokR s).getD (i - 1) 0,0)]),by dsimp only;omega,by dsimp only;omega,nw⟩,by dsimp only;omega,by first | rfl | (dsimp only;omega),by first | rfl | (dsimp only;omega),rfl,rfl,rfl,rfl,rfl⟩⟩
        · have:=n3 h3
          have:=n2 h2
          simp only [if_pos (show k≠3 from h3),if_pos (show k≠2 from h2)] at nw
          exact ⟨by unfold i64R;omega,by omega,by simp only [List.length_cons,List.length_nil];omega,⟨⟨(i - 1,j - 1,o++[(k,(tokR s).getD (i - 1) 0,(tokR t).getD (j - 1) 0)]),by dsimp only;omega,by dsimp only;omega,nw⟩,by dsimp only;omega,by first | rfl | (dsimp only;omega),by first | rfl | (dsimp only;omega),rfl,rfl,rfl,rfl,rfl⟩⟩
      · have ho:=walk_end hw (by omega)
        refine ⟨by unfold i64R;omega,⟨⟨(0,o),rvd_zero _ _⟩,rfl,by dsimp only;omega,rfl,rfl,rfl,rfl,rfl⟩,?_⟩
        rintro ⟨⟨u,r⟩,hr⟩
        have hr':=hr
        obtain ⟨r1,r2,r3⟩:=hr
        dsimp only at r1 r2 ⊢
        refine ⟨fun h4=>?_,fun h4=>⟨?_,hE.1.symm⟩⟩
        · have e2:((o.length:Int) - 1 - u).toNat=o.length - 1 - u:=by omega
          rw [e2]
          exact ⟨by omega,by omega,by omega,by omega,by omega,by omega,by rw [List.length_set];omega,by rw [List.length_set];omega,by unfold i64R;omega,by unfold i64R;omega,⟨⟨(u+1,_),rvd_step (j:=o.length - 1 - u) hr' (by omega) (by omega)⟩,by dsimp only;omega,by push_cast;rfl,by dsimp only;push_cast;omega,rfl,rfl,rfl,rfl,rfl⟩⟩
        · rw [rvd_end hr' (by omega),ho,stepsV_ok h1 h2]
  · refine ⟨by omega,by omega,by unfold i64R;omega,⟨⟨0,by omega⟩,rfl,rfl,rfl,rfl,rfl,fill_zero (kindAt (tokR s) (tokR t)) _ _,fill_zero (fewAt (tokR s) (tokR t)) _ _⟩,?_⟩
    rintro ⟨x,hx⟩
    dsimp only
    refine ⟨fun h=>⟨by unfold i64R;omega,⟨⟨0,by omega⟩,rfl,rfl,rfl,rfl,rfl,rfl,rfl,rfl,rfl,rfl⟩,?_⟩,fun h=>?_⟩
    · rintro ⟨y,hy⟩
      dsimp only
      refine ⟨fun h2=>⟨by unfold i64R;omega,fun h3=>?_,fun h3=>⟨by unfold i64R;omega,⟨⟨y+1,by omega⟩,by dsimp only;omega,rfl,rfl,rfl,rfl,rfl,by push_cast;rfl,rfl,rfl,fill_skipK h3,fill_skipF h3⟩⟩⟩,
        fun h2=>⟨by unfold i64R;omega,⟨⟨x+1,by omega⟩,by dsimp only;omega,rfl,rfl,by push_cast;rfl,rfl,rfl,fill_next hy h2,fill_next hy h2⟩⟩⟩
      have hp:x*((tokR t).length+1)+y < gN (tokR s) (tokR t):=place_lt (by omega) (by omega)
      have hq:0≤(x:Int)*(((tokR t).length:Int)+1)+(y:Int)∧(x:Int)*(((tokR t).length:Int)+1)+(y:Int) < ((gN (tokR s) (tokR t):Nat):Int):=by rw [place];omega
      refine ⟨by omega,by omega,by omega,by omega,by omega,by omega,by omega,by omega,by omega,fill_len _ _ _ _,by rw [tabl_len];exact hq,by rw [tabl_len];omega,by rw [tabl_len];exact hq,by rw [tabl_len];omega,by unfold i64R;omega,⟨⟨y+1,by omega⟩,by dsimp only;omega,rfl,rfl,rfl,rfl,rfl,by push_cast;rfl,rfl,rfl,fill_setK ha hb (by omega) (by omega) h3,fill_setF ha hb (by omega) (by omega) h3⟩⟩
    · have hge:gN (tokR s) (tokR t)≤x*((tokR t).length+1):=by
        obtain rfl:x=(tokR s).length+1:=by omega
        exact Nat.le_refl _
      refine ⟨⟨⟨((tokR s).length,(tokR t).length,[]),Nat.le_refl _,Nat.le_refl _,walk_start _ _⟩,rfl,rfl,rfl,rfl,rfl,rfl,rfl,rfl⟩,?_⟩
      rintro ⟨⟨i,j,o⟩,hw⟩
      have hwl:=walk_len hw
      obtain ⟨hi,hj,hw⟩:=hw
      dsimp only at hi hj hw hwl ⊢
      refine ⟨by unfold i64R;omega,fun h0=>?_,fun h0=>?_⟩
      · have hk:=kind_read hi hj hge
        obtain ⟨n3,n2,nw⟩:=walk_next hi hj hw (by omega) hk
        have hkr:=kindL_r (rv (tokR s) i) (rv (tokR t) j)
        rw [← hk] at hkr
        have hp:=place_lt hi hj
        have hq:0≤(i:Int)*(((tokR t).length:Int)+1)+(j:Int)∧(i:Int)*(((tokR t).length:Int)+1)+(j:Int) < ((gN (tokR s) (tokR t):Nat):Int):=by rw [place];omega
        have ei:((i:Int) - 1).toNat=i - 1:=by omega
        have ej:((j:Int) - 1).toNat=j - 1:=by omega
        clear hk
        refine ⟨by omega,by omega,by omega,by rw [tabl_len];exact hq,by rw [tabl_len];omega,?_⟩
        generalize (gK (tokR s) (tokR t) (x*((tokR t).length+1))).getD ((i:Int)*(((tokR t).length:Int)+1)+(j:Int)).toNat 0=k at *
        rw [ei,ej]
        refine ⟨by unfold i64R;omega,fun h3=>⟨fun h2=>?_,fun h2=>?_⟩,fun h3=>⟨by unfold i64R;omega,?_,fun h2=>?_,fun h2=>?_⟩⟩
        · exfalso;omega
        · have:=n2 h2
          simp only [if_neg (show ¬ k≠3 by omega),if_pos (show k≠2 from h2)] at nw
          exact ⟨by unfold i64R;omega,by omega,by simp only [List.length_cons,List.length_nil];omega,⟨⟨(i,j - 1,o++[(k,0,(tokR t).getD (j - 1) 0)]),by dsimp only;omega,by dsimp only;omega,nw⟩,by dsimp only;omega,by first | rfl | (dsimp only;omega),by first | rfl | (dsimp only;omega),rfl,rfl,rfl,rfl,rfl⟩⟩
        · have:=n3 h3;omega
        · have:=n3 h3
          simp only [if_pos (show k≠3 from h3),if_neg (show ¬ k≠2 by omega)] at nw
          exact ⟨by simp only [List.length_cons,List.length_nil];omega,⟨⟨(i - 1,j,o++[(k,(tokR s).getD (i - 1) 0,0)]),by dsimp only;omega,by dsimp only;omega,nw⟩,by dsimp only;omega,by first | rfl | (dsimp only;omega),by first | rfl | (dsimp only;omega),rfl,rfl,rfl,rfl,rfl⟩⟩
        · have:=n3 h3
          have:=n2 h2
          simp only [if_pos (show k≠3 from h3),if_pos (show k≠2 from h2)] at nw
          exact ⟨by unfold i64R;omega,by omega,by simp only [List.length_cons,List.length_nil];omega,⟨⟨(i - 1,j - 1,o++[(k,(tokR s).getD (i - 1) 0,(tokR t).getD (j - 1) 0)]),by dsimp only;omega,by dsimp only;omega,nw⟩,by dsimp only;omega,by first | rfl | (dsimp only;omega),by first | rfl | (dsimp only;omega),rfl,rfl,rfl,rfl,rfl⟩⟩
      · have ho:=walk_end hw (by omega)
        refine ⟨by unfold i64R;omega,⟨⟨(0,o),rvd_zero _ _⟩,rfl,by dsimp only;omega,rfl,rfl,rfl,rfl,rfl⟩,?_⟩
        rintro ⟨⟨u,r⟩,hr⟩
        have hr':=hr
        obtain ⟨r1,r2,r3⟩:=hr
        dsimp only at r1 r2 ⊢
        refine ⟨fun h4=>?_,fun h4=>⟨?_,hE.1.symm⟩⟩
        · have e2:((o.length:Int) - 1 - u).toNat=o.length - 1 - u:=by omega
          rw [e2]
          exact ⟨by omega,by omega,by omega,by omega,by omega,by omega,by rw [List.length_set];omega,by rw [List.length_set];omega,by unfold i64R;omega,by unfold i64R;omega,⟨⟨(u+1,_),rvd_step (j:=o.length - 1 - u) hr' (by omega) (by omega)⟩,by dsimp only;omega,by push_cast;rfl,by dsimp only;push_cast;omega,rfl,rfl,rfl,rfl,rfl⟩⟩
        · rw [rvd_end hr' (by omega),ho,stepsV_ok h1 h2]
  · refine ⟨by omega,by omega,by unfold i64R;omega,⟨⟨0,by omega⟩,rfl,rfl,rfl,rfl,rfl,fill_zero (fewAt (tokR s) (tokR t)) _ _,fill_zero (kindAt (tokR s) (tokR t)) _ _⟩,?_⟩
    rintro ⟨x,hx⟩
    dsimp only
    refine ⟨fun h=>⟨by unfold i64R;omega,⟨⟨0,by omega⟩,rfl,rfl,rfl,rfl,rfl,rfl,rfl,rfl,rfl,rfl⟩,?_⟩,fun h=>?_⟩
    · rintro ⟨y,hy⟩
      dsimp only
      refine ⟨fun h2=>⟨by unfold i64R;omega,fun h3=>?_,fun h3=>⟨by unfold i64R;omega,⟨⟨y+1,by omega⟩,by dsimp only;omega,rfl,rfl,rfl,rfl,rfl,by push_cast;rfl,rfl,rfl,fill_skipF h3,fill_skipK h3⟩⟩⟩,
        fun h2=>⟨by unfold i64R;omega,⟨⟨x+1,by omega⟩,by dsimp only;omega,rfl,rfl,by push_cast;rfl,rfl,rfl,fill_next hy h2,fill_next hy h2⟩⟩⟩
      have hp:x*((tokR t).length+1)+y < gN (tokR s) (tokR t):=place_lt (by omega) (by omega)
      have hq:0≤(x:Int)*(((tokR t).length:Int)+1)+(y:Int)∧(x:Int)*(((tokR t).length:Int)+1)+(y:Int) < ((gN (tokR s) (tokR t):Nat):Int):=by rw [place];omega
      refine ⟨by omega,by omega,by omega,by omega,by omega,by omega,by omega,by omega,by omega,fill_len _ _ _ _,by rw [tabl_len];exact hq,by rw [tabl_len];omega,by rw [tabl_len];exact hq,by rw [tabl_len];omega,by unfold i64R;omega,⟨⟨y+1,by omega⟩,by dsimp only;omega,rfl,rfl,rfl,rfl,rfl,by push_cast;rfl,rfl,rfl,fill_setF ha hb (by omega) (by omega) h3,fill_setK ha hb (by omega) (by omega) h3⟩⟩
    · have hge:gN (tokR s) (tokR t)≤x*((tokR t).length+1):=by
        obtain rfl:x=(tokR s).length+1:=by omega
        exact Nat.le_refl _
      refine ⟨⟨⟨((tokR s).length,(tokR t).length,[]),Nat.le_refl _,Nat.le_refl _,walk_start _ _⟩,rfl,rfl,rfl,rfl,rfl,rfl,rfl,rfl⟩,?_⟩
      rintro ⟨⟨i,j,o⟩,hw⟩
      have hwl:=walk_len hw
      obtain ⟨hi,hj,hw⟩:=hw
      dsimp only at hi hj hw hwl ⊢
      refine ⟨by unfold i64R;omega,fun h0=>?_,fun h0=>?_⟩
      · have hk:=kind_read hi hj hge
        obtain ⟨n3,n2,nw⟩:=walk_next hi hj hw (by omega) hk
        have hkr:=kindL_r (rv (tokR s) i) (rv (tokR t) j)
        rw [← hk] at hkr
        have hp:=place_lt hi hj
        have hq:0≤(i:Int)*(((tokR t).length:Int)+1)+(j:Int)∧(i:Int)*(((tokR t).length:Int)+1)+(j:Int) < ((gN (tokR s) (tokR t):Nat):Int):=by rw [place];omega
        have ei:((i:Int) - 1).toNat=i - 1:=by omega
        have ej:((j:Int) - 1).toNat=j - 1:=by omega
        clear hk
        refine ⟨by omega,by omega,by omega,by rw [tabl_len];exact hq,by rw [tabl_len];omega,?_⟩
        generalize (gK (tokR s) (tokR t) (x*((tokR t).length+1))).getD ((i:Int)*(((tokR t).length:Int)+1)+(j:Int)).toNat 0=k at *
        rw [ei,ej]
        refine ⟨by unfold i64R;omega,fun h3=>⟨fun h2=>?_,fun h2=>?_⟩,fun h3=>⟨by unfold i64R;omega,?_,fun h2=>?_,fun h2=>?_⟩⟩
        · exfalso;omega
        · have:=n2 h2
          simp only [if_neg (show ¬ k≠3 by omega),if_pos (show k≠2 from h2)] at nw
          exact ⟨by unfold i64R;omega,by omega,by simp only [List.length_cons,List.length_nil];omega,⟨⟨(i,j - 1,o++[(k,0,(tokR t).getD (j - 1) 0)]),by dsimp only;omega,by dsimp only;omega,nw⟩,by dsimp only;omega,by first | rfl | (dsimp only;omega),by first | rfl | (dsimp only;omega),rfl,rfl,rfl,rfl,rfl⟩⟩
        · have:=n3 h3;omega
        · have:=n3 h3
          simp only [if_pos (show k≠3 from h3),if_neg (show ¬ k≠2 by omega)] at nw
          exact ⟨by simp only [List.length_cons,List.length_nil];omega,⟨⟨(i - 1,j,o++[(k,(tokR s).getD (i - 1) 0,0)]),by dsimp only;omega,by dsimp only;omega,nw⟩,by dsimp only;omega,by first | rfl | (dsimp only;omega),by first | rfl | (dsimp only;omega),rfl,rfl,rfl,rfl,rfl⟩⟩
        · have:=n3 h3
          have:=n2 h2
          simp only [if_pos (show k≠3 from h3),if_pos (show k≠2 from h2)] at nw
          exact ⟨by unfold i64R;omega,by omega,by simp only [List.length_cons,List.length_nil];omega,⟨⟨(i - 1,j - 1,o++[(k,(tokR s).getD (i - 1) 0,(tokR t).getD (j - 1) 0)]),by dsimp only;omega,by dsimp only;omega,nw⟩,by dsimp only;omega,by first | rfl | (dsimp only;omega),by first | rfl | (dsimp only;omega),rfl,rfl,rfl,rfl,rfl⟩⟩
      · have ho:=walk_end hw (by omega)
        refine ⟨by unfold i64R;omega,⟨⟨(0,o),rvd_zero _ _⟩,rfl,by dsimp only;omega,rfl,rfl,rfl,rfl,rfl⟩,?_⟩
        rintro ⟨⟨u,r⟩,hr⟩
        have hr':=hr
        obtain ⟨r1,r2,r3⟩:=hr
        dsimp only at r1 r2 ⊢
        refine ⟨fun h4=>?_,fun h4=>⟨?_,hE.1.symm⟩⟩
        · have e2:((o.length:Int) - 1 - u).toNat=o.length - 1 - u:=by omega
          rw [e2]
          exact ⟨by omega,by omega,by omega,by omega,by omega,by omega,by rw [List.length_set];omega,by rw [List.length_set];omega,by unfold i64R;omega,by unfold i64R;omega,⟨⟨(u+1,_),rvd_step (j:=o.length - 1 - u) hr' (by omega) (by omega)⟩,by dsimp only;omega,by push_cast;rfl,by dsimp only;push_cast;omega,rfl,rfl,rfl,rfl,rfl⟩⟩
        · rw [rvd_end hr' (by omega),ho,stepsV_ok h1 h2]
end Go.EA
