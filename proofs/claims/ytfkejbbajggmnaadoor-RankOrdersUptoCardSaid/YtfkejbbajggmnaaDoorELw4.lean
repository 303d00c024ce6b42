/- Layer 15: the law that the first ones stand in order. Conditions: none. (Printed by a program of this project's own.) -/
import Derived.Test.YtfkejbbajggmnaaDoorELw3
import Derived.KernelRfl
set_option linter.unusedVariables false
set_option linter.unusedSimpArgs false
set_option maxRecDepth 100000
set_option maxHeartbeats 0
namespace Go.EA
open F
def rotC (l:List Cd) (z:Int):List Cd:=l.drop z.toNat++l.take z.toNat
theorem rotC_perm (l:List Cd) (z:Int):l.Perm (rotC l z):=by
  have h:(l.take z.toNat++l.drop z.toNat).Perm (rotC l z):=List.perm_append_comm
  rwa [List.take_append_drop] at h
theorem anyC_step {l:List Cd} {p:Cd→Bool} {j:Nat} (h:j < l.length):(l.take (j+1)).any p=((l.take j).any p||p (l.getD j ([],0,0))):=by
  rw [List.take_add_one,List.getElem?_eq_getElem h,Option.toList_some,← getC_lt h]
  simp
theorem takeStr {l:List Cd} (h:StrC l) {i j:Nat} (hij:i < j) (hj:j < l.length):ltC (l.getD i ([],0,0)) (l.getD j ([],0,0))=true:=by
  rw [getC_lt (by omega),getC_lt hj]
  exact List.pairwise_iff_getElem.1 h i j (by omega) hj hij
theorem left_out {l:List Cd} {k:Nat} {d:Cd} (hd:d∈l) (hn:¬ hasK ((allC l).take k) d.1=true):((allC l).take k).length=k∧∀ x∈(allC l).take k,ltC d x=false:=by
  obtain ⟨c,hc,e1,e2⟩:=allC_of hd
  have hnc:c ∉ (allC l).take k:=fun h=>hn (hasK_iff.2 ⟨c,h,e1⟩)
  have hdr:c∈(allC l).drop k:=by
    rw [← List.take_append_drop k (allC l)] at hc
    exact (List.mem_append.1 hc).resolve_left hnc
  have hlen:=List.length_pos_of_mem hdr
  rw [List.length_drop] at hlen
  refine ⟨by rw [List.length_take];omega,fun x hx=>?_⟩
  have h3:StrC ((allC l).take k++(allC l).drop k):=by rw [List.take_append_drop];exact allC_str l
  have hxc:=(List.pairwise_append.1 h3).2.2 x hx c hdr
  cases h:ltC d x with
  | false=>rfl
  | true=>have:=ltC_trans h hxc;rw [e2] at this;cases this
theorem w370 {S:SC} (hB:SB S) (q377:PrOk S 377 (pureP G377)) (q378:PrOk S 378 (pureP G378)) (q379:PrOk S 379 (pureP G379)) (q380:PrOk S 380 (pureP G380)) (q381:PrOk S 381 (pureP G381)) (h370:S.has 370 f370) (l:List (List UInt8×Int×Int)) (k:Int) (t:Int) (hl0:l.length≤1048576) (hs0:∀ x∈l,x.1.length≤1048576) (hk0:0≤k∧k≤255) (ht0:0≤t∧t≤65535):MF S 370 [] [den0 (.one (.row (.pair .str (.pair (.int .i64) (.int .i64))) l)),den0 (.one (.int .u8 k)),den0 (.one (.int .u16 t))] (hl []) fun v _=>v=.one (.bool true):=
  mfM hB [] [⟨377,G377,K377⟩,⟨378,G378,K378⟩,⟨379,G379,K379⟩,⟨380,G380,K380⟩,⟨381,G381,K381⟩] trivial ⟨⟨q377,K377_ok⟩,⟨q378,K378_ok⟩,⟨q379,K379_ok⟩,⟨q380,K380_ok⟩,⟨q381,K381_ok⟩,trivial⟩ h370 (v:=.one .tt) (xs:=[.one (.row (.pair .str (.pair (.int .i64) (.int .i64))) l),.one (.int .u8 k),.one (.int .u16 t)]) rfl rfl rfl (fun f id T L=>match f,id with
      | 370,4052=>match T.getD 9 .junk with | .one (.int .i64 z)=>some (.cut Unit (fun _=>([(10,.one (.row CdT (topO (rotC l z) k))),(11,.one (.int .i64 (topE (rotC l z) k)))],[]))) | _=>none
      | 370,0=>some (.inv { i:Nat // i≤(topO l k).length } (fun x=>([(79,.one (.int .i64 x.1))],[(0,.mapo .str .bool (metC ((topO l k).take x.1)))])) (fun x=>(topO l k).length - x.1))
      | 370,2=>match getO L 1 with | .cell [.str s,.int .i64 x,.int .i64 y]=>some (.inv { j:Nat // j≤l.length } (fun q=>([(107,.one (.int .i64 q.1)),(15,.one (.bool ((l.take q.1).any fun d=>decide (d=(s,x,y)))))],[])) (fun q=>l.length - q.1)) | _=>none
      | 370,4=>some (.inv { i:Nat // i≤l.length } (fun x=>([(133,.one (.int .i64 x.1))],[])) (fun x=>l.length - x.1))
      | _,_=>none) 4000 (VC.use (p:=
    (((!true)=true →
      (false=true)) ∧
    (¬(!true) = true →
     ((l.length≤4194304) ∧
     ((∀ (x:List UInt8×Int×Int),x∈l→x.fst.length≤1099511627776) ∧
     ((decide (200 < l.length∨4000 < lenC l)=true →
       True) ∧
     (¬decide (200 < l.length ∨ 4000 < lenC l) = true →
      ((i64R k) ∧
      ((l.length≤1099511627776) ∧
      ((SmC l) ∧
      ((i64R t) ∧
      ((i64R ((↑l.length:Int)+1)) ∧
      (((↑l.length:Int)+1≠0) ∧
      ((((0≤t.tmod ((↑l.length:Int)+1)∧t.tmod ((↑l.length:Int)+1)≤(↑l.length:Int)) ∧
        ((i64R k) ∧
        (((0+(cutR l (some (t.tmod ((↑l.length:Int)+1))) none).length)*32≤140737488355328) ∧
        ((0≤t.tmod ((↑l.length:Int)+1)∧t.tmod ((↑l.length:Int)+1)≤(↑l.length:Int)) ∧
        (((([]++cutR l (some (t.tmod ((↑l.length:Int)+1))) none).length+(cutR l none (some (t.tmod ((↑l.length:Int)+1)))).length)*32≤140737488355328) ∧
        ((([]++cutR l (some (t.tmod ((↑l.length:Int)+1))) none++cutR l none (some (t.tmod ((↑l.length:Int)+1)))).length≤1099511627776) ∧
        ((SmC ([]++cutR l (some (t.tmod ((↑l.length:Int)+1))) none++cutR l none (some (t.tmod ((↑l.length:Int)+1))))) ∧
        (∃ x1 : Unit,
         ((l=l) ∧
         ((k=k) ∧
         ((topO l k=topO l k) ∧
         ((topE l k=topE l k) ∧
         ((topO ([]++cutR l (some (t.tmod ((↑l.length:Int)+1))) none++cutR l none (some (t.tmod ((↑l.length:Int)+1)))) k=topO (rotC l (t.tmod ((↑l.length:Int)+1))) k) ∧
         (topE ([]++cutR l (some (t.tmod ((↑l.length:Int)+1))) none++cutR l none (some (t.tmod ((↑l.length:Int)+1)))) k=topE (rotC l (t.tmod ((↑l.length:Int)+1))) k)))))))))))))) ∧
       ((0≤t.tmod ((↑l.length:Int)+1)∧t.tmod ((↑l.length:Int)+1)≤(↑l.length:Int)) ∧
       ((0≤t.tmod ((↑l.length:Int)+1)∧t.tmod ((↑l.length:Int)+1)≤(↑l.length:Int)) ∧
       (((0+(cutR l (some (t.tmod ((↑l.length:Int)+1))) none).length)*32≤140737488355328) ∧
       (((([]++cutR l (some (t.tmod ((↑l.length:Int)+1))) none).length+(cutR l none (some (t.tmod ((↑l.length:Int)+1)))).length)*32≤140737488355328) ∧
       ((i64R k) ∧
       ((([]++cutR l (some (t.tmod ((↑l.length:Int)+1))) none++cutR l none (some (t.tmod ((↑l.length:Int)+1)))).length≤1099511627776) ∧
       ((SmC ([]++cutR l (some (t.tmod ((↑l.length:Int)+1))) none++cutR l none (some (t.tmod ((↑l.length:Int)+1))))) ∧
       (∃ x1 : Unit,
        ((l=l) ∧
        ((k=k) ∧
        ((topO l k=topO l k) ∧
        ((topE l k=topE l k) ∧
        ((topO ([]++cutR l (some (t.tmod ((↑l.length:Int)+1))) none++cutR l none (some (t.tmod ((↑l.length:Int)+1)))) k=topO (rotC l (t.tmod ((↑l.length:Int)+1))) k) ∧
        (topE ([]++cutR l (some (t.tmod ((↑l.length:Int)+1))) none++cutR l none (some (t.tmod ((↑l.length:Int)+1)))) k=topE (rotC l (t.tmod ((↑l.length:Int)+1))) k))))))))))))))) ∧
      (∀ x1 : Unit,
       ((topE l k=0 →
         ((topE (rotC l (t.tmod ((↑l.length:Int)+1))) k=0 →
           (((topO l k).length≤1099511627776) ∧
           (((topO (rotC l (t.tmod ((↑l.length:Int)+1))) k).length≤1099511627776) ∧
           (((!sameC (topO l k) (topO (rotC l (t.tmod ((↑l.length:Int)+1))) k))=true →
             (false=true)) ∧
           (¬(!sameC (topO l k) (topO (rotC l (t.tmod ((↑l.length : Int) + 1))) k)) = true →
            ((i64R k) ∧
            ((k < (↑(topO l k).length:Int) →
              (false=true)) ∧
            (¬k < (↑(topO l k).length : Int) →
             ((∃ x2:{ i:Nat // i≤(topO l k).length },
               ((l=l) ∧
               ((k=k) ∧
               ((topO l k=topO l k) ∧
               ((topO l k=topO l k) ∧
               (((↑(topO l k).length:Int)=(↑(topO l k).length:Int)) ∧
               ((0=(↑x2.val:Int)) ∧
               (metC (List.take x2.val (topO l k))=[])))))))) ∧
             (∀ x2 : { i : Nat // i ≤ (topO l k).length },
              (((↑x2.val:Int) < (↑(topO l k).length:Int) →
                ((0≤(↑x2.val:Int)∧(↑x2.val:Int) < (↑(topO l k).length:Int)) ∧
                ((0 < (↑x2.val:Int) →
                  ((i64R ((↑x2.val:Int) - 1)) ∧
                  ((0≤(↑x2.val:Int) - 1∧(↑x2.val:Int) - 1 < (↑(topO l k).length:Int)) ∧
                  (((!ltC (((topO l k).getD ((↑x2.val:Int) - 1).toNat ([],0,0)).fst,((topO l k).getD ((↑x2.val:Int) - 1).toNat ([],0,0)).snd.fst,((topO l k).getD ((↑x2.val:Int) - 1).toNat ([],0,0)).snd.snd) (((topO l k).getD x2.val ([],0,0)).fst,((topO l k).getD x2.val ([],0,0)).snd.fst,((topO l k).getD x2.val ([],0,0)).snd.snd))=true →
                    (false=true)) ∧
                  (¬(!ltC (((topO l k).getD ((↑x2.val : Int) - 1).toNat ([], 0, 0)).fst, ((topO l k).getD ((↑x2.val : Int) - 1).toNat ([], 0, 0)).snd.fst, ((topO l k).getD ((↑x2.val : Int) - 1).toNat ([], 0, 0)).snd.snd) (((topO l k).getD x2.val ([], 0, 0)).fst, ((topO l k).getD x2.val ([], 0, 0)).snd.fst, ((topO l k).getD x2.val ([], 0, 0)).snd.snd)) = true →
                   (((Ty.str.mget (metC (List.take x2.val (topO l k))) ((topO l k).getD x2.val ([],0,0)).fst).getD false=true →
                     (false=true)) ∧
                   (¬(Ty.str.mget (metC (List.take x2.val (topO l k))) ((topO l k).getD x2.val ([], 0, 0)).fst).getD false = true →
                    ((∃ x3:{ j:Nat // j≤l.length },
                      ((l=l) ∧
                      ((k=k) ∧
                      ((topO l k=topO l k) ∧
                      ((false=(List.take x3.val l).any fun d=>decide (d=(((topO l k).getD x2.val ([],0,0)).fst,((topO l k).getD x2.val ([],0,0)).snd.fst,((topO l k).getD x2.val ([],0,0)).snd.snd))) ∧
                      ((topO l k=topO l k) ∧
                      (((↑(topO l k).length:Int)=(↑(topO l k).length:Int)) ∧
                      (((↑x2.val:Int)=(↑x2.val:Int)) ∧
                      ((l=l) ∧
                      (((↑l.length:Int)=(↑l.length:Int)) ∧
                      ((0=(↑x3.val:Int)) ∧
                      ((castM (a:=Ty.str) (b:=Ty.bool) (c:=Ty.str) (d:=Ty.bool) rfl rfl (Ty.str.mput (metC (List.take x2.val (topO l k))) ((topO l k).getD x2.val ([],(0:Int),(0:Int))).fst true)=Ty.str.mput (metC (List.take x2.val (topO l k))) ((topO l k).getD x2.val ([],(0:Int),(0:Int))).fst true) ∧
                      ((((topO l k).getD x2.val ([],0,0)).fst=((topO l k).getD x2.val ([],0,0)).fst) ∧
                      ((((topO l k).getD x2.val ([],0,0)).snd.fst=((topO l k).getD x2.val ([],0,0)).snd.fst) ∧
                      (((topO l k).getD x2.val ([],0,0)).snd.snd=((topO l k).getD x2.val ([],0,0)).snd.snd))))))))))))))) ∧
                    (∀ x3 : { j : Nat // j ≤ l.length },
                     (((↑x3.val:Int) < (↑l.length:Int) →
                       ((0≤(↑x3.val:Int)∧(↑x3.val:Int) < (↑l.length:Int)) ∧
                       ((((List.take x3.val l).any fun d=>decide (d=(((topO l k).getD x2.val ([],0,0)).fst,((topO l k).getD x2.val ([],0,0)).snd.fst,((topO l k).getD x2.val ([],0,0)).snd.snd)))=true →
                         (((l.getD x3.val ([],0,0)).fst=((topO l k).getD x2.val ([],0,0)).fst →
                           ((ltC ((l.getD x3.val ([],0,0)).fst,(l.getD x3.val ([],0,0)).snd.fst,(l.getD x3.val ([],0,0)).snd.snd) (((topO l k).getD x2.val ([],0,0)).fst,((topO l k).getD x2.val ([],0,0)).snd.fst,((topO l k).getD x2.val ([],0,0)).snd.snd)=true →
                             (false=true)) ∧
                           (¬ltC ((l.getD x3.val ([], 0, 0)).fst, (l.getD x3.val ([], 0, 0)).snd.fst, (l.getD x3.val ([], 0, 0)).snd.snd) (((topO l k).getD x2.val ([], 0, 0)).fst, ((topO l k).getD x2.val ([], 0, 0)).snd.fst, ((topO l k).getD x2.val ([], 0, 0)).snd.snd) = true →
                            ((i64R ((↑x3.val:Int)+1)) ∧
                            (∃ x4 : { j : Nat // j ≤ l.length },
                             ((l.length - x4.val < l.length - x3.val) ∧
                             ((l=l) ∧
                             ((k=k) ∧
                             ((topO l k=topO l k) ∧
                             ((true=(List.take x4.val l).any fun d=>decide (d=(((topO l k).getD x2.val ([],0,0)).fst,((topO l k).getD x2.val ([],0,0)).snd.fst,((topO l k).getD x2.val ([],0,0)).snd.snd))) ∧
                             ((topO l k=topO l k) ∧
                             (((↑(topO l k).length:Int)=(↑(topO l k).length:Int)) ∧
                             (((↑x2.val:Int)=(↑x2.val:Int)) ∧
                             ((l=l) ∧
                             (((↑l.length:Int)=(↑l.length:Int)) ∧
                             (((↑x3.val:Int)+1=(↑x4.val:Int)) ∧
                             ((castM (a:=Ty.str) (b:=Ty.bool) (c:=Ty.str) (d:=Ty.bool) rfl rfl (Ty.str.mput (metC (List.take x2.val (topO l k))) ((topO l k).getD x2.val ([],(0:Int),(0:Int))).fst true)=Ty.str.mput (metC (List.take x2.val (topO l k))) ((topO l k).getD x2.val ([],(0:Int),(0:Int))).fst true) ∧
                             ((((topO l k).getD x2.val ([],0,0)).fst=((topO l k).getD x2.val ([],0,0)).fst) ∧
                             ((((topO l k).getD x2.val ([],0,0)).snd.fst=((topO l k).getD x2.val ([],0,0)).snd.fst) ∧
                             (((topO l k).getD x2.val ([],0,0)).snd.snd=((topO l k).getD x2.val ([],0,0)).snd.snd)))))))))))))))))))) ∧
                         (¬(l.getD x3.val ([], 0, 0)).fst = ((topO l k).getD x2.val ([], 0, 0)).fst →
                          ((i64R ((↑x3.val:Int)+1)) ∧
                          (∃ x4 : { j : Nat // j ≤ l.length },
                           ((l.length - x4.val < l.length - x3.val) ∧
                           ((l=l) ∧
                           ((k=k) ∧
                           ((topO l k=topO l k) ∧
                           ((true=(List.take x4.val l).any fun d=>decide (d=(((topO l k).getD x2.val ([],0,0)).fst,((topO l k).getD x2.val ([],0,0)).snd.fst,((topO l k).getD x2.val ([],0,0)).snd.snd))) ∧
                           ((topO l k=topO l k) ∧
                           (((↑(topO l k).length:Int)=(↑(topO l k).length:Int)) ∧
                           (((↑x2.val:Int)=(↑x2.val:Int)) ∧
                           ((l=l) ∧
                           (((↑l.length:Int)=(↑l.length:Int)) ∧
                           (((↑x3.val:Int)+1=(↑x4.val:Int)) ∧
                           ((castM (a:=Ty.str) (b:=Ty.bool) (c:=Ty.str) (d:=Ty.bool) rfl rfl (Ty.str.mput (metC (List.take x2.val (topO l k))) ((topO l k).getD x2.val ([],(0:Int),(0:Int))).fst true)=Ty.str.mput (metC (List.take x2.val (topO l k))) ((topO l k).getD x2.val ([],(0:Int),(0:Int))).fst true) ∧
                           ((((topO l k).getD x2.val ([],0,0)).fst=((topO l k).getD x2.val ([],0,0)).fst) ∧
                           ((((topO l k).getD x2.val ([],0,0)).snd.fst=((topO l k).getD x2.val ([],0,0)).snd.fst) ∧
                           (((topO l k).getD x2.val ([],0,0)).snd.snd=((topO l k).getD x2.val ([],0,0)).snd.snd)))))))))))))))))))) ∧
                       (¬((List.take x3.val l).any fun d => decide (d = (((topO l k).getD x2.val ([], 0, 0)).fst, ((topO l k).getD x2.val ([], 0, 0)).snd.fst, ((topO l k).getD x2.val ([], 0, 0)).snd.snd))) = true →
                        (((l.getD x3.val ([],0,0)).fst=((topO l k).getD x2.val ([],0,0)).fst →
                          ((ltC ((l.getD x3.val ([],0,0)).fst,(l.getD x3.val ([],0,0)).snd.fst,(l.getD x3.val ([],0,0)).snd.snd) (((topO l k).getD x2.val ([],0,0)).fst,((topO l k).getD x2.val ([],0,0)).snd.fst,((topO l k).getD x2.val ([],0,0)).snd.snd)=true →
                            (false=true)) ∧
                          (¬ltC ((l.getD x3.val ([], 0, 0)).fst, (l.getD x3.val ([], 0, 0)).snd.fst, (l.getD x3.val ([], 0, 0)).snd.snd) (((topO l k).getD x2.val ([], 0, 0)).fst, ((topO l k).getD x2.val ([], 0, 0)).snd.fst, ((topO l k).getD x2.val ([], 0, 0)).snd.snd) = true →
                           ((i64R ((↑x3.val:Int)+1)) ∧
                           (∃ x4 : { j : Nat // j ≤ l.length },
                            ((l.length - x4.val < l.length - x3.val) ∧
                            ((l=l) ∧
                            ((k=k) ∧
                            ((topO l k=topO l k) ∧
                            ((sameS (List.take 3 (List.drop 0 (List.take 0 (List.map ofLf [Lf.str [],Lf.int IntKind.i64 0,Lf.int IntKind.i64 0])++(List.take 3 (List.drop 0 ((Ty.str.pair ((Ty.int IntKind.i64).pair (Ty.int IntKind.i64))).cells (l.getD x3.val ([],0,0))))++List.drop (0+(List.take 3 (List.drop 0 ((Ty.str.pair ((Ty.int IntKind.i64).pair (Ty.int IntKind.i64))).cells (l.getD x3.val ([],0,0))))).length) (List.map ofLf [Lf.str [],Lf.int IntKind.i64 0,Lf.int IntKind.i64 0]))))) (List.take 3 (List.drop 0 (List.take 0 (List.map ofLf [Lf.str [],Lf.int IntKind.i64 0,Lf.int IntKind.i64 0])++(List.take 3 (List.drop 0 (CdT.cells ((topO l k).getD x2.val ([],0,0))))++List.drop (0+(List.take 3 (List.drop 0 (CdT.cells ((topO l k).getD x2.val ([],0,0))))).length) (List.map ofLf [Lf.str [],Lf.int IntKind.i64 0,Lf.int IntKind.i64 0])))))=(List.take x4.val l).any fun d=>decide (d=(((topO l k).getD x2.val ([],0,0)).fst,((topO l k).getD x2.val ([],0,0)).snd.fst,((topO l k).getD x2.val ([],0,0)).snd.snd))) ∧
                            ((topO l k=topO l k) ∧
                            (((↑(topO l k).length:Int)=(↑(topO l k).length:Int)) ∧
                            (((↑x2.val:Int)=(↑x2.val:Int)) ∧
                            ((l=l) ∧
                            (((↑l.length:Int)=(↑l.length:Int)) ∧
                            (((↑x3.val:Int)+1=(↑x4.val:Int)) ∧
                            ((castM (a:=Ty.str) (b:=Ty.bool) (c:=Ty.str) (d:=Ty.bool) rfl rfl (Ty.str.mput (metC (List.take x2.val (topO l k))) ((topO l k).getD x2.val ([],(0:Int),(0:Int))).fst true)=Ty.str.mput (metC (List.take x2.val (topO l k))) ((topO l k).getD x2.val ([],(0:Int),(0:Int))).fst true) ∧
                            ((((topO l k).getD x2.val ([],0,0)).fst=((topO l k).getD x2.val ([],0,0)).fst) ∧
                            ((((topO l k).getD x2.val ([],0,0)).snd.fst=((topO l k).getD x2.val ([],0,0)).snd.fst) ∧
                            (((topO l k).getD x2.val ([],0,0)).snd.snd=((topO l k).getD x2.val ([],0,0)).snd.snd)))))))))))))))))))) ∧
                        (¬(l.getD x3.val ([], 0, 0)).fst = ((topO l k).getD x2.val ([], 0, 0)).fst →
                         ((i64R ((↑x3.val:Int)+1)) ∧
                         (∃ x4 : { j : Nat // j ≤ l.length },
                          ((l.length - x4.val < l.length - x3.val) ∧
                          ((l=l) ∧
                          ((k=k) ∧
                          ((topO l k=topO l k) ∧
                          ((sameS (List.take 3 (List.drop 0 (List.take 0 (List.map ofLf [Lf.str [],Lf.int IntKind.i64 0,Lf.int IntKind.i64 0])++(List.take 3 (List.drop 0 ((Ty.str.pair ((Ty.int IntKind.i64).pair (Ty.int IntKind.i64))).cells (l.getD x3.val ([],0,0))))++List.drop (0+(List.take 3 (List.drop 0 ((Ty.str.pair ((Ty.int IntKind.i64).pair (Ty.int IntKind.i64))).cells (l.getD x3.val ([],0,0))))).length) (List.map ofLf [Lf.str [],Lf.int IntKind.i64 0,Lf.int IntKind.i64 0]))))) (List.take 3 (List.drop 0 (List.take 0 (List.map ofLf [Lf.str [],Lf.int IntKind.i64 0,Lf.int IntKind.i64 0])++(List.take 3 (List.drop 0 (CdT.cells ((topO l k).getD x2.val ([],0,0))))++List.drop (0+(List.take 3 (List.drop 0 (CdT.cells ((topO l k).getD x2.val ([],0,0))))).length) (List.map ofLf [Lf.str [],Lf.int IntKind.i64 0,Lf.int IntKind.i64 0])))))=(List.take x4.val l).any fun d=>decide (d=(((topO l k).getD x2.val ([],0,0)).fst,((topO l k).getD x2.val ([],0,0)).snd.fst,((topO l k).getD x2.val ([],0,0)).snd.snd))) ∧
                          ((topO l k=topO l k) ∧
                          (((↑(topO l k).length:Int)=(↑(topO l k).length:Int)) ∧
                          (((↑x2.val:Int)=(↑x2.val:Int)) ∧
                          ((l=l) ∧
                          (((↑l.length:Int)=(↑l.length:Int)) ∧
                          (((↑x3.val:Int)+1=(↑x4.val:Int)) ∧
                          ((castM (a:=Ty.str) (b:=Ty.bool) (c:=Ty.str) (d:=Ty.bool) rfl rfl (Ty.str.mput (metC (List.take x2.val (topO l k))) ((topO l k).getD x2.val ([],(0:Int),(0:Int))).fst true)=Ty.str.mput (metC (List.take x2.val (topO l k))) ((topO l k).getD x2.val ([],(0:Int),(0:Int))).fst true) ∧
                          ((((topO l k).getD x2.val ([],0,0)).fst=((topO l k).getD x2.val ([],0,0)).fst) ∧
                          ((((topO l k).getD x2.val ([],0,0)).snd.fst=((topO l k).getD x2.val ([],0,0)).snd.fst) ∧
                          (((topO l k).getD x2.val ([],0,0)).snd.snd=((topO l k).getD x2.val ([],0,0)).snd.snd))))))))))))))))))))))) ∧
                     (¬(↑x3.val : Int) < (↑l.length : Int) →
                      (((!(List.take x3.val l).any fun d=>decide (d=(((topO l k).getD x2.val ([],0,0)).fst,((topO l k).getD x2.val ([],0,0)).snd.fst,((topO l k).getD x2.val ([],0,0)).snd.snd)))=true →
                        (false=true)) ∧
                      (¬(!(List.take x3.val l).any fun d => decide (d = (((topO l k).getD x2.val ([], 0, 0)).fst, ((topO l k).getD x2.val ([], 0, 0)).snd.fst, ((topO l k).getD x2.val ([], 0, 0)).snd.snd))) = true →
                       ((i64R ((↑x2.val:Int)+1)) ∧
                       (∃ x4 : { i : Nat // i ≤ (topO l k).length },
                        (((topO l k).length - x4.val < (topO l k).length - x2.val) ∧
                        ((l=l) ∧
                        ((k=k) ∧
                        ((topO l k=topO l k) ∧
                        ((topO l k=topO l k) ∧
                        (((↑(topO l k).length:Int)=(↑(topO l k).length:Int)) ∧
                        (((↑x2.val:Int)+1=(↑x4.val:Int)) ∧
                        (castM (a:=Ty.str) (b:=Ty.bool) (c:=Ty.str) (d:=Ty.bool) rfl rfl (Ty.str.mput (metC (List.take x2.val (topO l k))) ((topO l k).getD x2.val ([],(0:Int),(0:Int))).fst true)=metC (List.take x4.val (topO l k))))))))))))))))))))))))) ∧
                (¬0 < (↑x2.val : Int) →
                 (((Ty.str.mget (metC (List.take x2.val (topO l k))) ((topO l k).getD x2.val ([],0,0)).fst).getD false=true →
                   (false=true)) ∧
                 (¬(Ty.str.mget (metC (List.take x2.val (topO l k))) ((topO l k).getD x2.val ([], 0, 0)).fst).getD false = true →
                  ((∃ x3:{ j:Nat // j≤l.length },
                    ((l=l) ∧
                    ((k=k) ∧
                    ((topO l k=topO l k) ∧
                    ((false=(List.take x3.val l).any fun d=>decide (d=(((topO l k).getD x2.val ([],0,0)).fst,((topO l k).getD x2.val ([],0,0)).snd.fst,((topO l k).getD x2.val ([],0,0)).snd.snd))) ∧
                    ((topO l k=topO l k) ∧
                    (((↑(topO l k).length:Int)=(↑(topO l k).length:Int)) ∧
                    (((↑x2.val:Int)=(↑x2.val:Int)) ∧
                    ((l=l) ∧
                    (((↑l.length:Int)=(↑l.length:Int)) ∧
                    ((0=(↑x3.val:Int)) ∧
                    ((castM (a:=Ty.str) (b:=Ty.bool) (c:=Ty.str) (d:=Ty.bool) rfl rfl (Ty.str.mput (metC (List.take x2.val (topO l k))) ((topO l k).getD x2.val ([],(0:Int),(0:Int))).fst true)=Ty.str.mput (metC (List.take x2.val (topO l k))) ((topO l k).getD x2.val ([],(0:Int),(0:Int))).fst true) ∧
                    ((((topO l k).getD x2.val ([],0,0)).fst=((topO l k).getD x2.val ([],0,0)).fst) ∧
                    ((((topO l k).getD x2.val ([],0,0)).snd.fst=((topO l k).getD x2.val ([],0,0)).snd.fst) ∧
                    (((topO l k).getD x2.val ([],0,0)).snd.snd=((topO l k).getD x2.val ([],0,0)).snd.snd))))))))))))))) ∧
                  (∀ x3 : { j : Nat // j ≤ l.length },
                   (((↑x3.val:Int) < (↑l.length:Int) →
                     ((0≤(↑x3.val:Int)∧(↑x3.val:Int) < (↑l.length:Int)) ∧
                     ((((List.take x3.val l).any fun d=>decide (d=(((topO l k).getD x2.val ([],0,0)).fst,((topO l k).getD x2.val ([],0,0)).snd.fst,((topO l k).getD x2.val ([],0,0)).snd.snd)))=true →
                       (((l.getD x3.val ([],0,0)).fst=((topO l k).getD x2.val ([],0,0)).fst →
                         ((ltC ((l.getD x3.val ([],0,0)).fst,(l.getD x3.val ([],0,0)).snd.fst,(l.getD x3.val ([],0,0)).snd.snd) (((topO l k).getD x2.val ([],0,0)).fst,((topO l k).getD x2.val ([],0,0)).snd.fst,((topO l k).getD x2.val ([],0,0)).snd.snd)=true →
                           (false=true)) ∧
                         (¬ltC ((l.getD x3.val ([], 0, 0)).fst, (l.getD x3.val ([], 0, 0)).snd.fst, (l.getD x3.val ([], 0, 0)).snd.snd) (((topO l k).getD x2.val ([], 0, 0)).fst, ((topO l k).getD x2.val ([], 0, 0)).snd.fst, ((topO l k).getD x2.val ([], 0, 0)).snd.snd) = true →
                          ((i64R ((↑x3.val:Int)+1)) ∧
                          (∃ x4 : { j : Nat // j ≤ l.length },
                           ((l.length - x4.val < l.length - x3.val) ∧
                           ((l=l) ∧
                           ((k=k) ∧
                           ((topO l k=topO l k) ∧
                           ((true=(List.take x4.val l).any fun d=>decide (d=(((topO l k).getD x2.val ([],0,0)).fst,((topO l k).getD x2.val ([],0,0)).snd.fst,((topO l k).getD x2.val ([],0,0)).snd.snd))) ∧
                           ((topO l k=topO l k) ∧
                           (((↑(topO l k).length:Int)=(↑(topO l k).length:Int)) ∧
                           (((↑x2.val:Int)=(↑x2.val:Int)) ∧
                           ((l=l) ∧
                           (((↑l.length:Int)=(↑l.length:Int)) ∧
                           (((↑x3.val:Int)+1=(↑x4.val:Int)) ∧
                           ((castM (a:=Ty.str) (b:=Ty.bool) (c:=Ty.str) (d:=Ty.bool) rfl rfl (Ty.str.mput (metC (List.take x2.val (topO l k))) ((topO l k).getD x2.val ([],(0:Int),(0:Int))).fst true)=Ty.str.mput (metC (List.take x2.val (topO l k))) ((topO l k).getD x2.val ([],(0:Int),(0:Int))).fst true) ∧
                           ((((topO l k).getD x2.val ([],0,0)).fst=((topO l k).getD x2.val ([],0,0)).fst) ∧
                           ((((topO l k).getD x2.val ([],0,0)).snd.fst=((topO l k).getD x2.val ([],0,0)).snd.fst) ∧
                           (((topO l k).getD x2.val ([],0,0)).snd.snd=((topO l k).getD x2.val ([],0,0)).snd.snd)))))))))))))))))))) ∧
                       (¬(l.getD x3.val ([], 0, 0)).fst = ((topO l k).getD x2.val ([], 0, 0)).fst →
                        ((i64R ((↑x3.val:Int)+1)) ∧
                        (∃ x4 : { j : Nat // j ≤ l.length },
                         ((l.length - x4.val < l.length - x3.val) ∧
                         ((l=l) ∧
                         ((k=k) ∧
                         ((topO l k=topO l k) ∧
                         ((true=(List.take x4.val l).any fun d=>decide (d=(((topO l k).getD x2.val ([],0,0)).fst,((topO l k).getD x2.val ([],0,0)).snd.fst,((topO l k).getD x2.val ([],0,0)).snd.snd))) ∧
                         ((topO l k=topO l k) ∧
                         (((↑(topO l k).length:Int)=(↑(topO l k).length:Int)) ∧
                         (((↑x2.val:Int)=(↑x2.val:Int)) ∧
                         ((l=l) ∧
                         (((↑l.length:Int)=(↑l.length:Int)) ∧
                         (((↑x3.val:Int)+1=(↑x4.val:Int)) ∧
                         ((castM (a:=Ty.str) (b:=Ty.bool) (c:=Ty.str) (d:=Ty.bool) rfl rfl (Ty.str.mput (metC (List.take x2.val (topO l k))) ((topO l k).getD x2.val ([],(0:Int),(0:Int))).fst true)=Ty.str.mput (metC (List.take x2.val (topO l k))) ((topO l k).getD x2.val ([],(0:Int),(0:Int))).fst true) ∧
                         ((((topO l k).getD x2.val ([],0,0)).fst=((topO l k).getD x2.val ([],0,0)).fst) ∧
                         ((((topO l k).getD x2.val ([],0,0)).snd.fst=((topO l k).getD x2.val ([],0,0)).snd.fst) ∧
                         (((topO l k).getD x2.val ([],0,0)).snd.snd=((topO l k).getD x2.val ([],0,0)).snd.snd)))))))))))))))))))) ∧
                     (¬((List.take x3.val l).any fun d => decide (d = (((topO l k).getD x2.val ([], 0, 0)).fst, ((topO l k).getD x2.val ([], 0, 0)).snd.fst, ((topO l k).getD x2.val ([], 0, 0)).snd.snd))) = true →
                      (((l.getD x3.val ([],0,0)).fst=((topO l k).getD x2.val ([],0,0)).fst →
                        ((ltC ((l.getD x3.val ([],0,0)).fst,(l.getD x3.val ([],0,0)).snd.fst,(l.getD x3.val ([],0,0)).snd.snd) (((topO l k).getD x2.val ([],0,0)).fst,((topO l k).getD x2.val ([],0,0)).snd.fst,((topO l k).getD x2.val ([],0,0)).snd.snd)=true →
                          (false=true)) ∧
                        (¬ltC ((l.getD x3.val ([], 0, 0)).fst, (l.getD x3.val ([], 0, 0)).snd.fst, (l.getD x3.val ([], 0, 0)).snd.snd) (((topO l k).getD x2.val ([], 0, 0)).fst, ((topO l k).getD x2.val ([], 0, 0)).snd.fst, ((topO l k).getD x2.val ([], 0, 0)).snd.snd) = true →
                         ((i64R ((↑x3.val:Int)+1)) ∧
                         (∃ x4 : { j : Nat // j ≤ l.length },
                          ((l.length - x4.val < l.length - x3.val) ∧
                          ((l=l) ∧
                          ((k=k) ∧
                          ((topO l k=topO l k) ∧
                          ((sameS (List.take 3 (List.drop 0 (List.take 0 (List.map ofLf [Lf.str [],Lf.int IntKind.i64 0,Lf.int IntKind.i64 0])++(List.take 3 (List.drop 0 ((Ty.str.pair ((Ty.int IntKind.i64).pair (Ty.int IntKind.i64))).cells (l.getD x3.val ([],0,0))))++List.drop (0+(List.take 3 (List.drop 0 ((Ty.str.pair ((Ty.int IntKind.i64).pair (Ty.int IntKind.i64))).cells (l.getD x3.val ([],0,0))))).length) (List.map ofLf [Lf.str [],Lf.int IntKind.i64 0,Lf.int IntKind.i64 0]))))) (List.take 3 (List.drop 0 (List.take 0 (List.map ofLf [Lf.str [],Lf.int IntKind.i64 0,Lf.int IntKind.i64 0])++(List.take 3 (List.drop 0 (CdT.cells ((topO l k).getD x2.val ([],0,0))))++List.drop (0+(List.take 3 (List.drop 0 (CdT.cells ((topO l k).getD x2.val ([],0,0))))).length) (List.map ofLf [Lf.str [],Lf.int IntKind.i64 0,Lf.int IntKind.i64 0])))))=(List.take x4.val l).any fun d=>decide (d=(((topO l k).getD x2.val ([],0,0)).fst,((topO l k).getD x2.val ([],0,0)).snd.fst,((topO l k).getD x2.val ([],0,0)).snd.snd))) ∧
                          ((topO l k=topO l k) ∧
                          (((↑(topO l k).length:Int)=(↑(topO l k).length:Int)) ∧
                          (((↑x2.val:Int)=(↑x2.val:Int)) ∧
                          ((l=l) ∧
                          (((↑l.length:Int)=(↑l.length:Int)) ∧
                          (((↑x3.val:Int)+1=(↑x4.val:Int)) ∧
                          ((castM (a:=Ty.str) (b:=Ty.bool) (c:=Ty.str) (d:=Ty.bool) rfl rfl (Ty.str.mput (metC (List.take x2.val (topO l k))) ((topO l k).getD x2.val ([],(0:Int),(0:Int))).fst true)=Ty.str.mput (metC (List.take x2.val (topO l k))) ((topO l k).getD x2.val ([],(0:Int),(0:Int))).fst true) ∧
                          ((((topO l k).getD x2.val ([],0,0)).fst=((topO l k).getD x2.val ([],0,0)).fst) ∧
                          ((((topO l k).getD x2.val ([],0,0)).snd.fst=((topO l k).getD x2.val ([],0,0)).snd.fst) ∧
                          (((topO l k).getD x2.val ([],0,0)).snd.snd=((topO l k).getD x2.val ([],0,0)).snd.snd)))))))))))))))))))) ∧
                      (¬(l.getD x3.val ([], 0, 0)).fst = ((topO l k).getD x2.val ([], 0, 0)).fst →
                       ((i64R ((↑x3.val:Int)+1)) ∧
                       (∃ x4 : { j : Nat // j ≤ l.length },
                        ((l.length - x4.val < l.length - x3.val) ∧
                        ((l=l) ∧
                        ((k=k) ∧
                        ((topO l k=topO l k) ∧
                        ((sameS (List.take 3 (List.drop 0 (List.take 0 (List.map ofLf [Lf.str [],Lf.int IntKind.i64 0,Lf.int IntKind.i64 0])++(List.take 3 (List.drop 0 ((Ty.str.pair ((Ty.int IntKind.i64).pair (Ty.int IntKind.i64))).cells (l.getD x3.val ([],0,0))))++List.drop (0+(List.take 3 (List.drop 0 ((Ty.str.pair ((Ty.int IntKind.i64).pair (Ty.int IntKind.i64))).cells (l.getD x3.val ([],0,0))))).length) (List.map ofLf [Lf.str [],Lf.int IntKind.i64 0,Lf.int IntKind.i64 0]))))) (List.take 3 (List.drop 0 (List.take 0 (List.map ofLf [Lf.str [],Lf.int IntKind.i64 0,Lf.int IntKind.i64 0])++(List.take 3 (List.drop 0 (CdT.cells ((topO l k).getD x2.val ([],0,0))))++List.drop (0+(List.take 3 (List.drop 0 (CdT.cells ((topO l k).getD x2.val ([],0,0))))).length) (List.map ofLf [Lf.str [],Lf.int IntKind.i64 0,Lf.int IntKind.i64 0])))))=(List.take x4.val l).any fun d=>decide (d=(((topO l k).getD x2.val ([],0,0)).fst,((topO l k).getD x2.val ([],0,0)).snd.fst,((topO l k).getD x2.val ([],0,0)).snd.snd))) ∧
                        ((topO l k=topO l k) ∧
                        (((↑(topO l k).length:Int)=(↑(topO l k).length:Int)) ∧
                        (((↑x2.val:Int)=(↑x2.val:Int)) ∧
                        ((l=l) ∧
                        (((↑l.length:Int)=(↑l.length:Int)) ∧
                        (((↑x3.val:Int)+1=(↑x4.val:Int)) ∧
                        ((castM (a:=Ty.str) (b:=Ty.bool) (c:=Ty.str) (d:=Ty.bool) rfl rfl (Ty.str.mput (metC (List.take x2.val (topO l k))) ((topO l k).getD x2.val ([],(0:Int),(0:Int))).fst true)=Ty.str.mput (metC (List.take x2.val (topO l k))) ((topO l k).getD x2.val ([],(0:Int),(0:Int))).fst true) ∧
                        ((((topO l k).getD x2.val ([],0,0)).fst=((topO l k).getD x2.val ([],0,0)).fst) ∧
                        ((((topO l k).getD x2.val ([],0,0)).snd.fst=((topO l k).getD x2.val ([],0,0)).snd.fst) ∧
                        (((topO l k).getD x2.val ([],0,0)).snd.snd=((topO l k).getD x2.val ([],0,0)).snd.snd))))))))))))))))))))))) ∧
                   (¬(↑x3.val : Int) < (↑l.length : Int) →
                    (((!(List.take x3.val l).any fun d=>decide (d=(((topO l k).getD x2.val ([],0,0)).fst,((topO l k).getD x2.val ([],0,0)).snd.fst,((topO l k).getD x2.val ([],0,0)).snd.snd)))=true →
                      (false=true)) ∧
                    (¬(!(List.take x3.val l).any fun d => decide (d = (((topO l k).getD x2.val ([], 0, 0)).fst, ((topO l k).getD x2.val ([], 0, 0)).snd.fst, ((topO l k).getD x2.val ([], 0, 0)).snd.snd))) = true →
                     ((i64R ((↑x2.val:Int)+1)) ∧
                     (∃ x4 : { i : Nat // i ≤ (topO l k).length },
                      (((topO l k).length - x4.val < (topO l k).length - x2.val) ∧
                      ((l=l) ∧
                      ((k=k) ∧
                      ((topO l k=topO l k) ∧
                      ((topO l k=topO l k) ∧
                      (((↑(topO l k).length:Int)=(↑(topO l k).length:Int)) ∧
                      (((↑x2.val:Int)+1=(↑x4.val:Int)) ∧
                      (castM (a:=Ty.str) (b:=Ty.bool) (c:=Ty.str) (d:=Ty.bool) rfl rfl (Ty.str.mput (metC (List.take x2.val (topO l k))) ((topO l k).getD x2.val ([],(0:Int),(0:Int))).fst true)=metC (List.take x4.val (topO l k)))))))))))))))))))))))) ∧
              (¬(↑x2.val : Int) < (↑(topO l k).length : Int) →
               ((∃ x3:{ i:Nat // i≤l.length },
                 ((k=k) ∧
                 ((topO l k=topO l k) ∧
                 ((l=l) ∧
                 (((↑l.length:Int)=(↑l.length:Int)) ∧
                 ((0=(↑x3.val:Int)) ∧
                 (castM (a:=Ty.str) (b:=Ty.bool) (c:=Ty.str) (d:=Ty.bool) rfl rfl (metC (List.take x2.val (topO l k)))=metC (List.take x2.val (topO l k))))))))) ∧
               (∀ x3 : { i : Nat // i ≤ l.length },
                (((↑x3.val:Int) < (↑l.length:Int) →
                  ((0≤(↑x3.val:Int)∧(↑x3.val:Int) < (↑l.length:Int)) ∧
                  (((!(Ty.str.mget (metC (List.take x2.val (topO l k))) (l.getD x3.val ([],0,0)).fst).getD false)=true →
                    ((0 < (↑(topO l k).length:Int) →
                      ((i64R k) ∧
                      (((↑(topO l k).length:Int) < k →
                        (false=true)) ∧
                      (¬(↑(topO l k).length : Int) < k →
                       ((i64R ((↑(topO l k).length:Int) - 1)) ∧
                       ((0≤(↑(topO l k).length:Int) - 1∧(↑(topO l k).length:Int) - 1 < (↑(topO l k).length:Int)) ∧
                       ((ltC ((l.getD x3.val ([],0,0)).fst,(l.getD x3.val ([],0,0)).snd.fst,(l.getD x3.val ([],0,0)).snd.snd) (((topO l k).getD ((↑(topO l k).length:Int) - 1).toNat ([],0,0)).fst,((topO l k).getD ((↑(topO l k).length:Int) - 1).toNat ([],0,0)).snd.fst,((topO l k).getD ((↑(topO l k).length:Int) - 1).toNat ([],0,0)).snd.snd)=true →
                         (false=true)) ∧
                       (¬ltC ((l.getD x3.val ([], 0, 0)).fst, (l.getD x3.val ([], 0, 0)).snd.fst, (l.getD x3.val ([], 0, 0)).snd.snd) (((topO l k).getD ((↑(topO l k).length : Int) - 1).toNat ([], 0, 0)).fst, ((topO l k).getD ((↑(topO l k).length : Int) - 1).toNat ([], 0, 0)).snd.fst, ((topO l k).getD ((↑(topO l k).length : Int) - 1).toNat ([], 0, 0)).snd.snd) = true →
                        ((i64R ((↑x3.val:Int)+1)) ∧
                        (∃ x4 : { i : Nat // i ≤ l.length },
                         ((l.length - x4.val < l.length - x3.val) ∧
                         ((k=k) ∧
                         ((topO l k=topO l k) ∧
                         ((l=l) ∧
                         (((↑l.length:Int)=(↑l.length:Int)) ∧
                         (((↑x3.val:Int)+1=(↑x4.val:Int)) ∧
                         (castM (a:=Ty.str) (b:=Ty.bool) (c:=Ty.str) (d:=Ty.bool) rfl rfl (metC (List.take x2.val (topO l k)))=metC (List.take x2.val (topO l k))))))))))))))))))) ∧
                    (¬0 < (↑(topO l k).length : Int) →
                     ((i64R ((↑x3.val:Int)+1)) ∧
                     (∃ x4 : { i : Nat // i ≤ l.length },
                      ((l.length - x4.val < l.length - x3.val) ∧
                      ((k=k) ∧
                      ((topO l k=topO l k) ∧
                      ((l=l) ∧
                      (((↑l.length:Int)=(↑l.length:Int)) ∧
                      (((↑x3.val:Int)+1=(↑x4.val:Int)) ∧
                      (castM (a:=Ty.str) (b:=Ty.bool) (c:=Ty.str) (d:=Ty.bool) rfl rfl (metC (List.take x2.val (topO l k)))=metC (List.take x2.val (topO l k)))))))))))))) ∧
                  (¬(!(Ty.str.mget (metC (List.take x2.val (topO l k))) (l.getD x3.val ([], 0, 0)).fst).getD false) = true →
                   ((i64R ((↑x3.val:Int)+1)) ∧
                   (∃ x4 : { i : Nat // i ≤ l.length },
                    ((l.length - x4.val < l.length - x3.val) ∧
                    ((k=k) ∧
                    ((topO l k=topO l k) ∧
                    ((l=l) ∧
                    (((↑l.length:Int)=(↑l.length:Int)) ∧
                    (((↑x3.val:Int)+1=(↑x4.val:Int)) ∧
                    (castM (a:=Ty.str) (b:=Ty.bool) (c:=Ty.str) (d:=Ty.bool) rfl rfl (metC (List.take x2.val (topO l k)))=metC (List.take x2.val (topO l k))))))))))))))) ∧
                (¬(↑x3.val : Int) < (↑l.length : Int) →
                 True)))))))))))))))) ∧
         (¬topE (rotC l (t.tmod ((↑l.length : Int) + 1))) k = 0 →
          (false=true)))) ∧
       (¬topE l k = 0 →
        ((topE (rotC l (t.tmod ((↑l.length:Int)+1))) k=0 →
          (false=true)) ∧
        (¬topE (rotC l (t.tmod ((↑l.length : Int) + 1))) k = 0 →
         (decide ((↑(topO l k).length:Int)=0)=true)))))))))))))))))))) (by kernel_rfl) (by
    have hw:SmC l:=fun x hx=>Nat.le_trans (hs0 x hx) (by decide)
    have q:l.length≤1099511627776:=by omega
    have ik:i64R k:=by unfold i64R;omega
    have kk:0≤k∧k≤1000:=by omega
    refine ⟨fun h=>(by cases h),fun _=>⟨by omega,hw,fun _=>by trivial,fun _=>⟨ik,q,hw,by unfold i64R;omega,by unfold i64R;omega,by omega,?_⟩⟩⟩
    have k0:0≤t.tmod ((l.length:Int)+1):=Int.tmod_nonneg _ ht0.1
    have k1:t.tmod ((l.length:Int)+1) < (l.length:Int)+1:=Int.tmod_lt_of_pos _ (by omega)
    generalize t.tmod ((l.length:Int)+1)=z at k0 k1 ⊢
    have hp:=rotC_perm l z
    have hrl:=hp.length_eq
    have er:[]++cutR l (some z) none++cutR l none (some z)=rotC l z:=rfl
    rw [er]
    have c1:(cutR l (some z) none).length≤l.length:=by show (l.drop _).length≤_;rw [List.length_drop];omega
    have c2:(cutR l none (some z)).length≤l.length:=by show (l.take _).length≤_;rw [List.length_take];omega
    have g1:0≤z∧z≤(l.length:Int):=by omega
    have g2:(0+(cutR l (some z) none).length)*32≤140737488355328:=by omega
    have g3:(([]++cutR l (some z) none).length+(cutR l none (some z)).length)*32≤140737488355328:=by rw [List.nil_append];omega
    have g4:(rotC l z).length≤1099511627776:=by omega
    have g5:SmC (rotC l z):=fun x hx=>hw x (hp.mem_iff.2 hx)
    refine ⟨by repeat' (first | exact g1 | exact g2 | exact g3 | exact g4 | exact g5 | exact ik | exact ⟨(),by repeat' (first | rfl | apply And.intro)⟩ | apply And.intro),fun _=>⟨fun he=>?_,fun he=>?_⟩⟩
    rotate_left
    · have he':=he
      rw [topE_zero kk] at he
      have h2:¬ topE (rotC l z) k=0:=by rw [topE_zero kk,← errC_perm hp];exact he
      exact ⟨fun h=>absurd h h2,fun _=>by rw [(top_bad he).1];rfl⟩
    obtain ⟨p1,p2⟩:=topE_perm hp ((topE_zero kk).1 he) k
    have hA:topO l k=(allC l).take k.toNat:=topO_eq kk ((topE_zero kk).1 he)
    have t1:=topO_len l k
    have t2:(topO l k).length≤k.toNat:=by rw [hA,List.length_take];omega
    have hk:=allC_keys l
    have hS:StrC (topO l k):=by rw [hA];exact (allC_str l).sublist (List.take_sublist _ _)
    have hK:(topO l k).Pairwise fun x y=>x.1≠y.1:=by rw [hA];exact hk.sublist (List.take_sublist _ _)
    have hM:∀ c∈topO l k,LstC l c:=fun c hc=>by rw [hA] at hc;exact allC_mem.1 (List.mem_of_mem_take hc)
    have hL:∀ d∈l,¬ hasK (topO l k) d.1=true→((topO l k).length:Int)=k∧∀ x∈topO l k,ltC d x=false:=fun d hd hn=>by
      rw [hA] at hn ⊢
      obtain ⟨a,b⟩:=left_out hd hn
      exact ⟨by omega,b⟩
    rw [← p1,← p2]
    generalize topO l k=A at t1 t2 hS hK hM hL
    refine ⟨fun _=>⟨by omega,by omega,fun h=>(by rw [sameC_self] at h;cases h),fun _=>⟨ik,fun h=>by omega,fun _=>⟨⟨⟨0,Nat.zero_le _⟩,rfl,rfl,rfl,rfl,rfl,rfl,rfl⟩,?_⟩⟩⟩,fun h=>absurd he h⟩
    rintro ⟨i,hi⟩
    dsimp only
    refine ⟨fun h=>⟨by omega,?_⟩,fun h=>?_⟩
    · have him:A.getD i ([],0,0)∈A:=by rw [getC_lt (by omega)];exact List.getElem_mem _
      obtain ⟨m1,m2⟩:=hM _ him
      have hmet:¬ (Ty.str.mget (metC (A.take i)) (A.getD i ([],0,0)).1).getD false=true:=by
        rw [metC_get]
        intro e
        obtain ⟨d,hd,e⟩:=hasK_iff.1 e
        obtain ⟨j,hj,rfl⟩:=List.mem_iff_getElem.1 hd
        rw [List.length_take] at hj
        rw [List.getElem_take] at e
        have:=List.pairwise_iff_getElem.1 hK j i (by omega) (by omega) (by omega)
        rw [getC_lt (l:=A) (i:=i) (by omega)] at e
        exact this e
      have hput:Ty.str.mput (metC (A.take i)) (A.getD i ([],0,0)).1 true=metC (A.take (i+1)):=by
        rw [metC_put rfl (Bool.eq_false_iff.2 fun e=>hmet ((metC_get _ _).2 e)),take_snocC (by omega)]
      have e1:0 < (i:Int)→((i:Int) - 1).toNat=i - 1:=fun _=>by omega
      have hlt:0 < (i:Int)→ltC ((A.getD ((i:Int) - 1).toNat ([],0,0)).1,(A.getD ((i:Int) - 1).toNat ([],0,0)).2.1,(A.getD ((i:Int) - 1).toNat ([],0,0)).2.2) ((A.getD i ([],0,0)).1,(A.getD i ([],0,0)).2.1,(A.getD i ([],0,0)).2.2)=true:=fun h0=>by
        rw [e1 h0]
        exact takeStr hS (i:=i - 1) (j:=i) (by omega) (by omega)
      refine ⟨fun h0=>⟨by unfold i64R;omega,by omega,fun e=>(by rw [hlt h0] at e;cases e),fun _=>⟨fun e=>absurd e hmet,fun _=>?_⟩⟩,fun h0=>⟨fun e=>absurd e hmet,fun _=>?_⟩⟩
      all_goals
        refine ⟨⟨⟨0,Nat.zero_le _⟩,by repeat' (first | rfl | apply And.intro)⟩,?_⟩
        rintro ⟨j,hj⟩
        dsimp only
        refine ⟨fun h1=>⟨by omega,fun h2=>⟨fun h3=>⟨fun h4=>?_,fun h4=>⟨by unfold i64R;omega,⟨j+1,by omega⟩,by dsimp only;omega,rfl,rfl,rfl,?_,rfl,rfl,rfl,rfl,rfl,by push_cast;rfl,rfl,rfl,rfl,rfl⟩⟩,fun h3=>⟨by unfold i64R;omega,⟨j+1,by omega⟩,by dsimp only;omega,rfl,rfl,rfl,?_,rfl,rfl,rfl,rfl,rfl,by push_cast;rfl,rfl,rfl,rfl,rfl⟩⟩,fun h2=>⟨fun h3=>⟨fun h4=>?_,fun h4=>⟨by unfold i64R;omega,⟨j+1,by omega⟩,by dsimp only;omega,rfl,rfl,rfl,?_,rfl,rfl,rfl,rfl,rfl,by push_cast;rfl,rfl,rfl,rfl,rfl⟩⟩,fun h3=>⟨by unfold i64R;omega,⟨j+1,by omega⟩,by dsimp only;omega,rfl,rfl,rfl,?_,rfl,rfl,rfl,rfl,rfl,by push_cast;rfl,rfl,rfl,rfl,rfl⟩⟩⟩,fun h1=>⟨fun h2=>?_,fun _=>⟨by unfold i64R;omega,⟨i+1,by omega⟩,by dsimp only;omega,rfl,rfl,rfl,rfl,rfl,by push_cast;rfl,hput⟩⟩⟩
        · exact absurd h4 (by rw [show ltC ((l.getD j ([],0,0)).1,(l.getD j ([],0,0)).2.1,(l.getD j ([],0,0)).2.2) ((A.getD i ([],0,0)).1,(A.getD i ([],0,0)).2.1,(A.getD i ([],0,0)).2.2)=false from m2 _ (by rw [getC_lt (by omega)];exact List.getElem_mem _) h3];decide)
        · dsimp only;rw [anyC_step (by omega),h2];rfl
        · dsimp only;rw [anyC_step (by omega),h2];rfl
        · exact absurd h4 (by rw [show ltC ((l.getD j ([],0,0)).1,(l.getD j ([],0,0)).2.1,(l.getD j ([],0,0)).2.2) ((A.getD i ([],0,0)).1,(A.getD i ([],0,0)).2.1,(A.getD i ([],0,0)).2.2)=false from m2 _ (by rw [getC_lt (by omega)];exact List.getElem_mem _) h3];decide)
        · dsimp only;rw [anyC_step (by omega),Bool.eq_false_iff.2 h2];exact same_cd (l.getD j ([],0,0)) (A.getD i ([],0,0))
        · dsimp only;rw [anyC_step (by omega),Bool.eq_false_iff.2 h2];exact same_cd (l.getD j ([],0,0)) (A.getD i ([],0,0))
        · exfalso
          rw [List.take_of_length_le (show l.length≤j by omega)] at h2
          simp only [Bool.not_eq_true',List.any_eq_false,decide_eq_true_eq] at h2
          exact h2 _ m1 rfl
    · rw [List.take_of_length_le (show A.length≤i by omega)]
      refine ⟨⟨⟨0,Nat.zero_le _⟩,rfl,rfl,rfl,rfl,rfl,rfl⟩,?_⟩
      rintro ⟨j,hj⟩
      dsimp only
      refine ⟨fun h1=>⟨by omega,fun h2=>?_,fun h2=>⟨by unfold i64R;omega,⟨j+1,by omega⟩,by dsimp only;omega,rfl,rfl,rfl,rfl,by push_cast;rfl,rfl⟩⟩,fun _=>by trivial⟩
      have hnm:¬ hasK A (l.getD j ([],0,0)).1=true:=fun e=>by
        rw [(metC_get _ _).2 e] at h2;cases h2
      obtain ⟨n1,n2⟩:=hL (l.getD j ([],0,0)) (by rw [getC_lt (by omega)];exact List.getElem_mem _) hnm
      refine ⟨fun h3=>⟨ik,fun h4=>by omega,fun h4=>⟨by unfold i64R;omega,by omega,fun h5=>?_,fun _=>⟨by unfold i64R;omega,⟨j+1,by omega⟩,by dsimp only;omega,rfl,rfl,rfl,rfl,by push_cast;rfl,rfl⟩⟩⟩,fun h3=>⟨by unfold i64R;omega,⟨j+1,by omega⟩,by dsimp only;omega,rfl,rfl,rfl,rfl,by push_cast;rfl,rfl⟩⟩
      have e:(((A.length:Nat):Int) - 1).toNat=A.length - 1:=by omega
      rw [e] at h5
      have:=n2 (A.getD (A.length - 1) ([],0,0)) (by rw [getC_lt (by omega)];exact List.getElem_mem _)
      rw [show ltC ((l.getD j ([],0,0)).1,(l.getD j ([],0,0)).2.1,(l.getD j ([],0,0)).2.2) ((A.getD (A.length - 1) ([],0,0)).1,(A.getD (A.length - 1) ([],0,0)).2.1,(A.getD (A.length - 1) ([],0,0)).2.2)=false from this] at h5
      cases h5))
end Go.EA
