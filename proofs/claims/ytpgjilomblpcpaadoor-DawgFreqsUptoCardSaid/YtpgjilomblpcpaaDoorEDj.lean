/- Layer 10: the example, and how great words are. Conditions: none. -/
import Derived.Test.YtpgjilomblpcpaaDoorEK23
import Derived.Test.YtpgjilomblpcpaaDoorEDf
import Derived.KernelRfl
set_option linter.unusedVariables false
set_option linter.unusedSimpArgs false
set_option maxRecDepth 100000
set_option maxHeartbeats 0
namespace Go.EA
open F
def P277:(List (List UInt8×Int))->List SV:=fun l=>[.one (.row (.pair .str (.int .i64)) l)]
def R277:(List (List UInt8×Int))->SV×List Prop:=fun l=>(.one (.bool (grtB l)),[l.length<=1048576,SmX l])
def K277:Con:=⟨true,[some (.pair .str (.int .i64))],fun xs=>match xs with | [.one (.row (.pair .str (.int .i64)) l)]=>some (R277 l) | _=>none⟩
noncomputable def G277:GP:=conG P277 R277
theorem P277_inj:∀ a b,(P277 a).map den0=(P277 b).map den0->a=b:=by
 rintro a0 b0 h
 simp only [P277,zK,List.map_nil,den0,den0L,zG,AV.one.injEq,AV.agg.injEq,Lf.int.injEq,Lf.str.injEq,Lf.bool.injEq,Lf.vrow.injEq,and_true,true_and] at h
 exact row_inj h
theorem K277_ok:ConG G277 K277:=conG_of P277_inj (fun _ _=>rfl) (fun _=>rfl) fun xs r h=>by
 simp only [K277] at h
 split at h
 ·cases h;rename_i l;exact ⟨l,rfl,rfl⟩
 ·cases h
theorem pr277 {S:SC} (hB:SB S)  (h277:S.has 277 f277):PrOk S 277 (pureP G277):=by
 refine prM hB [] [] trivial trivial h277 (fun _=>⟨rfl,rfl,rfl⟩) (fun l=>fun f id T L=>match f,id with
  | 277,0=>some (.inv { i:Nat // i<=l.length } (fun x=>([(8,.one (.int .i64 x.1)),(3,.one (.int .i64 (sumW (l.take x.1))))],[])) (fun x=>l.length-x.1))
  | _,_=>none) 400 ?_
 rintro l hc
 have hc1:l.length<=1048576:=hc.1
 have hc2:SmX l:=hc.2.1
 refine VC.use (p:=
  ((∃ x1:{ i:Nat // i≤l.length },
    ((l=l)/\
    ((0=sumW (List.take x1.1 l))/\
    ((l=l)/\
    (((l.length:Int)=(l.length:Int))/\
    (0=(x1.1:Int)))))))/\
  (∀ x1 : { i : Nat // i ≤ l.length },
   (((↑x1.val:Int) < (↑l.length:Int) →
     ((0<=(x1.1:Int)/\(x1.1:Int)<(l.length:Int))/\
     ((i64R (sumW (List.take x1.1 l)+(↑(List.length (l.getD x1.1 ([],0)).1):Int)))/\
     ((i64R ((x1.1:Int)+1))/\
     (∃ x2 : { i : Nat // i ≤ l.length },
      ((l.length-x2.1<l.length-x1.1)/\
      ((l=l)/\
      ((sumW (List.take x1.1 l)+(↑(List.length (l.getD x1.1 ([],0)).1):Int)=sumW (List.take x2.1 l))/\
      ((l=l)/\
      (((l.length:Int)=(l.length:Int))/\
      ((x1.1:Int)+1=(x2.1:Int))))))))))))/\
   (¬(↑x1.val : Int) < (↑l.length : Int) →
    ((60 < (↑l.length:Int) →
      (true=grtB l))/\
    (¬60 < (↑l.length : Int) →
     (decide (500<sumW (List.take x1.1 l))=grtB l)))))))) (by kernel_rfl) ?_
 refine ⟨⟨⟨0,Nat.zero_le _⟩,rfl,rfl,rfl,rfl,rfl⟩,?_⟩
 rintro ⟨i,hi⟩
 dsimp only
 obtain ⟨b1,b2⟩:=sumW_bd hc2 i hi
 have b3:=hc2.at i
 refine ⟨fun h=>⟨⟨by omega,h⟩,by unfold i64R;omega,by unfold i64R;omega,⟨i+1,by omega⟩,by dsimp only;omega,rfl,(sumW_step (by omega)).symm,rfl,rfl,by push_cast;rfl⟩,fun h=>?_⟩
 rw [List.take_of_length_le (by omega)]
 exact ⟨fun h2=>by unfold grtB;rw [decide_eq_true h2];rfl,fun h2=>by unfold grtB;rw [decide_eq_false h2];rfl⟩
def P276:Unit->List SV:=fun _=>[]
def R276:Unit->SV×List Prop:=fun _=>(.one (.bool true),[])
def K276:Con:=⟨true,[],fun xs=>match xs with | []=>some (R276 ()) | _=>none⟩
noncomputable def G276:GP:=conG P276 R276
theorem P276_inj:∀ a b,(P276 a).map den0=(P276 b).map den0->a=b:=by
 intro a b _;rfl
theorem K276_ok:ConG G276 K276:=conG_of P276_inj (fun _ _=>rfl) (fun _=>rfl) fun xs r h=>by
 simp only [K276] at h
 split at h
 ·cases h;exact ⟨(),rfl,rfl⟩
 ·cases h
theorem pr276 {S:SC} (hB:SB S) (q278:PrOk S 278 (pureP G278)) (q281:PrOk S 281 (pureP G281)) (q282:PrOk S 282 (pureP G282)) (q284:PrOk S 284 (pureP G284)) (h289:S.has 289 f289) (h314:S.has 314 f314) (h276:S.has 276 f276):PrOk S 276 (pureP G276):=by
 refine prM hB [(289,f289),(314,f314)] [⟨278,G278,K278⟩,⟨281,G281,K281⟩,⟨282,G282,K282⟩,⟨284,G284,K284⟩] ⟨h289,h314,trivial⟩ ⟨⟨q278,K278_ok⟩,⟨q281,K281_ok⟩,⟨q282,K282_ok⟩,⟨q284,K284_ok⟩,trivial⟩ h276 (fun _=>⟨rfl,rfl,rfl⟩) (fun _=>fun _ _ _ _=>none) 1000 ?_
 rintro _ hc
 refine VC.use (p:=
  (((4:Nat)<=(1099511627776:Nat))/\
  ((SmW [([97,109],1),([97,110],1),([105,109],1),([105,110],1)])/\
  (((0:Int)=(0:Int) →
    (((0:Int)=(0:Int) →
      (((3:Int)=(3:Int) →
        (((4:Int)=(4:Int) →
          (((4:Int)=(4:Int) →
            (true=true))/\
          (¬(4 : Int) = (4 : Int) →
           (false=true))))/\
        (¬(4 : Int) = (4 : Int) →
         (false=true))))/\
      (¬(3 : Int) = (3 : Int) →
       (false=true))))/\
    (¬(0 : Int) = (0 : Int) →
     (false=true))))/\
  (¬(0 : Int) = (0 : Int) →
   (false=true)))))) (by kernel_rfl) ?_
 refine ⟨by decide,by unfold SmW;decide,fun _=>⟨fun _=>⟨fun _=>⟨fun _=>⟨fun _=>rfl,fun h=>absurd rfl h⟩,fun h=>absurd rfl h⟩,fun h=>absurd rfl h⟩,fun h=>absurd rfl h⟩,fun h=>absurd rfl h⟩
end Go.EA
