/- Layer 10: the example, and how great words are. Conditions: none. -/
import Derived.Test.YtpgjilomblpcpaaDoorEK23
import Derived.Test.YtpgjilomblpcpaaDoorEDf
import Derived.KernelRfl
set_option linter.unusedVariables false
set_option linter.unusedSimpArgs false
set_option maxRecDepth 100000
set_option maxHeartbeats 0
namespace Go.EA
open F
def Qg:(List (List UInt8×Int))->List SV:=fun l=>[.one (.row (.pair .str (.int .i64)) l)]
def Xl:(List (List UInt8×Int))->SV×List Prop:=fun l=>(.one (.bool (CQ l)),[l.length<=1048576,SmX l])
def Tw:Con:=⟨true,[some (.pair .str (.int .i64))],fun xs=>match xs with | [.one (.row (.pair .str (.int .i64)) l)]=>some (Xl l) | _=>none⟩
noncomputable def MK:GP:=dC Qg Xl
theorem Np:∀a b,(Qg a).map aB=(Qg b).map aB->a=b:=by
 rintro a0 b0 h;simp only[Qg,zK,List.map_nil,aB,aW,zG,AV.one.injEq,AV.agg.injEq,Lf.int.injEq,Lf.str.injEq,Lf.bool.injEq,Lf.vrow.injEq,and_true,true_and] at h;exact dK h
theorem Ri:dM MK Tw:=bf Np (fun _ _=>rfl) (fun _=>rfl) fun xs r h=>by
 simp only[Tw] at h;split at h
 .cases h;rename_i l;exact⟨l,rfl,rfl⟩
 .cases h
theorem WA {S:SC}(hB:SB S)  (h277:S.has 277 f277):aO S 277 (aA MK):=by
 refine prM hB [] [] trivial trivial h277 (fun _=>⟨rfl,rfl,rfl⟩) (fun l=>fun f id T L=>match f,id with
  |277,0=>some (.inv { i:Nat // i<=l.length } (fun x=>([(8,.one (.int .i64 x.1)),(3,.one (.int .i64 (pq (l.take x.1))))],[])) (fun x=>l.length-x.1))
  |_,_=>none) 400 ?_
 rintro l hc;have hc1:l.length<=1048576:=hc.1;have hc2:SmX l:=hc.2.1;refine VC.use (p:=
  ((∃ x1:{ i:Nat // i≤l.length },
    ((l=l)/\
    ((0=pq (List.take x1.1 l))/\
    ((l=l)/\
    (((l.length:Int)=(l.length:Int))/\
    (0=(x1.1:Int)))))))/\
  (∀ x1 : { i : Nat // i ≤ l.length },
   (((↑x1.val:Int) < (↑l.length:Int) →
     ((0<=(x1.1:Int)/\(x1.1:Int)<(l.length:Int))/\
     ((aL (pq (List.take x1.1 l)+(↑(List.length (l.getD x1.1 ([],0)).1):Int)))/\
     ((aL ((x1.1:Int)+1))/\
     (∃ x2 : { i : Nat // i ≤ l.length },
      ((l.length-x2.1<l.length-x1.1)/\
      ((l=l)/\
      ((pq (List.take x1.1 l)+(↑(List.length (l.getD x1.1 ([],0)).1):Int)=pq (List.take x2.1 l))/\
      ((l=l)/\
      (((l.length:Int)=(l.length:Int))/\
      ((x1.1:Int)+1=(x2.1:Int))))))))))))/\
   (¬(↑x1.val : Int) < (↑l.length : Int) →
    ((60 < (↑l.length:Int) →
      (true=CQ l))/\
    (¬60 < (↑l.length : Int) →
     (decide (500<pq (List.take x1.1 l))=CQ l)))))))) (by kernel_rfl) ?_
 refine⟨⟨⟨0,Nat.zero_le _⟩,rfl,rfl,rfl,rfl,rfl⟩,?_⟩;rintro⟨i,hi⟩;dsimp only;obtain⟨b1,b2⟩:=FK hc2 i hi;have b3:=hc2.at i;refine⟨fun h=>⟨⟨by omega,h⟩,by unfold aL;omega,by unfold aL;omega,⟨i+1,by omega⟩,by dsimp only;omega,rfl,(wz (by omega)).symm,rfl,rfl,by push_cast;rfl⟩,fun h=>?_⟩;rw[List.take_of_length_le (by omega)];exact⟨fun h2=>by unfold CQ;rw[decide_eq_true h2];rfl,fun h2=>by unfold CQ;rw[decide_eq_false h2];rfl⟩
def TH:Unit->List SV:=fun _=>[]
def WW:Unit->SV×List Prop:=fun _=>(.one (.bool true),[])
def SF:Con:=⟨true,[],fun xs=>match xs with | []=>some (WW ()) | _=>none⟩
noncomputable def JW:GP:=dC TH WW
theorem Jk:∀a b,(TH a).map aB=(TH b).map aB->a=b:=by
 intro a b _;rfl
theorem Ox:dM JW SF:=bf Jk (fun _ _=>rfl) (fun _=>rfl) fun xs r h=>by
 simp only[SF] at h;split at h
 .cases h;exact⟨(),rfl,rfl⟩
 .cases h
theorem Xn {S:SC}(hB:SB S) (Hg:aO S 278 (aA DW)) (UX:aO S 281 (aA Jz)) (Tv:aO S 282 (aA Jc)) (SA:aO S 284 (aA LU)) (h289:S.has 289 f289) (h314:S.has 314 f314) (h276:S.has 276 f276):aO S 276 (aA JW):=by
 refine prM hB [(289,f289),(314,f314)] [⟨278,DW,Rm⟩,⟨281,Jz,VB⟩,⟨282,Jc,Ur⟩,⟨284,LU,UU⟩] ⟨h289,h314,trivial⟩ ⟨⟨Hg,FI⟩,⟨UX,PE⟩,⟨Tv,PD⟩,⟨SA,Qc⟩,trivial⟩ h276 (fun _=>⟨rfl,rfl,rfl⟩) (fun _=>fun _ _ _ _=>none) 1000 ?_;rintro _ hc;refine VC.use (p:=
  (((4:Nat)<=(1099511627776:Nat))/\
  ((SmW [([97,109],1),([97,110],1),([105,109],1),([105,110],1)])/\
  (((0:Int)=(0:Int) →
    (((0:Int)=(0:Int) →
      (((3:Int)=(3:Int) →
        (((4:Int)=(4:Int) →
          (((4:Int)=(4:Int) →
            (true=true))/\
          (¬(4 : Int) = (4 : Int) →
           (false=true))))/\
        (¬(4 : Int) = (4 : Int) →
         (false=true))))/\
      (¬(3 : Int) = (3 : Int) →
       (false=true))))/\
    (¬(0 : Int) = (0 : Int) →
     (false=true))))/\
  (¬(0 : Int) = (0 : Int) →
   (false=true)))))) (by kernel_rfl) ?_
 refine⟨by decide,by unfold SmW;decide,fun _=>⟨fun _=>⟨fun _=>⟨fun _=>⟨fun _=>rfl,fun h=>absurd rfl h⟩,fun h=>absurd rfl h⟩,fun h=>absurd rfl h⟩,fun h=>absurd rfl h⟩,fun h=>absurd rfl h⟩
end Go.EA
