/- Layer 10: the example, and how great words are. Conditions: none. -/
import Derived.Test.YtpgjilomblpcpaaDoorEK23
import Derived.Test.YtpgjilomblpcpaaDoorEDf
import Derived.KernelRfl
set_option linter.unusedVariables false
set_option linter.unusedSimpArgs false
set_option maxRecDepth 100000
set_option maxHeartbeats 0
namespace Go.EA
open F
def Pv:(List (List UInt8×Int))->List SV:=fun l=>[.one (.row (.pair .str (.int .i64)) l)]
def WU:(List (List UInt8×Int))->SV×List Prop:=fun l=>(.one (.bool (Di l)),[l.length<=1048576,SmX l])
def Td:Con:=⟨true,[some (.pair .str (.int .i64))],fun xs=>match xs with | [.one (.row (.pair .str (.int .i64)) l)]=>some (WU l) | _=>none⟩
noncomputable def LJ:GP:=fH Pv WU
theorem JP:∀a b,(Pv a).map aH=(Pv b).map aH->a=b:=by
 rintro a0 b0 h;simp only[Pv,zK,List.map_nil,aH,bi,zG,AV.one.injEq,AV.agg.injEq,Lf.int.injEq,Lf.str.injEq,Lf.bool.injEq,Lf.vrow.injEq,and_true,true_and] at h;exact gG h
theorem QQ:gH LJ Td:=bP JP (fun _ _=>rfl) (fun _=>rfl) fun xs r h=>by
 simp only[Td] at h;split at h
 .cases h;rename_i l;exact⟨l,rfl,rfl⟩
 .cases h
theorem Vz {S:SC}(hB:SB S)  (h277:S.has 277 f277):aX S 277 (aI LJ):=by
 refine prM hB [] [] trivial trivial h277 (fun _=>⟨rfl,rfl,rfl⟩) (fun l=>fun f id T L=>match f,id with
  |277,0=>some (.inv { i:Nat // i<=l.length } (fun x=>([(8,.one (.int .i64 x.1)),(3,.one (.int .i64 (qA (l.take x.1))))],[])) (fun x=>l.length-x.1))
  |_,_=>none) 400 ?_
 rintro l hc;have hc1:l.length<=1048576:=hc.1;have hc2:SmX l:=hc.2.1;refine VC.use (p:=
  ((∃ x1:{ i:Nat // i≤l.length },
    ((l=l)/\
    ((0=qA (List.take x1.1 l))/\
    ((l=l)/\
    (((l.length:Int)=(l.length:Int))/\
    (0=(x1.1:Int)))))))/\
  (∀ x1 : { i : Nat // i ≤ l.length },
   (((↑x1.val:Int) < (↑l.length:Int) →
     ((0<=(x1.1:Int)/\(x1.1:Int)<(l.length:Int))/\
     ((ak (qA (List.take x1.1 l)+(↑(List.length (l.getD x1.1 ([],0)).1):Int)))/\
     ((ak ((x1.1:Int)+1))/\
     (∃ x2 : { i : Nat // i ≤ l.length },
      ((l.length-x2.1<l.length-x1.1)/\
      ((l=l)/\
      ((qA (List.take x1.1 l)+(↑(List.length (l.getD x1.1 ([],0)).1):Int)=qA (List.take x2.1 l))/\
      ((l=l)/\
      (((l.length:Int)=(l.length:Int))/\
      ((x1.1:Int)+1=(x2.1:Int))))))))))))/\
   (¬(↑x1.val : Int) < (↑l.length : Int) →
    ((60 < (↑l.length:Int) →
      (true=Di l))/\
    (¬60 < (↑l.length : Int) →
     (decide (500<qA (List.take x1.1 l))=Di l)))))))) (by kernel_rfl) ?_
 refine⟨⟨⟨0,Nat.zero_le _⟩,rfl,rfl,rfl,rfl,rfl⟩,?_⟩;rintro⟨i,hi⟩;dsimp only;obtain⟨b1,b2⟩:=FJ hc2 i hi;have b3:=hc2.at i;refine⟨fun h=>⟨⟨by omega,h⟩,by unfold ak;omega,by unfold ak;omega,⟨i+1,by omega⟩,by dsimp only;omega,rfl,(vz (by omega)).symm,rfl,rfl,by push_cast;rfl⟩,fun h=>?_⟩;rw[List.take_of_length_le (by omega)];exact⟨fun h2=>by unfold Di;rw[decide_eq_true h2];rfl,fun h2=>by unfold Di;rw[decide_eq_false h2];rfl⟩
def Ta:Unit->List SV:=fun _=>[]
def VP:Unit->SV×List Prop:=fun _=>(.one (.bool true),[])
def Sn:Con:=⟨true,[],fun xs=>match xs with | []=>some (VP ()) | _=>none⟩
noncomputable def JZ:GP:=fH Ta VP
theorem Lb:∀a b,(Ta a).map aH=(Ta b).map aH->a=b:=by
 intro a b _;rfl
theorem Pe:gH JZ Sn:=bP Lb (fun _ _=>rfl) (fun _=>rfl) fun xs r h=>by
 simp only[Sn] at h;split at h
 .cases h;exact⟨(),rfl,rfl⟩
 .cases h
theorem VR {S:SC}(hB:SB S) (Ic:aX S 278 (aI Dv)) (UG:aX S 281 (aI Jr)) (Ul:aX S 282 (aI Je)) (Uo:aX S 284 (aI LG)) (h289:S.has 289 f289) (h314:S.has 314 f314) (h276:S.has 276 f276):aX S 276 (aI JZ):=by
 refine prM hB [(289,f289),(314,f314)] [⟨278,Dv,Qj⟩,⟨281,Jr,UI⟩,⟨282,Je,UM⟩,⟨284,LG,UE⟩] ⟨h289,h314,trivial⟩ ⟨⟨Ic,ES⟩,⟨UG,QE⟩,⟨Ul,PR⟩,⟨Uo,OU⟩,trivial⟩ h276 (fun _=>⟨rfl,rfl,rfl⟩) (fun _=>fun _ _ _ _=>none) 1000 ?_;rintro _ hc;refine VC.use (p:=
  (((4:Nat)<=(1099511627776:Nat))/\
  ((SmW [([97,109],1),([97,110],1),([105,109],1),([105,110],1)])/\
  (((0:Int)=(0:Int) →
    (((0:Int)=(0:Int) →
      (((3:Int)=(3:Int) →
        (((4:Int)=(4:Int) →
          (((4:Int)=(4:Int) →
            (true=true))/\
          (¬(4 : Int) = (4 : Int) →
           (false=true))))/\
        (¬(4 : Int) = (4 : Int) →
         (false=true))))/\
      (¬(3 : Int) = (3 : Int) →
       (false=true))))/\
    (¬(0 : Int) = (0 : Int) →
     (false=true))))/\
  (¬(0 : Int) = (0 : Int) →
   (false=true)))))) (by kernel_rfl) ?_
 refine⟨by decide,by unfold SmW;decide,fun _=>⟨fun _=>⟨fun _=>⟨fun _=>⟨fun _=>rfl,fun h=>absurd rfl h⟩,fun h=>absurd rfl h⟩,fun h=>absurd rfl h⟩,fun h=>absurd rfl h⟩,fun h=>absurd rfl h⟩
end Go.EA
