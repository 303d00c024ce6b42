/- Layer 11: the law of counts. Conditions: none. -/
import Derived.Test.YtgkhohpekfjlmaaDoorEK31
import Derived.Test.YtgkhohpekfjlmaaDoorEK30
import Derived.KernelRfl
set_option linter.unusedVariables false
set_option linter.unusedSimpArgs false
set_option maxRecDepth 100000
set_option maxHeartbeats 0
namespace Go.EA
open F
theorem aa3 {S:SC}(hB:SB S) (Yq:aF S 300 (az JE)) (WO:aF S 305 (az MQ)) (Yk:aF S 487 (az Og)) (XC:aF S 488 (az NL)) (WU:aF S 489 (az Ng)) (VY:aF S 491 (az NU)) (VR:aF S 495 (az NK)) (h485:S.has 485 f485) (l:List (List UInt8×Int)) (s:List UInt8) (hl0:l.length<=1048576) (hs0:∀x∈l,x.1.length<=1048576) (hw0:s.length<=1048576):MF S 485 [] [aA (.one (.row (.pair .str (.int .i64)) l)),aA (.one (.str s))] (hl []) fun v _=>v=.one (.bool true):=
 mfM hB [] [⟨300,JE,XM⟩,⟨305,MQ,Yp⟩,⟨487,Og,VO⟩,⟨488,NL,VB⟩,⟨489,Ng,XF⟩,⟨491,NU,Vl⟩,⟨495,NK,Yc⟩] trivial ⟨⟨Yq,Tv⟩,⟨WO,Rb⟩,⟨Yk,Uj⟩,⟨XC,Tj⟩,⟨WU,Qu⟩,⟨VY,PT⟩,⟨VR,QV⟩,trivial⟩ h485 (v:=.one .tt) (xs:=[.one (.row (.pair .str (.int .i64)) l),.one (.str s)]) rfl rfl rfl (fun _ _ _ _=>none) 4000 (VC.use (p:=((!true)=true->false=true)/\(¬(!true)=true->l.length<=1048576/\SmX l/\s.length<=1099511627776/\(mdB l s->((!true)=true->True)/\(¬(!true)=true->NwD (List.map stD (dE (aT l))) (List.map (fun x=>x.2) (aT l))/\s.length<=1099511627776/\((coE (wdA (List.map stD (dE (aT l))) (List.map (fun x=>x.2) (aT l))) s).2=0->(aT l).length<=1099511627776/\SmW (aT l)/\NwD (List.map stD (dE (aT l))) (List.map (fun x=>x.2) (aT l))/\s.length<=1099511627776/\mU (List.map stD (dE (aT l)))/\s.length<=1099511627776/\(isE (aT l)=0->aB (kV (aT l) s-kW (aT l) s)/\((coE (wdA (List.map stD (dE (aT l))) (List.map (fun x=>x.2) (aT l))) s).1=kV (aT l) s-kW (aT l) s->((cmE (wdA (List.map stD (dE (aT l))) (List.map (fun x=>x.2) (aT l))) s 1000).2=0->(0<=kW (aT l) s/\kW (aT l) s<=kV (aT l) s/\kV (aT l) s<=(↑(aT l).length:Int))/\(cmE (wdA (List.map stD (dE (aT l))) (List.map (fun x=>x.2) (aT l))) s 1000).1.length<=1099511627776/\(aC (aT l) (some (kW (aT l) s)) (some (kV (aT l) s))).length<=1099511627776/\(oP (cmE (wdA (List.map stD (dE (aT l))) (List.map (fun x=>x.2) (aT l))) s 1000).1 (aC (aT l) (some (kW (aT l) s)) (some (kV (aT l) s)))=true->(0<(coE (wdA (List.map stD (dE (aT l))) (List.map (fun x=>x.2) (aT l))) s).1->decide (decide ((stE (List.map stD (dE (aT l))) s).2=0)=true)=true)/\(¬0<(coE (wdA (List.map stD (dE (aT l))) (List.map (fun x=>x.2) (aT l))) s).1->decide (decide ((stE (List.map stD (dE (aT l))) s).2=0)=decide (s=[]))=true))/\(¬oP (cmE (wdA (List.map stD (dE (aT l))) (List.map (fun x=>x.2) (aT l))) s 1000).1 (aC (aT l) (some (kW (aT l) s)) (some (kV (aT l) s)))=true->false=true))/\(¬(cmE (wdA (List.map stD (dE (aT l))) (List.map (fun x=>x.2) (aT l))) s 1000).2=0->false=true))/\(¬(coE (wdA (List.map stD (dE (aT l))) (List.map (fun x=>x.2) (aT l))) s).1=kV (aT l) s-kW (aT l) s->false=true))/\(¬isE (aT l)=0->false=true))/\(¬(coE (wdA (List.map stD (dE (aT l))) (List.map (fun x=>x.2) (aT l))) s).2=0->decide ((coE (wdA (List.map stD (dE (aT l))) (List.map (fun x=>x.2) (aT l))) s).1=0)=true)))/\(¬mdB l s->((!false)=true->True)/\(¬(!false)=true->False)))) (by kernel_rfl) (by
  have hx:SmX l:=fun x hx=>hs0 x hx
  have hn1:=Nat.le_trans (sP l) hl0;have hn2:SmX (aT l):=Fz hx;have hn3:SmW (aT l):=fun x hx=>Nat.le_trans (hn2 x hx) (by decide)
  refine⟨fun h=>(by cases h),fun _=>⟨hl0,hx,by omega,fun hm=>⟨fun h=>(by cases h),fun _=>?_⟩,fun _=>⟨fun _=>trivial,fun h=>absurd rfl h⟩⟩⟩;obtain⟨⟨hm1,hm2⟩,hz⟩:=hm;obtain⟨e1,e2,e3⟩:=Cv hz;have he:isE (aT l)=0:=by rw[e1];exact e3
  have hN:NwD (List.map stD (dE (aT l))) (List.map (fun x=>x.2) (aT l)):=⟨aT l,he,rfl,rfl⟩;have hwd:wdA (List.map stD (dE (aT l))) (List.map (fun x=>x.2) (aT l))=aT l:=oK he;have hr:jF (aT l):=(ma.1 he).2.1;obtain⟨q1,q2,_,_⟩:=gy (aT l) s;obtain⟨hA,hB⟩:=Ot he s;have hl60:=sP l;rw[hwd,hA,hB];refine⟨hN,by omega,fun h0=>?_,fun h0=>?_⟩
  .have ht:tkE s=0:=by
    by_cases ht:tkE s=0
    .exact ht
    .rw[JD ht] at h0;exact absurd h0 ht
   have hst:=QO he ht;have hcm:cmE (aT l) s 1000=(((aT l).drop (aO (aT l) s)).take (bV (aT l) s-aO (aT l) s),0):=by
    rw[ZX ht ⟨by decide,by decide⟩,show min (bV (aT l) s-aO (aT l) s) (1000:Int).toNat=bV (aT l) s-aO (aT l) s from Nat.min_eq_left (by show _<=1000;omega)]
   have hcut:aC (aT l) (some (aO (aT l) s:Int)) (some (bV (aT l) s:Int))=((aT l).drop (aO (aT l) s)).take (bV (aT l) s-aO (aT l) s):=rfl;rw[UN ht,hcm,hcut];refine⟨by omega,hn3,hN,by omega,hN.p.ok,by omega,fun _=>⟨by unfold aB;omega,fun _=>⟨fun _=>⟨⟨by omega,by omega,by omega⟩,by dsimp only;rw[zP,List.length_drop];omega,by rw[zP,List.length_drop];omega,fun _=>⟨fun h1=>?_,fun h1=>?_⟩,fun h=>absurd (decide_eq_true rfl) h⟩,fun h=>absurd rfl h⟩,fun h=>absurd rfl h⟩,fun h=>absurd he h⟩
   .unfold QP at h1;rw[decide_eq_true (hst.2 (.inl (by dsimp only at h1;omega)))];rfl
   .unfold QP at h1;refine decide_eq_true ?_;rw[decide_eq_decide,hst];exact⟨fun h=>h.elim (fun h=>absurd h (by dsimp only at h1;omega)) id,.inr⟩
  .have ht:tkE s≠0:=fun ht=>h0 (by rw[UN ht])
   rw[JD ht];rfl))
end Go.EA
