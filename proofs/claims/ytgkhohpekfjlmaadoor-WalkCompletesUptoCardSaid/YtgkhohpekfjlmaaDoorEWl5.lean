/- Layer 11: the law of completions and of parts. Conditions: none. -/
import Derived.Test.YtgkhohpekfjlmaaDoorEK31
import Derived.Test.YtgkhohpekfjlmaaDoorEK30
import Derived.Test.YtgkhohpekfjlmaaDoorEW32
import Derived.KernelRfl
set_option linter.unusedVariables false
set_option linter.unusedSimpArgs false
set_option maxRecDepth 100000
set_option maxHeartbeats 0
namespace Go.EA
open F
theorem abl {S:SC}(hB:SB S) (Va:aG S 300 (az Pw)) (q32:aG S 32 (az G32)) (VF:aG S 487 (az Oy)) (Xu:aG S 488 (az Lv)) (Yx:aG S 495 (az OH)) (Vp:aG S 496 (az Lt)) (Jm:aG S 497 (az Eb)) (WT:aG S 498 (az Ms)) (h482:S.has 482 f482) (l:List (List UInt8×Int)) (s:List UInt8) (k:Int) (hl0:l.length<=1048576) (hs0:∀x∈l,x.1.length<=1048576) (hw0:s.length<=1048576):MF S 482 [] [aB (.one (.row (.pair .str (.int .i64)) l)),aB (.one (.str s)),aB (.one (.int .i64 k))] (hl []) fun v _=>v=.one (.bool true):=
 mfM hB [] [⟨300,Pw,Xv⟩,⟨32,G32,K32⟩,⟨487,Oy,XI⟩,⟨488,Lv,Xz⟩,⟨495,OH,VR⟩,⟨496,Lt,Xe⟩,⟨497,Eb,TS⟩,⟨498,Ms,XU⟩] trivial ⟨⟨Va,SG⟩,⟨q32,Vg⟩,⟨VF,QU⟩,⟨Xu,QN⟩,⟨Yx,TA⟩,⟨Vp,Si⟩,⟨Jm,FX⟩,⟨WT,PT⟩,trivial⟩ h482 (v:=.one .tt) (xs:=[.one (.row (.pair .str (.int .i64)) l),.one (.str s),.one (.int .i64 k)]) rfl rfl rfl (fun _ _ _ _=>none) 4000 (VC.use (p:=((!true)=true->false=true)/\(¬(!true)=true->l.length<=1048576/\SmX l/\s.length<=1099511627776/\(mdB l s->((!true)=true->True)/\(¬(!true)=true->NwD (List.map stD (bM (bv l))) (List.map (fun x=>x.2) (bv l))/\s.length<=1099511627776/\(bv l).length<=1048576/\s.length<=1099511627776/\NwD (List.map stD (bM (bv l))) (List.map (fun x=>x.2) (bv l))/\s.length<=1099511627776/\isE (bv l)=0/\s.length<=1048576/\(cmE (wdA (List.map stD (bM (bv l))) (List.map (fun x=>x.2) (bv l))) s k).1.length<=1099511627776/\(cmR (bv l) s k).1.length<=1099511627776/\(oH (cmE (wdA (List.map stD (bM (bv l))) (List.map (fun x=>x.2) (bv l))) s k).1 (cmR (bv l) s k).1=true->((cmE (wdA (List.map stD (bM (bv l))) (List.map (fun x=>x.2) (bv l))) s k).2=(cmR (bv l) s k).2->(spE (List.map stD (bM (bv l))) s).1.length<=1099511627776/\(decide ((spE (List.map stD (bM (bv l))) s).1=(biE (bv l) s).1)=true->decide ((spE (List.map stD (bM (bv l))) s).2=(biE (bv l) s).2)=true)/\(¬decide ((spE (List.map stD (bM (bv l))) s).1=(biE (bv l) s).1)=true->false=true))/\(¬(cmE (wdA (List.map stD (bM (bv l))) (List.map (fun x=>x.2) (bv l))) s k).2=(cmR (bv l) s k).2->false=true))/\(¬oH (cmE (wdA (List.map stD (bM (bv l))) (List.map (fun x=>x.2) (bv l))) s k).1 (cmR (bv l) s k).1=true->false=true)))/\(¬mdB l s->((!false)=true->True)/\(¬(!false)=true->False)))) (by kernel_rfl) (by
  have hx:SmX l:=fun x hx=>hs0 x hx
  have hn1:=Nat.le_trans (CP l) hl0;have hn2:SmX (bv l):=GY hx;have hn3:SmW (bv l):=fun x hx=>Nat.le_trans (hn2 x hx) (by decide)
  refine⟨fun h=>(by cases h),fun _=>⟨hl0,hx,by omega,fun hm=>⟨fun h=>(by cases h),fun _=>?_⟩,fun _=>⟨fun _=>trivial,fun h=>absurd rfl h⟩⟩⟩;obtain⟨⟨hm1,hm2⟩,hz⟩:=hm;obtain⟨e1,e2,e3⟩:=Bu hz;have he:isE (bv l)=0:=by rw[e1];exact e3
  have hN:NwD (List.map stD (bM (bv l))) (List.map (fun x=>x.2) (bv l)):=⟨bv l,he,rfl,rfl⟩;have hwd:wdA (List.map stD (bM (bv l))) (List.map (fun x=>x.2) (bv l))=bv l:=oU he;have hr:nk (bv l):=(pJ.1 he).2.1;have hcl:(cmR (bv l) s k).1.length<=(bv l).length:=by
   unfold cmR cmF;split
   .split
    .exact Nat.le_trans (by rw[zP];exact Nat.min_le_right _ _) (List.length_filter_le ..)
    .exact Nat.zero_le _
   .exact Nat.zero_le _
  have hbl:(biE (bv l) s).1.length<=s.length:=by
   unfold biE;split
   .cases hq:(bsT (bv l) s).getD 0 none with
    |none=>exact Nat.zero_le _
    |some r=>exact xM _ _ _ _ hq
   .exact Nat.zero_le _
  rw[hwd,ZC hr,aaA he];exact⟨hN,by omega,by omega,by omega,hN,by omega,he,hw0,by omega,by omega,fun _=>⟨fun _=>⟨by omega,fun _=>decide_eq_true rfl,fun h=>absurd (decide_eq_true rfl) h⟩,fun h=>absurd rfl h⟩,fun h=>absurd (decide_eq_true rfl) h⟩))
end Go.EA
