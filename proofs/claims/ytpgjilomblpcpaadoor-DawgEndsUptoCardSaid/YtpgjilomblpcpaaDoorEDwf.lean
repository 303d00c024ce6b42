/- Layer 10: the law that just words end. Conditions: none. -/
import Derived.Test.YtpgjilomblpcpaaDoorEDwe
import Derived.Test.YtpgjilomblpcpaaDoorEDj
import Derived.Test.YtpgjilomblpcpaaDoorEK25
import Derived.Test.YtpgjilomblpcpaaDoorELx5
import Derived.Test.YtpgjilomblpcpaaDoorELx2
import Derived.KernelRfl
set_option linter.unusedVariables false
set_option linter.unusedSimpArgs false
set_option maxRecDepth 100000
set_option maxHeartbeats 0
namespace Go.EA
open F
def Rs:(List ((List (Int×Int))×Bool×Int))×Int×List (Int)×List Int->List SV:=fun(d0,d1,d2,l)=>[.one (.vptr (.pair (.row (.pair (.row (.pair (.int .i32) (.int .i64))) (.pair .bool (.int .i64)))) (.pair (.int .i64) (.row (.int .i64)))) (d0,d1,d2) 0),.one (.row (.int .i32) l)]
def XB:(List ((List (Int×Int))×Bool×Int))×Int×List (Int)×List Int->SV×List Prop:=fun(d0,d1,d2,l)=>(.tup [.o (.int .i64 (wlk d0 l 0).1),.o (.bool (wlk d0 l 0).2)],[uS d0,l.length<=1099511627776,∀r∈l,Utf8.valid r=true])
def UW:Con:=⟨true,[some (.pair (.row (.pair (.row (.pair (.int .i32) (.int .i64))) (.pair .bool (.int .i64)))) (.pair (.int .i64) (.row (.int .i64)))),some (.int .i32)],fun xs=>match xs with | [.one (.vptr (.pair (.row (.pair (.row (.pair (.int .i32) (.int .i64))) (.pair .bool (.int .i64)))) (.pair (.int .i64) (.row (.int .i64)))) (d0,d1,d2) 0),.one (.row (.int .i32) l)]=>some (XB (d0,d1,d2,l)) | _=>none⟩
noncomputable def Jf:GP:=dC Rs XB
theorem Lr:∀a b,(Rs a).map aB=(Rs b).map aB->a=b:=by
 rintro⟨a0,a1,a2,a3⟩ ⟨b0,b1,b2,b3⟩ h;simp only[Rs,zK,List.map_nil,aB,aW,List.drop_zero,zG,AV.one.injEq,AV.agg.injEq,Lf.int.injEq,Lf.str.injEq,Lf.bool.injEq,Lf.vrow.injEq,Lf.vptr.injEq,and_true,true_and,and_assoc] at h;obtain⟨h0,h1⟩:=h;have h0:=Ty.enc_inj _ h0;simp only[zF] at h0;obtain⟨rfl,rfl,rfl⟩:=h0;obtain rfl:=dK h1
 rfl
theorem Qy:dM Jf UW:=bf Lr (fun⟨_,_,_,_⟩ ⟨_,_,_,_⟩=>rfl) (fun⟨_,_,_,_⟩=>rfl) fun xs r h=>by
 simp only[UW] at h;split at h
 .cases h;rename_i d0 d1 d2 l;exact⟨(d0,d1,d2,l),rfl,rfl⟩
 .cases h
theorem XA {S:SC}(hB:SB S) (TG:aO S 289 (aA Ig)) (h304:S.has 304 f304):aO S 304 (aA Jf):=by
 refine prM hB [] [⟨289,Ig,SE⟩] trivial ⟨⟨TG,OL⟩,trivial⟩ h304 (fun⟨d0,d1,d2,l⟩=>⟨rfl,rfl,rfl⟩) (fun(d0,d1,d2,l)=>fun f id T L=>match f,id with
  |304,0=>some (.inv { x:Nat×Nat // x.1<=l.length/\x.2<d0.length/\wlk d0 l 0=wlk d0 (l.drop x.1) x.2 } (fun x=>([(13,.one (.int .i64 x.1.1)),(6,.one (.int .i64 x.1.2))],[])) (fun x=>l.length-x.1.1))
  |_,_=>none) 1000 ?_
 rintro⟨d0,d1,d2,l⟩ hc;have hc1:uS d0:=hc.1;have hc2:l.length<=1099511627776:=hc.2.1;have hc3:∀r∈l,Utf8.valid r=true:=hc.2.2.1;refine VC.use (p:=
  ((∃ x1:{ x:Nat×Nat // x.fst≤l.length∧x.snd < d0.length∧wlk d0 l 0=wlk d0 (List.drop x.fst l) (↑x.snd:Int) },
    (((d0,d1,d2)=(d0,d1,d2))/\
    ((0=(x1.1.2:Int))/\
    ((l=l)/\
    (((l.length:Int)=(l.length:Int))/\
    (0=(x1.1.1:Int)))))))/\
  (∀ x1 : { x : Nat × Nat // x.fst ≤ l.length ∧ x.snd < d0.length ∧ wlk d0 l 0 = wlk d0 (List.drop x.fst l) (↑x.snd : Int) },
   (((↑x1.val.fst:Int) < (↑l.length:Int) →
     ((0<=(x1.1.1:Int)/\(x1.1.1:Int)<(l.length:Int))/\
     ((EdS d0)/\
     ((IR (l.getD x1.1.1 0))/\
     (((if 0≤(↑x1.val.snd:Int)∧(↑x1.val.snd:Int) < (↑d0.length:Int) then if dU   (stA d0 x1.val.snd).fst (l.getD x1.val.fst 0)=true then (0:Int) else (10:Int) else 2)=0 →
       ((aL ((x1.1.1:Int)+1))/\
       (∃ x2 : { x : Nat × Nat // x.fst ≤ l.length ∧ x.snd < d0.length ∧ wlk d0 l 0 = wlk d0 (List.drop x.fst l) (↑x.snd : Int) },
        ((l.length-x2.1.1<l.length-x1.1.1)/\
        (((d0,d1,d2)=(d0,d1,d2))/\
        (((if 0<=(x1.1.2:Int)/\(x1.1.2:Int)<(d0.length:Int) then iG (stA d0 x1.1.2).1 (l.getD x1.1.1 0) else 0)=(x2.1.2:Int))/\
        ((l=l)/\
        (((l.length:Int)=(l.length:Int))/\
        ((x1.1.1:Int)+1=(x2.1.1:Int))))))))))/\
     (¬(if 0 ≤ (↑x1.val.snd : Int) ∧ (↑x1.val.snd : Int) < (↑d0.length : Int) then if dU   (stA d0 x1.val.snd).fst (l.getD x1.val.fst 0) = true then (0 : Int) else (10 : Int) else 2) = 0 →
      ((0=(wlk d0 l 0).1)/\
      (false=(wlk d0 l 0).2))))))))/\
   (¬(↑x1.val.fst : Int) < (↑l.length : Int) →
    (((x1.1.2:Int)=(wlk d0 l 0).1)/\
    (true=(wlk d0 l 0).2))))))) (by kernel_rfl) ?_
 have hp0:=hc1.pos;refine⟨⟨⟨(0,0),Nat.zero_le _,hp0,rfl⟩,rfl,rfl,rfl,rfl,rfl⟩,?_⟩;rintro⟨⟨k,i⟩,x1,x2,x3⟩;dsimp only at x1 x2 x3 ⊢;refine⟨fun h=>?_,fun h=>?_⟩
 .have hk:k<l.length:=by omega
  have hv:Utf8.valid (l.getD k 0)=true:=hc3 _ (iy hk);have hIR:IR (l.getD k 0):=by have:=bE.1 hv;unfold IR;omega
  have hp:0<=(i:Int)/\(i:Int)<(d0.length:Int):=⟨by omega,by omega⟩;rw[gX hk] at x3;generalize l.getD k 0=r at x3 hIR ⊢;have x3:wlk d0 l 0=if dU (stA d0 (i:Int).toNat).1 r=true then wlk d0 (l.drop (k+1)) (iG (stA d0 (i:Int).toNat).1 r) else (0,false):=x3
  rw[Int.toNat_natCast] at x3;simp only[if_pos hp];refine⟨⟨by omega,h⟩,hc1.eds,hIR,fun h2=>?_,fun h2=>?_⟩
  .have hn:dU (stA d0 i).1 r=true:=by
    by_cases hn:dU (stA d0 i).1 r=true
    .exact hn
    .rw[if_neg hn] at h2;cases h2
   rw[if_pos hn] at x3;have hto:=hc1.to i x2 _ (rU hn);dsimp only at hto;refine⟨by unfold aL;omega,⟨(k+1,(iG (stA d0 i).1 r).toNat),hk,by dsimp only;omega,?_⟩,by dsimp only;omega,trivial,by dsimp only;omega,trivial,trivial,by push_cast;rfl⟩;dsimp only;rw[x3,Int.toNat_of_nonneg hto.1]
  .have hn:¬ dU (stA d0 i).1 r=true:=fun hn=>h2 (by rw[if_pos hn])
   rw[if_neg hn] at x3;rw[x3];exact⟨rfl,rfl⟩
 .rw[List.drop_of_length_le (by omega)] at x3;rw[x3];exact⟨rfl,rfl⟩
theorem Ya {S:SC}(hB:SB S) (Vu:aO S 276 (aA JW)) (VG:aO S 277 (aA MK)) (Hg:aO S 278 (aA DW)) (UZ:aO S 286 (aA Mr)) (UG:aO S 291 (aA IP)) (Uu:aO S 303 (aA Lg)) (UE:aO S 304 (aA Jf)) (Uj:aO S 305 (aA Nf)) (q17:aO S 17 (aA G17)) (h271:S.has 271 f271) (l:List (List UInt8×Int)) (s:List UInt8) (hl0:l.length<=1048576) (hs0:∀x∈l,x.1.length<=1048576):MF S 271 [] [aB (.one (.row (.pair .str (.int .i64)) l)),aB (.one (.str s))] (hl []) fun v _=>v=.one (.bool true):=
 mfM hB [] [⟨276,JW,SF⟩,⟨277,MK,Tw⟩,⟨278,DW,Rm⟩,⟨286,Mr,Uw⟩,⟨291,IP,Ui⟩,⟨303,Lg,Vs⟩,⟨304,Jf,UW⟩,⟨305,Nf,Vm⟩,⟨17,G17,K17⟩] trivial ⟨⟨Vu,Ox⟩,⟨VG,Ri⟩,⟨Hg,FI⟩,⟨UZ,NR⟩,⟨UG,QD⟩,⟨Uu,Rk⟩,⟨UE,Qy⟩,⟨Uj,Om⟩,⟨q17,DV⟩,trivial⟩ h271 (v:=.one .tt) (xs:=[.one (.row (.pair .str (.int .i64)) l),.one (.str s)]) rfl rfl rfl (fun f id T L=>match f,id with
  |271,0=>some (.inv { i:Nat // i<=(az l).length } (fun x=>([(103,.one (.int .i64 x.1))],[])) (fun x=>(az l).length-x.1))
  |271,4097=>match T.getD 6 .junk with | v=>some (.cut { b:Bool // b=decide (eO (az l) s=0) } fun x=>([(17,.one (.bool x.1))],[]))
  |_,_=>none) 4000 (VC.use (p:=
  (((!true)=true →
    (false=true))/\
  (¬(!true) = true →
   ((l.length<=1099511627776)/\
   ((SmW l)/\
   (((az l).length<=1048576)/\
   ((SmX (az l))/\
   ((CQ   (az   l)=true →
     True)/\
   (¬CQ   (az   l) = true →
    ((300 < (↑s.length:Int) →
      True)/\
    (¬300 < (↑s.length : Int) →
     ((kL   l=0 →
       (((az l).length<=1099511627776)/\
       ((SmW (az l))/\
       ((isE (az   l)=0 →
         ((s.length<=1099511627776)/\
         (((0:Int)=(0:Int) →
           ((bN   s=0 →
             ((uS (List.map stD (bu (az l))))/\
             (((aC s).length<=1099511627776)/\
             ((∀(r:Int),r∈aC s->Utf8.valid r=true)/\
             (((az l).length<=1099511627776)/\
             ((SmW (az l))/\
             ((qO   (az   l) s < qL   (az   l) s →
               (((!decide ((wlk (List.map stD (bu   (az   l))) (aC   s) 0).snd=true))=true →
                 (false=true))/\
               (¬(!decide ((wlk (List.map stD (bu   (az   l))) (aC   s) 0).snd = true)) = true →
                (((az l).length<=1099511627776)/\
                ((SmW (az l))/\
                ((((wlk (List.map stD (bu   (az   l))) (aC   s) 0).snd = true →
                   (∃ x1 : { b : Bool // b = decide (eO   (az   l) s = 0) },
                    ((az l=az l)/\
                    ((jq (az l)=jq (az l))/\
                    ((eO (az l) s=eO (az l) s)/\
                    ((decide (0<=(wlk (List.map stD (bu (az l))) (aC s) 0).1/\(wlk (List.map stD (bu (az l))) (aC s) 0).1<(↑(List.map stD (bu (az l))).length:Int))&&(stA (List.map stD (bu (az l))) (wlk (List.map stD (bu (az l))) (aC s) 0).1.toNat).2.1)=x1.1))))))/\
                 (¬(wlk (List.map stD (bu   (az   l))) (aC   s) 0).snd = true →
                  (∃ x1 : { b : Bool // b = decide (eO   (az   l) s = 0) },
                   ((az l=az l)/\
                   ((jq (az l)=jq (az l))/\
                   ((eO (az l) s=eO (az l) s)/\
                   (false=x1.1)))))))/\
                (∀ x1 : { b : Bool // b = decide (eO   (az   l) s = 0) },
                 (((!decide (x1.val=decide (eO   (az   l) s=0)))=true →
                   (false=true))/\
                 (¬(!decide (x1.val = decide (eO   (az   l) s = 0))) = true →
                  ((∃ x2:{ i:Nat // i≤(az   l).length },
                    ((jq (az l)=jq (az l))/\
                    ((az l=az l)/\
                    (((↑(az l).length:Int)=(↑(az l).length:Int))/\
                    (0=(x2.1:Int))))))/\
                  (∀ x2 : { i : Nat // i ≤ (az   l).length },
                   (((↑x2.val:Int) < (↑(az   l).length:Int) →
                     ((0<=(x2.1:Int)/\(x2.1:Int)<(↑(az l).length:Int))/\
                     ((List.length ((az l).getD x2.1 ([],0)).1<=1099511627776)/\
                     ((uS (List.map stD (bu (az l))))/\
                     (((aC ((az l).getD x2.1 ([],0)).1).length<=1099511627776)/\
                     ((∀(r:Int),r∈aC ((az l).getD x2.1 ([],0)).1->Utf8.valid r=true)/\
                     (((!(wlk (List.map stD (bu   (az   l))) (aC   ((az   l).getD x2.val ([],0)).fst) 0).snd)=true →
                       (false=true))/\
                     (¬(!(wlk (List.map stD (bu   (az   l))) (aC   ((az   l).getD x2.val ([], 0)).fst) 0).snd) = true →
                      (((!(decide (0≤(wlk (List.map stD (bu   (az   l))) (aC   ((az   l).getD x2.val ([],0)).fst) 0).fst∧(wlk (List.map stD (bu   (az   l))) (aC   ((az   l).getD x2.val ([],0)).fst) 0).fst < (↑(List.map stD (bu   (az   l))).length:Int))&&(stA (List.map stD (bu   (az   l))) (wlk (List.map stD (bu   (az   l))) (aC   ((az   l).getD x2.val ([],0)).fst) 0).fst.toNat).snd.fst))=true →
                        (false=true))/\
                      (¬(!(decide (0 ≤ (wlk (List.map stD (bu   (az   l))) (aC   ((az   l).getD x2.val ([], 0)).fst) 0).fst ∧ (wlk (List.map stD (bu   (az   l))) (aC   ((az   l).getD x2.val ([], 0)).fst) 0).fst < (↑(List.map stD (bu   (az   l))).length : Int)) && (stA (List.map stD (bu   (az   l))) (wlk (List.map stD (bu   (az   l))) (aC   ((az   l).getD x2.val ([], 0)).fst) 0).fst.toNat).snd.fst)) = true →
                       ((aL ((x2.1:Int)+1))/\
                       (∃ x3 : { i : Nat // i ≤ (az   l).length },
                        (((az l).length-x3.1<(az l).length-x2.1)/\
                        ((jq (az l)=jq (az l))/\
                        ((az l=az l)/\
                        (((↑(az l).length:Int)=(↑(az l).length:Int))/\
                        ((x2.1:Int)+1=(x3.1:Int))))))))))))))))))/\
                   (¬(↑x2.val : Int) < (↑(az   l).length : Int) →
                    True)))))))))))))/\
             (¬qO   (az   l) s < qL   (az   l) s →
              (((!decide ((wlk (List.map stD (bu   (az   l))) (aC   s) 0).snd=decide (s=[])))=true →
                (false=true))/\
              (¬(!decide ((wlk (List.map stD (bu   (az   l))) (aC   s) 0).snd = decide (s = []))) = true →
               (((az l).length<=1099511627776)/\
               ((SmW (az l))/\
               ((((wlk (List.map stD (bu   (az   l))) (aC   s) 0).snd = true →
                  (∃ x1 : { b : Bool // b = decide (eO   (az   l) s = 0) },
                   ((az l=az l)/\
                   ((jq (az l)=jq (az l))/\
                   ((eO (az l) s=eO (az l) s)/\
                   ((decide (0<=(wlk (List.map stD (bu (az l))) (aC s) 0).1/\(wlk (List.map stD (bu (az l))) (aC s) 0).1<(↑(List.map stD (bu (az l))).length:Int))&&(stA (List.map stD (bu (az l))) (wlk (List.map stD (bu (az l))) (aC s) 0).1.toNat).2.1)=x1.1))))))/\
                (¬(wlk (List.map stD (bu   (az   l))) (aC   s) 0).snd = true →
                 (∃ x1 : { b : Bool // b = decide (eO   (az   l) s = 0) },
                  ((az l=az l)/\
                  ((jq (az l)=jq (az l))/\
                  ((eO (az l) s=eO (az l) s)/\
                  (false=x1.1)))))))/\
               (∀ x1 : { b : Bool // b = decide (eO   (az   l) s = 0) },
                (((!decide (x1.val=decide (eO   (az   l) s=0)))=true →
                  (false=true))/\
                (¬(!decide (x1.val = decide (eO   (az   l) s = 0))) = true →
                 ((∃ x2:{ i:Nat // i≤(az   l).length },
                   ((jq (az l)=jq (az l))/\
                   ((az l=az l)/\
                   (((↑(az l).length:Int)=(↑(az l).length:Int))/\
                   (0=(x2.1:Int))))))/\
                 (∀ x2 : { i : Nat // i ≤ (az   l).length },
                  (((↑x2.val:Int) < (↑(az   l).length:Int) →
                    ((0<=(x2.1:Int)/\(x2.1:Int)<(↑(az l).length:Int))/\
                    ((List.length ((az l).getD x2.1 ([],0)).1<=1099511627776)/\
                    ((uS (List.map stD (bu (az l))))/\
                    (((aC ((az l).getD x2.1 ([],0)).1).length<=1099511627776)/\
                    ((∀(r:Int),r∈aC ((az l).getD x2.1 ([],0)).1->Utf8.valid r=true)/\
                    (((!(wlk (List.map stD (bu   (az   l))) (aC   ((az   l).getD x2.val ([],0)).fst) 0).snd)=true →
                      (false=true))/\
                    (¬(!(wlk (List.map stD (bu   (az   l))) (aC   ((az   l).getD x2.val ([], 0)).fst) 0).snd) = true →
                     (((!(decide (0≤(wlk (List.map stD (bu   (az   l))) (aC   ((az   l).getD x2.val ([],0)).fst) 0).fst∧(wlk (List.map stD (bu   (az   l))) (aC   ((az   l).getD x2.val ([],0)).fst) 0).fst < (↑(List.map stD (bu   (az   l))).length:Int))&&(stA (List.map stD (bu   (az   l))) (wlk (List.map stD (bu   (az   l))) (aC   ((az   l).getD x2.val ([],0)).fst) 0).fst.toNat).snd.fst))=true →
                       (false=true))/\
                     (¬(!(decide (0 ≤ (wlk (List.map stD (bu   (az   l))) (aC   ((az   l).getD x2.val ([], 0)).fst) 0).fst ∧ (wlk (List.map stD (bu   (az   l))) (aC   ((az   l).getD x2.val ([], 0)).fst) 0).fst < (↑(List.map stD (bu   (az   l))).length : Int)) && (stA (List.map stD (bu   (az   l))) (wlk (List.map stD (bu   (az   l))) (aC   ((az   l).getD x2.val ([], 0)).fst) 0).fst.toNat).snd.fst)) = true →
                      ((aL ((x2.1:Int)+1))/\
                      (∃ x3 : { i : Nat // i ≤ (az   l).length },
                       (((az l).length-x3.1<(az l).length-x2.1)/\
                       ((jq (az l)=jq (az l))/\
                       ((az l=az l)/\
                       (((↑(az l).length:Int)=(↑(az l).length:Int))/\
                       ((x2.1:Int)+1=(x3.1:Int))))))))))))))))))/\
                  (¬(↑x2.val : Int) < (↑(az   l).length : Int) →
                   True))))))))))))))))))))/\
           (¬bN   s = 0 →
            (decide ((0:Int)=(0:Int))=true))))/\
         (¬(0 : Int) = (0 : Int) →
          (decide ((0:Int)=(0:Int))=true)))))/\
       (¬isE (az   l) = 0 →
        ((s.length<=1099511627776)/\
        ((isE (az   l)=0 →
          ((bN   s=0 →
            False)/\
          (¬bN   s = 0 →
           (decide (isE (az l)=0)=true))))/\
        (¬isE (az   l) = 0 →
         (decide (isE (az l)=0)=true)))))))))/\
     (¬kL   l = 0 →
      True))))))))))))) (by kernel_rfl) (by
  have hw:SmW l:=fun x hx=>Nat.le_trans (hs0 x hx) (by decide)
  have hn1:=Nat.le_trans (Nj l) hl0;have hn2:SmX (az l):=NT hs0;have hn3:SmW (az l):=fun x hx=>Nat.le_trans (hn2 x hx) (by decide)
  refine⟨fun h=>(by cases h),fun _=>⟨by omega,hw,hn1,hn2,fun _=>trivial,fun _=>⟨fun _=>trivial,fun hsl=>⟨fun hz=>?_,fun _=>trivial⟩⟩⟩⟩;obtain⟨e1,e2,e3⟩:=La hz;have he:isE (az l)=0:=by rw[e1];exact e3
  have hN:=nml he;have hS:=sts he;have hok:uS (List.map stD (bu (az l))):=hS.ok hN.tot;have hlen:(List.map stD (bu (az l))).length=(bu (az l)).length:=zR ..;obtain⟨hA,hB⟩:=Ma he s;have hdl:∀t:List UInt8,(aC t).length<=t.length:=fun t=>by
   unfold aC;split
   .rw[zR];exact vX t
   .exact Nat.zero_le _
  refine⟨by omega,hn3,fun _=>⟨by omega,fun _=>⟨fun hd=>?_,fun _=>rfl⟩,fun h=>absurd rfl h⟩,fun h=>absurd he h⟩;have hgi:=uE he hd;have hgs:=OU he hd;have hds:=hdl s;rw[hA,hB];have hb:(wlk (List.map stD (bu (az l))) (aC s) 0).2=true->(decide (0<=(wlk (List.map stD (bu (az l))) (aC s) 0).1/\(wlk (List.map stD (bu (az l))) (aC s) 0).1<((List.map stD (bu (az l))).length:Int))&&(stA (List.map stD (bu (az l))) (wlk (List.map stD (bu (az l))) (aC s) 0).1.toNat).2.1)=decide (eO (az l) s=0):=fun hg=>by
   obtain⟨n,g1,g2,_⟩:=oM he hd hg;rw[if_pos hg] at hgs;rw[hgs,decide_eq_true (by rw[g1,hlen];exact⟨by omega,by omega⟩),Bool.true_and]
  have hc:¬ (wlk (List.map stD (bu (az l))) (aC s) 0).2=true->false=decide (eO (az l) s=0):=fun hg=>by rw[if_neg hg] at hgs;exact hgs
  refine⟨hok,by omega,nN hd,by omega,hn3,fun hlt=>⟨fun h=>?_,fun _=>⟨by omega,hn3,⟨fun hg=>⟨⟨_,rfl⟩,rfl,rfl,rfl,hb hg⟩,fun hg=>⟨⟨_,rfl⟩,rfl,rfl,rfl,hc hg⟩⟩,?_⟩⟩,fun hlt=>⟨fun h=>?_,fun _=>⟨by omega,hn3,⟨fun hg=>⟨⟨_,rfl⟩,rfl,rfl,rfl,hb hg⟩,fun hg=>⟨⟨_,rfl⟩,rfl,rfl,rfl,hc hg⟩⟩,?_⟩⟩⟩
  .rw[hgi.2 (.inl (by omega))] at h;simp at h
  .rintro⟨x,rfl⟩;dsimp only;refine⟨fun h=>(by simp at h),fun _=>⟨⟨⟨0,Nat.zero_le _⟩,rfl,rfl,rfl,rfl⟩,?_⟩⟩;rintro⟨i,hi⟩;dsimp only;exact⟨fun h=>by
    have hm:(az l).getD i ([],0)∈az l:=by
     rw[zA,zB (by omega)];exact List.getElem_mem _
    obtain⟨hd2,hg2⟩:=pQ he ⟨_,hm,rfl⟩;obtain⟨n,g1,g2,g3⟩:=oM he hd2 hg2;have g4:=g3.2 ⟨_,hm,rfl⟩;have h6:=hdl ((az l).getD i ([],0)).1;have h7:=hn2 _ hm;rw[hg2,g1,Int.toNat_natCast,g4,decide_eq_true (show (0:Int)<=(n:Int)/\(n:Int)<((List.map stD (bu (az l))).length:Int) by rw[hlen];exact⟨by omega,by omega⟩)];exact⟨⟨by omega,h⟩,by omega,hok,by omega,nN hd2,fun h=>(by cases h),fun _=>⟨fun h=>(by cases h),fun _=>⟨by unfold aL;omega,⟨i+1,by omega⟩,by dsimp only;omega,rfl,rfl,rfl,by push_cast;rfl⟩⟩⟩,fun _=>trivial⟩
  .exfalso;have h5:(wlk (List.map stD (bu (az l))) (aC s) 0).2=decide (s=[]):=by
    rw[Bool.eq_iff_iff,hgi,decide_eq_true_iff];exact⟨fun h=>h.elim (fun h=>absurd h (by omega)) id,.inr⟩
   rw[h5] at h;simp at h
  .rintro⟨x,rfl⟩;dsimp only;refine⟨fun h=>(by simp at h),fun _=>⟨⟨⟨0,Nat.zero_le _⟩,rfl,rfl,rfl,rfl⟩,?_⟩⟩;rintro⟨i,hi⟩;dsimp only;exact⟨fun h=>by
    have hm:(az l).getD i ([],0)∈az l:=by
     rw[zA,zB (by omega)];exact List.getElem_mem _
    obtain⟨hd2,hg2⟩:=pQ he ⟨_,hm,rfl⟩;obtain⟨n,g1,g2,g3⟩:=oM he hd2 hg2;have g4:=g3.2 ⟨_,hm,rfl⟩;have h6:=hdl ((az l).getD i ([],0)).1;have h7:=hn2 _ hm;rw[hg2,g1,Int.toNat_natCast,g4,decide_eq_true (show (0:Int)<=(n:Int)/\(n:Int)<((List.map stD (bu (az l))).length:Int) by rw[hlen];exact⟨by omega,by omega⟩)];exact⟨⟨by omega,h⟩,by omega,hok,by omega,nN hd2,fun h=>(by cases h),fun _=>⟨fun h=>(by cases h),fun _=>⟨by unfold aL;omega,⟨i+1,by omega⟩,by dsimp only;omega,rfl,rfl,rfl,by push_cast;rfl⟩⟩⟩,fun _=>trivial⟩))
end Go.EA
