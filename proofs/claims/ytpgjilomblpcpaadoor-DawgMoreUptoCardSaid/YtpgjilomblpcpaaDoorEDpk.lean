/- Layer 10: Place. Conditions: none. -/
import Derived.Test.YtpgjilomblpcpaaDoorEDpl
import Derived.Test.YtpgjilomblpcpaaDoorEDf
import Derived.KernelRfl
set_option linter.unusedVariables false
set_option linter.unusedSimpArgs false
set_option maxRecDepth 100000
set_option maxHeartbeats 0
namespace Go.EA
open F
structure PlI (S:List StD) (rs:List Int) (x:Nat×Nat×Int):Prop where
 le:x.1<=rs.length
 lt:x.2.1<S.length
 pl:plc S rs 0 0=plc S (rs.drop x.1) x.2.1 x.2.2
 nn:0<=x.2.2
 bd:x.2.2+(stA S x.2.1).2.2<=4194305
def plF (d:List StD) (s:List UInt8) (i k:Nat):Int:=fndI (stA d i).1 ((decR s).getD k 0)
def plX (d:List StD) (s:List UInt8) (i k:Nat):List Ed:=cutR (stA d i).1 none (some (plF d s i k))
theorem tkE_getD {l:List Ed} {k i:Nat} (h:i<k):(l.take k).getD i (0,0)=l.getD i (0,0):=by
 rw [zA,zA,List.getElem?_take_of_lt h]
def plE (s:List UInt8) (d:List StD):Int×Int:=if decE s=0 then plc d (decR s) 0 0 else (0,10)
def P292:(List ((List (Int×Int))×Bool×Int))×Int×List (Int)×List UInt8->List SV:=fun (d0,d1,d2,s)=>[.one (.vptr (.pair (.row (.pair (.row (.pair (.int .i32) (.int .i64))) (.pair .bool (.int .i64)))) (.pair (.int .i64) (.row (.int .i64)))) (d0,d1,d2) 0),.one (.str s)]
def R292:(List ((List (Int×Int))×Bool×Int))×Int×List (Int)×List UInt8->SV×List Prop:=fun (d0,d1,d2,s)=>(.tup [.o (.int .i64 (plE s d0).1),.o (.int .i64 (plE s d0).2)],[DwOk d0,s.length<=1099511627776])
def K292:Con:=⟨true,[some (.pair (.row (.pair (.row (.pair (.int .i32) (.int .i64))) (.pair .bool (.int .i64)))) (.pair (.int .i64) (.row (.int .i64)))),none],fun xs=>match xs with | [.one (.vptr (.pair (.row (.pair (.row (.pair (.int .i32) (.int .i64))) (.pair .bool (.int .i64)))) (.pair (.int .i64) (.row (.int .i64)))) (d0,d1,d2) 0),.one (.str s)]=>some (R292 (d0,d1,d2,s)) | _=>none⟩
noncomputable def G292:GP:=conG P292 R292
theorem P292_inj:∀ a b,(P292 a).map den0=(P292 b).map den0->a=b:=by
 rintro ⟨a0,a1,a2,a3⟩ ⟨b0,b1,b2,b3⟩ h
 simp only [P292,zK,List.map_nil,den0,den0L,List.drop_zero,zG,AV.one.injEq,AV.agg.injEq,Lf.int.injEq,Lf.str.injEq,Lf.bool.injEq,Lf.vrow.injEq,Lf.vptr.injEq,and_true,true_and,and_assoc] at h
 obtain ⟨h0,h1⟩:=h
 have h0:=Ty.enc_inj _ h0
 simp only [zF] at h0
 obtain ⟨rfl,rfl,rfl⟩:=h0
 subst h1
 rfl
theorem K292_ok:ConG G292 K292:=conG_of P292_inj (fun ⟨_,_,_,_⟩ ⟨_,_,_,_⟩=>rfl) (fun ⟨_,_,_,_⟩=>rfl) fun xs r h=>by
 simp only [K292] at h
 split at h
 ·cases h;rename_i d0 d1 d2 s;exact ⟨(d0,d1,d2,s),rfl,rfl⟩
 ·cases h
theorem pr292 {S:SC} (hB:SB S) (q17:PrOk S 17 (pureP G17)) (q316:PrOk S 316 (pureP G316)) (h292:S.has 292 f292):PrOk S 292 (pureP G292):=by
 refine prM hB [] [⟨17,G17,K17⟩,⟨316,G316,K316⟩] trivial ⟨⟨q17,K17_ok⟩,⟨q316,K316_ok⟩,trivial⟩ h292 (fun ⟨d0,d1,d2,s⟩=>⟨rfl,rfl,rfl⟩) (fun (d0,d1,d2,s)=>fun f id T L=>match f,id with
  | 292,0=>match T.getD 30 .junk with | .one (.row (.int .i32) rs)=>some (.inv { x:Nat×Nat×Int // PlI d0 rs x } (fun x=>([(32,.one (.int .i64 x.1.1)),(8,.one (.int .i64 x.1.2.2)),(9,.one (.vptr (.pair (.row (.pair (.int .i32) (.int .i64))) (.pair .bool (.int .i64))) (stA d0 x.1.2.1) 0))],[])) (fun x=>rs.length-x.1.1)) | _=>none
  | 292,4050=>match T.getD 8 .junk,T.getD 9 .junk with | .one (.int _ a),.one (.vptr (.pair _ (.pair .bool _)) e _)=>some (.cut Unit fun _=>([(8,.one (.int .i64 (a+e01 e.2.1)))],[])) | _,_=>none
  | 292,2=>match T.getD 8 .junk,T.getD 55 .junk with | .one (.int _ a),.one (.row (.pair (.int .i32) (.int .i64)) es)=>some (.inv { j:Nat // j<=es.length } (fun x=>([(57,.one (.int .i64 x.1)),(8,.one (.int .i64 (a+sumC d0 (es.take x.1))))],[])) (fun x=>es.length-x.1)) | _,_=>none
  | _,_=>none) 2000 ?_
 rintro ⟨d0,d1,d2,s⟩ hc
 have hc1:DwOk d0:=hc.1
 have hc2:s.length<=1099511627776:=hc.2.1
 refine VC.use (p:=
  ((s.length<=1099511627776)/\
  ((decE s=0 →
    (((0:Int)<=(0:Int)/\(0:Int)<(d0.length:Int))/\
    ((∃ x1:{ x:Nat×Nat×Int // PlI d0 (decR s) x },
      (((d0,d1,d2)=(d0,d1,d2))/\
      ((0=x1.1.2.2)/\
      ((d0.getD 0 ([],false,0)=stA d0 x1.1.2.1)/\
      ((decR s=decR s)/\
      (((↑(decR s).length:Int)=(↑(decR s).length:Int))/\
      (0=(x1.1.1:Int))))))))/\
    (∀ x1 : { x : Nat × Nat × Int // PlI d0 (decR s) x },
     (((↑x1.val.fst:Int) < (↑(decR s).length:Int) →
       ((0<=(x1.1.1:Int)/\(x1.1.1:Int)<(↑(decR s).length:Int))/\
       ((EdR (stA d0 x1.1.2.1).1)/\
       ((IR ((decR s).getD x1.1.1 0))/\
       (((!nxtB (stA d0 x1.val.snd.fst).1 ((decR s).getD x1.val.fst 0))=true →
         ((0=(plE s d0).1)/\
         (10=(plE s d0).2)))/\
       (¬(!nxtB (stA d0 x1.val.snd.fst).1 ((decR s).getD x1.val.fst 0)) = true →
        ((((stA d0 x1.val.snd.fst).snd.fst = true →
           ((i64R (x1.1.2.2+1))/\
           (∃ x2 : Unit,
            (((d0,d1,d2)=(d0,d1,d2))/\
            ((x1.1.2.2+1=x1.1.2.2+e01 (stA d0 x1.1.2.1).2.1)/\
            ((stA d0 x1.1.2.1=stA d0 x1.1.2.1)/\
            ((plF d0 s x1.1.2.1 x1.1.1=plF d0 s x1.1.2.1 x1.1.1)/\
            ((decR s=decR s)/\
            (((↑(decR s).length:Int)=(↑(decR s).length:Int))/\
            ((x1.1.1:Int)=(x1.1.1:Int)))))))))))/\
         (¬(stA d0 x1.val.snd.fst).snd.fst = true →
          (∃ x2 : Unit,
           (((d0,d1,d2)=(d0,d1,d2))/\
           ((x1.1.2.2=x1.1.2.2+e01 (stA d0 x1.1.2.1).2.1)/\
           ((stA d0 x1.1.2.1=stA d0 x1.1.2.1)/\
           ((plF d0 s x1.1.2.1 x1.1.1=plF d0 s x1.1.2.1 x1.1.1)/\
           ((decR s=decR s)/\
           (((↑(decR s).length:Int)=(↑(decR s).length:Int))/\
           ((x1.1.1:Int)=(x1.1.1:Int)))))))))))/\
        (∀ x2 : Unit,
         ((0<=plF d0 s x1.1.2.1 x1.1.1/\plF d0 s x1.1.2.1 x1.1.1<=(↑(List.length (stA d0 x1.1.2.1).1):Int))/\
         ((∃ x3:{ j:Nat // j≤(plX d0 s x1.val.snd.fst x1.val.fst).length },
           (((d0,d1,d2)=(d0,d1,d2))/\
           ((x1.1.2.2+e01 (stA d0 x1.1.2.1).2.1=x1.1.2.2+e01 (stA d0 x1.1.2.1).2.1+sumC d0 (List.take x3.1 (plX d0 s x1.1.2.1 x1.1.1)))/\
           ((stA d0 x1.1.2.1=stA d0 x1.1.2.1)/\
           ((plF d0 s x1.1.2.1 x1.1.1=plF d0 s x1.1.2.1 x1.1.1)/\
           ((decR s=decR s)/\
           (((↑(decR s).length:Int)=(↑(decR s).length:Int))/\
           (((x1.1.1:Int)=(x1.1.1:Int))/\
           ((plX d0 s x1.1.2.1 x1.1.1=plX d0 s x1.1.2.1 x1.1.1)/\
           (((↑(plX d0 s x1.1.2.1 x1.1.1).length:Int)=(↑(plX d0 s x1.1.2.1 x1.1.1).length:Int))/\
           (0=(x3.1:Int))))))))))))/\
         (∀ x3 : { j : Nat // j ≤ (plX d0 s x1.val.snd.fst x1.val.fst).length },
          (((↑x3.val:Int) < (↑(plX d0 s x1.val.snd.fst x1.val.fst).length:Int) →
            ((0<=(x3.1:Int)/\(x3.1:Int)<(↑(plX d0 s x1.1.2.1 x1.1.1).length:Int))/\
            ((0<=((plX d0 s x1.1.2.1 x1.1.1).getD x3.1 (0,0)).2/\((plX d0 s x1.1.2.1 x1.1.1).getD x3.1 (0,0)).2<(d0.length:Int))/\
            ((i64R (x1.1.2.2+e01 (stA d0 x1.1.2.1).2.1+sumC d0 (List.take x3.1 (plX d0 s x1.1.2.1 x1.1.1))+(d0.getD (Int.toNat ((plX d0 s x1.1.2.1 x1.1.1).getD x3.1 (0,0)).2) ([],false,0)).2.2))/\
            ((i64R ((x3.1:Int)+1))/\
            (∃ x4 : { j : Nat // j ≤ (plX d0 s x1.val.snd.fst x1.val.fst).length },
             (((plX d0 s x1.1.2.1 x1.1.1).length-x4.1<(plX d0 s x1.1.2.1 x1.1.1).length-x3.1)/\
             (((d0,d1,d2)=(d0,d1,d2))/\
             ((x1.1.2.2+e01 (stA d0 x1.1.2.1).2.1+sumC d0 (List.take x3.1 (plX d0 s x1.1.2.1 x1.1.1))+(d0.getD (Int.toNat ((plX d0 s x1.1.2.1 x1.1.1).getD x3.1 (0,0)).2) ([],false,0)).2.2=x1.1.2.2+e01 (stA d0 x1.1.2.1).2.1+sumC d0 (List.take x4.1 (plX d0 s x1.1.2.1 x1.1.1)))/\
             ((stA d0 x1.1.2.1=stA d0 x1.1.2.1)/\
             ((plF d0 s x1.1.2.1 x1.1.1=plF d0 s x1.1.2.1 x1.1.1)/\
             ((decR s=decR s)/\
             (((↑(decR s).length:Int)=(↑(decR s).length:Int))/\
             (((x1.1.1:Int)=(x1.1.1:Int))/\
             ((plX d0 s x1.1.2.1 x1.1.1=plX d0 s x1.1.2.1 x1.1.1)/\
             (((↑(plX d0 s x1.1.2.1 x1.1.1).length:Int)=(↑(plX d0 s x1.1.2.1 x1.1.1).length:Int))/\
             ((x3.1:Int)+1=(x4.1:Int))))))))))))))))))/\
          (¬(↑x3.val : Int) < (↑(plX d0 s x1.val.snd.fst x1.val.fst).length : Int) →
           ((0<=plF d0 s x1.1.2.1 x1.1.1/\plF d0 s x1.1.2.1 x1.1.1<(↑(List.length (stA d0 x1.1.2.1).1):Int))/\
           ((0<=(List.getD (stA d0 x1.1.2.1).1 (plF d0 s x1.1.2.1 x1.1.1).toNat (0,0)).2/\(List.getD (stA d0 x1.1.2.1).1 (plF d0 s x1.1.2.1 x1.1.1).toNat (0,0)).2<(d0.length:Int))/\
           ((i64R ((x1.1.1:Int)+1))/\
           (∃ x4 : { x : Nat × Nat × Int // PlI d0 (decR s) x },
            (((decR s).length-x4.1.1<(decR s).length-x1.1.1)/\
            (((d0,d1,d2)=(d0,d1,d2))/\
            ((x1.1.2.2+e01 (stA d0 x1.1.2.1).2.1+sumC d0 (List.take x3.1 (plX d0 s x1.1.2.1 x1.1.1))=x4.1.2.2)/\
            ((d0.getD (Int.toNat (List.getD (stA d0 x1.1.2.1).1 (plF d0 s x1.1.2.1 x1.1.1).toNat (0,0)).2) ([],false,0)=stA d0 x4.1.2.1)/\
            ((decR s=decR s)/\
            (((↑(decR s).length:Int)=(↑(decR s).length:Int))/\
            ((x1.1.1:Int)+1=(x4.1.1:Int)))))))))))))))))))))))))/\
     (¬(↑x1.val.fst : Int) < (↑(decR s).length : Int) →
      (((!(stA d0 x1.val.snd.fst).snd.fst)=true →
        ((0=(plE s d0).1)/\
        (10=(plE s d0).2)))/\
      (¬(!(stA d0 x1.val.snd.fst).snd.fst) = true →
       ((x1.1.2.2=(plE s d0).1)/\
       (0=(plE s d0).2))))))))))/\
  (¬decE s = 0 →
   ((0=(plE s d0).1)/\
   (10=(plE s d0).2)))))) (by kernel_rfl) ?_
 unfold plX plF
 have hp0:=hc1.pos
 have hdl:(decR s).length<=s.length:=by
  unfold decR
  split
  ·rw [zR];exact runes_len s
  ·exact Nat.zero_le _
 refine ⟨hc2,fun he=>?_,fun he=>?_⟩
 ·refine ⟨⟨by omega,by omega⟩,⟨⟨(0,0,0),⟨Nat.zero_le _,hp0,rfl,Int.le_refl _,by have:=hc1.le 0 hp0;dsimp only;omega⟩⟩,rfl,rfl,rfl,rfl,rfl,rfl⟩,?_⟩
  rintro ⟨⟨k,i,a⟩,x1,x2,x3,x4,x5⟩
  dsimp only at x1 x2 x3 x4 x5 ⊢
  have hE:EdR (stA d0 i).1:=hc1.eds.at i
  have hle:=hc1.le i x2
  have hpE:plE s d0=plc d0 ((decR s).drop k) i a:=by unfold plE;rw [if_pos he];exact x3
  have e0:=e01_bd (stA d0 i).2.1
  have hol:=hE.2.2
  refine ⟨fun h=>?_,fun h=>?_⟩
  ·have hk:k<(decR s).length:=by omega
   have hv:Utf8.valid ((decR s).getD k 0)=true:=decR_ok he _ (getD_mem hk)
   have hIR:IR ((decR s).getD k 0):=by have:=valid_iff.1 hv;unfold IR;omega
   rw [drop_getD hk] at hpE x3
   generalize (decR s).getD k 0=r at hpE x3 hIR ⊢
   refine ⟨⟨by omega,h⟩,hE,hIR,fun hb=>?_,fun hb=>?_⟩
   ·have h4:nxtB (stA d0 i).1 r=false:=by simpa using hb
    rw [hpE]
    unfold plc
    rw [h4];exact ⟨rfl,rfl⟩
   ·have h4:nxtB (stA d0 i).1 r=true:=by simpa using hb
    obtain ⟨g1,g2,_⟩:=nxt_at hE h4
    have hn:(fndI (stA d0 i).1 r).toNat<(stA d0 i).1.length:=by omega
    obtain ⟨p1,p2,p3⟩:=hc1.part x2 hn
    have hto:=hc1.to i x2 _ (getE_mem hn)
    have hcn:0<=(stA d0 ((stA d0 i).1.getD (fndI (stA d0 i).1 r).toNat (0,0)).2.toNat).2.2:=hc1.nn _ p3
    have hplc:plc d0 (r::(decR s).drop (k+1)) i a=plc d0 ((decR s).drop (k+1)) ((stA d0 i).1.getD (fndI (stA d0 i).1 r).toNat (0,0)).2.toNat (a+e01 (stA d0 i).2.1+sumC d0 ((stA d0 i).1.take (fndI (stA d0 i).1 r).toNat)):=by
     rw [plc,if_pos h4,g2]
    have hcut:cutR (stA d0 i).1 none (some (fndI (stA d0 i).1 r))=(stA d0 i).1.take (fndI (stA d0 i).1 r).toNat:=rfl
    rw [hcut]
    generalize hfn:(fndI (stA d0 i).1 r).toNat=n at hn p1 p2 p3 hto hcn hplc ⊢
    have htl:((stA d0 i).1.take n).length=n:=by rw [zP];omega
    refine ⟨⟨fun hb=>⟨by unfold i64R;omega,(),rfl,by rw [hb];rfl,rfl,rfl,rfl,rfl,rfl⟩,fun hb=>⟨(),rfl,by rw [show (stA d0 i).2.1=false by simpa using hb];unfold e01;simp,rfl,rfl,rfl,rfl,rfl⟩⟩,fun _=>⟨⟨g1.1,by omega⟩,⟨⟨0,Nat.zero_le _⟩,rfl,by simp [sumC],rfl,rfl,rfl,rfl,rfl,rfl,rfl,rfl⟩,?_⟩⟩
    rintro ⟨j,hj⟩
    dsimp only
    rw [htl] at hj ⊢
    rw [List.take_take,Nat.min_eq_left hj]
    refine ⟨fun h5=>?_,fun h5=>?_⟩
    ·have hjn:j<n:=by omega
     rw [tkE_getD hjn]
     obtain ⟨q1,q2,q3⟩:=hc1.part x2 (n:=j) (by omega)
     have hto2:=hc1.to i x2 _ (getE_mem (show j<(stA d0 i).1.length by omega))
     have hq4:=hc1.nn _ q3
     have hq5:(d0.getD (Int.toNat ((stA d0 i).1.getD j (0,0)).2) ([],false,0)).2.2=(stA d0 ((stA d0 i).1.getD j (0,0)).2.toNat).2.2:=rfl
     refine ⟨⟨by omega,h5⟩,hto2,by rw [hq5];unfold i64R;omega,by unfold i64R;omega,⟨j+1,by omega⟩,by dsimp only;omega,rfl,?_,rfl,rfl,rfl,rfl,rfl,rfl,rfl,by push_cast;rfl⟩
     dsimp only
     rw [List.take_take,Nat.min_eq_left (by omega),sumC_step d0 (by omega),hq5];omega
    ·obtain rfl:j=n:=by omega
     refine ⟨g1,hto,by unfold i64R;omega,⟨(k+1,((stA d0 i).1.getD j (0,0)).2.toNat,a+e01 (stA d0 i).2.1+sumC d0 ((stA d0 i).1.take j)),⟨hk,p3,x3.trans hplc,by dsimp only;omega,by dsimp only;omega⟩⟩,by dsimp only;omega,rfl,rfl,rfl,rfl,rfl,by push_cast;rfl⟩
  ·rw [List.drop_of_length_le (show (decR s).length<=k by omega)] at hpE
   rw [hpE]
   unfold plc
   refine ⟨fun hb=>?_,fun hb=>?_⟩
   ·rw [if_neg (by simpa using hb)];exact ⟨rfl,rfl⟩
   ·rw [if_pos (by simpa using hb)];exact ⟨rfl,rfl⟩
 ·unfold plE
  rw [if_neg he];exact ⟨rfl,rfl⟩
end Go.EA
