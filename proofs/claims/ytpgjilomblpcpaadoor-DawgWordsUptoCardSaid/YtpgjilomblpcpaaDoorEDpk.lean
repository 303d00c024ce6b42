/- Layer 10: Place. Conditions: none. -/
import Derived.Test.YtpgjilomblpcpaaDoorEDpl
import Derived.Test.YtpgjilomblpcpaaDoorEDf
import Derived.KernelRfl
set_option linter.unusedVariables false
set_option linter.unusedSimpArgs false
set_option maxRecDepth 100000
set_option maxHeartbeats 0
namespace Go.EA
open F
structure PlI (S:List StD) (rs:List Int) (x:Nat×Nat×Int):Prop where
 le:x.1<=rs.length
 lt:x.2.1<S.length
 pl:plc S rs 0 0=plc S (rs.drop x.1) x.2.1 x.2.2
 nn:0<=x.2.2
 bd:x.2.2+(stA S x.2.1).2.2<=4194305
def plF (d:List StD) (s:List UInt8) (i k:Nat):Int:=gZ (stA d i).1 ((aG s).getD k 0)
def plX (d:List StD) (s:List UInt8) (i k:Nat):List Ed:=sK (stA d i).1 none (some (plF d s i k))
theorem Jb {l:List Ed}{k i:Nat}(h:i<k):(l.take k).getD i (0,0)=l.getD i (0,0):=by
 rw[zA,zA,List.getElem?_take_of_lt h]
def plE (s:List UInt8) (d:List StD):Int×Int:=if eP s=0 then plc d (aG s) 0 0 else (0,10)
def Qn:(List ((List (Int×Int))×Bool×Int))×Int×List (Int)×List UInt8->List SV:=fun(d0,d1,d2,s)=>[.one (.vptr (.pair (.row (.pair (.row (.pair (.int .i32) (.int .i64))) (.pair .bool (.int .i64)))) (.pair (.int .i64) (.row (.int .i64)))) (d0,d1,d2) 0),.one (.str s)]
def Wi:(List ((List (Int×Int))×Bool×Int))×Int×List (Int)×List UInt8->SV×List Prop:=fun(d0,d1,d2,s)=>(.tup [.o (.int .i64 (plE s d0).1),.o (.int .i64 (plE s d0).2)],[Am d0,s.length<=1099511627776])
def RX:Con:=⟨true,[some (.pair (.row (.pair (.row (.pair (.int .i32) (.int .i64))) (.pair .bool (.int .i64)))) (.pair (.int .i64) (.row (.int .i64)))),none],fun xs=>match xs with | [.one (.vptr (.pair (.row (.pair (.row (.pair (.int .i32) (.int .i64))) (.pair .bool (.int .i64)))) (.pair (.int .i64) (.row (.int .i64)))) (d0,d1,d2) 0),.one (.str s)]=>some (Wi (d0,d1,d2,s)) | _=>none⟩
noncomputable def LC:GP:=fH Qn Wi
theorem Nt:∀a b,(Qn a).map aH=(Qn b).map aH->a=b:=by
 rintro⟨a0,a1,a2,a3⟩ ⟨b0,b1,b2,b3⟩ h;simp only[Qn,zK,List.map_nil,aH,bi,List.drop_zero,zG,AV.one.injEq,AV.agg.injEq,Lf.int.injEq,Lf.str.injEq,Lf.bool.injEq,Lf.vrow.injEq,Lf.vptr.injEq,and_true,true_and,and_assoc] at h;obtain⟨h0,h1⟩:=h;have h0:=Ty.enc_inj _ h0;simp only[zF] at h0;obtain⟨rfl,rfl,rfl⟩:=h0;subst h1
 rfl
theorem NN:gH LC RX:=bP Nt (fun⟨_,_,_,_⟩ ⟨_,_,_,_⟩=>rfl) (fun⟨_,_,_,_⟩=>rfl) fun xs r h=>by
 simp only[RX] at h;split at h
 .cases h;rename_i d0 d1 d2 s;exact⟨(d0,d1,d2,s),rfl,rfl⟩
 .cases h
theorem WH {S:SC}(hB:SB S) (q17:aX S 17 (aI G17)) (UT:aX S 316 (aI NB)) (h292:S.has 292 f292):aX S 292 (aI LC):=by
 refine prM hB [] [⟨17,G17,K17⟩,⟨316,NB,Ux⟩] trivial ⟨⟨q17,DC⟩,⟨UT,NL⟩,trivial⟩ h292 (fun⟨d0,d1,d2,s⟩=>⟨rfl,rfl,rfl⟩) (fun(d0,d1,d2,s)=>fun f id T L=>match f,id with
  |292,0=>match T.getD 30 .junk with | .one (.row (.int .i32) rs)=>some (.inv { x:Nat×Nat×Int // PlI d0 rs x } (fun x=>([(32,.one (.int .i64 x.1.1)),(8,.one (.int .i64 x.1.2.2)),(9,.one (.vptr (.pair (.row (.pair (.int .i32) (.int .i64))) (.pair .bool (.int .i64))) (stA d0 x.1.2.1) 0))],[])) (fun x=>rs.length-x.1.1)) | _=>none
  |292,4050=>match T.getD 8 .junk,T.getD 9 .junk with | .one (.int _ a),.one (.vptr (.pair _ (.pair .bool _)) e _)=>some (.cut Unit fun _=>([(8,.one (.int .i64 (a+e01 e.2.1)))],[])) | _,_=>none
  |292,2=>match T.getD 8 .junk,T.getD 55 .junk with | .one (.int _ a),.one (.row (.pair (.int .i32) (.int .i64)) es)=>some (.inv { j:Nat // j<=es.length } (fun x=>([(57,.one (.int .i64 x.1)),(8,.one (.int .i64 (a+cB d0 (es.take x.1))))],[])) (fun x=>es.length-x.1)) | _,_=>none
  |_,_=>none) 2000 ?_
 rintro⟨d0,d1,d2,s⟩ hc;have hc1:Am d0:=hc.1;have hc2:s.length<=1099511627776:=hc.2.1;refine VC.use (p:=
  ((s.length<=1099511627776)/\
  ((eP   s=0 →
    (((0:Int)<=(0:Int)/\(0:Int)<(d0.length:Int))/\
    ((∃ x1:{ x:Nat×Nat×Int // PlI d0 (aG   s) x },
      (((d0,d1,d2)=(d0,d1,d2))/\
      ((0=x1.1.2.2)/\
      ((d0.getD 0 ([],false,0)=stA d0 x1.1.2.1)/\
      ((aG s=aG s)/\
      (((↑(aG s).length:Int)=(↑(aG s).length:Int))/\
      (0=(x1.1.1:Int))))))))/\
    (∀ x1 : { x : Nat × Nat × Int // PlI d0 (aG   s) x },
     (((↑x1.val.fst:Int) < (↑(aG   s).length:Int) →
       ((0<=(x1.1.1:Int)/\(x1.1.1:Int)<(↑(aG s).length:Int))/\
       ((EdR (stA d0 x1.1.2.1).1)/\
       ((IR ((aG s).getD x1.1.1 0))/\
       (((!iT   (stA d0 x1.val.snd.fst).1 ((aG   s).getD x1.val.fst 0))=true →
         ((0=(plE s d0).1)/\
         (10=(plE s d0).2)))/\
       (¬(!iT   (stA d0 x1.val.snd.fst).1 ((aG   s).getD x1.val.fst 0)) = true →
        ((((stA d0 x1.val.snd.fst).snd.fst = true →
           ((ak (x1.1.2.2+1))/\
           (∃ x2 : Unit,
            (((d0,d1,d2)=(d0,d1,d2))/\
            ((x1.1.2.2+1=x1.1.2.2+e01 (stA d0 x1.1.2.1).2.1)/\
            ((stA d0 x1.1.2.1=stA d0 x1.1.2.1)/\
            ((plF d0 s x1.1.2.1 x1.1.1=plF d0 s x1.1.2.1 x1.1.1)/\
            ((aG s=aG s)/\
            (((↑(aG s).length:Int)=(↑(aG s).length:Int))/\
            ((x1.1.1:Int)=(x1.1.1:Int)))))))))))/\
         (¬(stA d0 x1.val.snd.fst).snd.fst = true →
          (∃ x2 : Unit,
           (((d0,d1,d2)=(d0,d1,d2))/\
           ((x1.1.2.2=x1.1.2.2+e01 (stA d0 x1.1.2.1).2.1)/\
           ((stA d0 x1.1.2.1=stA d0 x1.1.2.1)/\
           ((plF d0 s x1.1.2.1 x1.1.1=plF d0 s x1.1.2.1 x1.1.1)/\
           ((aG s=aG s)/\
           (((↑(aG s).length:Int)=(↑(aG s).length:Int))/\
           ((x1.1.1:Int)=(x1.1.1:Int)))))))))))/\
        (∀ x2 : Unit,
         ((0<=plF d0 s x1.1.2.1 x1.1.1/\plF d0 s x1.1.2.1 x1.1.1<=(↑(List.length (stA d0 x1.1.2.1).1):Int))/\
         ((∃ x3:{ j:Nat // j≤(plX d0 s x1.val.snd.fst x1.val.fst).length },
           (((d0,d1,d2)=(d0,d1,d2))/\
           ((x1.1.2.2+e01 (stA d0 x1.1.2.1).2.1=x1.1.2.2+e01 (stA d0 x1.1.2.1).2.1+cB d0 (List.take x3.1 (plX d0 s x1.1.2.1 x1.1.1)))/\
           ((stA d0 x1.1.2.1=stA d0 x1.1.2.1)/\
           ((plF d0 s x1.1.2.1 x1.1.1=plF d0 s x1.1.2.1 x1.1.1)/\
           ((aG s=aG s)/\
           (((↑(aG s).length:Int)=(↑(aG s).length:Int))/\
           (((x1.1.1:Int)=(x1.1.1:Int))/\
           ((plX d0 s x1.1.2.1 x1.1.1=plX d0 s x1.1.2.1 x1.1.1)/\
           (((↑(plX d0 s x1.1.2.1 x1.1.1).length:Int)=(↑(plX d0 s x1.1.2.1 x1.1.1).length:Int))/\
           (0=(x3.1:Int))))))))))))/\
         (∀ x3 : { j : Nat // j ≤ (plX d0 s x1.val.snd.fst x1.val.fst).length },
          (((↑x3.val:Int) < (↑(plX d0 s x1.val.snd.fst x1.val.fst).length:Int) →
            ((0<=(x3.1:Int)/\(x3.1:Int)<(↑(plX d0 s x1.1.2.1 x1.1.1).length:Int))/\
            ((0<=((plX d0 s x1.1.2.1 x1.1.1).getD x3.1 (0,0)).2/\((plX d0 s x1.1.2.1 x1.1.1).getD x3.1 (0,0)).2<(d0.length:Int))/\
            ((ak (x1.1.2.2+e01 (stA d0 x1.1.2.1).2.1+cB d0 (List.take x3.1 (plX d0 s x1.1.2.1 x1.1.1))+(d0.getD (Int.toNat ((plX d0 s x1.1.2.1 x1.1.1).getD x3.1 (0,0)).2) ([],false,0)).2.2))/\
            ((ak ((x3.1:Int)+1))/\
            (∃ x4 : { j : Nat // j ≤ (plX d0 s x1.val.snd.fst x1.val.fst).length },
             (((plX d0 s x1.1.2.1 x1.1.1).length-x4.1<(plX d0 s x1.1.2.1 x1.1.1).length-x3.1)/\
             (((d0,d1,d2)=(d0,d1,d2))/\
             ((x1.1.2.2+e01 (stA d0 x1.1.2.1).2.1+cB d0 (List.take x3.1 (plX d0 s x1.1.2.1 x1.1.1))+(d0.getD (Int.toNat ((plX d0 s x1.1.2.1 x1.1.1).getD x3.1 (0,0)).2) ([],false,0)).2.2=x1.1.2.2+e01 (stA d0 x1.1.2.1).2.1+cB d0 (List.take x4.1 (plX d0 s x1.1.2.1 x1.1.1)))/\
             ((stA d0 x1.1.2.1=stA d0 x1.1.2.1)/\
             ((plF d0 s x1.1.2.1 x1.1.1=plF d0 s x1.1.2.1 x1.1.1)/\
             ((aG s=aG s)/\
             (((↑(aG s).length:Int)=(↑(aG s).length:Int))/\
             (((x1.1.1:Int)=(x1.1.1:Int))/\
             ((plX d0 s x1.1.2.1 x1.1.1=plX d0 s x1.1.2.1 x1.1.1)/\
             (((↑(plX d0 s x1.1.2.1 x1.1.1).length:Int)=(↑(plX d0 s x1.1.2.1 x1.1.1).length:Int))/\
             ((x3.1:Int)+1=(x4.1:Int))))))))))))))))))/\
          (¬(↑x3.val : Int) < (↑(plX d0 s x1.val.snd.fst x1.val.fst).length : Int) →
           ((0<=plF d0 s x1.1.2.1 x1.1.1/\plF d0 s x1.1.2.1 x1.1.1<(↑(List.length (stA d0 x1.1.2.1).1):Int))/\
           ((0<=(List.getD (stA d0 x1.1.2.1).1 (plF d0 s x1.1.2.1 x1.1.1).toNat (0,0)).2/\(List.getD (stA d0 x1.1.2.1).1 (plF d0 s x1.1.2.1 x1.1.1).toNat (0,0)).2<(d0.length:Int))/\
           ((ak ((x1.1.1:Int)+1))/\
           (∃ x4 : { x : Nat × Nat × Int // PlI d0 (aG   s) x },
            (((aG s).length-x4.1.1<(aG s).length-x1.1.1)/\
            (((d0,d1,d2)=(d0,d1,d2))/\
            ((x1.1.2.2+e01 (stA d0 x1.1.2.1).2.1+cB d0 (List.take x3.1 (plX d0 s x1.1.2.1 x1.1.1))=x4.1.2.2)/\
            ((d0.getD (Int.toNat (List.getD (stA d0 x1.1.2.1).1 (plF d0 s x1.1.2.1 x1.1.1).toNat (0,0)).2) ([],false,0)=stA d0 x4.1.2.1)/\
            ((aG s=aG s)/\
            (((↑(aG s).length:Int)=(↑(aG s).length:Int))/\
            ((x1.1.1:Int)+1=(x4.1.1:Int)))))))))))))))))))))))))/\
     (¬(↑x1.val.fst : Int) < (↑(aG   s).length : Int) →
      (((!(stA d0 x1.val.snd.fst).snd.fst)=true →
        ((0=(plE s d0).1)/\
        (10=(plE s d0).2)))/\
      (¬(!(stA d0 x1.val.snd.fst).snd.fst) = true →
       ((x1.1.2.2=(plE s d0).1)/\
       (0=(plE s d0).2))))))))))/\
  (¬eP   s = 0 →
   ((0=(plE s d0).1)/\
   (10=(plE s d0).2)))))) (by kernel_rfl) ?_
 unfold plX plF;have hp0:=hc1.pos;have hdl:(aG s).length<=s.length:=by
  unfold aG;split
  .rw[zR];exact wL s
  .exact Nat.zero_le _
 refine⟨hc2,fun he=>?_,fun he=>?_⟩
 .refine⟨⟨by omega,by omega⟩,⟨⟨(0,0,0),⟨Nat.zero_le _,hp0,rfl,Int.le_refl _,by have:=hc1.le 0 hp0;dsimp only;omega⟩⟩,rfl,rfl,rfl,rfl,rfl,rfl⟩,?_⟩;rintro⟨⟨k,i,a⟩,x1,x2,x3,x4,x5⟩;dsimp only at x1 x2 x3 x4 x5 ⊢;have hE:EdR (stA d0 i).1:=hc1.eds.at i;have hle:=hc1.le i x2;have hpE:plE s d0=plc d0 ((aG s).drop k) i a:=by unfold plE;rw[if_pos he];exact x3
  have e0:=KQ (stA d0 i).2.1;have hol:=hE.2.2;refine⟨fun h=>?_,fun h=>?_⟩
  .have hk:k<(aG s).length:=by omega
   have hv:Utf8.valid ((aG s).getD k 0)=true:=wU he _ (iE hk);have hIR:IR ((aG s).getD k 0):=by have:=bT.1 hv;unfold IR;omega
   rw[iB hk] at hpE x3;generalize (aG s).getD k 0=r at hpE x3 hIR ⊢;refine⟨⟨by omega,h⟩,hE,hIR,fun hb=>?_,fun hb=>?_⟩
   .have h4:iT (stA d0 i).1 r=false:=by simpa using hb
    rw[hpE];unfold plc;rw[h4];exact⟨rfl,rfl⟩
   .have h4:iT (stA d0 i).1 r=true:=by simpa using hb
    obtain⟨g1,g2,_⟩:=Ky hE h4;have hn:(gZ (stA d0 i).1 r).toNat<(stA d0 i).1.length:=by omega
    obtain⟨p1,p2,p3⟩:=hc1.part x2 hn;have hto:=hc1.to i x2 _ (iJ hn);have hcn:0<=(stA d0 ((stA d0 i).1.getD (gZ (stA d0 i).1 r).toNat (0,0)).2.toNat).2.2:=hc1.nn _ p3;have hplc:plc d0 (r::(aG s).drop (k+1)) i a=plc d0 ((aG s).drop (k+1)) ((stA d0 i).1.getD (gZ (stA d0 i).1 r).toNat (0,0)).2.toNat (a+e01 (stA d0 i).2.1+cB d0 ((stA d0 i).1.take (gZ (stA d0 i).1 r).toNat)):=by
     rw[plc,if_pos h4,g2]
    have hcut:sK (stA d0 i).1 none (some (gZ (stA d0 i).1 r))=(stA d0 i).1.take (gZ (stA d0 i).1 r).toNat:=rfl;rw[hcut];generalize hfn:(gZ (stA d0 i).1 r).toNat=n at hn p1 p2 p3 hto hcn hplc ⊢;have htl:((stA d0 i).1.take n).length=n:=by rw[zP];omega
    refine⟨⟨fun hb=>⟨by unfold ak;omega,(),rfl,by rw[hb];rfl,rfl,rfl,rfl,rfl,rfl⟩,fun hb=>⟨(),rfl,by rw[show (stA d0 i).2.1=false by simpa using hb];unfold e01;simp,rfl,rfl,rfl,rfl,rfl⟩⟩,fun _=>⟨⟨g1.1,by omega⟩,⟨⟨0,Nat.zero_le _⟩,rfl,by simp[cB],rfl,rfl,rfl,rfl,rfl,rfl,rfl,rfl⟩,?_⟩⟩;rintro⟨j,hj⟩;dsimp only;rw[htl] at hj ⊢;rw[List.take_take,Nat.min_eq_left hj];refine⟨fun h5=>?_,fun h5=>?_⟩
    .have hjn:j<n:=by omega
     rw[Jb hjn];obtain⟨q1,q2,q3⟩:=hc1.part x2 (n:=j) (by omega);have hto2:=hc1.to i x2 _ (iJ (show j<(stA d0 i).1.length by omega));have hq4:=hc1.nn _ q3;have hq5:(d0.getD (Int.toNat ((stA d0 i).1.getD j (0,0)).2) ([],false,0)).2.2=(stA d0 ((stA d0 i).1.getD j (0,0)).2.toNat).2.2:=rfl;refine⟨⟨by omega,h5⟩,hto2,by rw[hq5];unfold ak;omega,by unfold ak;omega,⟨j+1,by omega⟩,by dsimp only;omega,rfl,?_,rfl,rfl,rfl,rfl,rfl,rfl,rfl,by push_cast;rfl⟩;dsimp only;rw[List.take_take,Nat.min_eq_left (by omega),jK d0 (by omega),hq5];omega
    .obtain rfl:j=n:=by omega
     refine⟨g1,hto,by unfold ak;omega,⟨(k+1,((stA d0 i).1.getD j (0,0)).2.toNat,a+e01 (stA d0 i).2.1+cB d0 ((stA d0 i).1.take j)),⟨hk,p3,x3.trans hplc,by dsimp only;omega,by dsimp only;omega⟩⟩,by dsimp only;omega,rfl,rfl,rfl,rfl,rfl,by push_cast;rfl⟩
  .rw[List.drop_of_length_le (show (aG s).length<=k by omega)] at hpE;rw[hpE];unfold plc;refine⟨fun hb=>?_,fun hb=>?_⟩
   .rw[if_neg (by simpa using hb)];exact⟨rfl,rfl⟩
   .rw[if_pos (by simpa using hb)];exact⟨rfl,rfl⟩
 .unfold plE;rw[if_neg he];exact⟨rfl,rfl⟩
end Go.EA
