/- Layer 10: Word. Conditions: none. -/
import Derived.Test.YtpgjilomblpcpaaDoorEDwp
import Derived.Test.YtpgjilomblpcpaaDoorEDf
import Derived.Test.YtpgjilomblpcpaaDoorEK25
import Derived.KernelRfl
set_option linter.unusedVariables false
set_option linter.unusedSimpArgs false
set_option maxRecDepth 100000
set_option maxHeartbeats 0
namespace Go.EA
open F
def DwS (d:List StD):Prop:=∃W all,Sts W all/\tot W<=4194304/\d=all.map stD
def WrI (d:List StD) (i:Int) (x:List Int×Nat×Int×Nat):Prop:=∃W all pre k,Sts W all/\tot W<=4194304/\d=all.map stD/\x.2.1<all.length/\0<=x.2.2.1/\x.2.2.1<(rAt all x.2.1).1.length/\x.2.2.2=tot (rAt all x.2.1).1/\oD d 4194306 0 i=pre++oD d k x.2.1 x.2.2.1/\tot (rAt all x.2.1).1<k/\x.1=Ac pre/\x.1.length<=4*pre.length/\pre.length+tot (rAt all x.2.1).1<=4194304
def xV (d:List StD) (i:Int):List UInt8:=(Ac (oD d 4194306 0 i)).map fun z=>UInt8.ofNat (Int.toNat z)
def OV:(List ((List (Int×Int))×Bool×Int))×Int×List (Int)×Int->List SV:=fun(d0,d1,d2,i)=>[.one (.vptr (.pair (.row (.pair (.row (.pair (.int .i32) (.int .i64))) (.pair .bool (.int .i64)))) (.pair (.int .i64) (.row (.int .i64)))) (d0,d1,d2) 0),.one (.int .i64 i)]
def VM:(List ((List (Int×Int))×Bool×Int))×Int×List (Int)×Int->SV×List Prop:=fun(d0,d1,d2,i)=>(.tup [.a [.str (if 0<=i/\i<d2.length then xV d0 i else []),.int .i64 (if 0<=i/\i<d2.length then d2.getD i.toNat 0 else 0)],.o (.int .i64 (if 0<=i/\i<d2.length then 0 else 2))],[DwS d0,(d2.length:Int)=(stA d0 0).2.2])
def Sl:Con:=⟨true,[some (.pair (.row (.pair (.row (.pair (.int .i32) (.int .i64))) (.pair .bool (.int .i64)))) (.pair (.int .i64) (.row (.int .i64)))),none],fun xs=>match xs with | [.one (.vptr (.pair (.row (.pair (.row (.pair (.int .i32) (.int .i64))) (.pair .bool (.int .i64)))) (.pair (.int .i64) (.row (.int .i64)))) (d0,d1,d2) 0),.one (.int .i64 i)]=>some (VM (d0,d1,d2,i)) | _=>none⟩
noncomputable def KM:GP:=fH OV VM
theorem Lt:∀a b,(OV a).map aH=(OV b).map aH->a=b:=by
 rintro⟨a0,a1,a2,a3⟩ ⟨b0,b1,b2,b3⟩ h;simp only[OV,zK,List.map_nil,aH,bi,List.drop_zero,zG,AV.one.injEq,AV.agg.injEq,Lf.int.injEq,Lf.str.injEq,Lf.bool.injEq,Lf.vrow.injEq,Lf.vptr.injEq,and_true,true_and,and_assoc] at h;obtain⟨h0,h1⟩:=h;have h0:=Ty.enc_inj _ h0;simp only[zF] at h0;obtain⟨rfl,rfl,rfl⟩:=h0;subst h1
 rfl
theorem Ps:gH KM Sl:=bP Lt (fun⟨_,_,_,_⟩ ⟨_,_,_,_⟩=>rfl) (fun⟨_,_,_,_⟩=>rfl) fun xs r h=>by
 simp only[Sl] at h;split at h
 .cases h;rename_i d0 d1 d2 i;exact⟨(d0,d1,d2,i),rfl,rfl⟩
 .cases h
theorem WW {S:SC}(hB:SB S) (u56:bJ S 56 C56)  (h302:S.has 302 f302):aX S 302 (aI KM):=by
 refine prI hB [] [] [(56,C56)] trivial trivial ⟨u56,trivial⟩ h302 (fun⟨d0,d1,d2,i⟩=>⟨rfl,rfl,rfl⟩) (fun(d0,d1,d2,i)=>fun f id T L=>match f,id with
  |302,1=>some (.inv { x:List Int×Nat×Int×Nat // WrI d0 i x } (fun x=>([(6,.one (.osl 1)),(7,.one (.vptr (.pair (.row (.pair (.int .i32) (.int .i64))) (.pair .bool (.int .i64))) (stA d0 x.1.2.1) 0)),(8,.one (.int .i64 x.1.2.2.1))],[(1,.row (.int .u8) x.1.1)])) (fun x=>x.1.2.2.2))
  |302,4043=>match T.getD 8 .junk,T.getD 7 .junk with | .one (.int _ a),.one (.vptr (.pair _ (.pair .bool _)) e _)=>some (.cut { u:Unit // e.2.1=true->a≠0 } fun _=>([(8,.one (.int .i64 (a-e01 e.2.1)))],[])) | _,_=>none
  |302,3=>match T.getD 8 .junk,T.getD 46 .junk with | .one (.int _ a),.one (.row (.pair (.int .i32) (.int .i64)) es)=>some (.inv { j:Nat // j<=es.length/\0<=a-cB d0 (es.take j)/\gY d0 es a=gY d0 (es.drop j) (a-cB d0 (es.take j)) } (fun x=>([(48,.one (.int .i64 x.1)),(8,.one (.int .i64 (a-cB d0 (es.take x.1))))],[])) (fun x=>es.length-x.1)) | _,_=>none
  |_,_=>none) 3000 ?_
 rintro⟨d0,d1,d2,i⟩ hc;have hc1:DwS d0:=hc.1;have hc2:(d2.length:Int)=(stA d0 0).2.2:=hc.2.1;refine VC.use (p:=
  ((i < 0 →
    (([]=if 0<=i/\i<(d2.length:Int) then xV d0 i else [])/\
    ((0=if 0<=i/\i<(d2.length:Int) then d2.getD i.toNat 0 else 0)/\
    (2=if 0<=i/\i<(d2.length:Int) then (0:Int) else (2:Int)))))/\
  (¬i < 0 →
   (((↑(List.length (d1,d2).snd):Int)≤i →
     (([]=if 0<=i/\i<(d2.length:Int) then xV d0 i else [])/\
     ((0=if 0<=i/\i<(d2.length:Int) then d2.getD i.toNat 0 else 0)/\
     (2=if 0<=i/\i<(d2.length:Int) then (0:Int) else (2:Int)))))/\
   (¬(↑(List.length (d1, d2).snd) : Int) ≤ i →
    (((0:Int)<=(0:Int)/\(0:Int)<(d0.length:Int))/\
    ((∃ x1:{ x:List Int×Nat×Int×Nat // WrI d0 i x },
      (((d0,d1,d2)=(d0,d1,d2))/\
      ((i=i)/\
      ((x1.1.1=[])/\
      ((d0.getD 0 ([],false,0)=stA d0 x1.1.2.1)/\
      ((i=x1.1.2.2.1)/\
      ((([]:List UInt8)=[])/\
      (((0:Int)=(0:Int))/\
      (x1.1.1=[])))))))))/\
    (∀ x1 : { x : List Int × Nat × Int × Nat // WrI d0 i x },
     ((((stA d0 x1.val.snd.fst).snd.fst = true →
        ((x1.val.snd.snd.fst=0 →
          ((0<=i/\i<(↑(List.length (d1,d2).2):Int))/\
          ((List.map (fun z=>UInt8.ofNat (Int.toNat z)) x1.1.1=if 0<=i/\i<(d2.length:Int) then xV d0 i else [])/\
          ((List.getD (d1,d2).2 i.toNat 0=if 0<=i/\i<(d2.length:Int) then d2.getD i.toNat 0 else 0)/\
          (0=if 0<=i/\i<(d2.length:Int) then (0:Int) else (2:Int))))))/\
        (¬x1.val.snd.snd.fst = 0 →
         ((ak (x1.1.2.2.1-1))/\
         (∃ x2 : { u : Unit // (stA d0 x1.val.snd.fst).snd.fst = true → x1.val.snd.snd.fst ≠ 0 },
          (((d0,d1,d2)=(d0,d1,d2))/\
          ((i=i)/\
          ((stA d0 x1.1.2.1=stA d0 x1.1.2.1)/\
          ((x1.1.2.2.1-1=x1.1.2.2.1-e01 (stA d0 x1.1.2.1).2.1)/\
          ((([]:List UInt8)=[])/\
          (((0:Int)=(0:Int))/\
          (x1.1.1=x1.1.1))))))))))))/\
      (¬(stA d0 x1.val.snd.fst).snd.fst = true →
       (∃ x2 : { u : Unit // (stA d0 x1.val.snd.fst).snd.fst = true → x1.val.snd.snd.fst ≠ 0 },
        (((d0,d1,d2)=(d0,d1,d2))/\
        ((i=i)/\
        ((stA d0 x1.1.2.1=stA d0 x1.1.2.1)/\
        ((x1.1.2.2.1=x1.1.2.2.1-e01 (stA d0 x1.1.2.1).2.1)/\
        ((([]:List UInt8)=[])/\
        (((0:Int)=(0:Int))/\
        (x1.1.1=x1.1.1))))))))))/\
     (∀ x2 : { u : Unit // (stA d0 x1.val.snd.fst).snd.fst = true → x1.val.snd.snd.fst ≠ 0 },
      ((∃ x3:{ j:Nat // j≤List.length (stA d0 x1.val.snd.fst).fst∧0≤x1.val.snd.snd.fst - e01 (stA d0 x1.val.snd.fst).snd.fst - cB   d0 (List.take j (stA d0 x1.val.snd.fst).fst)∧gY    d0 (stA d0 x1.val.snd.fst).fst (x1.val.snd.snd.fst - e01 (stA d0 x1.val.snd.fst).snd.fst)=gY    d0 (List.drop j (stA d0 x1.val.snd.fst).fst) (x1.val.snd.snd.fst - e01 (stA d0 x1.val.snd.fst).snd.fst - cB   d0 (List.take j (stA d0 x1.val.snd.fst).fst)) },
        (((d0,d1,d2)=(d0,d1,d2))/\
        ((i=i)/\
        ((x1.1.2.2.1-e01 (stA d0 x1.1.2.1).2.1=x1.1.2.2.1-e01 (stA d0 x1.1.2.1).2.1-cB d0 (List.take x3.1 (stA d0 x1.1.2.1).1))/\
        (((stA d0 x1.1.2.1).1=(stA d0 x1.1.2.1).1)/\
        (((↑(List.length (stA d0 x1.1.2.1).1):Int)=(↑(List.length (stA d0 x1.1.2.1).1):Int))/\
        ((0=(x3.1:Int))/\
        ((([]:List UInt8)=[])/\
        (((0:Int)=(0:Int))/\
        (x1.1.1=x1.1.1))))))))))/\
      (∀ x3 : { j : Nat // j ≤ List.length (stA d0 x1.val.snd.fst).fst ∧ 0 ≤ x1.val.snd.snd.fst - e01 (stA d0 x1.val.snd.fst).snd.fst - cB   d0 (List.take j (stA d0 x1.val.snd.fst).fst) ∧ gY    d0 (stA d0 x1.val.snd.fst).fst (x1.val.snd.snd.fst - e01 (stA d0 x1.val.snd.fst).snd.fst) = gY    d0 (List.drop j (stA d0 x1.val.snd.fst).fst) (x1.val.snd.snd.fst - e01 (stA d0 x1.val.snd.fst).snd.fst - cB   d0 (List.take j (stA d0 x1.val.snd.fst).fst)) },
       (((↑x3.val:Int) < (↑(List.length (stA d0 x1.val.snd.fst).fst):Int) →
         ((0<=(x3.1:Int)/\(x3.1:Int)<(↑(List.length (stA d0 x1.1.2.1).1):Int))/\
         ((0<=(List.getD (stA d0 x1.1.2.1).1 x3.1 (0,0)).2/\(List.getD (stA d0 x1.1.2.1).1 x3.1 (0,0)).2<(d0.length:Int))/\
         ((x1.val.snd.snd.fst - e01 (stA d0 x1.val.snd.fst).snd.fst - cB   d0 (List.take x3.val (stA d0 x1.val.snd.fst).fst) < (d0.getD (Int.toNat (List.getD (stA d0 x1.val.snd.fst).fst x3.val (0,0)).snd) ([],false,0)).snd.snd →
           ((Utf8.valid (List.getD (stA d0 x1.1.2.1).1 x3.1 (0,0)).1=true)/\
           ((x1.1.1.length<=70368744177664)/\
           (∀ x4 : (Unit),
            (∃ x5 : { x : List Int × Nat × Int × Nat // WrI d0 i x },
             ((x5.1.2.2.2<x1.1.2.2.2)/\
             (((d0,d1,d2)=(d0,d1,d2))/\
             ((i=i)/\
             ((d0.getD (Int.toNat (List.getD (stA d0 x1.1.2.1).1 x3.1 (0,0)).2) ([],false,0)=stA d0 x5.1.2.1)/\
             ((x1.1.2.2.1-e01 (stA d0 x1.1.2.1).2.1-cB d0 (List.take x3.1 (stA d0 x1.1.2.1).1)=x5.1.2.2.1)/\
             ((([]:List UInt8)=[])/\
             (((0:Int)=(0:Int))/\
             (x1.1.1++encI (List.getD (stA d0 x1.1.2.1).1 x3.1 (0,0)).1=x5.1.1)))))))))))))/\
         (¬x1.val.snd.snd.fst - e01 (stA d0 x1.val.snd.fst).snd.fst - cB   d0 (List.take x3.val (stA d0 x1.val.snd.fst).fst) < (d0.getD (Int.toNat (List.getD (stA d0 x1.val.snd.fst).fst x3.val (0, 0)).snd) ([], false, 0)).snd.snd →
          ((ak (x1.1.2.2.1-e01 (stA d0 x1.1.2.1).2.1-cB d0 (List.take x3.1 (stA d0 x1.1.2.1).1)-(d0.getD (Int.toNat (List.getD (stA d0 x1.1.2.1).1 x3.1 (0,0)).2) ([],false,0)).2.2))/\
          ((ak ((x3.1:Int)+1))/\
          (∃ x4 : { j : Nat // j ≤ List.length (stA d0 x1.val.snd.fst).fst ∧ 0 ≤ x1.val.snd.snd.fst - e01 (stA d0 x1.val.snd.fst).snd.fst - cB   d0 (List.take j (stA d0 x1.val.snd.fst).fst) ∧ gY    d0 (stA d0 x1.val.snd.fst).fst (x1.val.snd.snd.fst - e01 (stA d0 x1.val.snd.fst).snd.fst) = gY    d0 (List.drop j (stA d0 x1.val.snd.fst).fst) (x1.val.snd.snd.fst - e01 (stA d0 x1.val.snd.fst).snd.fst - cB   d0 (List.take j (stA d0 x1.val.snd.fst).fst)) },
           ((List.length (stA d0 x1.1.2.1).1-x4.1<List.length (stA d0 x1.1.2.1).1-x3.1)/\
           (((d0,d1,d2)=(d0,d1,d2))/\
           ((i=i)/\
           ((x1.1.2.2.1-e01 (stA d0 x1.1.2.1).2.1-cB d0 (List.take x3.1 (stA d0 x1.1.2.1).1)-(d0.getD (Int.toNat (List.getD (stA d0 x1.1.2.1).1 x3.1 (0,0)).2) ([],false,0)).2.2=x1.1.2.2.1-e01 (stA d0 x1.1.2.1).2.1-cB d0 (List.take x4.1 (stA d0 x1.1.2.1).1))/\
           (((stA d0 x1.1.2.1).1=(stA d0 x1.1.2.1).1)/\
           (((↑(List.length (stA d0 x1.1.2.1).1):Int)=(↑(List.length (stA d0 x1.1.2.1).1):Int))/\
           (((x3.1:Int)+1=(x4.1:Int))/\
           ((([]:List UInt8)=[])/\
           (((0:Int)=(0:Int))/\
           (x1.1.1=x1.1.1))))))))))))))))))/\
       (¬(↑x3.val : Int) < (↑(List.length (stA d0 x1.val.snd.fst).fst) : Int) →
        ((0<=i/\i<(↑(List.length (d1,d2).2):Int))/\
        ((List.map (fun z=>UInt8.ofNat (Int.toNat z)) x1.1.1=if 0<=i/\i<(d2.length:Int) then xV d0 i else [])/\
        ((List.getD (d1,d2).2 i.toNat 0=if 0<=i/\i<(d2.length:Int) then d2.getD i.toNat 0 else 0)/\
        (0=if 0<=i/\i<(d2.length:Int) then (0:Int) else (2:Int))))))))))))))))))) (by kernel_rfl) ?_
 obtain⟨W0,all0,hS0,hT0,hd0⟩:=hc1;have hok:Am d0:=hd0 ▸ hS0.ok hT0;have hp0:=hok.pos;have hw0:(d2.length:Int)=(W0.length:Int):=by
  rw[hc2,hd0,dh hS0.pos];show ((rAt all0 0).1.length:Int)=_;rw[hS0.root]
 have hdl:(List.length (d1,d2).2)=d2.length:=rfl;rw[hdl];refine⟨fun h=>⟨by rw[if_neg (by omega)],by rw[if_neg (by omega)],by rw[if_neg (by omega)]⟩,fun h=>⟨fun h2=>⟨by rw[if_neg (by omega)],by rw[if_neg (by omega)],by rw[if_neg (by omega)]⟩,fun h2=>?_⟩⟩;have hi:0<=i/\i<(d2.length:Int):=⟨by omega,by omega⟩;refine⟨⟨by omega,by omega⟩,⟨⟨([],0,i,tot W0),W0,all0,[],4194306,hS0,hT0,hd0,hS0.pos,hi.1,?_,?_,rfl,?_,rfl,Nat.zero_le _,?_⟩,rfl,rfl,rfl,rfl,rfl,rfl,rfl,rfl⟩,?_⟩
 .dsimp only;rw[hS0.root];omega
 .dsimp only;rw[hS0.root]
 .dsimp only;rw[hS0.root];omega
 .dsimp only;rw[hS0.root];simp;omega
 rintro⟨⟨o,st,a,t⟩,W,all,pre,k,hS,hT,hd,hst,ha0,ha1,ht,hw,hk,ho,hol,hpl⟩;dsimp only at hst ha0 ha1 ht hw hk ho hol hpl ⊢;have hstl:st<d0.length:=by rw[hd,zR];exact hst
 have hsA:stA d0 st=stD (rAt all st):=by rw[hd];exact dh hst
 have g:=hS.g _ (hS.mem hst);have hcc:(stA d0 st).2.2=((rAt all st).1.length:Int):=by rw[hsA];rfl
 have hcnt:=hok.cnt st hstl;have hcl:=hok.le st hstl;have e0:=KQ (stA d0 st).2.1;refine⟨⟨fun he=>⟨fun hz=>⟨hi,?_,by rw[if_pos hi],by rw[if_pos hi]⟩,fun hz=>⟨by unfold ak;omega,⟨(),fun _=>hz⟩,rfl,rfl,rfl,by rw[he];rfl,rfl,rfl,rfl⟩⟩,fun he=>⟨⟨(),fun h'=>absurd h' he⟩,rfl,rfl,rfl,by rw[show (stA d0 st).2.1=false by simpa using he];unfold e01;simp,rfl,rfl,rfl⟩⟩,?_⟩
 .rw[if_pos hi];unfold xV;cases k with
  |zero=>omega
  | succ k=>
    have:oD d0 (k+1) st a=[]:=by unfold oD;rw[he,hz];rfl
    rw[hw,this,List.append_nil,ho]
 rintro⟨_,hends⟩;have hb0:0<=a-e01 (stA d0 st).2.1:=by
  cases hb:(stA d0 st).2.1 with
  |false=>show 0<=a-0;omega
  |true=>have:=hends hb;show 0<=a-1;omega
 refine⟨⟨⟨0,Nat.zero_le _,by simp[cB];omega,by simp[cB]⟩,rfl,rfl,by simp[cB],rfl,rfl,rfl,rfl,rfl,rfl⟩,?_⟩;rintro⟨j,hj,hj0,hpk⟩;dsimp only;refine⟨fun h3=>?_,fun h3=>?_⟩
 .have hjl:j<(stA d0 st).1.length:=by omega
  obtain⟨p1,p2,p3⟩:=hok.part hstl hjl;have hto:=hok.to st hstl _ (iJ hjl);have hmem:(stA d0 st).1.getD j (0,0)∈(rAt all st).2.2:=by
   have:=iJ hjl;rw[hsA] at this ⊢;exact this
  have hdr:(stA d0 st).1.drop j=(stA d0 st).1.getD j (0,0)::(stA d0 st).1.drop (j+1):=by
   rw[List.drop_eq_getElem_cons hjl,zA,zB hjl];rfl
  have hce:(d0.getD (Int.toNat ((stA d0 st).1.getD j (0,0)).2) ([],false,0)).2.2=(stA d0 ((stA d0 st).1.getD j (0,0)).2.toNat).2.2:=rfl;rw[hce];have hnn:=hok.nn _ p3;rw[hdr] at hpk;refine⟨⟨by omega,h3⟩,hto,fun h4=>?_,fun h4=>⟨by unfold ak;omega,by have:=(hok.eds.at st).2.2;have e2:(d0.getD st ([],false,0)).1=(stA d0 st).1:=rfl;rw[e2] at this;unfold ak;omega,⟨j+1,hjl,?_,?_⟩,by dsimp only;omega,rfl,rfl,?_,rfl,rfl,by push_cast;rfl,rfl,rfl,rfl⟩⟩
  .obtain⟨n,q1,q2,q3⟩:=g.to _ hmem;have hh:((stA d0 st).1.getD j (0,0)).1∈az (rAt all st).1:=by rw[<- g.hd];exact List.mem_map_of_mem hmem
   have hlt:=gX hh;have hval:Utf8.valid ((stA d0 st).1.getD j (0,0)).1=true:=by
    obtain⟨x,m1,m2⟩:=iy hh;cases x with
    |nil=>simp[dx] at m2
    | cons b z=>
      simp only[dx,decide_eq_true_eq] at m2;exact g.val _ m1 _ (m2 ▸ List.mem_cons_self ..)
   have hel:=Fb hval;cases k with
   |zero=>omega
   | succ k=>
     have hstep:oD d0 (k+1) st a=((stA d0 st).1.getD j (0,0)).1::oD d0 k ((stA d0 st).1.getD j (0,0)).2.toNat (a-e01 (stA d0 st).2.1-cB d0 ((stA d0 st).1.take j)):=by
      rw[oD,if_neg (by
       intro hb;simp only[zH,decide_eq_true_eq] at hb;exact hends hb.1 hb.2),hpk]
      simp only[gY];rw[if_pos h4]
     have hn:((stA d0 st).1.getD j (0,0)).2.toNat=n:=by omega
     refine⟨hval,by omega,fun _=>⟨⟨(o++encI ((stA d0 st).1.getD j (0,0)).1,((stA d0 st).1.getD j (0,0)).2.toNat,a-e01 (stA d0 st).2.1-cB d0 ((stA d0 st).1.take j),tot (aS (rAt all st).1 ((stA d0 st).1.getD j (0,0)).1)),W,all,pre++[((stA d0 st).1.getD j (0,0)).1],k,hS,hT,hd,?_,hj0,?_,?_,?_,?_,?_,?_,?_⟩,?_,rfl,rfl,rfl,rfl,rfl,rfl,rfl⟩⟩
     .dsimp only;rw[hn];exact q2
     .dsimp only;rw[hn,q3];have:(stA d0 n).2.2=((rAt all n).1.length:Int):=by rw[hd,dh q2];rfl
      rw[hn,this,q3] at h4;exact h4
     .dsimp only;rw[hn,q3]
     .dsimp only;rw[hw,hstep];simp
     .dsimp only;rw[hn,q3];omega
     .dsimp only;rw[ho];unfold Ac;simp
     .dsimp only;rw[zL,zL,zN];omega
     .dsimp only;rw[hn,q3,zL,zN];omega
     .dsimp only;rw[ht];exact hlt
  .rw[jK d0 hjl];omega
  .rw[hpk];simp only[gY];rw[if_neg h4,jK d0 hjl]
   congr 1;omega
  .dsimp only;rw[jK d0 hjl];omega
 .exfalso;rw[List.take_of_length_le (by omega)] at hj0;omega
end Go.EA
