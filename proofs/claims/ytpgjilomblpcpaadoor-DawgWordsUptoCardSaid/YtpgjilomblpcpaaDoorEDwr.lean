/- Layer 10: the law of words and their places. Conditions: none. -/
import Derived.Test.YtpgjilomblpcpaaDoorEDwl
import Derived.Test.YtpgjilomblpcpaaDoorEDj
import Derived.Test.YtpgjilomblpcpaaDoorEK25
import Derived.Test.YtpgjilomblpcpaaDoorEK12
import Derived.Test.YtpgjilomblpcpaaDoorELx1
import Derived.KernelRfl
set_option linter.unusedVariables false
set_option linter.unusedSimpArgs false
set_option maxRecDepth 100000
set_option maxHeartbeats 0
namespace Go.EA
open F
def w3A (l:List Wd) (i:Int):List UInt8:=if 0<=i/\i<(↑(List.map (fun x:List UInt8×Int=>x.2) (bf l)).length:Int) then xV (List.map stD (fZ (bf l))) i else []
def w3B (l:List Wd) (i:Int):Int:=if 0<=i/\i<(↑(List.map (fun x:List UInt8×Int=>x.2) (bf l)).length:Int) then (List.map (fun x:List UInt8×Int=>x.2) (bf l)).getD i.toNat 0 else 0
def w3E (l:List Wd) (i:Int):Int:=if 0<=i/\i<(↑(List.map (fun x:List UInt8×Int=>x.2) (bf l)).length:Int) then 0 else 2
def wd2 (a:List UInt8) (b:Int):List SL:=List.take 2 (List.drop 0 (List.take 0 (List.map nR [Lf.str [],Lf.int IntKind.i64 0])++([SL.str a,SL.int IntKind.i64 b]++List.drop (0+[SL.str a,SL.int IntKind.i64 b].length) (List.map nR [Lf.str [],Lf.int IntKind.i64 0]))))
theorem yY {a:List UInt8}{b:Int}(h1:a=[]) (h2:b=0):iY (wd2 a b) (List.map nR [Lf.str [],Lf.int IntKind.i64 0])=true:=by
 subst h1 h2;rfl
theorem Qt {a:List UInt8}{b:Int}{w:Wd}(h1:a=w.1) (h2:b=w.2):iY (wd2 a b) (List.take 2 (List.drop 0 (WdT.cells w)))=true:=by
 subst h1 h2;show (decide (w.1=w.1)&&(decide (w.2=w.2)&&true))=true;simp
def PQ:(List (List UInt8×Int))×List UInt8->List SV:=fun(l,s)=>[.one (.row (.pair .str (.int .i64)) l),.one (.str s)]
def Vx:(List (List UInt8×Int))×List UInt8->SV×List Prop:=fun(l,s)=>(.tup [.o (.int .i64 (plR l s).1),.o (.bool (plR l s).2)],[l.length<=1099511627776])
def TC:Con:=⟨true,[some (.pair .str (.int .i64)),none],fun xs=>match xs with | [.one (.row (.pair .str (.int .i64)) l),.one (.str s)]=>some (Vx (l,s)) | _=>none⟩
noncomputable def KG:GP:=fH PQ Vx
theorem Ns:∀a b,(PQ a).map aH=(PQ b).map aH->a=b:=by
 rintro⟨a0,a1⟩ ⟨b0,b1⟩ h;simp only[PQ,zK,List.map_nil,aH,bi,zG,AV.one.injEq,AV.agg.injEq,Lf.int.injEq,Lf.str.injEq,Lf.bool.injEq,Lf.vrow.injEq,and_true,true_and,and_assoc] at h;obtain⟨h0,h1⟩:=h;have h0:=gG h0;subst h0 h1
 rfl
theorem PM:gH KG TC:=bP Ns (fun⟨_,_⟩ ⟨_,_⟩=>rfl) (fun⟨_,_⟩=>rfl) fun xs r h=>by
 simp only[TC] at h;split at h
 .cases h;rename_i l s;exact⟨(l,s),rfl,rfl⟩
 .cases h
theorem VG {S:SC}(hB:SB S)  (h306:S.has 306 f306):aX S 306 (aI KG):=by
 refine prM hB [] [] trivial trivial h306 (fun⟨l,s⟩=>⟨rfl,rfl,rfl⟩) (fun(l,s)=>fun f id T L=>match f,id with
  |306,0=>some (.inv { i:Nat // i<=l.length/\∀j,j<i->(l.getD j ([],0)).1≠s } (fun x=>([(10,.one (.int .i64 x.1))],[])) (fun x=>l.length-x.1))
  |_,_=>none) 400 ?_
 rintro⟨l,s⟩ hc;have hc1:l.length<=1099511627776:=hc.1;refine VC.use (p:=
  ((∃ x1:{ i:Nat // i≤l.length∧∀ (j:Nat),j < i→(l.getD j ([],0)).fst≠s },
    ((s=s)/\
    ((l=l)/\
    (((l.length:Int)=(l.length:Int))/\
    (0=(x1.1:Int))))))/\
  (∀ x1 : { i : Nat // i ≤ l.length ∧ ∀ (j : Nat), j < i → (l.getD j ([], 0)).fst ≠ s },
   (((↑x1.val:Int) < (↑l.length:Int) →
     ((0<=(x1.1:Int)/\(x1.1:Int)<(l.length:Int))/\
     (((l.getD x1.val ([],0)).fst=s →
       (((x1.1:Int)=(plR l s).1)/\
       (true=(plR l s).2)))/\
     (¬(l.getD x1.val ([], 0)).fst = s →
      ((ak ((x1.1:Int)+1))/\
      (∃ x2 : { i : Nat // i ≤ l.length ∧ ∀ (j : Nat), j < i → (l.getD j ([], 0)).fst ≠ s },
       ((l.length-x2.1<l.length-x1.1)/\
       ((s=s)/\
       ((l=l)/\
       (((l.length:Int)=(l.length:Int))/\
       ((x1.1:Int)+1=(x2.1:Int))))))))))))/\
   (¬(↑x1.val : Int) < (↑l.length : Int) →
    ((0=(plR l s).1)/\
    (false=(plR l s).2))))))) (by kernel_rfl) ?_
 refine⟨⟨⟨0,Nat.zero_le _,fun j h=>absurd h (zS _)⟩,rfl,rfl,rfl,rfl⟩,?_⟩;rintro⟨i,hi,ha⟩;dsimp only;refine⟨fun h=>⟨⟨by omega,h⟩,fun h2=>?_,fun h2=>⟨by unfold ak;omega,⟨i+1,by omega,fun j hj=>?_⟩,by dsimp only;omega,rfl,rfl,rfl,by push_cast;rfl⟩⟩,fun h=>?_⟩
 .rw[wY (by omega) ha h2];exact⟨rfl,rfl⟩
 .rcases Nat.lt_or_eq_of_le (Nat.le_of_lt_succ hj) with h3 | h3
  .exact ha j h3
  .rw[h3];exact h2
 .rw[Me fun w hw e=>?_]
  .exact⟨rfl,rfl⟩
  .obtain⟨j,hj,ej⟩:=List.getElem_of_mem hw;refine ha j (by omega) ?_;rw[zA,zB hj];show (l[j]).1=s;rw[ej];exact e
theorem Xy {S:SC}(hB:SB S) (Sq:aX S 276 (aI JZ)) (Tk:aX S 277 (aI LJ)) (Ic:aX S 278 (aI Dv)) (Tj:aX S 292 (aI LC)) (UN:aX S 295 (aI Jm)) (Sk:aX S 302 (aI KM)) (Sz:aX S 306 (aI KG)) (h273:S.has 273 f273) (l:List (List UInt8×Int)) (s:List UInt8) (i:Int) (hl0:l.length<=1048576) (hs0:∀x∈l,x.1.length<=1048576):MF S 273 [] [aH (.one (.row (.pair .str (.int .i64)) l)),aH (.one (.str s)),aH (.one (.int .i64 i))] (hl []) fun v _=>v=.one (.bool true):=
 mfM hB [] [⟨276,JZ,Sn⟩,⟨277,LJ,Td⟩,⟨278,Dv,Qj⟩,⟨292,LC,RX⟩,⟨295,Jm,Uz⟩,⟨302,KM,Sl⟩,⟨306,KG,TC⟩] trivial ⟨⟨Sq,Pe⟩,⟨Tk,QQ⟩,⟨Ic,ES⟩,⟨Tj,NN⟩,⟨UN,Qd⟩,⟨Sk,Ps⟩,⟨Sz,PM⟩,trivial⟩ h273 (v:=.one .tt) (xs:=[.one (.row (.pair .str (.int .i64)) l),.one (.str s),.one (.int .i64 i)]) rfl rfl rfl (fun _ _ _ _=>none) 4000 (VC.use (p:=
  (((!true)=true →
    (false=true))/\
  (¬(!true) = true →
   ((l.length<=1099511627776)/\
   ((SmW l)/\
   (((bf l).length<=1048576)/\
   ((SmX (bf l))/\
   ((Di   (bf   l)=true →
     True)/\
   (¬Di   (bf   l) = true →
    ((1000 < (↑s.length:Int) →
      True)/\
    (¬1000 < (↑s.length : Int) →
     ((lg   l=0 →
       (((bf l).length<=1099511627776)/\
       ((SmW (bf l))/\
       ((isE (bf   l)=0 →
         (((0:Int)=(0:Int) →
           ((Am (List.map stD (fZ (bf l))))/\
           ((s.length<=1099511627776)/\
           (((bf l).length<=1099511627776)/\
           ((DwS (List.map stD (fZ (bf l))))/\
           (((↑(List.map (fun x=>x.2) (bf l)).length:Int)=(stA (List.map stD (fZ (bf l))) 0).2.2)/\
           (((plE s (List.map stD (fZ   (bf   l)))).fst=(plR (bf   l) s).fst →
             (((!decide ((plR (bf   l) s).snd=decide ((plE s (List.map stD (fZ   (bf   l)))).snd=0)))=true →
               (false=true))/\
             (¬(!decide ((plR (bf   l) s).snd = decide ((plE s (List.map stD (fZ   (bf   l)))).snd = 0))) = true →
              (((!(plR (bf   l) s).snd)=true →
                (((plE s (List.map stD (fZ   (bf   l)))).snd=10 →
                  ((i < 0 →
                    ((w3E l i=2 →
                      (iY (wd2 (w3A l i) (w3B l i)) (List.map nR [Lf.str [],Lf.int IntKind.i64 0])=true))/\
                    (¬w3E l i = 2 →
                     (false=true))))/\
                  (¬i < 0 →
                   (((↑(bf   l).length:Int)≤i →
                     ((w3E l i=2 →
                       (iY (wd2 (w3A l i) (w3B l i)) (List.map nR [Lf.str [],Lf.int IntKind.i64 0])=true))/\
                     (¬w3E l i = 2 →
                      (false=true))))/\
                   (¬(↑(bf   l).length : Int) ≤ i →
                    ((w3E l i=0 →
                      ((0<=i/\i<(↑(bf l).length:Int))/\
                      (iY (wd2 (w3A l i) (w3B l i)) (List.take 2 (List.drop 0 (WdT.cells ((bf l).getD i.toNat ([],0)))))=true)))/\
                    (¬w3E l i = 0 →
                     (false=true))))))))/\
                (¬(plE s (List.map stD (fZ   (bf   l)))).snd = 10 →
                 (false=true))))/\
              (¬(!(plR (bf   l) s).snd) = true →
               ((i < 0 →
                 ((w3E l i=2 →
                   (iY (wd2 (w3A l i) (w3B l i)) (List.map nR [Lf.str [],Lf.int IntKind.i64 0])=true))/\
                 (¬w3E l i = 2 →
                  (false=true))))/\
               (¬i < 0 →
                (((↑(bf   l).length:Int)≤i →
                  ((w3E l i=2 →
                    (iY (wd2 (w3A l i) (w3B l i)) (List.map nR [Lf.str [],Lf.int IntKind.i64 0])=true))/\
                  (¬w3E l i = 2 →
                   (false=true))))/\
                (¬(↑(bf   l).length : Int) ≤ i →
                 ((w3E l i=0 →
                   ((0<=i/\i<(↑(bf l).length:Int))/\
                   (iY (wd2 (w3A l i) (w3B l i)) (List.take 2 (List.drop 0 (WdT.cells ((bf l).getD i.toNat ([],0)))))=true)))/\
                 (¬w3E l i = 0 →
                  (false=true))))))))))))/\
           (¬(plE s (List.map stD (fZ   (bf   l)))).fst = (plR (bf   l) s).fst →
            (false=true)))))))))/\
         (¬(0 : Int) = (0 : Int) →
          (false=true))))/\
       (¬isE (bf   l) = 0 →
        ((isE (bf   l)=0 →
          False)/\
        (¬isE (bf   l) = 0 →
         (false=true))))))))/\
     (¬lg   l = 0 →
      True))))))))))))) (by kernel_rfl) (by
  have hw:SmW l:=fun x hx=>Nat.le_trans (hs0 x hx) (by decide)
  have hn1:=Nat.le_trans (Kc l) hl0;have hn2:SmX (bf l):=Pt hs0;have hn3:SmW (bf l):=fun x hx=>Nat.le_trans (hn2 x hx) (by decide)
  refine⟨fun h=>(by cases h),fun _=>⟨by omega,hw,hn1,hn2,fun _=>trivial,fun _=>⟨fun _=>trivial,fun hsl=>⟨fun hz=>?_,fun _=>trivial⟩⟩⟩⟩;obtain⟨e1,e2,e3⟩:=Kg hz;have he:isE (bf l)=0:=by rw[e1];exact e3
  have hS:=sts he;have hT:=(nml he).tot;have hDS:DwS (List.map stD (fZ (bf l))):=⟨_,_,hS,hT,rfl⟩;have hml:(List.map (fun x:List UInt8×Int=>x.2) (bf l)).length=(bf l).length:=zR ..;have hct:((bf l).length:Int)=(stA (List.map stD (fZ (bf l))) 0).2.2:=by
   rw[dh hS.pos];show _=((rAt (fZ (bf l)) 0).1.length:Int);rw[hS.root,mq]
  obtain⟨p1,p2,p3⟩:=Qs he s;have hpe:(plR (bf l) s).2=decide ((plE s (List.map stD (fZ (bf l)))).2=0):=by
   cases h:(plR (bf l) s).2 with
   |true=>rw[p2 h];rfl
   |false=>rw[p3 h];rfl
  have ho:¬ (0<=i/\i<((bf l).length:Int))->w3E l i=2/\w3A l i=[]/\w3B l i=0:=fun h=>by
   unfold w3E w3A w3B;rw[hml,if_neg h,if_neg h,if_neg h];exact⟨rfl,rfl,rfl⟩
  have hin:(0<=i/\i<((bf l).length:Int))->w3E l i=0/\w3A l i=((bf l).getD i.toNat ([],0)).1/\w3B l i=((bf l).getD i.toNat ([],0)).2:=fun h=>by
   unfold w3E w3A w3B;rw[hml,if_pos h,if_pos h,if_pos h];refine⟨rfl,?_,?_⟩
   .have:=OZ he (i:=i.toNat) (by omega);rw[Int.toNat_of_nonneg h.1] at this;exact this
   .rw[jc (d:=([],0)) _ (by omega)]
  rw[hml];refine⟨by omega,hn3,fun _=>⟨fun _=>⟨hS.ok hT,by omega,by omega,hDS,hct,fun _=>⟨fun h=>?_,fun _=>⟨fun hq=>⟨fun _=>?_,fun h=>absurd (p3 (by simpa using hq)) h⟩,fun hq=>?_⟩⟩,fun h=>absurd p1 h⟩,fun h=>absurd rfl h⟩,fun h=>absurd he h⟩
  .rw[<- hpe] at h;simp at h
  all_goals
   refine⟨fun h1=>⟨fun _=>yY (ho (by omega)).2.1 (ho (by omega)).2.2,fun h2=>absurd (ho (by omega)).1 h2⟩,fun h1=>⟨fun h2=>⟨fun _=>yY (ho (by omega)).2.1 (ho (by omega)).2.2,fun h3=>absurd (ho (by omega)).1 h3⟩,fun h2=>⟨fun _=>⟨⟨by omega,by omega⟩,Qt (hin ⟨by omega,by omega⟩).2.1 (hin ⟨by omega,by omega⟩).2.2⟩,fun h3=>absurd (hin ⟨by omega,by omega⟩).1 h3⟩⟩⟩))
end Go.EA
