/- Layer 10: the automaton that is made. Conditions: none. -/
import Derived.Test.YtpgjilomblpcpaaDoorEK22
import Derived.Test.YtpgjilomblpcpaaDoorEK25
import Derived.KernelRfl
set_option linter.unusedVariables false
set_option linter.unusedSimpArgs false
set_option maxRecDepth 100000
set_option maxHeartbeats 0
namespace Go.EA
open F
def dpT:SV->Option Nat
 |.one (.int _ z)=>some z.toNat
 |.one (.lit _ z)=>some z.toNat
 |_=>none
def yR (l:List Wd) (i:Nat):List Int:=aG (l.getD i ([],0)).1
def gA (P:List Int) (n j:Nat):Int:=P.getD (0+((↑(n-j):Int)-1).toNat) 0
def gB (P:List Int) (n j:Nat):Int:=P.getD (0+((↑(toN (some ((↑(n-j):Int)-1)) (n-j)-0):Int)-1).toNat) 0
def gC (P:List Int) (n j k:Nat):Int:=P.getD (0+((↑(n-j+k):Int)-1).toNat) 0
def gR (l:List Wd) (i n j:Nat):List Int:=sK (yR l i) (some ((↑(n-j):Int)-1)) none
def gD (D:List StD) (z:Int):StD:=D.getD (Int.toNat z) ([],false,0)
def gE (D:List StD):List StD:=D++List.map (fun x=>([],x)) [(false,0)]
def Kq (d s m:Nat) (j:Nat):Nat:=match j with | 0=>d | 1=>s | _=>m
def Jk:lw:=⟨List Wd,3,fun l b=>[.one (.ptr (b 0) 0 0),.one (.row (.pair .str (.int .i64)) l)],fun l b=>[.cell [.osl (b 1),.mp (b 2)],.nest (.pair (.int .i32) (.int .i64)) (.pair .bool (.int .i64)) [([],false,0)] none,.map0],fun l=>[isE l=0,SmW l],fun _=>(List StD)×Mp,fun l x=>[GY l x.1],fun _ _ _=>.tup [],fun l x b=>[.cell [.osl (b 1),.mp (b 2)],.nest (.pair (.int .i32) (.int .i64)) (.pair .bool (.int .i64)) x.1 none,.mapo .str (.int .i64) x.2],[1,2]⟩
def GR:fu:=⟨fun xs L=>match xs.map kU with | [.one (.ptr d 0 0),.one (.row (.pair .str (.int .i64)) l)]=>(match ae L d with | .cell [.osl s,.mp m]=>(match ae L s with | .nest (.pair (.int .i32) (.int .i64)) (.pair .bool (.int .i64)) [([],false,0)] none=>(match ae L m with | .map0=>some (Jk.res l (Kq d s m) L) | _=>none) | _=>none) | _=>none) | _=>none⟩
theorem kC {P:Nat->Prop}(h0:P 0) (h1:P 1) (h2:P 2):∀j,j<3->P j
 |0,_=>h0
 |1,_=>h1
 |2,_=>h2
 |_+3,h=>absurd h (by omega)
theorem GI:Jk.Fits GR:=by
 intro xs L r h;simp only[GR] at h;split at h
 .rename_i d l he;split at h
  .rename_i s m hl;split at h
   .rename_i hs;split at h
    .rename_i hm;cases h;have n1:d≠s:=fun e=>by rw[e,hs] at hl;cases hl
     have n2:d≠m:=fun e=>by rw[e,hm] at hl;cases hl
     have n3:s≠m:=fun e=>by rw[e,hm] at hs;cases hs
     refine⟨l,Kq d s m,he,kC hl hs hm,fun i j hi hj=>?_,rfl⟩;have g:∀i,i<3->∀j,j<3->Kq d s m i=Kq d s m j->i=j:=
      kC (kC (fun _=>rfl) (fun e=>absurd e n1) (fun e=>absurd e n2)) (kC (fun e=>absurd e.symm n1) (fun _=>rfl) (fun e=>absurd e n3)) (kC (fun e=>absurd e.symm n2) (fun e=>absurd e.symm n3) (fun _=>rfl))
     exact g i hi j hj
    .cases h
   .cases h
  .cases h
 .cases h
theorem OX:Jk.Ok f311.np:=⟨fun l b=>aa.cons (.inl ⟨_,_,rfl,rfl,.inr (.inr (.inl ⟨0,0,0,by decide,rfl,rfl⟩))⟩) (aa.cons (.inr (.inl ⟨rfl,rfl⟩)) aa.nil),
 fun l b=>⟨rfl,kC (jM (aa.cons (.inr (.inl ⟨1,by decide,rfl,rfl⟩)) (aa.cons (.inr (.inr (.inr ⟨2,by decide,rfl,rfl⟩))) aa.nil))) (.inl ⟨rfl,rfl⟩) (.inl ⟨rfl,rfl⟩)⟩,
 fun l x b=>⟨rfl,kC (jM (aa.cons (.inr (.inl ⟨1,by decide,rfl,rfl⟩)) (aa.cons (.inr (.inr (.inr ⟨2,by decide,rfl,rfl⟩))) aa.nil))) (.inl ⟨rfl,rfl⟩) (.inl ⟨rfl,rfl⟩)⟩,
 fun l x=>kC (fun _=>⟨rfl,rfl⟩) (fun h=>absurd (show 1∈[1,2] by decide) h) (fun h=>absurd (show 2∈[1,2] by decide) h),
 fun l=>kC (fun _=>⟨0,.inl rfl⟩) (fun h=>absurd (show 1∈[1,2] by decide) h) (fun h=>absurd (show 2∈[1,2] by decide) h),
 fun l=>rfl,
 fun l x b=>.inr (.inl ⟨rfl,rfl⟩)⟩
theorem WK {S:SC}(hB:SB S) (q17:aX S 17 (aI G17)) (UB:aX S 330 (aI Lh)) (Sv:aX S 346 (aI Ng)) (h329:S.has 329 f329) (h311:S.has 311 f311):bJ S 311 GR:=by
 refine muG hB [(329,f329)] [⟨17,G17,K17⟩,⟨330,Lh,Sw⟩,⟨346,Ng,Uw⟩] [] ⟨h329,trivial⟩ ⟨⟨q17,DC⟩,⟨UB,NU⟩,⟨Sv,OB⟩,trivial⟩ trivial h311 GI OX (fun l=>fun f id T L=>match f,id with
  |311,0=>some (.inv { s:Nat×List StD×Mp×Nat×List Int // OI l s.1 s.2.1 s.2.2.1 (s.2.2.2.2.take s.2.2.2.1)/\s.2.2.2.1<=s.2.2.2.2.length } (fun s=>([(17,.one (.int .i64 s.1.1)),(4,.one (.sl 3 0 s.1.2.2.2.1)),(5,.one (.row (.int .i32) (bR l s.1.1)))],[(1,.nest (.pair (.int .i32) (.int .i64)) (.pair .bool (.int .i64)) s.1.2.1 none),(2,.mapo .str (.int .i64) s.1.2.2.1),(3,.row (.int .i64) s.1.2.2.2.2)])) (fun s=>l.length-s.1.1))
  |311,2=>match T.getD 4 .junk,ae L 1,ae L 2,ae L 3,T.getD 37 .junk with | .one (.sl _ _ n),.nest (.pair (.int .i32) (.int .i64)) (.pair .bool (.int .i64)) D none,.mapo .str (.int .i64) M,.row (.int .i64) l3,.one (.row (.int .i32) rs)=>some (.inv { s:Nat×List StD×List Int // ChR D M l3 n rs s } (fun s=>([(39,.one (.int .i64 s.1.1)),(4,.one (.sl 3 0 (n+s.1.1)))],[(1,.nest (.pair (.int .i32) (.int .i64)) (.pair .bool (.int .i64)) s.1.2.1 none),(3,.row (.int .i64) s.1.2.2)])) (fun s=>rs.length-s.1.1)) | _,_,_,_,_=>none
  |329,0=>match T.getD 1 .junk,dpT (T.getD 2 .junk),ae L 1,ae L 2,ae L 3 with | .one (.sl _ _ n),some dp,.nest (.pair (.int .i32) (.int .i64)) (.pair .bool (.int .i64)) D none,.mapo .str (.int .i64) M,.row (.int .i64) l3=>some (.inv { s:Nat×List StD×Mp // FzR D M l3 n dp s } (fun s=>([(1,.one (.sl 3 0 (n-s.1.1)))],[(1,.nest (.pair (.int .i32) (.int .i64)) (.pair .bool (.int .i64)) s.1.2.1 none),(2,.mapo .str (.int .i64) s.1.2.2)])) (fun s=>n-s.1.1)) | _,_,_,_,_=>none
  |_,_=>none) 4000 ?_
 rintro l hc;have hc1:isE l=0:=hc.1;have hc2:SmW l:=hc.2.1;refine VC.use (p:=
  ((∃ x1:{ s:Nat×List StD×Mp×Nat×List Int // OI l s.fst s.snd.fst s.snd.snd.fst (List.take s.snd.snd.snd.fst s.snd.snd.snd.snd)∧s.snd.snd.snd.fst≤s.snd.snd.snd.snd.length },
    (([(0:Int)]≠[])/\
    (((0:Nat)=(0:Nat))/\
    ((x1.1.2.2.2.1=1)/\
    ((bR l x1.1.1=[])/\
    ((l=l)/\
    (((l.length:Int)=(l.length:Int))/\
    ((0=(x1.1.1:Int))/\
    (([([],false,0)]=x1.1.2.1)/\
    ((x1.1.2.2.1=[])/\
    ([0]=x1.1.2.2.2.2)))))))))))/\
  (∀ x1 : { s : Nat × List StD × Mp × Nat × List Int // OI l s.fst s.snd.fst s.snd.snd.fst (List.take s.snd.snd.snd.fst s.snd.snd.snd.snd) ∧ s.snd.snd.snd.fst ≤ s.snd.snd.snd.snd.length },
   (((↑x1.val.fst:Int) < (↑l.length:Int) →
     ((0<=(x1.1.1:Int)/\(x1.1.1:Int)<(l.length:Int))/\
     ((List.length (l.getD x1.1.1 ([],0)).1<=1099511627776)/\
     (((bR l x1.1.1).length<=1099511627776)/\
     ((∃ x2:{ s:Nat×List StD×Mp // FzR x1.val.snd.fst x1.val.snd.snd.fst x1.val.snd.snd.snd.snd x1.val.snd.snd.snd.fst (aY   (bR   l x1.val.fst) (yR l x1.val.fst)) s },
       (((0:Nat)=(0:Nat))/\
       ((x1.1.2.2.2.1=x1.1.2.2.2.1-x2.1.1)/\
       (((↑(aY (bR l x1.1.1) (yR l x1.1.1)):Int)=(↑(aY (bR l x1.1.1) (yR l x1.1.1)):Int))/\
       ((x1.1.2.1=x2.1.2.1)/\
       ((x1.1.2.2.1=x2.1.2.2)/\
       ((x1.1.2.2.2.2=x1.1.2.2.2.2)/\
       (((l.getD x1.1.1 ([],0)).1=(l.getD x1.1.1 ([],0)).1)/\
       ((l.getD x1.1.1 ([],0)).2=(l.getD x1.1.1 ([],0)).2)))))))))/\
     (∀ x2 : { s : Nat × List StD × Mp // FzR x1.val.snd.fst x1.val.snd.snd.fst x1.val.snd.snd.snd.snd x1.val.snd.snd.snd.fst (aY   (bR   l x1.val.fst) (yR l x1.val.fst)) s },
      ((ak ((↑(aY (bR l x1.1.1) (yR l x1.1.1)):Int)+1))/\
      (((↑(aY   (bR   l x1.val.fst) (yR l x1.val.fst)):Int)+1 < (↑(x1.val.snd.snd.snd.fst - x2.val.fst):Int) →
        ((ak ((↑(x1.1.2.2.2.1-x2.1.1):Int)-1))/\
        ((0<=(↑(x1.1.2.2.2.1-x2.1.1):Int)-1/\(↑(x1.1.2.2.2.1-x2.1.1):Int)-1<(↑(x1.1.2.2.2.1-x2.1.1):Int)/\x1.1.2.2.2.2≠[])/\
        ((0+((↑(x1.1.2.2.2.1-x2.1.1):Int)-1).toNat<x1.1.2.2.2.2.length)/\
        ((ak ((↑(x1.1.2.2.2.1-x2.1.1):Int)-1))/\
        ((0<x1.1.2.2.2.2.length)/\
        ((0<=(↑(x1.1.2.2.2.1-x2.1.1):Int)-1/\(↑(x1.1.2.2.2.1-x2.1.1):Int)-1<=(↑(x1.1.2.2.2.1-x2.1.1):Int))/\
        ((ak ((↑(toN (some ((↑(x1.1.2.2.2.1-x2.1.1):Int)-1)) (x1.1.2.2.2.1-x2.1.1)-0):Int)-1))/\
        ((0<=(↑(toN (some ((↑(x1.1.2.2.2.1-x2.1.1):Int)-1)) (x1.1.2.2.2.1-x2.1.1)-0):Int)-1/\(↑(toN (some ((↑(x1.1.2.2.2.1-x2.1.1):Int)-1)) (x1.1.2.2.2.1-x2.1.1)-0):Int)-1<(↑(toN (some ((↑(x1.1.2.2.2.1-x2.1.1):Int)-1)) (x1.1.2.2.2.1-x2.1.1)-0):Int)/\x1.1.2.2.2.2≠[])/\
        ((0+((↑(toN (some ((↑(x1.1.2.2.2.1-x2.1.1):Int)-1)) (x1.1.2.2.2.1-x2.1.1)-0):Int)-1).toNat<x1.1.2.2.2.2.length)/\
        ((0<=gB x1.1.2.2.2.2 x1.1.2.2.2.1 x2.1.1/\gB x1.1.2.2.2.2 x1.1.2.2.2.1 x2.1.1<(x2.1.2.1.length:Int))/\
        ((0<=gA x1.1.2.2.2.2 x1.1.2.2.2.1 x2.1.1/\gA x1.1.2.2.2.2 x1.1.2.2.2.1 x2.1.1<(x2.1.2.1.length:Int))/\
        ((Int.toNat (gA x1.1.2.2.2.2 x1.1.2.2.2.1 x2.1.1)<x2.1.2.1.length)/\
        ((Int.toNat (gA x1.1.2.2.2.2 x1.1.2.2.2.1 x2.1.1)<x2.1.2.1.length)/\
        (((gD x2.1.2.1 (gA x1.1.2.2.2.2 x1.1.2.2.2.1 x2.1.1)).1.length<=1048576)/\
        ((OkE (gD x2.1.2.1 (gA x1.1.2.2.2.2 x1.1.2.2.2.1 x2.1.1)).1)/\
        (((Ty.str.mget x2.val.snd.snd (kg   (gD x2.val.snd.fst (gA x1.val.snd.snd.snd.snd x1.val.snd.snd.snd.fst x2.val.fst)).fst (gD x2.val.snd.fst (gA x1.val.snd.snd.snd.snd x1.val.snd.snd.snd.fst x2.val.fst)).snd.fst)).isSome=true →
          ((Int.toNat (gB x1.1.2.2.2.2 x1.1.2.2.2.1 x2.1.1)<x2.1.2.1.length)/\
          ((Int.toNat (gB x1.1.2.2.2.2 x1.1.2.2.2.1 x2.1.1)<x2.1.2.1.length)/\
          ((Int.toNat (gB x1.1.2.2.2.2 x1.1.2.2.2.1 x2.1.1)<x2.1.2.1.length)/\
          ((ak ((↑(gD x2.1.2.1 (gB x1.1.2.2.2.2 x1.1.2.2.2.1 x2.1.1)).1.length:Int)-1))/\
          ((0<=(↑(gD x2.1.2.1 (gB x1.1.2.2.2.2 x1.1.2.2.2.1 x2.1.1)).1.length:Int)-1/\(↑(gD x2.1.2.1 (gB x1.1.2.2.2.2 x1.1.2.2.2.1 x2.1.1)).1.length:Int)-1<(↑(gD x2.1.2.1 (gB x1.1.2.2.2.2 x1.1.2.2.2.1 x2.1.1)).1.length:Int))/\
          ((Int.toNat (gB x1.1.2.2.2.2 x1.1.2.2.2.1 x2.1.1)<x2.1.2.1.length)/\
          ((((↑(gD x2.1.2.1 (gB x1.1.2.2.2.2 x1.1.2.2.2.1 x2.1.1)).1.length:Int)-1).toNat<(gD x2.1.2.1 (gB x1.1.2.2.2.2 x1.1.2.2.2.1 x2.1.1)).1.length)/\
          (∃ x3 : { s : Nat × List StD × Mp // FzR x1.val.snd.fst x1.val.snd.snd.fst x1.val.snd.snd.snd.snd x1.val.snd.snd.snd.fst (aY   (bR   l x1.val.fst) (yR l x1.val.fst)) s },
           ((x1.1.2.2.2.1-x3.1.1<x1.1.2.2.2.1-x2.1.1)/\
           (((0:Nat)=(0:Nat))/\
           ((toN (some ((↑(x1.1.2.2.2.1-x2.1.1):Int)-1)) (x1.1.2.2.2.1-x2.1.1)-0=x1.1.2.2.2.1-x3.1.1)/\
           (((↑(aY (bR l x1.1.1) (yR l x1.1.1)):Int)=(↑(aY (bR l x1.1.1) (yR l x1.1.1)):Int))/\
           ((x2.1.2.1.set (Int.toNat (gB x1.1.2.2.2.2 x1.1.2.2.2.1 x2.1.1)) ((gD x2.1.2.1 (gB x1.1.2.2.2.2 x1.1.2.2.2.1 x2.1.1)).1.set ((↑(gD x2.1.2.1 (gB x1.1.2.2.2.2 x1.1.2.2.2.1 x2.1.1)).1.length:Int)-1).toNat (((gD x2.1.2.1 (gB x1.1.2.2.2.2 x1.1.2.2.2.1 x2.1.1)).1.getD ((↑(gD x2.1.2.1 (gB x1.1.2.2.2.2 x1.1.2.2.2.1 x2.1.1)).1.length:Int)-1).toNat (0,0)).1,(Ty.str.mget x2.1.2.2 (kg (gD x2.1.2.1 (gA x1.1.2.2.2.2 x1.1.2.2.2.1 x2.1.1)).1 (gD x2.1.2.1 (gA x1.1.2.2.2.2 x1.1.2.2.2.1 x2.1.1)).2.1)).getD 0),(gD x2.1.2.1 (gB x1.1.2.2.2.2 x1.1.2.2.2.1 x2.1.1)).2)=x3.1.2.1)/\
           ((x2.1.2.2=x3.1.2.2)/\
           ((x1.1.2.2.2.2=x1.1.2.2.2.2)/\
           (((l.getD x1.1.1 ([],0)).1=(l.getD x1.1.1 ([],0)).1)/\
           ((l.getD x1.1.1 ([],0)).2=(l.getD x1.1.1 ([],0)).2))))))))))))))))))/\
        (¬(Ty.str.mget x2.val.snd.snd (kg   (gD x2.val.snd.fst (gA x1.val.snd.snd.snd.snd x1.val.snd.snd.snd.fst x2.val.fst)).fst (gD x2.val.snd.fst (gA x1.val.snd.snd.snd.snd x1.val.snd.snd.snd.fst x2.val.fst)).snd.fst)).isSome = true →
         (∃ x3 : { s : Nat × List StD × Mp // FzR x1.val.snd.fst x1.val.snd.snd.fst x1.val.snd.snd.snd.snd x1.val.snd.snd.snd.fst (aY   (bR   l x1.val.fst) (yR l x1.val.fst)) s },
          ((x1.1.2.2.2.1-x3.1.1<x1.1.2.2.2.1-x2.1.1)/\
          (((0:Nat)=(0:Nat))/\
          ((toN (some ((↑(x1.1.2.2.2.1-x2.1.1):Int)-1)) (x1.1.2.2.2.1-x2.1.1)-0=x1.1.2.2.2.1-x3.1.1)/\
          (((↑(aY (bR l x1.1.1) (yR l x1.1.1)):Int)=(↑(aY (bR l x1.1.1) (yR l x1.1.1)):Int))/\
          ((x2.1.2.1=x3.1.2.1)/\
          (((Ty.str.mput x2.1.2.2 (kg (x2.1.2.1.getD (Int.toNat (gA x1.1.2.2.2.2 x1.1.2.2.2.1 x2.1.1)) ([],false,(0:Int))).1 (x2.1.2.1.getD (Int.toNat (gA x1.1.2.2.2.2 x1.1.2.2.2.1 x2.1.1)) ([],false,(0:Int))).2.1) (gA x1.1.2.2.2.2 x1.1.2.2.2.1 x2.1.1))=x3.1.2.2)/\
          ((x1.1.2.2.2.2=x1.1.2.2.2.2)/\
          (((l.getD x1.1.1 ([],0)).1=(l.getD x1.1.1 ([],0)).1)/\
          ((l.getD x1.1.1 ([],0)).2=(l.getD x1.1.1 ([],0)).2))))))))))))))))))))))))))))/\
      (¬(↑(aY   (bR   l x1.val.fst) (yR l x1.val.fst)) : Int) + 1 < (↑(x1.val.snd.snd.snd.fst - x2.val.fst) : Int) →
       ((ak ((↑(x1.1.2.2.2.1-x2.1.1):Int)-1))/\
       ((0<=(↑(x1.1.2.2.2.1-x2.1.1):Int)-1/\(↑(x1.1.2.2.2.1-x2.1.1):Int)-1<=(↑(yR l x1.1.1).length:Int))/\
       ((∃ x3:{ s:Nat×List StD×List Int // ChR x2.val.snd.fst x2.val.snd.snd x1.val.snd.snd.snd.snd (x1.val.snd.snd.snd.fst - x2.val.fst) (gR l x1.val.fst x1.val.snd.snd.snd.fst x2.val.fst) s },
         (((0:Nat)=(0:Nat))/\
         ((x1.1.2.2.2.1-x2.1.1=x1.1.2.2.2.1-x2.1.1+x3.1.1)/\
         ((yR l x1.1.1=yR l x1.1.1)/\
         ((l=l)/\
         (((l.length:Int)=(l.length:Int))/\
         (((x1.1.1:Int)=(x1.1.1:Int))/\
         ((gR l x1.1.1 x1.1.2.2.2.1 x2.1.1=gR l x1.1.1 x1.1.2.2.2.1 x2.1.1)/\
         (((↑(gR l x1.1.1 x1.1.2.2.2.1 x2.1.1).length:Int)=(↑(gR l x1.1.1 x1.1.2.2.2.1 x2.1.1).length:Int))/\
         ((0=(x3.1.1:Int))/\
         ((x2.1.2.1=x3.1.2.1)/\
         ((x2.1.2.2=x2.1.2.2)/\
         ((x1.1.2.2.2.2=x3.1.2.2)/\
         (((l.getD x1.1.1 ([],0)).1=(l.getD x1.1.1 ([],0)).1)/\
         ((l.getD x1.1.1 ([],0)).2=(l.getD x1.1.1 ([],0)).2)))))))))))))))/\
       (∀ x3 : { s : Nat × List StD × List Int // ChR x2.val.snd.fst x2.val.snd.snd x1.val.snd.snd.snd.snd (x1.val.snd.snd.snd.fst - x2.val.fst) (gR l x1.val.fst x1.val.snd.snd.snd.fst x2.val.fst) s },
        (((↑x3.val.fst:Int) < (↑(gR l x1.val.fst x1.val.snd.snd.snd.fst x2.val.fst).length:Int) →
          ((0<=(x3.1.1:Int)/\(x3.1.1:Int)<(↑(gR l x1.1.1 x1.1.2.2.2.1 x2.1.1).length:Int))/\
          (((x3.1.2.1.length+1)*40<=140737488355328)/\
          (([(false,(0:Int))]≠[])/\
          ((ak ((↑(x1.1.2.2.2.1-x2.1.1+x3.1.1):Int)-1))/\
          ((0<=(↑(x1.1.2.2.2.1-x2.1.1+x3.1.1):Int)-1/\(↑(x1.1.2.2.2.1-x2.1.1+x3.1.1):Int)-1<(↑(x1.1.2.2.2.1-x2.1.1+x3.1.1):Int)/\x3.1.2.2≠[])/\
          ((0+((↑(x1.1.2.2.2.1-x2.1.1+x3.1.1):Int)-1).toNat<x3.1.2.2.length)/\
          (((0 ≤ gC x3.val.snd.snd x1.val.snd.snd.snd.fst x2.val.fst x3.val.fst ∧ gC x3.val.snd.snd x1.val.snd.snd.snd.fst x2.val.fst x3.val.fst < (↑(gE x3.val.snd.fst).length : Int)) ∧
           ((Int.toNat (gC x3.1.2.2 x1.1.2.2.2.1 x2.1.1 x3.1.1)<(gE x3.1.2.1).length)/\
           ((Int.toNat (gC x3.1.2.2 x1.1.2.2.2.1 x2.1.1 x3.1.1)<(gE x3.1.2.1).length)/\
           (([((gR l x1.1.1 x1.1.2.2.2.1 x2.1.1).getD x3.1.1 0,(x3.1.2.1.length:Int))]≠[])/\
           ((((gD (gE x3.1.2.1) (gC x3.1.2.2 x1.1.2.2.2.1 x2.1.1 x3.1.1)).1.length+[((gR l x1.1.1 x1.1.2.2.2.1 x2.1.1).getD x3.1.1 0,(x3.1.2.1.length:Int))].length)*16<=140737488355328)/\
           ((0<=gC x3.1.2.2 x1.1.2.2.2.1 x2.1.1 x3.1.1/\gC x3.1.2.2 x1.1.2.2.2.1 x2.1.1 x3.1.1<(↑(gE x3.1.2.1).length:Int))/\
           ((Int.toNat (gC x3.1.2.2 x1.1.2.2.2.1 x2.1.1 x3.1.1)<(gE x3.1.2.1).length)/\
           ((Int.toNat (gC x3.1.2.2 x1.1.2.2.2.1 x2.1.1 x3.1.1)=Int.toNat (gC x3.1.2.2 x1.1.2.2.2.1 x2.1.1 x3.1.1))/\
           ((x3.1.2.2≠[])/\
           (([(x3.1.2.1.length:Int)]≠[])/\
           ((0+(x1.1.2.2.2.1-x2.1.1+x3.1.1)<=x3.1.2.2.length)/\
           (((x1.1.2.2.2.1-x2.1.1+x3.1.1+[(x3.1.2.1.length:Int)].length)*8<=140737488355328)/\
           ((ak ((x3.1.1:Int)+1))/\
           (∃ x4 : { s : Nat × List StD × List Int // ChR x2.val.snd.fst x2.val.snd.snd x1.val.snd.snd.snd.snd (x1.val.snd.snd.snd.fst - x2.val.fst) (gR l x1.val.fst x1.val.snd.snd.snd.fst x2.val.fst) s },
            (((gR l x1.1.1 x1.1.2.2.2.1 x2.1.1).length-x4.1.1<(gR l x1.1.1 x1.1.2.2.2.1 x2.1.1).length-x3.1.1)/\
            ((List.take (x1.1.2.2.2.1-x2.1.1+x3.1.1) (List.drop 0 x3.1.2.2)++[(x3.1.2.1.length:Int)]≠[])/\
            (((0:Nat)=(0:Nat))/\
            ((x1.1.2.2.2.1-x2.1.1+x4.1.1=(List.take (x1.1.2.2.2.1-x2.1.1+x3.1.1) (List.drop 0 x3.1.2.2)++[(x3.1.2.1.length:Int)]).length)/\
            ((yR l x1.1.1=yR l x1.1.1)/\
            ((l=l)/\
            (((l.length:Int)=(l.length:Int))/\
            (((x1.1.1:Int)=(x1.1.1:Int))/\
            ((gR l x1.1.1 x1.1.2.2.2.1 x2.1.1=gR l x1.1.1 x1.1.2.2.2.1 x2.1.1)/\
            (((↑(gR l x1.1.1 x1.1.2.2.2.1 x2.1.1).length:Int)=(↑(gR l x1.1.1 x1.1.2.2.2.1 x2.1.1).length:Int))/\
            (((x3.1.1:Int)+1=(x4.1.1:Int))/\
            (((gE x3.1.2.1).set (Int.toNat (gC x3.1.2.2 x1.1.2.2.2.1 x2.1.1 x3.1.1)) ((gD (gE x3.1.2.1) (gC x3.1.2.2 x1.1.2.2.2.1 x2.1.1 x3.1.1)).1++[((gR l x1.1.1 x1.1.2.2.2.1 x2.1.1).getD x3.1.1 0,(x3.1.2.1.length:Int))],(gD (gE x3.1.2.1) (gC x3.1.2.2 x1.1.2.2.2.1 x2.1.1 x3.1.1)).2)=x4.1.2.1)/\
            ((x2.1.2.2=x2.1.2.2)/\
            ((List.take (x1.1.2.2.2.1-x2.1.1+x3.1.1) (List.drop 0 x3.1.2.2)++[(x3.1.2.1.length:Int)]=x4.1.2.2)/\
            (((l.getD x1.1.1 ([],0)).1=(l.getD x1.1.1 ([],0)).1)/\
            ((l.getD x1.1.1 ([],0)).2=(l.getD x1.1.1 ([],0)).2))))))))))))))))))))))))))))))/\
          ((0<=gC x3.1.2.2 x1.1.2.2.2.1 x2.1.1 x3.1.1/\gC x3.1.2.2 x1.1.2.2.2.1 x2.1.1 x3.1.1<(↑(gE x3.1.2.1).length:Int))/\
          ((Int.toNat (gC x3.1.2.2 x1.1.2.2.2.1 x2.1.1 x3.1.1)<(gE x3.1.2.1).length)/\
          ((Int.toNat (gC x3.1.2.2 x1.1.2.2.2.1 x2.1.1 x3.1.1)<(gE x3.1.2.1).length)/\
          (([((gR l x1.1.1 x1.1.2.2.2.1 x2.1.1).getD x3.1.1 0,(x3.1.2.1.length:Int))]≠[])/\
          ((((gD (gE x3.1.2.1) (gC x3.1.2.2 x1.1.2.2.2.1 x2.1.1 x3.1.1)).1.length+[((gR l x1.1.1 x1.1.2.2.2.1 x2.1.1).getD x3.1.1 0,(x3.1.2.1.length:Int))].length)*16<=140737488355328)/\
          ((0<=gC x3.1.2.2 x1.1.2.2.2.1 x2.1.1 x3.1.1/\gC x3.1.2.2 x1.1.2.2.2.1 x2.1.1 x3.1.1<(↑(gE x3.1.2.1).length:Int))/\
          ((Int.toNat (gC x3.1.2.2 x1.1.2.2.2.1 x2.1.1 x3.1.1)<(gE x3.1.2.1).length)/\
          ((Int.toNat (gC x3.1.2.2 x1.1.2.2.2.1 x2.1.1 x3.1.1)=Int.toNat (gC x3.1.2.2 x1.1.2.2.2.1 x2.1.1 x3.1.1))/\
          ((x3.1.2.2≠[])/\
          (([(x3.1.2.1.length:Int)]≠[])/\
          ((0+(x1.1.2.2.2.1-x2.1.1+x3.1.1)<=x3.1.2.2.length)/\
          (((x1.1.2.2.2.1-x2.1.1+x3.1.1+[(x3.1.2.1.length:Int)].length)*8<=140737488355328)/\
          ((ak ((x3.1.1:Int)+1))/\
          (∃ x4 : { s : Nat × List StD × List Int // ChR x2.val.snd.fst x2.val.snd.snd x1.val.snd.snd.snd.snd (x1.val.snd.snd.snd.fst - x2.val.fst) (gR l x1.val.fst x1.val.snd.snd.snd.fst x2.val.fst) s },
           (((gR l x1.1.1 x1.1.2.2.2.1 x2.1.1).length-x4.1.1<(gR l x1.1.1 x1.1.2.2.2.1 x2.1.1).length-x3.1.1)/\
           ((List.take (x1.1.2.2.2.1-x2.1.1+x3.1.1) (List.drop 0 x3.1.2.2)++[(x3.1.2.1.length:Int)]≠[])/\
           (((0:Nat)=(0:Nat))/\
           ((x1.1.2.2.2.1-x2.1.1+x4.1.1=(List.take (x1.1.2.2.2.1-x2.1.1+x3.1.1) (List.drop 0 x3.1.2.2)++[(x3.1.2.1.length:Int)]).length)/\
           ((yR l x1.1.1=yR l x1.1.1)/\
           ((l=l)/\
           (((l.length:Int)=(l.length:Int))/\
           (((x1.1.1:Int)=(x1.1.1:Int))/\
           ((gR l x1.1.1 x1.1.2.2.2.1 x2.1.1=gR l x1.1.1 x1.1.2.2.2.1 x2.1.1)/\
           (((↑(gR l x1.1.1 x1.1.2.2.2.1 x2.1.1).length:Int)=(↑(gR l x1.1.1 x1.1.2.2.2.1 x2.1.1).length:Int))/\
           (((x3.1.1:Int)+1=(x4.1.1:Int))/\
           (((gE x3.1.2.1).set (Int.toNat (gC x3.1.2.2 x1.1.2.2.2.1 x2.1.1 x3.1.1)) ((gD (gE x3.1.2.1) (gC x3.1.2.2 x1.1.2.2.2.1 x2.1.1 x3.1.1)).1++[((gR l x1.1.1 x1.1.2.2.2.1 x2.1.1).getD x3.1.1 0,(x3.1.2.1.length:Int))],(gD (gE x3.1.2.1) (gC x3.1.2.2 x1.1.2.2.2.1 x2.1.1 x3.1.1)).2)=x4.1.2.1)/\
           ((x2.1.2.2=x2.1.2.2)/\
           ((List.take (x1.1.2.2.2.1-x2.1.1+x3.1.1) (List.drop 0 x3.1.2.2)++[(x3.1.2.1.length:Int)]=x4.1.2.2)/\
           (((l.getD x1.1.1 ([],0)).1=(l.getD x1.1.1 ([],0)).1)/\
           ((l.getD x1.1.1 ([],0)).2=(l.getD x1.1.1 ([],0)).2))))))))))))))))))))))))))))))))))))))/\
        (¬(↑x3.val.fst : Int) < (↑(gR l x1.val.fst x1.val.snd.snd.snd.fst x2.val.fst).length : Int) →
         ((ak ((↑(x1.1.2.2.2.1-x2.1.1+x3.1.1):Int)-1))/\
         ((0<=(↑(x1.1.2.2.2.1-x2.1.1+x3.1.1):Int)-1/\(↑(x1.1.2.2.2.1-x2.1.1+x3.1.1):Int)-1<(↑(x1.1.2.2.2.1-x2.1.1+x3.1.1):Int)/\x3.1.2.2≠[])/\
         ((0+((↑(x1.1.2.2.2.1-x2.1.1+x3.1.1):Int)-1).toNat<x3.1.2.2.length)/\
         ((0<=gC x3.1.2.2 x1.1.2.2.2.1 x2.1.1 x3.1.1/\gC x3.1.2.2 x1.1.2.2.2.1 x2.1.1 x3.1.1<(x3.1.2.1.length:Int))/\
         ((Int.toNat (gC x3.1.2.2 x1.1.2.2.2.1 x2.1.1 x3.1.1)<x3.1.2.1.length)/\
         ((ak ((x1.1.1:Int)+1))/\
         (∃ x4 : { s : Nat × List StD × Mp × Nat × List Int // OI l s.fst s.snd.fst s.snd.snd.fst (List.take s.snd.snd.snd.fst s.snd.snd.snd.snd) ∧ s.snd.snd.snd.fst ≤ s.snd.snd.snd.snd.length },
          ((l.length-x4.1.1<l.length-x1.1.1)/\
          (((0:Nat)=(0:Nat))/\
          ((x1.1.2.2.2.1-x2.1.1+x3.1.1=x4.1.2.2.2.1)/\
          ((yR l x1.1.1=bR l x4.1.1)/\
          ((l=l)/\
          (((l.length:Int)=(l.length:Int))/\
          (((x1.1.1:Int)+1=(x4.1.1:Int))/\
          ((x3.1.2.1.set (Int.toNat (gC x3.1.2.2 x1.1.2.2.2.1 x2.1.1 x3.1.1)) ((gD x3.1.2.1 (gC x3.1.2.2 x1.1.2.2.2.1 x2.1.1 x3.1.1)).1,true,(gD x3.1.2.1 (gC x3.1.2.2 x1.1.2.2.2.1 x2.1.1 x3.1.1)).2.2)=x4.1.2.1)/\
          ((x2.1.2.2=x4.1.2.2.1)/\
          (x3.1.2.2=x4.1.2.2.2.2))))))))))))))))))))))))))))))))/\
   (¬(↑x1.val.fst : Int) < (↑l.length : Int) →
    ((∃ x2:{ s:Nat×List StD×Mp // FzR x1.val.snd.fst x1.val.snd.snd.fst x1.val.snd.snd.snd.snd x1.val.snd.snd.snd.fst 0 s },
      (((0:Nat)=(0:Nat))/\
      ((x1.1.2.2.2.1=x1.1.2.2.2.1-x2.1.1)/\
      (((0:Int)=(0:Int))/\
      ((x1.1.2.1=x2.1.2.1)/\
      ((x1.1.2.2.1=x2.1.2.2)/\
      (x1.1.2.2.2.2=x1.1.2.2.2.2)))))))/\
    (∀ x2 : { s : Nat × List StD × Mp // FzR x1.val.snd.fst x1.val.snd.snd.fst x1.val.snd.snd.snd.snd x1.val.snd.snd.snd.fst 0 s },
     ((1 < (↑(x1.val.snd.snd.snd.fst - x2.val.fst):Int) →
       ((ak ((↑(x1.1.2.2.2.1-x2.1.1):Int)-1))/\
       ((0<=(↑(x1.1.2.2.2.1-x2.1.1):Int)-1/\(↑(x1.1.2.2.2.1-x2.1.1):Int)-1<(↑(x1.1.2.2.2.1-x2.1.1):Int)/\x1.1.2.2.2.2≠[])/\
       ((0+((↑(x1.1.2.2.2.1-x2.1.1):Int)-1).toNat<x1.1.2.2.2.2.length)/\
       ((ak ((↑(x1.1.2.2.2.1-x2.1.1):Int)-1))/\
       ((0<x1.1.2.2.2.2.length)/\
       ((0<=(↑(x1.1.2.2.2.1-x2.1.1):Int)-1/\(↑(x1.1.2.2.2.1-x2.1.1):Int)-1<=(↑(x1.1.2.2.2.1-x2.1.1):Int))/\
       ((ak ((↑(toN (some ((↑(x1.1.2.2.2.1-x2.1.1):Int)-1)) (x1.1.2.2.2.1-x2.1.1)-0):Int)-1))/\
       ((0<=(↑(toN (some ((↑(x1.1.2.2.2.1-x2.1.1):Int)-1)) (x1.1.2.2.2.1-x2.1.1)-0):Int)-1/\(↑(toN (some ((↑(x1.1.2.2.2.1-x2.1.1):Int)-1)) (x1.1.2.2.2.1-x2.1.1)-0):Int)-1<(↑(toN (some ((↑(x1.1.2.2.2.1-x2.1.1):Int)-1)) (x1.1.2.2.2.1-x2.1.1)-0):Int)/\x1.1.2.2.2.2≠[])/\
       ((0+((↑(toN (some ((↑(x1.1.2.2.2.1-x2.1.1):Int)-1)) (x1.1.2.2.2.1-x2.1.1)-0):Int)-1).toNat<x1.1.2.2.2.2.length)/\
       ((0<=gB x1.1.2.2.2.2 x1.1.2.2.2.1 x2.1.1/\gB x1.1.2.2.2.2 x1.1.2.2.2.1 x2.1.1<(x2.1.2.1.length:Int))/\
       ((0<=gA x1.1.2.2.2.2 x1.1.2.2.2.1 x2.1.1/\gA x1.1.2.2.2.2 x1.1.2.2.2.1 x2.1.1<(x2.1.2.1.length:Int))/\
       ((Int.toNat (gA x1.1.2.2.2.2 x1.1.2.2.2.1 x2.1.1)<x2.1.2.1.length)/\
       ((Int.toNat (gA x1.1.2.2.2.2 x1.1.2.2.2.1 x2.1.1)<x2.1.2.1.length)/\
       (((gD x2.1.2.1 (gA x1.1.2.2.2.2 x1.1.2.2.2.1 x2.1.1)).1.length<=1048576)/\
       ((OkE (gD x2.1.2.1 (gA x1.1.2.2.2.2 x1.1.2.2.2.1 x2.1.1)).1)/\
       (((Ty.str.mget x2.val.snd.snd (kg   (gD x2.val.snd.fst (gA x1.val.snd.snd.snd.snd x1.val.snd.snd.snd.fst x2.val.fst)).fst (gD x2.val.snd.fst (gA x1.val.snd.snd.snd.snd x1.val.snd.snd.snd.fst x2.val.fst)).snd.fst)).isSome=true →
         ((Int.toNat (gB x1.1.2.2.2.2 x1.1.2.2.2.1 x2.1.1)<x2.1.2.1.length)/\
         ((Int.toNat (gB x1.1.2.2.2.2 x1.1.2.2.2.1 x2.1.1)<x2.1.2.1.length)/\
         ((Int.toNat (gB x1.1.2.2.2.2 x1.1.2.2.2.1 x2.1.1)<x2.1.2.1.length)/\
         ((ak ((↑(gD x2.1.2.1 (gB x1.1.2.2.2.2 x1.1.2.2.2.1 x2.1.1)).1.length:Int)-1))/\
         ((0<=(↑(gD x2.1.2.1 (gB x1.1.2.2.2.2 x1.1.2.2.2.1 x2.1.1)).1.length:Int)-1/\(↑(gD x2.1.2.1 (gB x1.1.2.2.2.2 x1.1.2.2.2.1 x2.1.1)).1.length:Int)-1<(↑(gD x2.1.2.1 (gB x1.1.2.2.2.2 x1.1.2.2.2.1 x2.1.1)).1.length:Int))/\
         ((Int.toNat (gB x1.1.2.2.2.2 x1.1.2.2.2.1 x2.1.1)<x2.1.2.1.length)/\
         ((((↑(gD x2.1.2.1 (gB x1.1.2.2.2.2 x1.1.2.2.2.1 x2.1.1)).1.length:Int)-1).toNat<(gD x2.1.2.1 (gB x1.1.2.2.2.2 x1.1.2.2.2.1 x2.1.1)).1.length)/\
         (∃ x3 : { s : Nat × List StD × Mp // FzR x1.val.snd.fst x1.val.snd.snd.fst x1.val.snd.snd.snd.snd x1.val.snd.snd.snd.fst 0 s },
          ((x1.1.2.2.2.1-x3.1.1<x1.1.2.2.2.1-x2.1.1)/\
          (((0:Nat)=(0:Nat))/\
          ((toN (some ((↑(x1.1.2.2.2.1-x2.1.1):Int)-1)) (x1.1.2.2.2.1-x2.1.1)-0=x1.1.2.2.2.1-x3.1.1)/\
          (((0:Int)=(0:Int))/\
          ((x2.1.2.1.set (Int.toNat (gB x1.1.2.2.2.2 x1.1.2.2.2.1 x2.1.1)) ((gD x2.1.2.1 (gB x1.1.2.2.2.2 x1.1.2.2.2.1 x2.1.1)).1.set ((↑(gD x2.1.2.1 (gB x1.1.2.2.2.2 x1.1.2.2.2.1 x2.1.1)).1.length:Int)-1).toNat (((gD x2.1.2.1 (gB x1.1.2.2.2.2 x1.1.2.2.2.1 x2.1.1)).1.getD ((↑(gD x2.1.2.1 (gB x1.1.2.2.2.2 x1.1.2.2.2.1 x2.1.1)).1.length:Int)-1).toNat (0,0)).1,(Ty.str.mget x2.1.2.2 (kg (gD x2.1.2.1 (gA x1.1.2.2.2.2 x1.1.2.2.2.1 x2.1.1)).1 (gD x2.1.2.1 (gA x1.1.2.2.2.2 x1.1.2.2.2.1 x2.1.1)).2.1)).getD 0),(gD x2.1.2.1 (gB x1.1.2.2.2.2 x1.1.2.2.2.1 x2.1.1)).2)=x3.1.2.1)/\
          ((x2.1.2.2=x3.1.2.2)/\
          (x1.1.2.2.2.2=x1.1.2.2.2.2))))))))))))))))/\
       (¬(Ty.str.mget x2.val.snd.snd (kg   (gD x2.val.snd.fst (gA x1.val.snd.snd.snd.snd x1.val.snd.snd.snd.fst x2.val.fst)).fst (gD x2.val.snd.fst (gA x1.val.snd.snd.snd.snd x1.val.snd.snd.snd.fst x2.val.fst)).snd.fst)).isSome = true →
        (∃ x3 : { s : Nat × List StD × Mp // FzR x1.val.snd.fst x1.val.snd.snd.fst x1.val.snd.snd.snd.snd x1.val.snd.snd.snd.fst 0 s },
         ((x1.1.2.2.2.1-x3.1.1<x1.1.2.2.2.1-x2.1.1)/\
         (((0:Nat)=(0:Nat))/\
         ((toN (some ((↑(x1.1.2.2.2.1-x2.1.1):Int)-1)) (x1.1.2.2.2.1-x2.1.1)-0=x1.1.2.2.2.1-x3.1.1)/\
         (((0:Int)=(0:Int))/\
         ((x2.1.2.1=x3.1.2.1)/\
         (((Ty.str.mput x2.1.2.2 (kg (x2.1.2.1.getD (Int.toNat (gA x1.1.2.2.2.2 x1.1.2.2.2.1 x2.1.1)) ([],false,(0:Int))).1 (x2.1.2.1.getD (Int.toNat (gA x1.1.2.2.2.2 x1.1.2.2.2.1 x2.1.1)) ([],false,(0:Int))).2.1) (gA x1.1.2.2.2.2 x1.1.2.2.2.1 x2.1.1))=x3.1.2.2)/\
         (x1.1.2.2.2.2=x1.1.2.2.2.2))))))))))))))))))))))))))/\
     (¬1 < (↑(x1.val.snd.snd.snd.fst - x2.val.fst) : Int) →
      (∃ x3 : Jk.β   l,
       ((GY l x3.1)/\
       ((x2.1.2.1=x3.1)/\
       (x2.1.2.2=x3.2))))))))))))) (by kernel_rfl) ?_
 unfold gA gB gC gR gD gE yR
 change List Wd at l
 have hN:=nml hc1;have hW:∀i,(wdR (l.take i)).length<=1048576:=fun i=>by rw[mq,zP];have:=hN.len;omega
 have hSq:∀i,dF (wdR (l.take i)):=fun i=>by unfold wdR;rw[List.map_take];exact List.Pairwise.sublist (List.take_sublist ..) hN.srt
 refine⟨⟨⟨(0,[([],false,0)],[],1,[0]),OI.zero l,zJ _⟩,by decide,rfl,rfl,rfl,rfl,rfl,rfl,rfl,rfl,rfl⟩,?_⟩;rintro⟨⟨i,D0,M0,n,P⟩,ho,hn⟩;dsimp only at ho hn ⊢;have hil:=ho.le;have hll:=hN.len;have hP:=ho.pi;have hx:(bR l i).length<=64:=by
  cases i with
  |zero=>exact Nat.zero_le _
  |succ i=>exact hN.few _ (by rw[zA,zB (by omega)];exact List.getElem_mem _)
 have hpn:(P.take n).length=(bR l i).length+1:=hP.elim fun f h=>h.len
 rw[zP,Nat.min_eq_left hn] at hpn;refine⟨fun h=>?_,fun h=>?_⟩
 .have hi:i<l.length:=by omega
  have hy:(aG (l.getD i ([],0)).1).length<=64:=hN.few _ (by rw[zA,zB (by omega)];exact List.getElem_mem _);have hcm:=qf (bR l i) (aG (l.getD i ([],0)).1);refine⟨⟨by omega,h⟩,hc2.at i,by omega,⟨⟨(0,D0,M0),FzR.zero ..⟩,rfl,rfl,rfl,rfl,rfl,rfl,rfl,rfl⟩,?_⟩;rintro⟨⟨j,D,M⟩,hf⟩;dsimp only;refine⟨by unfold ak;omega,fun h3=>?_,fun h3=>?_⟩
  .have e1:0+((↑(n-j):Int)-1).toNat=n-j-1:=by omega
   have e2:0+((↑(toN (some ((↑(n-j):Int)-1)) (n-j)-0):Int)-1).toNat=n-j-2:=by show 0+((↑(((↑(n-j):Int)-1).toNat-0):Int)-1).toNat=_;omega
   have e4:toN (some ((↑(n-j):Int)-1)) (n-j)=n-j-1:=by show ((↑(n-j):Int)-1).toNat=_;omega
   have hj:aY (bR l i) (aG (l.getD i ([],0)).1)+1<n-j:=by omega
   obtain⟨a1,a2,a3,a4,a5,a6⟩:=QX (hSq i) (hW i) hn hP hf hj;rw[e1,e2,e4];have hne:P≠[]:=fun e=>by rw[e] at hn;simp at hn;omega
   have st:=hf.step hj;unfold kyA eY oL at st;unfold stA at a3 a4 a5 a6 st;generalize (P.getD (n-j-1) 0)=z1 at a1 a3 a4 st ⊢;generalize hz2:(P.getD (n-j-2) 0)=z2 at a2 a5 a6 st ⊢;have e3:((↑(D.getD z2.toNat ([],false,0)).1.length:Int)-1).toNat=(D.getD z2.toNat ([],false,0)).1.length-1:=by omega
   refine⟨by unfold ak;omega,⟨by omega,by omega,hne⟩,by omega,by unfold ak;omega,by omega,⟨by omega,by omega⟩,by unfold ak;omega,⟨by omega,by omega,hne⟩,by omega,a2,a1,by omega,by omega,a3,a4,fun hv=>?_,fun hv=>?_⟩
   .obtain⟨v,hv⟩:=Option.isSome_iff_exists.1 hv;refine⟨by omega,by omega,by omega,by unfold ak;omega,⟨by omega,by omega⟩,by omega,by omega,⟨(j+1,_,M),st.1 v hv⟩,by dsimp only;omega,rfl,by dsimp only;omega,rfl,?_,rfl,rfl,rfl,rfl⟩;show _=oo D z2.toNat v;rw[e3,hv];rfl
   .have hv:=Option.not_isSome_iff_eq_none.1 hv;exact⟨⟨(j+1,_,_),st.2 hv⟩,by dsimp only;omega,rfl,by dsimp only;omega,rfl,rfl,rfl,rfl,rfl,rfl⟩
  .obtain⟨hm,hc⟩:=ho.chh hc1 hn hi hf (by omega);have eR:sK (aG (l.getD i ([],0)).1) (some ((↑(n-j):Int)-1)) none=(aG (l.getD i ([],0)).1).drop (aY (bR l i) (aG (l.getD i ([],0)).1)):=by
    show (aG (l.getD i ([],0)).1).drop ((↑(n-j):Int)-1).toNat=_
    congr 1;omega
   rw[eR];have hz:=ho.sz;have hD:D.length=D0.length:=hf.2.1;have hrl:((aG (l.getD i ([],0)).1).drop (aY (bR l i) (aG (l.getD i ([],0)).1))).length=(aG (l.getD i ([],0)).1).length-aY (bR l i) (aG (l.getD i ([],0)).1):=List.length_drop;have hrs:=hc.len;refine⟨by unfold ak;omega,⟨by omega,by omega⟩,⟨⟨(0,D,P),ChR.zero (by omega)⟩,rfl,rfl,rfl,rfl,rfl,rfl,rfl,rfl,rfl,rfl,rfl,rfl,rfl,rfl⟩,?_⟩;rintro⟨⟨k,D3,P3⟩,hk⟩;dsimp only;have hci:=hk.2.2.2 _ _ _ hc;have k1:=hk.1;have k2:=hk.2.1;have k3:=hk.2.2.1;dsimp only at hci k1 k2 k3;obtain⟨c1,c2,c3⟩:=WM hci (hW i) (by omega);have e5:0+((↑(n-j+k):Int)-1).toNat=aY (bR l i) (aG (l.getD i ([],0)).1)+k:=by omega
   have e6:P3.getD (aY (bR l i) (aG (l.getD i ([],0)).1)+k) 0=(P3.take (n-j+k)).getD (aY (bR l i) (aG (l.getD i ([],0)).1)+k) 0:=(bW (by omega)).symm;have hne:P3≠[]:=fun e=>by rw[e] at k3;simp at k3;omega
   rw[e5,e6];refine⟨fun h4=>?_,fun h4=>?_⟩
   .have hkl:k<((aG (l.getD i ([],0)).1).drop (aY (bR l i) (aG (l.getD i ([],0)).1))).length:=by omega
    have hst:=hk.step hkl;have e7:(P3.take (n-j+k)).length-1=aY (bR l i) (aG (l.getD i ([],0)).1)+k:=by rw[c1];rfl
    unfold chS at hst;dsimp only at hst;rw[e7] at hst;unfold stA at c3 hst;generalize (P3.take (n-j+k)).getD (aY (bR l i) (aG (l.getD i ([],0)).1)+k) 0=z at c2 c3 hst ⊢;have hla:(D3++List.map (fun x=>(([]:List Ed),x)) [(false,(0:Int))]).length=D3.length+1:=by rw[zL];rfl
    have hzl:((D3++List.map (fun x=>(([]:List Ed),x)) [(false,(0:Int))]).getD z.toNat ([],false,0)).1.length<=1048576:=by
     have:(D3++List.map (fun x=>(([]:List Ed),x)) [(false,(0:Int))]).getD z.toNat ([],false,0)=D3.getD z.toNat ([],false,0):=rF D3 _ (by omega);rw[this];exact c3
    have hz1:z<((D3++List.map (fun x=>(([]:List Ed),x)) [(false,(0:Int))]).length:Int):=by rw[hla];omega
    have hz2:z.toNat<(D3++List.map (fun x=>(([]:List Ed),x)) [(false,(0:Int))]).length:=by rw[hla];omega
    have fin:∃x4:{ s:Nat×List StD×List Int // ChR D M P (n-j) ((aG (l.getD i ([],0)).1).drop (aY (bR l i) (aG (l.getD i ([],0)).1))) s },x4.1=(k+1,(D3++[([],false,0)]).set z.toNat (((D3++[([],false,0)]).getD z.toNat ([],false,0)).1++[(((aG (l.getD i ([],0)).1).drop (aY (bR l i) (aG (l.getD i ([],0)).1))).getD k 0,(D3.length:Int))],((D3++[([],false,0)]).getD z.toNat ([],false,0)).2),P3.take (n-j+k)++[(D3.length:Int)]):=⟨⟨_,hst⟩,rfl⟩;obtain⟨x4,e8⟩:=fin;have ha1:∀(a:List Int) (x:Int),a++[x]≠[]:=fun a x=>by simp
    have last:∃x4:{ s:Nat×List StD×List Int // ChR D M P (n-j) ((aG (l.getD i ([],0)).1).drop (aY (bR l i) (aG (l.getD i ([],0)).1))) s },x4.1.1=k+1/\x4.1.2.1=(D3++[([],false,0)]).set z.toNat (((D3++[([],false,0)]).getD z.toNat ([],false,0)).1++[(((aG (l.getD i ([],0)).1).drop (aY (bR l i) (aG (l.getD i ([],0)).1))).getD k 0,(D3.length:Int))],((D3++[([],false,0)]).getD z.toNat ([],false,0)).2)/\x4.1.2.2=P3.take (n-j+k)++[(D3.length:Int)]:=⟨x4,by rw[e8],by rw[e8],by rw[e8]⟩;clear hst e8 x4;obtain⟨x4,f1,f2,f3⟩:=last;refine⟨⟨by omega,h4⟩,by omega,by simp,by unfold ak;omega,⟨by omega,by omega,hne⟩,by omega,?_⟩;refine⟨⟨⟨c2.1,hz1⟩,hz2,hz2,by simp,by rw[zN];omega,⟨c2.1,hz1⟩,hz2,rfl,hne,by simp,by omega,by rw[zN];omega,by unfold ak;omega,x4,by rw[f1];omega,ha1 _ _,rfl,?_,rfl,rfl,rfl,rfl,rfl,rfl,by rw[f1];push_cast;rfl,by rw[f2];rfl,rfl,by rw[f3];rfl,rfl,rfl⟩,
     ⟨c2.1,hz1⟩,hz2,hz2,by simp,by rw[zN];omega,⟨c2.1,hz1⟩,hz2,rfl,hne,by simp,by omega,by rw[zN];omega,by unfold ak;omega,x4,by rw[f1];omega,ha1 _ _,rfl,?_,rfl,rfl,rfl,rfl,rfl,rfl,by rw[f1];push_cast;rfl,by rw[f2];rfl,rfl,by rw[f3];rfl,rfl,rfl⟩
    all_goals rw[f1,List.drop_zero,zL,c1,zN];omega
   .obtain rfl:k=((aG (l.getD i ([],0)).1).drop (aY (bR l i) (aG (l.getD i ([],0)).1))).length:=by omega
    have hnx:=OI.next hi (by omega) hc hk;have e9:aY (bR l i) (aG (l.getD i ([],0)).1)+((aG (l.getD i ([],0)).1).drop (aY (bR l i) (aG (l.getD i ([],0)).1))).length=(aG (l.getD i ([],0)).1).length:=by omega
    rw[e9] at c1 c2 c3 ⊢;refine⟨by unfold ak;omega,⟨by omega,by omega,hne⟩,by omega,c2,by omega,by unfold ak;omega,⟨(i+1,_,M,n-j+((aG (l.getD i ([],0)).1).drop (aY (bR l i) (aG (l.getD i ([],0)).1))).length,P3),hnx,by dsimp only;omega⟩,by dsimp only;omega,rfl,rfl,rfl,rfl,rfl,by push_cast;rfl,rfl,rfl,rfl⟩
 .refine⟨⟨⟨(0,D0,M0),FzR.zero ..⟩,rfl,rfl,rfl,rfl,rfl,rfl⟩,?_⟩;rintro⟨⟨j,D,M⟩,hf⟩;dsimp only;refine⟨fun h3=>?_,fun h3=>?_⟩
  .have e1:0+((↑(n-j):Int)-1).toNat=n-j-1:=by omega
   have e2:0+((↑(toN (some ((↑(n-j):Int)-1)) (n-j)-0):Int)-1).toNat=n-j-2:=by show 0+((↑(((↑(n-j):Int)-1).toNat-0):Int)-1).toNat=_;omega
   have e4:toN (some ((↑(n-j):Int)-1)) (n-j)=n-j-1:=by show ((↑(n-j):Int)-1).toNat=_;omega
   have hj:0+1<n-j:=by omega
   obtain⟨a1,a2,a3,a4,a5,a6⟩:=QX (hSq i) (hW i) hn hP hf hj;rw[e1,e2,e4];have hne:P≠[]:=fun e=>by rw[e] at hn;simp at hn;omega
   have st:=hf.step hj;unfold kyA eY oL at st;unfold stA at a3 a4 a5 a6 st;generalize (P.getD (n-j-1) 0)=z1 at a1 a3 a4 st ⊢;generalize hz2:(P.getD (n-j-2) 0)=z2 at a2 a5 a6 st ⊢;have e3:((↑(D.getD z2.toNat ([],false,0)).1.length:Int)-1).toNat=(D.getD z2.toNat ([],false,0)).1.length-1:=by omega
   refine⟨by unfold ak;omega,⟨by omega,by omega,hne⟩,by omega,by unfold ak;omega,by omega,⟨by omega,by omega⟩,by unfold ak;omega,⟨by omega,by omega,hne⟩,by omega,a2,a1,by omega,by omega,a3,a4,fun hv=>?_,fun hv=>?_⟩
   .obtain⟨v,hv⟩:=Option.isSome_iff_exists.1 hv;refine⟨by omega,by omega,by omega,by unfold ak;omega,⟨by omega,by omega⟩,by omega,by omega,⟨(j+1,_,M),st.1 v hv⟩,by dsimp only;omega,rfl,by dsimp only;omega,rfl,?_,rfl,rfl⟩;show _=oo D z2.toNat v;rw[e3,hv];rfl
   .have hv:=Option.not_isSome_iff_eq_none.1 hv;exact⟨⟨(j+1,_,_),st.2 hv⟩,by dsimp only;omega,rfl,by dsimp only;omega,rfl,rfl,rfl,rfl⟩
  .obtain rfl:i=l.length:=by omega
   exact⟨(D,M),ho.done hc1 hn hf (by omega),rfl,rfl⟩
end Go.EA
