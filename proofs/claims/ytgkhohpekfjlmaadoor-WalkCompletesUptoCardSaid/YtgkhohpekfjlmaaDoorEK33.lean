/- Texts. Conditions: none. -/
import Derived.Test.YtgkhohpekfjlmaaDoorEK32
import Derived.Test.YtgkhohpekfjlmaaDoorEDf
import Derived.Test.YtgkhohpekfjlmaaDoorEK25
import Derived.KernelRfl
import Derived.Test.YtgkhohpekfjlmaaDoorEK12
set_option linter.unusedVariables false
set_option linter.unusedSimpArgs false
section
namespace Go.EA
def ic (S:List StD):List Ed->Int->Option (Ed×Int)
 |[],_=>none
 |e::es,a=>if a<(stA S e.2.toNat).2.2 then some (e,a) else ic S es (a-(stA S e.2.toNat).2.2)
def ow (S:List StD):Nat->Nat->Int->List Int
 |0,_,_=>[]
 |k+1,st,a=>if (stA S st).2.1&&decide (a=0) then [] else match ic S (stA S st).1 (a-e01 (stA S st).2.1) with
  |some (e,a')=>e.1::ow S k e.2.toNat a'
  |none=>[]
def rM (l:Rst) (hs:List Int):Rst:=hs.flatMap fun r=>(aY l r).map fun z=>r::z
theorem Hy {l:Rst}(h:dP l):∀{hs:List Int},hs.Pairwise (·<·)->dP (rM l hs)
 |[],_=>.nil
 | r::hs,hp=>by
   have hp':=List.pairwise_cons.1 hp;have ih:=Hy h hp'.2;unfold rM at ih ⊢;rw[List.flatMap_cons];refine List.pairwise_append.2 ⟨List.pairwise_map.2 ((pg h r).imp fun hab=>.inr ⟨rfl,hab⟩),ih,fun x hx y hy=>?_⟩;obtain⟨a,_,rfl⟩:=List.mem_map.1 hx;obtain⟨q,hq,hy⟩:=List.mem_flatMap.1 hy;obtain⟨b,_,rfl⟩:=List.mem_map.1 hy;exact .inl (hp'.1 q hq)
theorem JB {l:Rst}(h:dP l):l=(if aH l then [[]] else [])++rM l (aD l):=by
 have hg:=Hy h (jM h);have hg0:∀x∈rM l (aD l),∃r z,x=r::z/\z∈aY l r:=fun x hx=>by
  obtain⟨r,_,hx⟩:=List.mem_flatMap.1 hx;obtain⟨z,hz,rfl⟩:=List.mem_map.1 hx;exact⟨r,z,rfl,hz⟩
 refine yX h ?_ fun x=>?_
 .split
  .refine List.pairwise_cons.2 ⟨fun x hx=>?_,hg⟩;obtain⟨r,z,rfl,_⟩:=hg0 x hx
   trivial
  .exact hg
 .rw[zX];cases x with
  | nil=>
    constructor
    .intro hx;rw[if_pos (eP.2 hx)];exact .inl (by simp)
    .rintro(hx | hx)
     .by_cases he:aH l=true
      .exact eP.1 he
      .rw[if_neg he] at hx;cases hx
     .obtain⟨r,z,e,_⟩:=hg0 _ hx;cases e
  | cons r z=>
    constructor
    .intro hx;exact .inr (List.mem_flatMap.2 ⟨r,fI hx,List.mem_map.2 ⟨z,dN.2 hx,rfl⟩⟩)
    .rintro(hx | hx)
     .split at hx
      .have:=List.mem_singleton.1 hx;cases this
      .cases hx
     .obtain⟨r',z',e,hz⟩:=hg0 _ hx;cases e;exact dN.1 hz
theorem EG {α:Type}{a b:List α}{i:Nat}{d:α}(h:i<a.length):(a++b).getD i d=a.getD i d:=by
 rw[zA,zA,zV h]
theorem vo {α:Type}{a b:List α}{i:Nat}{d:α}(h:a.length<=i):(a++b).getD i d=b.getD (i-a.length) d:=by
 rw[zA,zA,List.getElem?_append_right h]
theorem CY {all:List RSt}{s:RSt}(g:Gs all s):∀{es:List Ed}{a:Int},(∀e∈es,e∈s.2.2)->0<=a->a<(rM s.1 (es.map (·.1))).length->
 ∃e a',ic (all.map stD) es a=some (e,a')/\e∈es/\0<=a'/\a'<(aY s.1 e.1).length/\(rM s.1 (es.map (·.1))).getD a.toNat []=e.1::(aY s.1 e.1).getD a'.toNat []
 |[],a,_,h0,h1=>by simp[rM] at h1;omega
 | e::es,a,he,h0,h1=>by
   obtain⟨n,q1,q2,q3⟩:=g.to e (he e (by simp));have hc:(stA (all.map stD) e.2.toNat).2.2=((aY s.1 e.1).length:Int):=by
    rw[q1,Int.toNat_natCast,dL q2];show ((rAt all n).1.length:Int)=_;rw[q3]
   have hsp:rM s.1 ((e::es).map (·.1))=(aY s.1 e.1).map (fun z=>e.1::z)++rM s.1 (es.map (·.1)):=by unfold rM;rw[zK,List.flatMap_cons]
   rw[hsp] at h1 ⊢;rw[zL,zR] at h1;unfold ic;rw[hc];by_cases h:a<((aY s.1 e.1).length:Int)
   .rw[if_pos h];refine⟨e,a,rfl,by simp,h0,h,?_⟩;rw[EG (by rw[zR];omega),zA,List.getElem?_map,zB (by omega),zA,zB (by omega)];rfl
   .rw[if_neg h];obtain⟨e',a',p1,p2,p3,p4,p5⟩:=CY g (es:=es) (a:=a-((aY s.1 e.1).length:Int)) (fun x hx=>he x (by simp[hx])) (by omega) (by push_cast at h1;omega);refine⟨e',a',p1,by simp[p2],p3,p4,?_⟩;rw[vo (by rw[zR];omega),zR,<- p5]
    congr 1;omega
theorem La {W:Rst}{all:List RSt}(hS:Sts W all):∀(k st:Nat) (a:Int),st<all.length->tot (rAt all st).1<k->0<=a->a<(rAt all st).1.length->ow (all.map stD) k st a=(rAt all st).1.getD a.toNat []
 |0,_,_,_,h,_,_=>by omega
 | k+1,st,a,hi,ht,h0,h1=>by
   have g:=hS.g _ (hS.mem hi);have hsp:=JB g.srt;have hl:=congrArg List.length hsp;rw[zL] at hl;unfold ow;rw[dL hi];show (if ((rAt all st).2.1&&decide (a=0))=true then [] else match ic (all.map stD) (rAt all st).2.2 (a-e01 (rAt all st).2.1) with
    |some (e,a')=>e.1::ow (all.map stD) k e.2.toNat a'
    |none=>[])=_
   rw[g.ends];have key:∀b:Int,0<=b->b<(rM (rAt all st).1 (aD (rAt all st).1)).length->(match ic (all.map stD) (rAt all st).2.2 b with
    |some (e,a')=>e.1::ow (all.map stD) k e.2.toNat a'
    |none=>[])=(rM (rAt all st).1 (aD (rAt all st).1)).getD b.toNat []:=fun b hb0 hb1=>by
    rw[<- g.hd] at hb1 ⊢;obtain⟨e,a',p1,p2,p3,p4,p5⟩:=CY g (fun e he=>he) hb0 hb1;rw[p1,p5];obtain⟨n,q1,q2,q3⟩:=g.to e p2;have hlt:=gY (show e.1∈aD (rAt all st).1 by rw[<- g.hd];exact List.mem_map_of_mem p2);show e.1::ow (all.map stD) k e.2.toNat a'=_;rw[q1,Int.toNat_natCast,La hS k n a' q2 (by rw[q3];omega) p3 (by rw[q3];exact p4),q3]
   by_cases he:aH (rAt all st).1=true
   .rw[if_pos he] at hsp hl;have h01:([[]]:Rst).length=1:=rfl;rw[h01] at hl;rw[he];by_cases ha:a=0
    .subst ha;rw[if_pos (by simp)];rw[hsp];rfl
    .rw[if_neg (by simp[ha])];have e1:e01 true=1:=rfl;rw[e1,key (a-1) (by omega) (by omega)]
     conv=>rhs;rw[hsp]
     rw[vo (by rw[h01];omega),h01]
     congr 1;omega
   .rw[if_neg he] at hsp hl;have h01:([]:Rst).length=0:=rfl;rw[h01] at hl;have he':aH (rAt all st).1=false:=by simpa using he
    rw[he'];rw[if_neg (by simp)];have e1:e01 false=0:=rfl;rw[e1,Int.sub_zero,key a h0 (by omega)]
    conv=>rhs;rw[hsp]
    rfl
end Go.EA
end
section
set_option maxRecDepth 100000
set_option maxHeartbeats 0
namespace Go.EA
open F
def DwS (d:List StD):Prop:=∃W all,Sts W all/\tot W<=4194304/\d=all.map stD
def WrI (d:List StD) (i:Int) (x:List Int×Nat×Int×Nat):Prop:=∃W all pre k,Sts W all/\tot W<=4194304/\d=all.map stD/\x.2.1<all.length/\0<=x.2.2.1/\x.2.2.1<(rAt all x.2.1).1.length/\x.2.2.2=tot (rAt all x.2.1).1/\ow d 4194306 0 i=pre++ow d k x.2.1 x.2.2.1/\tot (rAt all x.2.1).1<k/\x.1=fA pre/\x.1.length<=4*pre.length/\pre.length+tot (rAt all x.2.1).1<=4194304
def tX (d:List StD) (i:Int):List UInt8:=(fA (ow d 4194306 0 i)).map fun z=>UInt8.ofNat (Int.toNat z)
def Uq:(List ((List (Int×Int))×Bool×Int))×Int×List (Int)×Int->List SV:=fun(d0,d1,d2,i)=>[.one (.vptr (.pair (.row (.pair (.row (.pair (.int .i32) (.int .i64))) (.pair .bool (.int .i64)))) (.pair (.int .i64) (.row (.int .i64)))) (d0,d1,d2) 0),.one (.int .i64 i)]
def ZV:(List ((List (Int×Int))×Bool×Int))×Int×List (Int)×Int->SV×List Prop:=fun(d0,d1,d2,i)=>(.tup [.a [.str (if 0<=i/\i<d2.length then tX d0 i else []),.int .i64 (if 0<=i/\i<d2.length then d2.getD i.toNat 0 else 0)],.o (.int .i64 (if 0<=i/\i<d2.length then 0 else 2))],[DwS d0,(d2.length:Int)=(stA d0 0).2.2])
def WN:Con:=⟨true,[some (.pair (.row (.pair (.row (.pair (.int .i32) (.int .i64))) (.pair .bool (.int .i64)))) (.pair (.int .i64) (.row (.int .i64)))),none],fun xs=>match xs with | [.one (.vptr (.pair (.row (.pair (.row (.pair (.int .i32) (.int .i64))) (.pair .bool (.int .i64)))) (.pair (.int .i64) (.row (.int .i64)))) (d0,d1,d2) 0),.one (.int .i64 i)]=>some (ZV (d0,d1,d2,i)) | _=>none⟩
noncomputable def Oe:GP:=bZ Uq ZV
theorem PO:∀a b,(Uq a).map aB=(Uq b).map aB->a=b:=by
 rintro⟨a0,a1,a2,a3⟩ ⟨b0,b1,b2,b3⟩ h;simp only[Uq,zK,List.map_nil,aB,aS,List.drop_zero,zG,AV.one.injEq,AV.agg.injEq,Lf.int.injEq,Lf.str.injEq,Lf.bool.injEq,Lf.vrow.injEq,Lf.vptr.injEq,and_true,true_and,and_assoc] at h;obtain⟨h0,h1⟩:=h;have h0:=Ty.enc_inj _ h0;simp only[zF] at h0;obtain⟨rfl,rfl,rfl⟩:=h0;subst h1
 rfl
theorem Tx:df Oe WN:=aR PO (fun⟨_,_,_,_⟩ ⟨_,_,_,_⟩=>rfl) (fun⟨_,_,_,_⟩=>rfl) fun xs r h=>by
 simp only[WN] at h;split at h
 .cases h;rename_i d0 d1 d2 i;exact⟨(d0,d1,d2,i),rfl,rfl⟩
 .cases h
theorem aac {S:SC}(hB:SB S) (u56:fB S 56 C56)  (h302:S.has 302 f302):aG S 302 (az Oe):=by
 refine prI hB [] [] [(56,C56)] trivial trivial ⟨u56,trivial⟩ h302 (fun⟨d0,d1,d2,i⟩=>⟨rfl,rfl,rfl⟩) (fun(d0,d1,d2,i)=>fun f id T L=>match f,id with
  |302,1=>some (.inv { x:List Int×Nat×Int×Nat // WrI d0 i x } (fun x=>([(6,.one (.osl 1)),(7,.one (.vptr (.pair (.row (.pair (.int .i32) (.int .i64))) (.pair .bool (.int .i64))) (stA d0 x.1.2.1) 0)),(8,.one (.int .i64 x.1.2.2.1))],[(1,.row (.int .u8) x.1.1)])) (fun x=>x.1.2.2.2))
  |302,4043=>match T.getD 8 .junk,T.getD 7 .junk with | .one (.int _ a),.one (.vptr (.pair _ (.pair .bool _)) e _)=>some (.cut { u:Unit // e.2.1=true->a≠0 } fun _=>([(8,.one (.int .i64 (a-e01 e.2.1)))],[])) | _,_=>none
  |302,3=>match T.getD 8 .junk,T.getD 46 .junk with | .one (.int _ a),.one (.row (.pair (.int .i32) (.int .i64)) es)=>some (.inv { j:Nat // j<=es.length/\0<=a-eB d0 (es.take j)/\ic d0 es a=ic d0 (es.drop j) (a-eB d0 (es.take j)) } (fun x=>([(48,.one (.int .i64 x.1)),(8,.one (.int .i64 (a-eB d0 (es.take x.1))))],[])) (fun x=>es.length-x.1)) | _,_=>none
  |_,_=>none) 3000 ?_
 rintro⟨d0,d1,d2,i⟩ hc;have hc1:DwS d0:=hc.1;have hc2:(d2.length:Int)=(stA d0 0).2.2:=hc.2.1;refine VC.use (p:=(i<0->([]=if 0<=i/\i<(d2.length:Int) then tX d0 i else [])/\(0=if 0<=i/\i<(d2.length:Int) then d2.getD i.toNat 0 else 0)/\(2=if 0<=i/\i<(d2.length:Int) then (0:Int) else (2:Int)))/\(¬i<0->((↑(List.length (d1,d2).2):Int)<=i->([]=if 0<=i/\i<(d2.length:Int) then tX d0 i else [])/\(0=if 0<=i/\i<(d2.length:Int) then d2.getD i.toNat 0 else 0)/\(2=if 0<=i/\i<(d2.length:Int) then (0:Int) else (2:Int)))/\(¬(↑(List.length (d1,d2).2):Int)<=i->((0:Int)<=(0:Int)/\(0:Int)<(d0.length:Int))/\(∃x1:{ x:List Int×Nat×Int×Nat // WrI d0 i x },(d0,d1,d2)=(d0,d1,d2)/\i=i/\x1.1.1=[]/\d0.getD 0 ([],false,0)=stA d0 x1.1.2.1/\i=x1.1.2.2.1/\([]:List UInt8)=[]/\(0:Int)=(0:Int)/\x1.1.1=[])/\(∀x1:{ x:List Int×Nat×Int×Nat // WrI d0 i x },(((stA d0 x1.1.2.1).2.1=true->(x1.1.2.2.1=0->(0<=i/\i<(↑(List.length (d1,d2).2):Int))/\(List.map (fun z=>UInt8.ofNat (Int.toNat z)) x1.1.1=if 0<=i/\i<(d2.length:Int) then tX d0 i else [])/\(List.getD (d1,d2).2 i.toNat 0=if 0<=i/\i<(d2.length:Int) then d2.getD i.toNat 0 else 0)/\(0=if 0<=i/\i<(d2.length:Int) then (0:Int) else (2:Int)))/\(¬x1.1.2.2.1=0->aA (x1.1.2.2.1-1)/\(∃x2:{ u:Unit // (stA d0 x1.1.2.1).2.1=true->x1.1.2.2.1≠0 },(d0,d1,d2)=(d0,d1,d2)/\i=i/\stA d0 x1.1.2.1=stA d0 x1.1.2.1/\x1.1.2.2.1-1=x1.1.2.2.1-e01 (stA d0 x1.1.2.1).2.1/\([]:List UInt8)=[]/\(0:Int)=(0:Int)/\x1.1.1=x1.1.1)))/\(¬(stA d0 x1.1.2.1).2.1=true->∃x2:{ u:Unit // (stA d0 x1.1.2.1).2.1=true->x1.1.2.2.1≠0 },(d0,d1,d2)=(d0,d1,d2)/\i=i/\stA d0 x1.1.2.1=stA d0 x1.1.2.1/\x1.1.2.2.1=x1.1.2.2.1-e01 (stA d0 x1.1.2.1).2.1/\([]:List UInt8)=[]/\(0:Int)=(0:Int)/\x1.1.1=x1.1.1))/\(∀x2:{ u:Unit // (stA d0 x1.1.2.1).2.1=true->x1.1.2.2.1≠0 },(∃x3:{ j:Nat // j<=List.length (stA d0 x1.1.2.1).1/\0<=x1.1.2.2.1-e01 (stA d0 x1.1.2.1).2.1-eB d0 (List.take j (stA d0 x1.1.2.1).1)/\ic d0 (stA d0 x1.1.2.1).1 (x1.1.2.2.1-e01 (stA d0 x1.1.2.1).2.1)=ic d0 (List.drop j (stA d0 x1.1.2.1).1) (x1.1.2.2.1-e01 (stA d0 x1.1.2.1).2.1-eB d0 (List.take j (stA d0 x1.1.2.1).1)) },(d0,d1,d2)=(d0,d1,d2)/\i=i/\x1.1.2.2.1-e01 (stA d0 x1.1.2.1).2.1=x1.1.2.2.1-e01 (stA d0 x1.1.2.1).2.1-eB d0 (List.take x3.1 (stA d0 x1.1.2.1).1)/\(stA d0 x1.1.2.1).1=(stA d0 x1.1.2.1).1/\(↑(List.length (stA d0 x1.1.2.1).1):Int)=(↑(List.length (stA d0 x1.1.2.1).1):Int)/\0=(x3.1:Int)/\([]:List UInt8)=[]/\(0:Int)=(0:Int)/\x1.1.1=x1.1.1)/\(∀x3:{ j:Nat // j<=List.length (stA d0 x1.1.2.1).1/\0<=x1.1.2.2.1-e01 (stA d0 x1.1.2.1).2.1-eB d0 (List.take j (stA d0 x1.1.2.1).1)/\ic d0 (stA d0 x1.1.2.1).1 (x1.1.2.2.1-e01 (stA d0 x1.1.2.1).2.1)=ic d0 (List.drop j (stA d0 x1.1.2.1).1) (x1.1.2.2.1-e01 (stA d0 x1.1.2.1).2.1-eB d0 (List.take j (stA d0 x1.1.2.1).1)) },((x3.1:Int)<(↑(List.length (stA d0 x1.1.2.1).1):Int)->(0<=(x3.1:Int)/\(x3.1:Int)<(↑(List.length (stA d0 x1.1.2.1).1):Int))/\(0<=(List.getD (stA d0 x1.1.2.1).1 x3.1 (0,0)).2/\(List.getD (stA d0 x1.1.2.1).1 x3.1 (0,0)).2<(d0.length:Int))/\(x1.1.2.2.1-e01 (stA d0 x1.1.2.1).2.1-eB d0 (List.take x3.1 (stA d0 x1.1.2.1).1)<(d0.getD (Int.toNat (List.getD (stA d0 x1.1.2.1).1 x3.1 (0,0)).2) ([],false,0)).2.2->Utf8.valid (List.getD (stA d0 x1.1.2.1).1 x3.1 (0,0)).1=true/\x1.1.1.length<=70368744177664/\(∀x4:(Unit),∃x5:{ x:List Int×Nat×Int×Nat // WrI d0 i x },x5.1.2.2.2<x1.1.2.2.2/\(d0,d1,d2)=(d0,d1,d2)/\i=i/\d0.getD (Int.toNat (List.getD (stA d0 x1.1.2.1).1 x3.1 (0,0)).2) ([],false,0)=stA d0 x5.1.2.1/\x1.1.2.2.1-e01 (stA d0 x1.1.2.1).2.1-eB d0 (List.take x3.1 (stA d0 x1.1.2.1).1)=x5.1.2.2.1/\([]:List UInt8)=[]/\(0:Int)=(0:Int)/\x1.1.1++encI (List.getD (stA d0 x1.1.2.1).1 x3.1 (0,0)).1=x5.1.1))/\(¬x1.1.2.2.1-e01 (stA d0 x1.1.2.1).2.1-eB d0 (List.take x3.1 (stA d0 x1.1.2.1).1)<(d0.getD (Int.toNat (List.getD (stA d0 x1.1.2.1).1 x3.1 (0,0)).2) ([],false,0)).2.2->aA (x1.1.2.2.1-e01 (stA d0 x1.1.2.1).2.1-eB d0 (List.take x3.1 (stA d0 x1.1.2.1).1)-(d0.getD (Int.toNat (List.getD (stA d0 x1.1.2.1).1 x3.1 (0,0)).2) ([],false,0)).2.2)/\aA ((x3.1:Int)+1)/\(∃x4:{ j:Nat // j<=List.length (stA d0 x1.1.2.1).1/\0<=x1.1.2.2.1-e01 (stA d0 x1.1.2.1).2.1-eB d0 (List.take j (stA d0 x1.1.2.1).1)/\ic d0 (stA d0 x1.1.2.1).1 (x1.1.2.2.1-e01 (stA d0 x1.1.2.1).2.1)=ic d0 (List.drop j (stA d0 x1.1.2.1).1) (x1.1.2.2.1-e01 (stA d0 x1.1.2.1).2.1-eB d0 (List.take j (stA d0 x1.1.2.1).1)) },List.length (stA d0 x1.1.2.1).1-x4.1<List.length (stA d0 x1.1.2.1).1-x3.1/\(d0,d1,d2)=(d0,d1,d2)/\i=i/\x1.1.2.2.1-e01 (stA d0 x1.1.2.1).2.1-eB d0 (List.take x3.1 (stA d0 x1.1.2.1).1)-(d0.getD (Int.toNat (List.getD (stA d0 x1.1.2.1).1 x3.1 (0,0)).2) ([],false,0)).2.2=x1.1.2.2.1-e01 (stA d0 x1.1.2.1).2.1-eB d0 (List.take x4.1 (stA d0 x1.1.2.1).1)/\(stA d0 x1.1.2.1).1=(stA d0 x1.1.2.1).1/\(↑(List.length (stA d0 x1.1.2.1).1):Int)=(↑(List.length (stA d0 x1.1.2.1).1):Int)/\(x3.1:Int)+1=(x4.1:Int)/\([]:List UInt8)=[]/\(0:Int)=(0:Int)/\x1.1.1=x1.1.1)))/\(¬(x3.1:Int)<(↑(List.length (stA d0 x1.1.2.1).1):Int)->(0<=i/\i<(↑(List.length (d1,d2).2):Int))/\(List.map (fun z=>UInt8.ofNat (Int.toNat z)) x1.1.1=if 0<=i/\i<(d2.length:Int) then tX d0 i else [])/\(List.getD (d1,d2).2 i.toNat 0=if 0<=i/\i<(d2.length:Int) then d2.getD i.toNat 0 else 0)/\(0=if 0<=i/\i<(d2.length:Int) then (0:Int) else (2:Int))))))))) (by kernel_rfl) ?_;obtain⟨W0,all0,hS0,hT0,hd0⟩:=hc1;have hok:ql d0:=hd0 ▸ hS0.ok hT0;have hp0:=hok.pos;have hw0:(d2.length:Int)=(W0.length:Int):=by
  rw[hc2,hd0,dL hS0.pos];show ((rAt all0 0).1.length:Int)=_;rw[hS0.root]
 have hdl:(List.length (d1,d2).2)=d2.length:=rfl;rw[hdl];refine⟨fun h=>⟨by rw[if_neg (by omega)],by rw[if_neg (by omega)],by rw[if_neg (by omega)]⟩,fun h=>⟨fun h2=>⟨by rw[if_neg (by omega)],by rw[if_neg (by omega)],by rw[if_neg (by omega)]⟩,fun h2=>?_⟩⟩;have hi:0<=i/\i<(d2.length:Int):=⟨by omega,by omega⟩;refine⟨⟨by omega,by omega⟩,⟨⟨([],0,i,tot W0),W0,all0,[],4194306,hS0,hT0,hd0,hS0.pos,hi.1,?_,?_,rfl,?_,rfl,Nat.zero_le _,?_⟩,rfl,rfl,rfl,rfl,rfl,rfl,rfl,rfl⟩,?_⟩
 .dsimp only;rw[hS0.root];omega
 .dsimp only;rw[hS0.root]
 .dsimp only;rw[hS0.root];omega
 .dsimp only;rw[hS0.root];simp;omega
 rintro⟨⟨o,st,a,t⟩,W,all,pre,k,hS,hT,hd,hst,ha0,ha1,ht,hw,hk,ho,hol,hpl⟩;dsimp only at hst ha0 ha1 ht hw hk ho hol hpl ⊢;have hstl:st<d0.length:=by rw[hd,zR];exact hst
 have hsA:stA d0 st=stD (rAt all st):=by rw[hd];exact dL hst
 have g:=hS.g _ (hS.mem hst);have hcc:(stA d0 st).2.2=((rAt all st).1.length:Int):=by rw[hsA];rfl
 have hcnt:=hok.cnt st hstl;have hcl:=hok.le st hstl;have e0:=XQ (stA d0 st).2.1;refine⟨⟨fun he=>⟨fun hz=>⟨hi,?_,by rw[if_pos hi],by rw[if_pos hi]⟩,fun hz=>⟨by unfold aA;omega,⟨(),fun _=>hz⟩,rfl,rfl,rfl,by rw[he];rfl,rfl,rfl,rfl⟩⟩,fun he=>⟨⟨(),fun h'=>absurd h' he⟩,rfl,rfl,rfl,by rw[show (stA d0 st).2.1=false by simpa using he];unfold e01;simp,rfl,rfl,rfl⟩⟩,?_⟩
 .rw[if_pos hi];unfold tX;cases k with
  |zero=>omega
  | succ k=>
    have:ow d0 (k+1) st a=[]:=by unfold ow;rw[he,hz];rfl
    rw[hw,this,List.append_nil,ho]
 rintro⟨_,hends⟩;have hb0:0<=a-e01 (stA d0 st).2.1:=by
  cases hb:(stA d0 st).2.1 with
  |false=>show 0<=a-0;omega
  |true=>have:=hends hb;show 0<=a-1;omega
 refine⟨⟨⟨0,Nat.zero_le _,by simp[eB];omega,by simp[eB]⟩,rfl,rfl,by simp[eB],rfl,rfl,rfl,rfl,rfl,rfl⟩,?_⟩;rintro⟨j,hj,hj0,hpk⟩;dsimp only;refine⟨fun h3=>?_,fun h3=>?_⟩
 .have hjl:j<(stA d0 st).1.length:=by omega
  obtain⟨p1,p2,p3⟩:=hok.part hstl hjl;have hto:=hok.to st hstl _ (lV hjl);have hmem:(stA d0 st).1.getD j (0,0)∈(rAt all st).2.2:=by
   have:=lV hjl;rw[hsA] at this ⊢;exact this
  have hdr:(stA d0 st).1.drop j=(stA d0 st).1.getD j (0,0)::(stA d0 st).1.drop (j+1):=by
   rw[List.drop_eq_getElem_cons hjl,zA,zB hjl];rfl
  have hce:(d0.getD (Int.toNat ((stA d0 st).1.getD j (0,0)).2) ([],false,0)).2.2=(stA d0 ((stA d0 st).1.getD j (0,0)).2.toNat).2.2:=rfl;rw[hce];have hnn:=hok.nn _ p3;rw[hdr] at hpk;refine⟨⟨by omega,h3⟩,hto,fun h4=>?_,fun h4=>⟨by unfold aA;omega,by have:=(hok.eds.at st).2.2;have e2:(d0.getD st ([],false,0)).1=(stA d0 st).1:=rfl;rw[e2] at this;unfold aA;omega,⟨j+1,hjl,?_,?_⟩,by dsimp only;omega,rfl,rfl,?_,rfl,rfl,by push_cast;rfl,rfl,rfl,rfl⟩⟩
  .obtain⟨n,q1,q2,q3⟩:=g.to _ hmem;have hh:((stA d0 st).1.getD j (0,0)).1∈aD (rAt all st).1:=by rw[<- g.hd];exact List.mem_map_of_mem hmem
   have hlt:=gY hh;have hval:Utf8.valid ((stA d0 st).1.getD j (0,0)).1=true:=by
    obtain⟨x,m1,m2⟩:=iD hh;cases x with
    |nil=>simp[dG] at m2
    | cons b z=>
      simp only[dG,decide_eq_true_eq] at m2;exact g.val _ m1 _ (m2 ▸ List.mem_cons_self ..)
   have hel:=Gr hval;cases k with
   |zero=>omega
   | succ k=>
     have hstep:ow d0 (k+1) st a=((stA d0 st).1.getD j (0,0)).1::ow d0 k ((stA d0 st).1.getD j (0,0)).2.toNat (a-e01 (stA d0 st).2.1-eB d0 ((stA d0 st).1.take j)):=by
      rw[ow,if_neg (by
       intro hb;simp only[zH,decide_eq_true_eq] at hb;exact hends hb.1 hb.2),hpk]
      simp only[ic];rw[if_pos h4]
     have hn:((stA d0 st).1.getD j (0,0)).2.toNat=n:=by omega
     refine⟨hval,by omega,fun _=>⟨⟨(o++encI ((stA d0 st).1.getD j (0,0)).1,((stA d0 st).1.getD j (0,0)).2.toNat,a-e01 (stA d0 st).2.1-eB d0 ((stA d0 st).1.take j),tot (aY (rAt all st).1 ((stA d0 st).1.getD j (0,0)).1)),W,all,pre++[((stA d0 st).1.getD j (0,0)).1],k,hS,hT,hd,?_,hj0,?_,?_,?_,?_,?_,?_,?_⟩,?_,rfl,rfl,rfl,rfl,rfl,rfl,rfl⟩⟩
     .dsimp only;rw[hn];exact q2
     .dsimp only;rw[hn,q3];have:(stA d0 n).2.2=((rAt all n).1.length:Int):=by rw[hd,dL q2];rfl
      rw[hn,this,q3] at h4;exact h4
     .dsimp only;rw[hn,q3]
     .dsimp only;rw[hw,hstep];simp
     .dsimp only;rw[hn,q3];omega
     .dsimp only;rw[ho];unfold fA;simp
     .dsimp only;rw[zL,zL,zN];omega
     .dsimp only;rw[hn,q3,zL,zN];omega
     .dsimp only;rw[ht];exact hlt
  .rw[mZ d0 hjl];omega
  .rw[hpk];simp only[ic];rw[if_neg h4,mZ d0 hjl]
   congr 1;omega
  .dsimp only;rw[mZ d0 hjl];omega
 .exfalso;rw[List.take_of_length_le (by omega)] at hj0;omega
end Go.EA
end
section
namespace Go.EA
def frq (l:List Wd) (f:Int) (i:Nat):List Wd:=(l.take i).map (fun w=>(w.1,f+1))++l.drop i
theorem HV (l:List Int):(fA l).map (fun z=>UInt8.ofNat (Int.toNat z))=bz l:=by
 unfold fA bz;rw[List.map_flatten,List.map_map]
 congr 1
 exact List.map_congr_left fun r _=>unB r
theorem kz {s:List UInt8}(h:bG s=0):bz (aJ s)=s:=by
 have h1:dH s=true:=(Ay s).symm.trans (decide_eq_true h);unfold aJ;rw[if_pos h1];exact(qW _ s (zJ _) h1).1
theorem TL {l:List Wd}(h:isE l=0) {i:Nat}(hi:i<l.length):tX (List.map stD (bM l)) (i:Int)=(l.getD i ([],0)).1:=by
 have hS:=sts h;have hT:=(nml h).tot;have hm:l.getD i ([],0)∈l:=by rw[zA,zB hi];exact List.getElem_mem _
 unfold tX;rw[La hS 4194306 0 i hS.pos (by rw[hS.root];omega) (by omega) (by rw[hS.root,yA];omega),hS.root,Int.toNat_natCast,HV];have:(wdR l).getD i []=aJ (l.getD i ([],0)).1:=by
  unfold wdR;rw[zA,List.getElem?_map,zB hi,zA,zB hi];rfl
 rw[this];exact kz ((nml h).dec _ hm)
end Go.EA
end
section
namespace Go.EA
theorem mem_nil_iff {α:Type}{l:List α}:l≠[]↔∃x,x∈l:=by
 cases l with
 |nil=>exact⟨fun h=>absurd rfl h,fun⟨x,h⟩=>by cases h⟩
 |cons a l=>exact⟨fun _=>⟨a,by simp⟩,fun _=>by simp⟩
theorem Gs.nxt {all:List RSt}{s:RSt}(g:Gs all s) {r:Int}:dD s.2.2 r=true↔aY s.1 r≠[]:=by
 rw[Ao,g.hd];constructor
 .exact Nz
 .intro h;obtain⟨z,hz⟩:=mem_nil_iff.1 h;exact fI (dN.1 hz)
theorem rF (a b:List Int):bz (a++b)=bz a++bz b:=by unfold bz;simp
theorem yu {w s:List UInt8}(hw:bG w=0) (hs:bG s=0):preB w s=true↔∃z,aJ w=aJ s++z:=by
 constructor
 .intro h;have h:=of_decide_eq_true h;have e:w=s++w.drop s.length:=by conv=>lhs;rw[<- List.take_append_drop s.length w,h.2]
  have h2:bG (s++w.drop s.length)=0:=e ▸ hw;have h3:=(HZ _ _ h2).1 hs;exact⟨aJ (w.drop s.length),by rw[<- (Py _ _ hs h3).2,<- e]⟩
 .rintro⟨z,hz⟩;have e:w=s++bz z:=by rw[<- kz hw,hz,rF,kz hs]
  refine decide_eq_true ?_;rw[e];simp
end Go.EA
end
