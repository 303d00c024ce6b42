/- Texts. Conditions: none. -/
import Derived.Test.YtgkhohpekfjlmaaDoorEK32
import Derived.Test.YtgkhohpekfjlmaaDoorEDf
import Derived.Test.YtgkhohpekfjlmaaDoorEK25
import Derived.KernelRfl
import Derived.Test.YtgkhohpekfjlmaaDoorEK12
set_option linter.unusedVariables false
set_option linter.unusedSimpArgs false
section
namespace Go.EA
def iw (S:List StD):List Ed->Int->Option (Ed×Int)
 |[],_=>none
 |e::es,a=>if a<(stA S e.2.toNat).2.2 then some (e,a) else iw S es (a-(stA S e.2.toNat).2.2)
def oL (S:List StD):Nat->Nat->Int->List Int
 |0,_,_=>[]
 |k+1,st,a=>if (stA S st).2.1&&decide (a=0) then [] else match iw S (stA S st).1 (a-e01 (stA S st).2.1) with
  |some (e,a')=>e.1::oL S k e.2.toNat a'
  |none=>[]
def rC (l:Rst) (hs:List Int):Rst:=hs.flatMap fun r=>(aO l r).map fun z=>r::z
theorem Gn {l:Rst}(h:dE l):∀{hs:List Int},hs.Pairwise (·<·)->dE (rC l hs)
 |[],_=>.nil
 | r::hs,hp=>by
   have hp':=List.pairwise_cons.1 hp;have ih:=Gn h hp'.2;unfold rC at ih ⊢;rw[List.flatMap_cons];refine List.pairwise_append.2 ⟨List.pairwise_map.2 ((mE h r).imp fun hab=>.inr ⟨rfl,hab⟩),ih,fun x hx y hy=>?_⟩;obtain⟨a,_,rfl⟩:=List.mem_map.1 hx;obtain⟨q,hq,hy⟩:=List.mem_flatMap.1 hy;obtain⟨b,_,rfl⟩:=List.mem_map.1 hy;exact .inl (hp'.1 q hq)
theorem JK {l:Rst}(h:dE l):l=(if aD l then [[]] else [])++rC l (ak l):=by
 have hg:=Gn h (jU h);have hg0:∀x∈rC l (ak l),∃r z,x=r::z/\z∈aO l r:=fun x hx=>by
  obtain⟨r,_,hx⟩:=List.mem_flatMap.1 hx;obtain⟨z,hz,rfl⟩:=List.mem_map.1 hx;exact⟨r,z,rfl,hz⟩
 refine xV h ?_ fun x=>?_
 .split
  .refine List.pairwise_cons.2 ⟨fun x hx=>?_,hg⟩;obtain⟨r,z,rfl,_⟩:=hg0 x hx
   trivial
  .exact hg
 .rw[zX];cases x with
  | nil=>
    constructor
    .intro hx;rw[if_pos (eU.2 hx)];exact .inl (by simp)
    .rintro(hx | hx)
     .by_cases he:aD l=true
      .exact eU.1 he
      .rw[if_neg he] at hx;cases hx
     .obtain⟨r,z,e,_⟩:=hg0 _ hx;cases e
  | cons r z=>
    constructor
    .intro hx;exact .inr (List.mem_flatMap.2 ⟨r,fT hx,List.mem_map.2 ⟨z,dP.2 hx,rfl⟩⟩)
    .rintro(hx | hx)
     .split at hx
      .have:=List.mem_singleton.1 hx;cases this
      .cases hx
     .obtain⟨r',z',e,hz⟩:=hg0 _ hx;cases e;exact dP.1 hz
theorem DX {α:Type}{a b:List α}{i:Nat}{d:α}(h:i<a.length):(a++b).getD i d=a.getD i d:=by
 rw[zA,zA,zV h]
theorem sJ {α:Type}{a b:List α}{i:Nat}{d:α}(h:a.length<=i):(a++b).getD i d=b.getD (i-a.length) d:=by
 rw[zA,zA,List.getElem?_append_right h]
theorem Az {all:List RSt}{s:RSt}(g:Gs all s):∀{es:List Ed}{a:Int},(∀e∈es,e∈s.2.2)->0<=a->a<(rC s.1 (es.map (·.1))).length->
 ∃e a',iw (all.map stD) es a=some (e,a')/\e∈es/\0<=a'/\a'<(aO s.1 e.1).length/\(rC s.1 (es.map (·.1))).getD a.toNat []=e.1::(aO s.1 e.1).getD a'.toNat []
 |[],a,_,h0,h1=>by simp[rC] at h1;omega
 | e::es,a,he,h0,h1=>by
   obtain⟨n,q1,q2,q3⟩:=g.to e (he e (by simp));have hc:(stA (all.map stD) e.2.toNat).2.2=((aO s.1 e.1).length:Int):=by
    rw[q1,Int.toNat_natCast,dD q2];show ((rAt all n).1.length:Int)=_;rw[q3]
   have hsp:rC s.1 ((e::es).map (·.1))=(aO s.1 e.1).map (fun z=>e.1::z)++rC s.1 (es.map (·.1)):=by unfold rC;rw[zK,List.flatMap_cons]
   rw[hsp] at h1 ⊢;rw[zL,zR] at h1;unfold iw;rw[hc];by_cases h:a<((aO s.1 e.1).length:Int)
   .rw[if_pos h];refine⟨e,a,rfl,by simp,h0,h,?_⟩;rw[DX (by rw[zR];omega),zA,List.getElem?_map,zB (by omega),zA,zB (by omega)];rfl
   .rw[if_neg h];obtain⟨e',a',p1,p2,p3,p4,p5⟩:=Az g (es:=es) (a:=a-((aO s.1 e.1).length:Int)) (fun x hx=>he x (by simp[hx])) (by omega) (by push_cast at h1;omega);refine⟨e',a',p1,by simp[p2],p3,p4,?_⟩;rw[sJ (by rw[zR];omega),zR,<- p5]
    congr 1;omega
theorem OD {W:Rst}{all:List RSt}(hS:Sts W all):∀(k st:Nat) (a:Int),st<all.length->tot (rAt all st).1<k->0<=a->a<(rAt all st).1.length->oL (all.map stD) k st a=(rAt all st).1.getD a.toNat []
 |0,_,_,_,h,_,_=>by omega
 | k+1,st,a,hi,ht,h0,h1=>by
   have g:=hS.g _ (hS.mem hi);have hsp:=JK g.srt;have hl:=congrArg List.length hsp;rw[zL] at hl;unfold oL;rw[dD hi];show (if ((rAt all st).2.1&&decide (a=0))=true then [] else match iw (all.map stD) (rAt all st).2.2 (a-e01 (rAt all st).2.1) with
    |some (e,a')=>e.1::oL (all.map stD) k e.2.toNat a'
    |none=>[])=_
   rw[g.ends];have key:∀b:Int,0<=b->b<(rC (rAt all st).1 (ak (rAt all st).1)).length->(match iw (all.map stD) (rAt all st).2.2 b with
    |some (e,a')=>e.1::oL (all.map stD) k e.2.toNat a'
    |none=>[])=(rC (rAt all st).1 (ak (rAt all st).1)).getD b.toNat []:=fun b hb0 hb1=>by
    rw[<- g.hd] at hb1 ⊢;obtain⟨e,a',p1,p2,p3,p4,p5⟩:=Az g (fun e he=>he) hb0 hb1;rw[p1,p5];obtain⟨n,q1,q2,q3⟩:=g.to e p2;have hlt:=fF (show e.1∈ak (rAt all st).1 by rw[<- g.hd];exact List.mem_map_of_mem p2);show e.1::oL (all.map stD) k e.2.toNat a'=_;rw[q1,Int.toNat_natCast,OD hS k n a' q2 (by rw[q3];omega) p3 (by rw[q3];exact p4),q3]
   by_cases he:aD (rAt all st).1=true
   .rw[if_pos he] at hsp hl;have h01:([[]]:Rst).length=1:=rfl;rw[h01] at hl;rw[he];by_cases ha:a=0
    .subst ha;rw[if_pos (by simp)];rw[hsp];rfl
    .rw[if_neg (by simp[ha])];have e1:e01 true=1:=rfl;rw[e1,key (a-1) (by omega) (by omega)]
     conv=>rhs;rw[hsp]
     rw[sJ (by rw[h01];omega),h01]
     congr 1;omega
   .rw[if_neg he] at hsp hl;have h01:([]:Rst).length=0:=rfl;rw[h01] at hl;have he':aD (rAt all st).1=false:=by simpa using he
    rw[he'];rw[if_neg (by simp)];have e1:e01 false=0:=rfl;rw[e1,Int.sub_zero,key a h0 (by omega)]
    conv=>rhs;rw[hsp]
    rfl
end Go.EA
end
section
set_option maxRecDepth 100000
set_option maxHeartbeats 0
namespace Go.EA
open F
def DwS (d:List StD):Prop:=∃W all,Sts W all/\tot W<=4194304/\d=all.map stD
def WrI (d:List StD) (i:Int) (x:List Int×Nat×Int×Nat):Prop:=∃W all pre k,Sts W all/\tot W<=4194304/\d=all.map stD/\x.2.1<all.length/\0<=x.2.2.1/\x.2.2.1<(rAt all x.2.1).1.length/\x.2.2.2=tot (rAt all x.2.1).1/\oL d 4194306 0 i=pre++oL d k x.2.1 x.2.2.1/\tot (rAt all x.2.1).1<k/\x.1=fD pre/\x.1.length<=4*pre.length/\pre.length+tot (rAt all x.2.1).1<=4194304
def vk (d:List StD) (i:Int):List UInt8:=(fD (oL d 4194306 0 i)).map fun z=>UInt8.ofNat (Int.toNat z)
def UH:(List ((List (Int×Int))×Bool×Int))×Int×List (Int)×Int->List SV:=fun(d0,d1,d2,i)=>[.one (.vptr (.pair (.row (.pair (.row (.pair (.int .i32) (.int .i64))) (.pair .bool (.int .i64)))) (.pair (.int .i64) (.row (.int .i64)))) (d0,d1,d2) 0),.one (.int .i64 i)]
def aaB:(List ((List (Int×Int))×Bool×Int))×Int×List (Int)×Int->SV×List Prop:=fun(d0,d1,d2,i)=>(.tup [.a [.str (if 0<=i/\i<d2.length then vk d0 i else []),.int .i64 (if 0<=i/\i<d2.length then d2.getD i.toNat 0 else 0)],.o (.int .i64 (if 0<=i/\i<d2.length then 0 else 2))],[DwS d0,(d2.length:Int)=(stA d0 0).2.2])
def WG:Con:=⟨true,[some (.pair (.row (.pair (.row (.pair (.int .i32) (.int .i64))) (.pair .bool (.int .i64)))) (.pair (.int .i64) (.row (.int .i64)))),none],fun xs=>match xs with | [.one (.vptr (.pair (.row (.pair (.row (.pair (.int .i32) (.int .i64))) (.pair .bool (.int .i64)))) (.pair (.int .i64) (.row (.int .i64)))) (d0,d1,d2) 0),.one (.int .i64 i)]=>some (aaB (d0,d1,d2,i)) | _=>none⟩
noncomputable def OG:GP:=bS UH aaB
theorem OJ:∀a b,(UH a).map aB=(UH b).map aB->a=b:=by
 rintro⟨a0,a1,a2,a3⟩ ⟨b0,b1,b2,b3⟩ h;simp only[UH,zK,List.map_nil,aB,aS,List.drop_zero,zG,AV.one.injEq,AV.agg.injEq,Lf.int.injEq,Lf.str.injEq,Lf.bool.injEq,Lf.vrow.injEq,Lf.vptr.injEq,and_true,true_and,and_assoc] at h;obtain⟨h0,h1⟩:=h;have h0:=Ty.enc_inj _ h0;simp only[zF] at h0;obtain⟨rfl,rfl,rfl⟩:=h0;subst h1
 rfl
theorem UQ:bW OG WG:=aN OJ (fun⟨_,_,_,_⟩ ⟨_,_,_,_⟩=>rfl) (fun⟨_,_,_,_⟩=>rfl) fun xs r h=>by
 simp only[WG] at h;split at h
 .cases h;rename_i d0 d1 d2 i;exact⟨(d0,d1,d2,i),rfl,rfl⟩
 .cases h
theorem ZB {S:SC}(hB:SB S) (u56:dN S 56 C56)  (h302:S.has 302 f302):aG S 302 (az OG):=by
 refine prI hB [] [] [(56,C56)] trivial trivial ⟨u56,trivial⟩ h302 (fun⟨d0,d1,d2,i⟩=>⟨rfl,rfl,rfl⟩) (fun(d0,d1,d2,i)=>fun f id T L=>match f,id with
  |302,1=>some (.inv { x:List Int×Nat×Int×Nat // WrI d0 i x } (fun x=>([(6,.one (.osl 1)),(7,.one (.vptr (.pair (.row (.pair (.int .i32) (.int .i64))) (.pair .bool (.int .i64))) (stA d0 x.1.2.1) 0)),(8,.one (.int .i64 x.1.2.2.1))],[(1,.row (.int .u8) x.1.1)])) (fun x=>x.1.2.2.2))
  |302,4043=>match T.getD 8 .junk,T.getD 7 .junk with | .one (.int _ a),.one (.vptr (.pair _ (.pair .bool _)) e _)=>some (.cut { u:Unit // e.2.1=true->a≠0 } fun _=>([(8,.one (.int .i64 (a-e01 e.2.1)))],[])) | _,_=>none
  |302,3=>match T.getD 8 .junk,T.getD 46 .junk with | .one (.int _ a),.one (.row (.pair (.int .i32) (.int .i64)) es)=>some (.inv { j:Nat // j<=es.length/\0<=a-eu d0 (es.take j)/\iw d0 es a=iw d0 (es.drop j) (a-eu d0 (es.take j)) } (fun x=>([(48,.one (.int .i64 x.1)),(8,.one (.int .i64 (a-eu d0 (es.take x.1))))],[])) (fun x=>es.length-x.1)) | _,_=>none
  |_,_=>none) 3000 ?_
 rintro⟨d0,d1,d2,i⟩ hc;have hc1:DwS d0:=hc.1;have hc2:(d2.length:Int)=(stA d0 0).2.2:=hc.2.1;refine VC.use (p:=(i<0->([]=if 0<=i/\i<(d2.length:Int) then vk d0 i else [])/\(0=if 0<=i/\i<(d2.length:Int) then d2.getD i.toNat 0 else 0)/\(2=if 0<=i/\i<(d2.length:Int) then (0:Int) else (2:Int)))/\(¬i<0->((↑(List.length (d1,d2).2):Int)<=i->([]=if 0<=i/\i<(d2.length:Int) then vk d0 i else [])/\(0=if 0<=i/\i<(d2.length:Int) then d2.getD i.toNat 0 else 0)/\(2=if 0<=i/\i<(d2.length:Int) then (0:Int) else (2:Int)))/\(¬(↑(List.length (d1,d2).2):Int)<=i->((0:Int)<=(0:Int)/\(0:Int)<(d0.length:Int))/\(∃x1:{ x:List Int×Nat×Int×Nat // WrI d0 i x },(d0,d1,d2)=(d0,d1,d2)/\i=i/\x1.1.1=[]/\d0.getD 0 ([],false,0)=stA d0 x1.1.2.1/\i=x1.1.2.2.1/\([]:List UInt8)=[]/\(0:Int)=(0:Int)/\x1.1.1=[])/\(∀x1:{ x:List Int×Nat×Int×Nat // WrI d0 i x },(((stA d0 x1.1.2.1).2.1=true->(x1.1.2.2.1=0->(0<=i/\i<(↑(List.length (d1,d2).2):Int))/\(List.map (fun z=>UInt8.ofNat (Int.toNat z)) x1.1.1=if 0<=i/\i<(d2.length:Int) then vk d0 i else [])/\(List.getD (d1,d2).2 i.toNat 0=if 0<=i/\i<(d2.length:Int) then d2.getD i.toNat 0 else 0)/\(0=if 0<=i/\i<(d2.length:Int) then (0:Int) else (2:Int)))/\(¬x1.1.2.2.1=0->aC (x1.1.2.2.1-1)/\(∃x2:{ u:Unit // (stA d0 x1.1.2.1).2.1=true->x1.1.2.2.1≠0 },(d0,d1,d2)=(d0,d1,d2)/\i=i/\stA d0 x1.1.2.1=stA d0 x1.1.2.1/\x1.1.2.2.1-1=x1.1.2.2.1-e01 (stA d0 x1.1.2.1).2.1/\([]:List UInt8)=[]/\(0:Int)=(0:Int)/\x1.1.1=x1.1.1)))/\(¬(stA d0 x1.1.2.1).2.1=true->∃x2:{ u:Unit // (stA d0 x1.1.2.1).2.1=true->x1.1.2.2.1≠0 },(d0,d1,d2)=(d0,d1,d2)/\i=i/\stA d0 x1.1.2.1=stA d0 x1.1.2.1/\x1.1.2.2.1=x1.1.2.2.1-e01 (stA d0 x1.1.2.1).2.1/\([]:List UInt8)=[]/\(0:Int)=(0:Int)/\x1.1.1=x1.1.1))/\(∀x2:{ u:Unit // (stA d0 x1.1.2.1).2.1=true->x1.1.2.2.1≠0 },(∃x3:{ j:Nat // j<=List.length (stA d0 x1.1.2.1).1/\0<=x1.1.2.2.1-e01 (stA d0 x1.1.2.1).2.1-eu d0 (List.take j (stA d0 x1.1.2.1).1)/\iw d0 (stA d0 x1.1.2.1).1 (x1.1.2.2.1-e01 (stA d0 x1.1.2.1).2.1)=iw d0 (List.drop j (stA d0 x1.1.2.1).1) (x1.1.2.2.1-e01 (stA d0 x1.1.2.1).2.1-eu d0 (List.take j (stA d0 x1.1.2.1).1)) },(d0,d1,d2)=(d0,d1,d2)/\i=i/\x1.1.2.2.1-e01 (stA d0 x1.1.2.1).2.1=x1.1.2.2.1-e01 (stA d0 x1.1.2.1).2.1-eu d0 (List.take x3.1 (stA d0 x1.1.2.1).1)/\(stA d0 x1.1.2.1).1=(stA d0 x1.1.2.1).1/\(↑(List.length (stA d0 x1.1.2.1).1):Int)=(↑(List.length (stA d0 x1.1.2.1).1):Int)/\0=(x3.1:Int)/\([]:List UInt8)=[]/\(0:Int)=(0:Int)/\x1.1.1=x1.1.1)/\(∀x3:{ j:Nat // j<=List.length (stA d0 x1.1.2.1).1/\0<=x1.1.2.2.1-e01 (stA d0 x1.1.2.1).2.1-eu d0 (List.take j (stA d0 x1.1.2.1).1)/\iw d0 (stA d0 x1.1.2.1).1 (x1.1.2.2.1-e01 (stA d0 x1.1.2.1).2.1)=iw d0 (List.drop j (stA d0 x1.1.2.1).1) (x1.1.2.2.1-e01 (stA d0 x1.1.2.1).2.1-eu d0 (List.take j (stA d0 x1.1.2.1).1)) },((x3.1:Int)<(↑(List.length (stA d0 x1.1.2.1).1):Int)->(0<=(x3.1:Int)/\(x3.1:Int)<(↑(List.length (stA d0 x1.1.2.1).1):Int))/\(0<=(List.getD (stA d0 x1.1.2.1).1 x3.1 (0,0)).2/\(List.getD (stA d0 x1.1.2.1).1 x3.1 (0,0)).2<(d0.length:Int))/\(x1.1.2.2.1-e01 (stA d0 x1.1.2.1).2.1-eu d0 (List.take x3.1 (stA d0 x1.1.2.1).1)<(d0.getD (Int.toNat (List.getD (stA d0 x1.1.2.1).1 x3.1 (0,0)).2) ([],false,0)).2.2->Utf8.valid (List.getD (stA d0 x1.1.2.1).1 x3.1 (0,0)).1=true/\x1.1.1.length<=70368744177664/\(∀x4:(Unit),∃x5:{ x:List Int×Nat×Int×Nat // WrI d0 i x },x5.1.2.2.2<x1.1.2.2.2/\(d0,d1,d2)=(d0,d1,d2)/\i=i/\d0.getD (Int.toNat (List.getD (stA d0 x1.1.2.1).1 x3.1 (0,0)).2) ([],false,0)=stA d0 x5.1.2.1/\x1.1.2.2.1-e01 (stA d0 x1.1.2.1).2.1-eu d0 (List.take x3.1 (stA d0 x1.1.2.1).1)=x5.1.2.2.1/\([]:List UInt8)=[]/\(0:Int)=(0:Int)/\x1.1.1++encI (List.getD (stA d0 x1.1.2.1).1 x3.1 (0,0)).1=x5.1.1))/\(¬x1.1.2.2.1-e01 (stA d0 x1.1.2.1).2.1-eu d0 (List.take x3.1 (stA d0 x1.1.2.1).1)<(d0.getD (Int.toNat (List.getD (stA d0 x1.1.2.1).1 x3.1 (0,0)).2) ([],false,0)).2.2->aC (x1.1.2.2.1-e01 (stA d0 x1.1.2.1).2.1-eu d0 (List.take x3.1 (stA d0 x1.1.2.1).1)-(d0.getD (Int.toNat (List.getD (stA d0 x1.1.2.1).1 x3.1 (0,0)).2) ([],false,0)).2.2)/\aC ((x3.1:Int)+1)/\(∃x4:{ j:Nat // j<=List.length (stA d0 x1.1.2.1).1/\0<=x1.1.2.2.1-e01 (stA d0 x1.1.2.1).2.1-eu d0 (List.take j (stA d0 x1.1.2.1).1)/\iw d0 (stA d0 x1.1.2.1).1 (x1.1.2.2.1-e01 (stA d0 x1.1.2.1).2.1)=iw d0 (List.drop j (stA d0 x1.1.2.1).1) (x1.1.2.2.1-e01 (stA d0 x1.1.2.1).2.1-eu d0 (List.take j (stA d0 x1.1.2.1).1)) },List.length (stA d0 x1.1.2.1).1-x4.1<List.length (stA d0 x1.1.2.1).1-x3.1/\(d0,d1,d2)=(d0,d1,d2)/\i=i/\x1.1.2.2.1-e01 (stA d0 x1.1.2.1).2.1-eu d0 (List.take x3.1 (stA d0 x1.1.2.1).1)-(d0.getD (Int.toNat (List.getD (stA d0 x1.1.2.1).1 x3.1 (0,0)).2) ([],false,0)).2.2=x1.1.2.2.1-e01 (stA d0 x1.1.2.1).2.1-eu d0 (List.take x4.1 (stA d0 x1.1.2.1).1)/\(stA d0 x1.1.2.1).1=(stA d0 x1.1.2.1).1/\(↑(List.length (stA d0 x1.1.2.1).1):Int)=(↑(List.length (stA d0 x1.1.2.1).1):Int)/\(x3.1:Int)+1=(x4.1:Int)/\([]:List UInt8)=[]/\(0:Int)=(0:Int)/\x1.1.1=x1.1.1)))/\(¬(x3.1:Int)<(↑(List.length (stA d0 x1.1.2.1).1):Int)->(0<=i/\i<(↑(List.length (d1,d2).2):Int))/\(List.map (fun z=>UInt8.ofNat (Int.toNat z)) x1.1.1=if 0<=i/\i<(d2.length:Int) then vk d0 i else [])/\(List.getD (d1,d2).2 i.toNat 0=if 0<=i/\i<(d2.length:Int) then d2.getD i.toNat 0 else 0)/\(0=if 0<=i/\i<(d2.length:Int) then (0:Int) else (2:Int))))))))) (by kernel_rfl) ?_;obtain⟨W0,all0,hS0,hT0,hd0⟩:=hc1;have hok:lK d0:=hd0 ▸ hS0.ok hT0;have hp0:=hok.pos;have hw0:(d2.length:Int)=(W0.length:Int):=by
  rw[hc2,hd0,dD hS0.pos];show ((rAt all0 0).1.length:Int)=_;rw[hS0.root]
 have hdl:(List.length (d1,d2).2)=d2.length:=rfl;rw[hdl];refine⟨fun h=>⟨by rw[if_neg (by omega)],by rw[if_neg (by omega)],by rw[if_neg (by omega)]⟩,fun h=>⟨fun h2=>⟨by rw[if_neg (by omega)],by rw[if_neg (by omega)],by rw[if_neg (by omega)]⟩,fun h2=>?_⟩⟩;have hi:0<=i/\i<(d2.length:Int):=⟨by omega,by omega⟩;refine⟨⟨by omega,by omega⟩,⟨⟨([],0,i,tot W0),W0,all0,[],4194306,hS0,hT0,hd0,hS0.pos,hi.1,?_,?_,rfl,?_,rfl,Nat.zero_le _,?_⟩,rfl,rfl,rfl,rfl,rfl,rfl,rfl,rfl⟩,?_⟩
 .dsimp only;rw[hS0.root];omega
 .dsimp only;rw[hS0.root]
 .dsimp only;rw[hS0.root];omega
 .dsimp only;rw[hS0.root];simp;omega
 rintro⟨⟨o,st,a,t⟩,W,all,pre,k,hS,hT,hd,hst,ha0,ha1,ht,hw,hk,ho,hol,hpl⟩;dsimp only at hst ha0 ha1 ht hw hk ho hol hpl ⊢;have hstl:st<d0.length:=by rw[hd,zR];exact hst
 have hsA:stA d0 st=stD (rAt all st):=by rw[hd];exact dD hst
 have g:=hS.g _ (hS.mem hst);have hcc:(stA d0 st).2.2=((rAt all st).1.length:Int):=by rw[hsA];rfl
 have hcnt:=hok.cnt st hstl;have hcl:=hok.le st hstl;have e0:=YF (stA d0 st).2.1;refine⟨⟨fun he=>⟨fun hz=>⟨hi,?_,by rw[if_pos hi],by rw[if_pos hi]⟩,fun hz=>⟨by unfold aC;omega,⟨(),fun _=>hz⟩,rfl,rfl,rfl,by rw[he];rfl,rfl,rfl,rfl⟩⟩,fun he=>⟨⟨(),fun h'=>absurd h' he⟩,rfl,rfl,rfl,by rw[show (stA d0 st).2.1=false by simpa using he];unfold e01;simp,rfl,rfl,rfl⟩⟩,?_⟩
 .rw[if_pos hi];unfold vk;cases k with
  |zero=>omega
  | succ k=>
    have:oL d0 (k+1) st a=[]:=by unfold oL;rw[he,hz];rfl
    rw[hw,this,List.append_nil,ho]
 rintro⟨_,hends⟩;have hb0:0<=a-e01 (stA d0 st).2.1:=by
  cases hb:(stA d0 st).2.1 with
  |false=>show 0<=a-0;omega
  |true=>have:=hends hb;show 0<=a-1;omega
 refine⟨⟨⟨0,Nat.zero_le _,by simp[eu];omega,by simp[eu]⟩,rfl,rfl,by simp[eu],rfl,rfl,rfl,rfl,rfl,rfl⟩,?_⟩;rintro⟨j,hj,hj0,hpk⟩;dsimp only;refine⟨fun h3=>?_,fun h3=>?_⟩
 .have hjl:j<(stA d0 st).1.length:=by omega
  obtain⟨p1,p2,p3⟩:=hok.part hstl hjl;have hto:=hok.to st hstl _ (lX hjl);have hmem:(stA d0 st).1.getD j (0,0)∈(rAt all st).2.2:=by
   have:=lX hjl;rw[hsA] at this ⊢;exact this
  have hdr:(stA d0 st).1.drop j=(stA d0 st).1.getD j (0,0)::(stA d0 st).1.drop (j+1):=by
   rw[List.drop_eq_getElem_cons hjl,zA,zB hjl];rfl
  have hce:(d0.getD (Int.toNat ((stA d0 st).1.getD j (0,0)).2) ([],false,0)).2.2=(stA d0 ((stA d0 st).1.getD j (0,0)).2.toNat).2.2:=rfl;rw[hce];have hnn:=hok.nn _ p3;rw[hdr] at hpk;refine⟨⟨by omega,h3⟩,hto,fun h4=>?_,fun h4=>⟨by unfold aC;omega,by have:=(hok.eds.at st).2.2;have e2:(d0.getD st ([],false,0)).1=(stA d0 st).1:=rfl;rw[e2] at this;unfold aC;omega,⟨j+1,hjl,?_,?_⟩,by dsimp only;omega,rfl,rfl,?_,rfl,rfl,by push_cast;rfl,rfl,rfl,rfl⟩⟩
  .obtain⟨n,q1,q2,q3⟩:=g.to _ hmem;have hh:((stA d0 st).1.getD j (0,0)).1∈ak (rAt all st).1:=by rw[<- g.hd];exact List.mem_map_of_mem hmem
   have hlt:=fF hh;have hval:Utf8.valid ((stA d0 st).1.getD j (0,0)).1=true:=by
    obtain⟨x,m1,m2⟩:=iF hh;cases x with
    |nil=>simp[dh] at m2
    | cons b z=>
      simp only[dh,decide_eq_true_eq] at m2;exact g.val _ m1 _ (m2 ▸ List.mem_cons_self ..)
   have hel:=Hw hval;cases k with
   |zero=>omega
   | succ k=>
     have hstep:oL d0 (k+1) st a=((stA d0 st).1.getD j (0,0)).1::oL d0 k ((stA d0 st).1.getD j (0,0)).2.toNat (a-e01 (stA d0 st).2.1-eu d0 ((stA d0 st).1.take j)):=by
      rw[oL,if_neg (by
       intro hb;simp only[zH,decide_eq_true_eq] at hb;exact hends hb.1 hb.2),hpk]
      simp only[iw];rw[if_pos h4]
     have hn:((stA d0 st).1.getD j (0,0)).2.toNat=n:=by omega
     refine⟨hval,by omega,fun _=>⟨⟨(o++encI ((stA d0 st).1.getD j (0,0)).1,((stA d0 st).1.getD j (0,0)).2.toNat,a-e01 (stA d0 st).2.1-eu d0 ((stA d0 st).1.take j),tot (aO (rAt all st).1 ((stA d0 st).1.getD j (0,0)).1)),W,all,pre++[((stA d0 st).1.getD j (0,0)).1],k,hS,hT,hd,?_,hj0,?_,?_,?_,?_,?_,?_,?_⟩,?_,rfl,rfl,rfl,rfl,rfl,rfl,rfl⟩⟩
     .dsimp only;rw[hn];exact q2
     .dsimp only;rw[hn,q3];have:(stA d0 n).2.2=((rAt all n).1.length:Int):=by rw[hd,dD q2];rfl
      rw[hn,this,q3] at h4;exact h4
     .dsimp only;rw[hn,q3]
     .dsimp only;rw[hw,hstep];simp
     .dsimp only;rw[hn,q3];omega
     .dsimp only;rw[ho];unfold fD;simp
     .dsimp only;rw[zL,zL,zN];omega
     .dsimp only;rw[hn,q3,zL,zN];omega
     .dsimp only;rw[ht];exact hlt
  .rw[mJ d0 hjl];omega
  .rw[hpk];simp only[iw];rw[if_neg h4,mJ d0 hjl]
   congr 1;omega
  .dsimp only;rw[mJ d0 hjl];omega
 .exfalso;rw[List.take_of_length_le (by omega)] at hj0;omega
end Go.EA
end
section
namespace Go.EA
def frq (l:List Wd) (f:Int) (i:Nat):List Wd:=(l.take i).map (fun w=>(w.1,f+1))++l.drop i
theorem Jg (l:List Int):(fD l).map (fun z=>UInt8.ofNat (Int.toNat z))=iR l:=by
 unfold fD iR;rw[List.map_flatten,List.map_map]
 congr 1
 exact List.map_congr_left fun r _=>unB r
theorem iY {s:List UInt8}(h:bI s=0):iR (aF s)=s:=by
 have h1:dO s=true:=(Cv s).symm.trans (decide_eq_true h);unfold aF;rw[if_pos h1];exact(qE _ s (zJ _) h1).1
theorem SI {l:List Wd}(h:isE l=0) {i:Nat}(hi:i<l.length):vk (List.map stD (bg l)) (i:Int)=(l.getD i ([],0)).1:=by
 have hS:=sts h;have hT:=(nml h).tot;have hm:l.getD i ([],0)∈l:=by rw[zA,zB hi];exact List.getElem_mem _
 unfold vk;rw[OD hS 4194306 0 i hS.pos (by rw[hS.root];omega) (by omega) (by rw[hS.root,sD];omega),hS.root,Int.toNat_natCast,Jg];have:(wdR l).getD i []=aF (l.getD i ([],0)).1:=by
  unfold wdR;rw[zA,List.getElem?_map,zB hi,zA,zB hi];rfl
 rw[this];exact iY ((nml h).dec _ hm)
end Go.EA
end
section
namespace Go.EA
def wlk (S:List StD):List Int->Int->Int×Bool
 |[],i=>(i,true)
 |r::rs,i=>if bQ (stA S i.toNat).1 r=true then wlk S rs (dW (stA S i.toNat).1 r) else (0,false)
theorem mem_nil_iff {α:Type}{l:List α}:l≠[]↔∃x,x∈l:=by
 cases l with
 |nil=>exact⟨fun h=>absurd rfl h,fun⟨x,h⟩=>by cases h⟩
 |cons a l=>exact⟨fun _=>⟨a,by simp⟩,fun _=>by simp⟩
theorem Gs.nxt {all:List RSt}{s:RSt}(g:Gs all s) {r:Int}:bQ s.2.2 r=true↔aO s.1 r≠[]:=by
 rw[CB,g.hd];constructor
 .exact OW
 .intro h;obtain⟨z,hz⟩:=mem_nil_iff.1 h;exact fT (dP.1 hz)
theorem MQ {all:List RSt}{i:Nat}(hi:i<all.length) (r:Int) (rs:List Int):wlk (all.map stD) (r::rs) i=if bQ (rAt all i).2.2 r=true then wlk (all.map stD) rs (dW (rAt all i).2.2 r) else (0,false):=by
 have e:wlk (all.map stD) (r::rs) i=if bQ (stA (all.map stD) (i:Int).toNat).1 r=true then wlk (all.map stD) rs (dW (stA (all.map stD) (i:Int).toNat).1 r) else (0,false):=rfl
 rw[e,Int.toNat_natCast,dD hi];rfl
theorem qZ (a b:List Int):iR (a++b)=iR a++iR b:=by unfold iR;simp
theorem rT {w s:List UInt8}(hw:bI w=0) (hs:bI s=0):preB w s=true↔∃z,aF w=aF s++z:=by
 constructor
 .intro h;have h:=of_decide_eq_true h;have e:w=s++w.drop s.length:=by conv=>lhs;rw[<- List.take_append_drop s.length w,h.2]
  have h2:bI (s++w.drop s.length)=0:=e ▸ hw;have h3:=(Ii _ _ h2).1 hs;exact⟨aF (w.drop s.length),by rw[<- (Lm _ _ hs h3).2,<- e]⟩
 .rintro⟨z,hz⟩;have e:w=s++iR z:=by rw[<- iY hw,hz,qZ,iY hs]
  refine decide_eq_true ?_;rw[e];simp
end Go.EA
end
