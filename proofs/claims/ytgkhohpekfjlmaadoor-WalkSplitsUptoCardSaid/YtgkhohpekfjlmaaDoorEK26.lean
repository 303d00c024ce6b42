/- Texts. Conditions: none. -/
import Derived.Test.YtgkhohpekfjlmaaDoorEK22
import Derived.Test.YtgkhohpekfjlmaaDoorEDb
import Derived.KernelRfl
import Derived.Test.YtgkhohpekfjlmaaDoorELx1
import Derived.Test.YtgkhohpekfjlmaaDoorEK21
set_option linter.unusedVariables false
set_option linter.unusedSimpArgs false
section
set_option maxRecDepth 100000
set_option maxHeartbeats 0
namespace Go.EA
open F
def Nz (k:Nat):mg:=⟨(List StD)×Int×(List StD)×Mp×Int×Ki,5,fun(S,e,F,M,i,K) b=>[.one (.ptr (b 0) 0 0),.one (.ptr (b 2) 0 0),.one (.int .i64 i),.one (.mp (b 4))],fun(S,e,F,M,i,K) b=>[.cell [.osl (b 1),.int .i64 e,.nils],.nest (.pair (.int .i32) (.int .i64)) (.pair .bool (.int .i64)) S none,.cell [.row (.pair (.row (.pair (.int .i32) (.int .i64))) (.pair .bool (.int .i64))) F,.mp (b 3)],.mapo .str (.int .i64) M,.mapo (.int .i64) (.int .i64) K],fun(S,e,F,M,i,K)=>[IQ (S,e,F,M,i,K) k/\0<k],fun _=>(List StD)×Int×Ki×Int,fun(S,e,F,M,i,K) x=>[iW (S,e,F,M,i,K) x],fun _ x _=>.one (.int .i64 x.2.2.2),fun(S,e,F,M,i,K) x b=>[.cell [.osl (b 1),.int .i64 x.2.1,.nils],.nest (.pair (.int .i32) (.int .i64)) (.pair .bool (.int .i64)) x.1 none,.cell [.row (.pair (.row (.pair (.int .i32) (.int .i64))) (.pair .bool (.int .i64))) F,.mp (b 3)],.mapo .str (.int .i64) M,.mapo (.int .i64) (.int .i64) x.2.2.1],[1,3]⟩
def Ja (d s f m k:Nat) (j:Nat):Nat:=match j with | 0=>d | 1=>s | 2=>f | 3=>m | _=>k
def Ob (k:Nat):iP:=⟨fun xs L=>match xs.map qc with | [.one (.ptr d 0 0),.one (.ptr f 0 0),.one (.int .i64 i),.one (.mp n)]=>(match ae L d,ae L f with | .cell [.osl s,.int .i64 e,.nils],.cell [.row (.pair (.row (.pair (.int .i32) (.int .i64))) (.pair .bool (.int .i64))) F,.mp m]=>(match ae L s,ae L m,ae L n with | .nest (.pair (.int .i32) (.int .i64)) (.pair .bool (.int .i64)) S none,.mapo .str (.int .i64) M,.mapo (.int .i64) (.int .i64) K=>(match Nat.beq d f||Nat.beq m n with | false=>some ((Nz k).res (S,e,F,M,i,K) (Ja d s f m n) L) | true=>none) | _,_,_=>none) | _,_=>none) | _=>none⟩
theorem iE {P:Nat->Prop}(h0:P 0) (h1:P 1) (h2:P 2) (h3:P 3) (h4:P 4):∀j,j<5->P j
 |0,_=>h0
 |1,_=>h1
 |2,_=>h2
 |3,_=>h3
 |4,_=>h4
 |_+5,h=>absurd h (by omega)
theorem wZ (k:Nat):(Nz k).Fits (Ob k):=by
 intro xs L r h;simp only[Ob] at h;split at h
 .rename_i d f i n he;split at h
  .rename_i s e F m hd hf;split at h
   .rename_i S M K hs hm hn;split at h
    .rename_i hb;cases h;simp only[Bool.or_eq_false_iff] at hb;have n2:d≠f:=fun e=>by rw[e,Nat.beq_refl] at hb;cases hb.1
     have n8:m≠n:=fun e=>by rw[e,Nat.beq_refl] at hb;cases hb.2
     have n1:d≠s:=fun e=>by rw[e,hs] at hd;cases hd
     have n3:d≠m:=fun e=>by rw[e,hm] at hd;cases hd
     have n4:d≠n:=fun e=>by rw[e,hn] at hd;cases hd
     have n5:s≠f:=fun e=>by rw[e,hf] at hs;cases hs
     have n6:s≠m:=fun e=>by rw[e,hm] at hs;cases hs
     have n7:s≠n:=fun e=>by rw[e,hn] at hs;cases hs
     have n9:f≠m:=fun e=>by rw[e,hm] at hf;cases hf
     have n0:f≠n:=fun e=>by rw[e,hn] at hf;cases hf
     refine⟨(S,e,F,M,i,K),Ja d s f m n,he,iE hd hs hf hm hn,fun i j hi hj=>?_,rfl⟩;have g:∀i,i<5->∀j,j<5->Ja d s f m n i=Ja d s f m n j->i=j:=
      iE (iE (fun _=>rfl) (fun e=>absurd e n1) (fun e=>absurd e n2) (fun e=>absurd e n3) (fun e=>absurd e n4))
       (iE (fun e=>absurd e.symm n1) (fun _=>rfl) (fun e=>absurd e n5) (fun e=>absurd e n6) (fun e=>absurd e n7))
       (iE (fun e=>absurd e.symm n2) (fun e=>absurd e.symm n5) (fun _=>rfl) (fun e=>absurd e n9) (fun e=>absurd e n0))
       (iE (fun e=>absurd e.symm n3) (fun e=>absurd e.symm n6) (fun e=>absurd e.symm n9) (fun _=>rfl) (fun e=>absurd e n8))
       (iE (fun e=>absurd e.symm n4) (fun e=>absurd e.symm n7) (fun e=>absurd e.symm n0) (fun e=>absurd e.symm n8) (fun _=>rfl))
     exact g i hi j hj
    .cases h
   .cases h
  .cases h
 .cases h
theorem TM (k:Nat):(Nz k).Ok f312.np:=⟨fun(S,e,F,M,i,K) b=>ah.cons (.inl ⟨_,_,rfl,rfl,.inr (.inr (.inl ⟨0,0,0,show 0<5 by decide,rfl,rfl⟩))⟩) (ah.cons (.inl ⟨_,_,rfl,rfl,.inr (.inr (.inl ⟨2,0,0,show 2<5 by decide,rfl,rfl⟩))⟩) (ah.cons (.inr (.inl ⟨rfl,rfl⟩)) (ah.cons (.inl ⟨_,_,rfl,rfl,.inr (.inr (.inr ⟨4,show 4<5 by decide,rfl,rfl⟩))⟩) ah.nil))),
 fun(S,e,F,M,i,K) b=>⟨rfl,iE (jK (ah.cons (.inr (.inl ⟨1,show 1<5 by decide,rfl,rfl⟩)) (ah.cons (.inl ⟨rfl,rfl⟩) (ah.cons (.inl ⟨rfl,rfl⟩) ah.nil)))) (.inl ⟨rfl,rfl⟩) (jK (ah.cons (.inl ⟨rfl,rfl⟩) (ah.cons (.inr (.inr (.inr ⟨3,show 3<5 by decide,rfl,rfl⟩))) ah.nil))) (.inl ⟨rfl,rfl⟩) (.inl ⟨rfl,rfl⟩)⟩,
 fun(S,e,F,M,i,K) x b=>⟨rfl,iE (jK (ah.cons (.inr (.inl ⟨1,show 1<5 by decide,rfl,rfl⟩)) (ah.cons (.inl ⟨rfl,rfl⟩) (ah.cons (.inl ⟨rfl,rfl⟩) ah.nil)))) (.inl ⟨rfl,rfl⟩) (jK (ah.cons (.inl ⟨rfl,rfl⟩) (ah.cons (.inr (.inr (.inr ⟨3,show 3<5 by decide,rfl,rfl⟩))) ah.nil))) (.inl ⟨rfl,rfl⟩) (.inl ⟨rfl,rfl⟩)⟩,
 fun(S,e,F,M,i,K) x=>iE (fun _=>⟨rfl,rfl⟩) (fun h=>absurd (show 1∈[1,3] by decide) h) (fun _=>⟨rfl,rfl⟩) (fun h=>absurd (show 3∈[1,3] by decide) h) (fun _=>⟨rfl,rfl⟩),
 fun(S,e,F,M,i,K)=>iE (fun _=>⟨0,.inl rfl⟩) (fun h=>absurd (show 1∈[1,3] by decide) h) (fun _=>⟨1,.inl rfl⟩) (fun h=>absurd (show 3∈[1,3] by decide) h) (fun _=>⟨3,.inr rfl⟩),
 fun(S,e,F,M,i,K)=>rfl,
 fun(S,e,F,M,i,K) x b=>.inr (.inl ⟨rfl,rfl⟩)⟩
theorem MH {S:SC}(hB:SB S)   (h312:S.has 312 f312):∀k,fC S 312 (Ob k)
 | 0=>fun c L H xs ys r hr hp=>by
   obtain⟨_,_,_,_,_,rfl⟩:=wZ 0 xs L r hr;exact absurd hp.1.2 (zS _)
 | k+1=>by
   have OE:=MH hB h312 k;refine muG hB [] [] [(312,Ob k)] trivial trivial ⟨OE,trivial⟩ h312 (wZ (k+1)) (TM (k+1)) (fun(S,e,F,M,i,K)=>fun f id T L=>match f,id with
    |312,4013=>some (.cut Unit fun _=>([(12,.one (.int .i64 (if (stA F i.toNat).2.1 then 1 else 0)))],[(5,.dead)]))
    |312,4096=>some (.cut { s:NS // NLp (S,e,F,M,i,K) s/\eT K i=none/\s.1=(stA F i.toNat).1.length } fun s=>([(12,.one (.int .i64 s.1.2.2.2.2.2)),(13,.one (.osl 6))],[(0,.cell [.osl 1,.int .i64 s.1.2.2.1,.nils]),(1,.nest (.pair (.int .i32) (.int .i64)) (.pair .bool (.int .i64)) s.1.2.1 none),(4,.mapo (.int .i64) (.int .i64) s.1.2.2.2.1),(5,.dead),(6,.row (.pair (.int .i32) (.int .i64)) s.1.2.2.2.2.1)]))
    |312,0=>some (.inv { s:NS // NLp (S,e,F,M,i,K) s/\eT K i=none } (fun s=>([(68,.one (.int .i64 s.1.1)),(12,.one (.int .i64 s.1.2.2.2.2.2)),(13,.one (.osl 6))],[(0,.cell [.osl 1,.int .i64 s.1.2.2.1,.nils]),(1,.nest (.pair (.int .i32) (.int .i64)) (.pair .bool (.int .i64)) s.1.2.1 none),(4,.mapo (.int .i64) (.int .i64) s.1.2.2.2.1),(5,.dead),(6,.row (.pair (.int .i32) (.int .i64)) s.1.2.2.2.2.1)])) (fun s=>(stA F i.toNat).1.length-s.1.1))
    |_,_=>none) 3000 ?_
   rintro⟨S,e,F,M,i,K⟩ hc;have hc0:IQ (S,e,F,M,i,K) (k+1)/\0<k+1:=hc.1;refine VC.use (p:=(((Ty.int IntKind.i64).mget K i).isSome=true->∃x1:(List StD)×Int×Ki×Int,iW (S,e,F,M,i,K) x1/\((Ty.int IntKind.i64).mget K i).getD 0=x1.2.2.2/\e=x1.2.1/\S=x1.1/\F=F/\M=M/\K=x1.2.2.1)/\(¬((Ty.int IntKind.i64).mget K i).isSome=true->(0<=i/\i<(F.length:Int))/\(S.length+([((F.getD i.toNat ([],false,0)).2.1,0)]:List (Bool×Int)).length)*40<=140737488355328/\([((F.getD i.toNat ([],false,0)).2.1,0)]:List (Bool×Int))≠[]/\((0<=i/\i<(F.length:Int))/\((F.getD i.toNat ([],false,0)).2.1=true->∃x1:Unit,i=i/\(S.length:Int)=(S.length:Int)/\(1=if (stA F i.toNat).2.1=true then (1:Int) else (0:Int))/\e=e/\S++List.map (fun x=>([],x)) ([((F.getD i.toNat ([],false,0)).2.1,0)]:List (Bool×Int))=S++List.map (fun x=>([],x)) ([((F.getD i.toNat ([],false,0)).2.1,0)]:List (Bool×Int))/\F=F/\M=M/\((Ty.int IntKind.i64).mput K i (S.length:Int))=(Ty.int IntKind.i64).mput K i (S.length:Int))/\(¬(F.getD i.toNat ([],false,0)).2.1=true->∃x1:Unit,i=i/\(S.length:Int)=(S.length:Int)/\(0=if (stA F i.toNat).2.1=true then (1:Int) else (0:Int))/\e=e/\S++List.map (fun x=>([],x)) ([((F.getD i.toNat ([],false,0)).2.1,0)]:List (Bool×Int))=S++List.map (fun x=>([],x)) ([((F.getD i.toNat ([],false,0)).2.1,0)]:List (Bool×Int))/\F=F/\M=M/\((Ty.int IntKind.i64).mput K i (S.length:Int))=(Ty.int IntKind.i64).mput K i (S.length:Int)))/\(∀x1:Unit,((0<=i/\i<(F.length:Int))/\(∃x2:{ s:NS // NLp (S,e,F,M,i,K) s/\eT K i=none },(S.length:Int)=(S.length:Int)/\(if (stA F i.toNat).2.1=true then (1:Int) else (0:Int))=x2.1.2.2.2.2.2/\x2.1.2.2.2.2.1=[]/\(F.getD i.toNat ([],false,0)).1=(F.getD i.toNat ([],false,0)).1/\(↑(List.length (F.getD i.toNat ([],false,0)).1):Int)=(↑(List.length (F.getD i.toNat ([],false,0)).1):Int)/\0=(x2.1.1:Int)/\e=x2.1.2.2.1/\S++List.map (fun x=>([],x)) ([((F.getD i.toNat ([],false,0)).2.1,0)]:List (Bool×Int))=x2.1.2.1/\F=F/\M=M/\((Ty.int IntKind.i64).mput K i (S.length:Int))=x2.1.2.2.2.1/\x2.1.2.2.2.2.1=[])/\(∀x2:{ s:NS // NLp (S,e,F,M,i,K) s/\eT K i=none },((x2.1.1:Int)<(↑(List.length (F.getD i.toNat ([],false,0)).1):Int)->(0<=(x2.1.1:Int)/\(x2.1.1:Int)<(↑(List.length (F.getD i.toNat ([],false,0)).1):Int))/\(IQ (x2.1.2.1,x2.1.2.2.1,F,M,(List.getD (F.getD i.toNat ([],false,0)).1 x2.1.1 (0,0)).2,x2.1.2.2.2.1) k/\0<k)/\(∀x3:((List StD)×Int×Ki×Int),iW (x2.1.2.1,x2.1.2.2.1,F,M,(List.getD (F.getD i.toNat ([],false,0)).1 x2.1.1 (0,0)).2,x2.1.2.2.2.1) x3->(x2.1.2.2.2.2.1.length+[((List.getD (F.getD i.toNat ([],false,0)).1 x2.1.1 (0,0)).1,x3.2.2.2)].length)*16<=140737488355328/\(0<=x3.2.2.2/\x3.2.2.2<(x3.1.length:Int))/\x3.2.2.2.toNat<x3.1.length/\aG (x2.1.2.2.2.2.2+(x3.1.getD x3.2.2.2.toNat ([],false,0)).2.2)/\aG ((x2.1.1:Int)+1)/\(∃x4:{ s:NS // NLp (S,e,F,M,i,K) s/\eT K i=none },(stA F i.toNat).1.length-x4.1.1<(stA F i.toNat).1.length-x2.1.1/\(S.length:Int)=(S.length:Int)/\x2.1.2.2.2.2.2+(x3.1.getD x3.2.2.2.toNat ([],false,0)).2.2=x4.1.2.2.2.2.2/\(F.getD i.toNat ([],false,0)).1=(F.getD i.toNat ([],false,0)).1/\(↑(List.length (F.getD i.toNat ([],false,0)).1):Int)=(↑(List.length (F.getD i.toNat ([],false,0)).1):Int)/\(x2.1.1:Int)+1=(x4.1.1:Int)/\x3.2.1=x4.1.2.2.1/\x3.1=x4.1.2.1/\F=F/\M=M/\x3.2.2.1=x4.1.2.2.2.1/\x2.1.2.2.2.2.1++[((List.getD (F.getD i.toNat ([],false,0)).1 x2.1.1 (0,0)).1,x3.2.2.2)]=x4.1.2.2.2.2.1)))/\(¬(x2.1.1:Int)<(↑(List.length (F.getD i.toNat ([],false,0)).1):Int)->∃x3:{ s:NS // NLp (S,e,F,M,i,K) s/\eT K i=none/\s.1=(stA F i.toNat).1.length },(S.length:Int)=(S.length:Int)/\x2.1.2.2.2.2.2=x3.1.2.2.2.2.2/\x2.1.2.2.1=x3.1.2.2.1/\x2.1.2.1=x3.1.2.1/\F=F/\M=M/\x2.1.2.2.2.1=x3.1.2.2.2.1/\x2.1.2.2.2.2.1=x3.1.2.2.2.2.1)))/\(∀x2:{ s:NS // NLp (S,e,F,M,i,K) s/\eT K i=none/\s.1=(stA F i.toNat).1.length },(0<=(S.length:Int)/\(S.length:Int)<(x2.1.2.1.length:Int))/\S.length<x2.1.2.1.length/\S.length=S.length/\(0<=(S.length:Int)/\(S.length:Int)<(↑(x2.1.2.1.set S.length (x2.1.2.2.2.2.1,(x2.1.2.1.getD S.length ([],false,0)).2)).length:Int))/\S.length<(x2.1.2.1.set S.length (x2.1.2.2.2.2.1,(x2.1.2.1.getD S.length ([],false,0)).2)).length/\S.length<((x2.1.2.1.set S.length (x2.1.2.2.2.2.1,(x2.1.2.1.getD S.length ([],false,0)).2)).set S.length (((x2.1.2.1.set S.length (x2.1.2.2.2.2.1,(x2.1.2.1.getD S.length ([],false,0)).2)).getD S.length ([],false,0)).1,((x2.1.2.1.set S.length (x2.1.2.2.2.2.1,(x2.1.2.1.getD S.length ([],false,0)).2)).getD S.length ([],false,0)).2.1,x2.1.2.2.2.2.2)).length/\aG (x2.1.2.2.1+(↑(((x2.1.2.1.set S.length (x2.1.2.2.2.2.1,(x2.1.2.1.getD S.length ([],false,0)).2)).set S.length (((x2.1.2.1.set S.length (x2.1.2.2.2.2.1,(x2.1.2.1.getD S.length ([],false,0)).2)).getD S.length ([],false,0)).1,((x2.1.2.1.set S.length (x2.1.2.2.2.2.1,(x2.1.2.1.getD S.length ([],false,0)).2)).getD S.length ([],false,0)).2.1,x2.1.2.2.2.2.2)).getD S.length ([],false,0)).1.length:Int))/\(∃x3:(List StD)×Int×Ki×Int,iW (S,e,F,M,i,K) x3/\(S.length:Int)=x3.2.2.2/\x2.1.2.2.1+(↑(((x2.1.2.1.set S.length (x2.1.2.2.2.2.1,(x2.1.2.1.getD S.length ([],false,0)).2)).set S.length (((x2.1.2.1.set S.length (x2.1.2.2.2.2.1,(x2.1.2.1.getD S.length ([],false,0)).2)).getD S.length ([],false,0)).1,((x2.1.2.1.set S.length (x2.1.2.2.2.2.1,(x2.1.2.1.getD S.length ([],false,0)).2)).getD S.length ([],false,0)).2.1,x2.1.2.2.2.2.2)).getD S.length ([],false,0)).1.length:Int)=x3.2.1/\(x2.1.2.1.set S.length (x2.1.2.2.2.2.1,(x2.1.2.1.getD S.length ([],false,0)).2)).set S.length (((x2.1.2.1.set S.length (x2.1.2.2.2.2.1,(x2.1.2.1.getD S.length ([],false,0)).2)).getD S.length ([],false,0)).1,((x2.1.2.1.set S.length (x2.1.2.2.2.2.1,(x2.1.2.1.getD S.length ([],false,0)).2)).getD S.length ([],false,0)).2.1,x2.1.2.2.2.2.2)=x3.1/\F=F/\M=M/\x2.1.2.2.2.1=x3.2.2.1))))) (by kernel_rfl) ?_;obtain⟨f,LV,all,hg,hk1,hk2,hk3,hk4⟩:=hc0.1;have hA:0<=i/\i<(F.length:Int):=hg.au.lv _ hg.li;have hln:S.length=all.length:=hg.nm.len;have hT:all.length+tot (f i)+1<=8388608:=hk2;have he0:0<=e:=hk3;have he1:e+4194305*((tot (f i):Int)+1)<=4611686018427387904:=hk4;have hkk:tot (f i)<k+1:=hk1;refine⟨fun hv=>?_,fun hv=>?_⟩
   .obtain⟨v,hv⟩:=Option.isSome_iff_exists.1 hv;refine⟨(S,e,K,v),iW.found (a:=(S,e,F,M,i,K)) hv,by rw[hv];rfl,rfl,rfl,rfl,rfl,rfl⟩
   have hv:eT K i=none:=Option.not_isSome_iff_eq_none.1 hv;refine⟨hA,by rw[zN];omega,by simp,⟨hA,fun hb=>⟨(),rfl,rfl,(if_pos (show (stA F i.toNat).2.1=true from hb)).symm,rfl,rfl,rfl,rfl,rfl⟩,fun hb=>⟨(),rfl,rfl,(if_neg (show ¬ (stA F i.toNat).2.1=true from hb)).symm,rfl,rfl,rfl,rfl,rfl⟩⟩,fun _=>⟨⟨hA,⟨⟨_,NLp.zero (a:=(S,e,F,M,i,K)) hv,hv⟩,rfl,rfl,rfl,rfl,rfl,rfl,rfl,rfl,rfl,rfl,rfl,rfl⟩,?_⟩,?_⟩⟩
   .rintro⟨⟨j,S1,e1,K1,o1,w1⟩,hl,_⟩;dsimp only at hl ⊢;obtain⟨b1,b2,b3,b4,b5,b6,b7,b8,b9,b10,b11⟩:=hl.bd hg hv;dsimp only at b1 b2 b3 b4 b5 b6 b7 b8 b9 b10 b11;refine⟨fun h=>?_,fun h=>?_⟩
    .have hj:j<(stA F i.toNat).1.length:=by
      have h':(j:Int)<((stA F i.toNat).1.length:Int):=h;omega
     have hch:=hl.child hg hv hj;have hed:tot (f ((stA F i.toNat).1.getD j (0,0)).2)<tot (f i):=(hg.edge hj).2.2.2;have b4:=b4 hj;refine⟨⟨by omega,h⟩,⟨⟨f,LV,_,hch,?_,?_,?_,?_⟩,by omega⟩,fun x hx=>?_⟩
     .show tot (f ((stA F i.toNat).1.getD j (0,0)).2)<k;omega
     .show (dh all (f i) j).1.length+tot (f ((stA F i.toNat).1.getD j (0,0)).2)+1<=8388608;omega
     .show 0<=e1;omega
     .show e1+4194305*((tot (f ((stA F i.toNat).1.getD j (0,0)).2):Int)+1)<=4611686018427387904;omega
     have hst:=hl.step hv hj hx;have hn:=iW.bd hx hch;obtain⟨_,_,_,_,_,_,_,_,d9,d10,_⟩:=hst.bd hg hv;dsimp only at d9 d10;have d9:0<=w1+(x.1.getD x.2.2.2.toNat ([],false,0)).2.2:=d9;have d10:w1+(x.1.getD x.2.2.2.toNat ([],false,0)).2.2<=4194305:=d10;refine⟨by rw[zN];omega,hn,by omega,by unfold aG;omega,by unfold aG;omega,⟨_,hst,hv⟩,by dsimp only;omega,rfl,rfl,rfl,rfl,by push_cast;rfl,rfl,rfl,rfl,rfl,rfl,rfl⟩
    .have hj:j=(stA F i.toNat).1.length:=by
      have h':¬ (j:Int)<((stA F i.toNat).1.length:Int):=h;have h0:=(hl f LV all hg).1;have h2:=hg.heads;dsimp only at h0 h2;omega
     exact⟨⟨(j,S1,e1,K1,o1,w1),hl,hv,hj⟩,rfl,rfl,rfl,rfl,rfl,rfl,rfl,rfl⟩
   rintro⟨⟨j,S1,e1,K1,o1,w1⟩,hl,_,hj⟩;dsimp only at hl hj ⊢;obtain⟨b1,b2,b3,b4,b5,b6,b7,b8,b9,b10,b11⟩:=hl.bd hg hv;dsimp only at b1 b2 b3 b4 b5 b6 b7 b8 b9 b10 b11;have hq:∀X:StD,(S1.set S.length X).getD S.length ([],false,0)=X:=fun X=>by
    show stA (S1.set S.length X) S.length=X;rw[rX _ _ _ _ (by omega),if_pos rfl]
   simp only[hq,List.set_set,List.length_set];exact⟨⟨by omega,by omega⟩,by omega,trivial,⟨by omega,by omega⟩,by omega,by omega,by unfold aG;omega,(S1.set S.length (o1,(stA S1 S.length).2.1,w1),e1+(o1.length:Int),K1,(S.length:Int)),hl.done hv hj,rfl,rfl,rfl,trivial,trivial,rfl⟩
end Go.EA
end
section
namespace Go.EA
open F
def qo (k v:Ty) (mc:iP):iP:=⟨fun xs L=>match xs with
 |[a,b,i,.one (.mp m)]=>match ae L m with
  |.map0=>mc.g xs (L.set m (.mapo k v []))
  |_=>mc.g xs L
 |xs=>mc.g xs L⟩
theorem Heap.set_o (H:Heap) (k:Nat):H.set k (H.o k)=H:=by
 cases H;unfold Heap.set
 congr 1
 funext j
 unfold put;dsimp only;split
 .rename_i h;rw[h]
 .rfl
theorem SX {S:SC}{i:Nat}{k v:Ty}{mc:iP}(hk:k.isOne=true) (hv:v.isOne=true) (h:fC S i mc):fC S i (qo k v mc):=by
 intro c L H xs ys r hr hp hH hxs;have key:mc.g xs L=some r->MF S i [] ys H fun v H'=>∃x,aS (r.post x)/\∃c',RVS c' (r.L x) (r.v x) v/\RH c' (r.L x) H'/\aI c L c' (r.L x) fun b=>b∈r.inv:=fun hr=>h c L H xs ys r hr hp hH hxs
 simp only[qo] at hr;split at hr
 .rename_i a b i m;split at hr
  .rename_i hm;obtain⟨y,hy,hr3⟩:∃y,ys[3]?=some y/\RVS c L (.one (.mp m)) y:=by
    obtain⟨h1,h2⟩:=hxs;have h3:ys.length=4:=by simpa using h1.symm
    exact⟨ys[3],zB (by omega),h2 3 _ _ rfl (zB (by omega))⟩
   obtain⟨z,hz,hml,hzz⟩:=hr3;have hob:=hH.ob m hml;rw[hm] at hob;have hob:H.o (c.π m)=.map []:=hob;have hR:RH c (L.set m (.mapo k v [])) (H.set (c.π m) (.map [])):=hH.set hml (by rw[hm];trivial) (fun t' l' hr=>by cases hr) (fun _=>⟨hk,hv,rfl⟩) (fun h=>absurd trivial h) (by rw[hm];rfl) rfl;rw[<- hob,Heap.set_o] at hR;have K:aI c L c (L.set m (.mapo k v [])) fun _=>False:=(aI.set (by rw[hm];rfl) fun t' l' hr=>by cases hr).any fun _ h=>h.elim
   refine(h c (L.set m (.mapo k v [])) H _ ys r hr hp hR ⟨hxs.1,fun i x y hx hy=>K.rv0 (hxs.2 i x y hx hy)⟩).mono ?_;rintro w H' ⟨x,h1,c',h2,h3,h4⟩;exact⟨x,h1,c',h2,h3,(K.any fun _ h=>h.elim).trans h4 (by simp)⟩
  .exact key hr
 .exact key hr
def YC:mg:={ Nz 0 with pre:=fun a=>[∃k,IQ a k/\0<k] }
def wU:iP:=⟨fun xs L=>match xs.map qc with | [.one (.ptr d 0 0),.one (.ptr f 0 0),.one (.int .i64 i),.one (.mp n)]=>(match ae L d,ae L f with | .cell [.osl s,.int .i64 e,.nils],.cell [.row (.pair (.row (.pair (.int .i32) (.int .i64))) (.pair .bool (.int .i64))) F,.mp m]=>(match ae L s,ae L m,ae L n with | .nest (.pair (.int .i32) (.int .i64)) (.pair .bool (.int .i64)) S none,.mapo .str (.int .i64) M,.mapo (.int .i64) (.int .i64) K=>(match Nat.beq d f||Nat.beq m n with | false=>some (YC.res (S,e,F,M,i,K) (Ja d s f m n) L) | true=>none) | _,_,_=>none) | _,_=>none) | _=>none⟩
theorem VX {S:SC}(hB:SB S) (h312:S.has 312 f312):fC S 312 wU:=by
 intro c L H xs ys r hr hp hH hxs;simp only[wU] at hr;split at hr
 .rename_i d f i n he;split at hr
  .rename_i s e F m hd hf;split at hr
   .rename_i S1 M K hs hm hn;split at hr
    .rename_i hb;cases hr;obtain⟨k,hk⟩:=hp.1;exact MH hB h312 k c L H xs ys ((Nz k).res (S1,e,F,M,i,K) (Ja d s f m n) L) (by simp only[Ob,he,hd,hf,hs,hm,hn,hb]) ⟨hk,trivial⟩ hH hxs
    .cases hr
   .cases hr
  .cases hr
 .cases hr
theorem Zc {S:SC}(hB:SB S) (h312:S.has 312 f312):fC S 312 (qo (.int .i64) (.int .i64) wU):=SX rfl rfl (VX hB h312)
end Go.EA
end
section
set_option maxRecDepth 100000
set_option maxHeartbeats 0
namespace Go.EA
open F
abbrev DwT:Ty:=(.pair (.row (.pair (.row (.pair (.int .i32) (.int .i64))) (.pair .bool (.int .i64)))) (.pair (.int .i64) (.row (.int .i64))))
def Sn:(List (List UInt8×Int))->List SV:=fun l=>[.one (.row (.pair .str (.int .i64)) l)]
def Zn:(List (List UInt8×Int))->SV×List Prop:=fun l=>(.ite (isE l=0) inferInstance (.tup [.o (.vptr (.pair (.row (.pair (.row (.pair (.int .i32) (.int .i64))) (.pair .bool (.int .i64)))) (.pair (.int .i64) (.row (.int .i64)))) (iG l) 0),.o (.int .i64 0)]) (.tup [.o .nilp,.o (.int .i64 (isE l))]),[l.length<=1099511627776,SmW l])
def SQ:Con:=⟨false,[some (.pair .str (.int .i64))],fun xs=>match xs with | [.one (.row (.pair .str (.int .i64)) l)]=>some (Zn l) | _=>none⟩
noncomputable def EG:GP:=dx Sn Zn
theorem MK:∀a b,(Sn a).map aB=(Sn b).map aB->a=b:=by
 rintro a0 b0 h;simp only[Sn,zK,List.map_nil,aB,aX,zG,AV.one.injEq,AV.agg.injEq,Lf.int.injEq,Lf.str.injEq,Lf.bool.injEq,Lf.vrow.injEq,and_true,true_and] at h;exact cZ h
theorem FI:dG EG SQ:=aY MK (fun _ _=>rfl) (fun _=>rfl) fun xs r h=>by
 simp only[SQ] at h;split at h
 .cases h;rename_i l;exact⟨l,rfl,rfl⟩
 .cases h
theorem YA {S:SC}(hB:SB S) (WA:fC S 311 Jb) (OE:fC S 312 (qo (.int .i64) (.int .i64) wU)) (IP:aN S 296 (az DW)) (h278:S.has 278 f278):aN S 278 (az EG):=by
 refine prI hB [] [⟨296,DW,QH⟩] [(311,Jb),(312,(qo (.int .i64) (.int .i64) wU))] trivial ⟨⟨IP,Gy⟩,trivial⟩ ⟨WA,OE,trivial⟩ h278 (fun _=>⟨rfl,rfl,rfl⟩) (fun l=>fun f id T L=>match f,id with
  |278,4019=>some (.cut Unit fun _=>([(5,.one (.ptr 2 0 0))],[(0,.nest (.pair (.int .i32) (.int .i64)) (.pair .bool (.int .i64)) [([],false,0)] none),(1,.map0),(2,.cell [.osl 0,.mp 1])]))
  |278,4024=>some (.cut Unit fun _=>([(6,.one (.ptr 3 0 0))],[(3,.cell [.osl 4,.int .i64 0,.nils]),(4,.nest (.pair (.int .i32) (.int .i64)) (.pair .bool (.int .i64)) [] none)]))
  |278,6025=>some (.rnd 0)
  |278,6046=>some (.rnd 4)
  |278,0=>match ae L 3 with | .cell [_,.int _ e,_]=>some (.inv { i:Nat // i<=l.length } (fun x=>([(30,.one (.int .i64 x.1))],[(3,.cell [.osl 4,.int .i64 e,.osl 6]),(6,.row (.int .i64) ((l.take x.1).map (·.2)))])) (fun x=>l.length-x.1)) | _=>none
  |_,_=>none) 4000 ?_
 rintro l hc;have hc1:l.length<=1099511627776:=hc.1;have hc2:SmW l:=hc.2.1;refine VC.use (p:=l.length<=1099511627776/\SmW l/\(isE l=0->(∃x1:Unit,l=l/\List.map (fun x=>(([]:List Ed),x)) [(false,(0:Int))]=[([],false,(0:(Ty.int IntKind.i64).den))])/\(∀x1:Unit,isE l=0/\SmW l/\(∀x2:(KP.res l (Li 2 0 1) [SO.nest ((Ty.int IntKind.i32).pair (Ty.int IntKind.i64)) (Ty.bool.pair (Ty.int IntKind.i64)) [([],false,0)] none,SO.map0,SO.cell [SL.osl 0,SL.mp 1]]).β,IL l x2.1->(∃x3:Unit,l=l/\x2.1=x2.1/\x2.2=x2.2/\([]:List StD)=[]/\(0:Int)=(0:Int)/\([]:List StD)=[])/\(∀x3:Unit,(∃k,IQ ([],0,x2.1,x2.2,0,[]) k/\0<k)/\(∀x4:((List StD)×Int×Ki×Int),iW ([],0,x2.1,x2.2,0,[]) x4->(∃x5:{ i:Nat // i<=l.length },l=l/\(l.length:Int)=(l.length:Int)/\0=(x5.1:Int)/\x2.2=x2.2/\x2.1=x2.1/\x4.2.1=x4.2.1/\List.map (fun x=>x.2) (List.take x5.1 l)=[]/\x4.1=x4.1/\x4.2.2.1=x4.2.2.1/\List.map (fun x=>x.2) (List.take x5.1 l)=[])/\(∀x5:{ i:Nat // i<=l.length },((x5.1:Int)<(l.length:Int)->(0<=(x5.1:Int)/\(x5.1:Int)<(l.length:Int))/\((List.map (fun x=>x.2) (List.take x5.1 l)).length+[(l.getD x5.1 ([],0)).2].length)*8<=140737488355328/\aG ((x5.1:Int)+1)/\(∃x6:{ i:Nat // i<=l.length },l.length-x6.1<l.length-x5.1/\l=l/\(l.length:Int)=(l.length:Int)/\(x5.1:Int)+1=(x6.1:Int)/\x2.2=x2.2/\x2.1=x2.1/\x4.2.1=x4.2.1/\x4.1=x4.1/\x4.2.2.1=x4.2.2.1/\List.map (fun x=>x.2) (List.take x5.1 l)++[(l.getD x5.1 ([],0)).2]=List.map (fun x=>x.2) (List.take x6.1 l)))/\(¬(x5.1:Int)<(l.length:Int)->(isE l=0->(x4.1,x4.2.1,List.map (fun x=>x.2) (List.take x5.1 l))=iG l/\(0:Int)=(0:Int))/\(¬isE l=0->False))))))))/\(¬isE l=0->(isE l=0->False)/\(¬isE l=0->isE l=isE l))) (by kernel_rfl) ?_;refine⟨hc1,hc2,fun h=>⟨⟨(),rfl,rfl⟩,fun _=>⟨h,hc2,fun(x2:List StD×Mp) hm=>⟨⟨(),rfl,rfl,rfl,rfl,rfl,rfl⟩,fun _=>?_⟩⟩⟩,fun h=>⟨fun h'=>absurd h' h,fun _=>rfl⟩⟩;obtain⟨hp,hq⟩:=WW (M:=x2.2) h hm;refine⟨hp,fun(x4:(List StD)×Int×Ki×Int) hx=>⟨⟨⟨0,Nat.zero_le _⟩,rfl,rfl,rfl,rfl,rfl,rfl,rfl,rfl,rfl,rfl⟩,?_⟩⟩;obtain⟨e1,e2⟩:=hq x4 hx;rintro⟨i,hi⟩;dsimp only;refine⟨fun h3=>⟨⟨by omega,h3⟩,by rw[zR,zP,zN];omega,by unfold aG;omega,⟨i+1,by omega⟩,by dsimp only;omega,rfl,rfl,by push_cast;rfl,rfl,rfl,rfl,rfl,rfl,?_⟩,fun h3=>⟨fun _=>⟨?_,rfl⟩,fun h'=>absurd h h'⟩⟩
 .rw[bF ([],0) (by omega),List.map_append];rfl
 .rw[List.take_of_length_le (by omega),e1,e2];rfl
end Go.EA
end
