/- Texts. Conditions: none. -/
import Derived.Test.YtgkhohpekfjlmaaDoorEK20
import Derived.Test.YtgkhohpekfjlmaaDoorELx1
import Derived.Test.YtgkhohpekfjlmaaDoorEAf9
import Derived.KernelRfl
import Derived.Test.YtgkhohpekfjlmaaDoorEK21
import Derived.Test.YtgkhohpekfjlmaaDoorERx
set_option linter.unusedVariables false
set_option linter.unusedSimpArgs false
section
set_option maxRecDepth 100000
set_option maxHeartbeats 0
namespace Go.EA
open F
end Go.EA
end
section
set_option maxRecDepth 100000
set_option maxHeartbeats 0
namespace Go.EA
open F
abbrev EdT:Ty:=(.pair (.int .i32) (.int .i64))
abbrev RsT:Ty:=(.pair (.row (.row (.int .i32))) (.pair .bool (.row (.pair (.int .i32) (.int .i64)))))
theorem jK {b:Nat->Nat}{k:Nat}{p q:List SL}(h:ah (Cj b k) p q):qj b k (.cell p) (.cell q):=.inr ⟨p,q,rfl,rfl,h⟩
end Go.EA
end
section
set_option maxRecDepth 100000
set_option maxHeartbeats 0
namespace Go.EA
open F
end Go.EA
end
section
set_option maxRecDepth 100000
set_option maxHeartbeats 0
namespace Go.EA
open F
def M56:mg:=⟨(List Int)×Int,1,fun(o,r) b=>[.one (.osl (b 0)),.one (.int .i32 r)],fun(o,r) b=>[.row (.int .u8) o],fun(o,r)=>[Utf8.valid r=true,o.length<=70368744177664],fun _=>Unit,fun _ _=>[],fun(o,r) _ b=>.one (.osl (b 0)),fun(o,r) _ b=>[.row (.int .u8) (o++encI r)],[0]⟩
def C56:iP:=⟨fun xs L=>match xs.map qc with | [.one (.osl o),.one (.int .i32 r)]=>(match ae L o with | .row (.int .u8) l=>some (M56.res (l,r) (fun _=>o) L) | _=>none) | _=>none⟩
theorem Oy:M56.Fits C56:=by
 intro xs L r h;simp only[C56] at h;split at h
 .rename_i o r he;split at h
  .rename_i l hl;cases h;refine⟨(l,r),fun _=>o,he,fun j hj=>?_,fun i j hi hj _=>?_,rfl⟩
   .have hj:j<1:=hj;obtain rfl:j=0:=by omega
    exact hl
   .have hi:i<1:=hi;have hj:j<1:=hj;omega
  .cases h
 .cases h
theorem Xo:M56.Ok f56.np:=⟨fun⟨_,_⟩ b=>ah.cons (.inl ⟨_,_,rfl,rfl,.inr (.inl ⟨0,Nat.zero_lt_one,rfl,rfl⟩)⟩) (ah.cons (.inr (.inl ⟨rfl,rfl⟩)) ah.nil),
 fun ⟨_, _⟩ b => ⟨rfl, fun j hj => by have hj : j < 1 := hj; obtain rfl : j = 0 := by omega
                                      exact .inl ⟨rfl,rfl⟩⟩,
 fun ⟨_, _⟩ _ b => ⟨rfl, fun j hj => by have hj : j < 1 := hj; obtain rfl : j = 0 := by omega
                                        exact .inl ⟨rfl,rfl⟩⟩,
 fun _ _ j hj hm => absurd (by have hj : j < 1 := hj; obtain rfl : j = 0 := by omega
                               exact List.mem_singleton.2 rfl) hm,
 fun _ j hj hm => absurd (by have hj : j < 1 := hj; obtain rfl : j = 0 := by omega
                             exact List.mem_singleton.2 rfl) hm,
 fun⟨_,_⟩=>rfl,
 fun⟨_,_⟩ _ b=>.inl ⟨_,_,rfl,rfl,.inr (.inl ⟨0,Nat.zero_lt_one,rfl,rfl⟩)⟩⟩
theorem aah {S:SC}(hB:SB S)  (h75:S.has 75 f75) (h56:S.has 56 f56):fC S 56 C56:=by
 refine muG hB [(75,f75)] [] [] ⟨h75,trivial⟩ trivial trivial h56 Oy Xo (fun(o,r)=>fun _ _ _ _=>none) 400 ?_;rintro⟨o,r⟩ hc;have hc1:Utf8.valid r=true:=hc.1;have hc2:o.length<=70368744177664:=hc.2.1;refine VC.use (p:=(IntKind.u32.wrap r<=127->(o.length+[IntKind.u8.wrap r].length)*1<=140737488355328/\(∃x1:Unit,o++[IntKind.u8.wrap r]=o++encI r))/\(¬IntKind.u32.wrap r<=127->(IntKind.u32.wrap r<=2047->(o.length+[oB 192 (r.fdiv 64),o6 r].length)*1<=140737488355328/\(∃x1:Unit,o++[oB 192 (r.fdiv 64),o6 r]=o++encI r))/\(¬IntKind.u32.wrap r<=2047->(IntKind.u32.wrap r<55296->(IntKind.u32.wrap r<55296->(o.length+[oB 224 (r.fdiv 4096),o6 (r.fdiv 64),o6 r].length)*1<=140737488355328/\(∃x1:Unit,o++[oB 224 (r.fdiv 4096),o6 (r.fdiv 64),o6 r]=o++encI r))/\(¬IntKind.u32.wrap r<55296->(65535<IntKind.u32.wrap r->(IntKind.u32.wrap r<=1114111->(o.length+[oB 240 (r.fdiv 262144),o6 (r.fdiv 4096),o6 (r.fdiv 64),o6 r].length)*1<=140737488355328/\(∃x1:Unit,o++[oB 240 (r.fdiv 262144),o6 (r.fdiv 4096),o6 (r.fdiv 64),o6 r]=o++encI r))/\(¬IntKind.u32.wrap r<=1114111->(o.length+3)*1<=140737488355328/\(∃x1:Unit,o++[239,191,189]=o++encI r)))/\(¬65535<IntKind.u32.wrap r->(o.length+3)*1<=140737488355328/\(∃x1:Unit,o++[239,191,189]=o++encI r))))/\(¬IntKind.u32.wrap r<55296->(57343<IntKind.u32.wrap r->(IntKind.u32.wrap r<=65535->(o.length+[oB 224 (r.fdiv 4096),o6 (r.fdiv 64),o6 r].length)*1<=140737488355328/\(∃x1:Unit,o++[oB 224 (r.fdiv 4096),o6 (r.fdiv 64),o6 r]=o++encI r))/\(¬IntKind.u32.wrap r<=65535->(65535<IntKind.u32.wrap r->(IntKind.u32.wrap r<=1114111->(o.length+[oB 240 (r.fdiv 262144),o6 (r.fdiv 4096),o6 (r.fdiv 64),o6 r].length)*1<=140737488355328/\(∃x1:Unit,o++[oB 240 (r.fdiv 262144),o6 (r.fdiv 4096),o6 (r.fdiv 64),o6 r]=o++encI r))/\(¬IntKind.u32.wrap r<=1114111->(o.length+3)*1<=140737488355328/\(∃x1:Unit,o++[239,191,189]=o++encI r)))/\(¬65535<IntKind.u32.wrap r->(o.length+3)*1<=140737488355328/\(∃x1:Unit,o++[239,191,189]=o++encI r))))/\(¬57343<IntKind.u32.wrap r->(65535<IntKind.u32.wrap r->(IntKind.u32.wrap r<=1114111->(o.length+[oB 240 (r.fdiv 262144),o6 (r.fdiv 4096),o6 (r.fdiv 64),o6 r].length)*1<=140737488355328/\(∃x1:Unit,o++[oB 240 (r.fdiv 262144),o6 (r.fdiv 4096),o6 (r.fdiv 64),o6 r]=o++encI r))/\(¬IntKind.u32.wrap r<=1114111->(o.length+3)*1<=140737488355328/\(∃x1:Unit,o++[239,191,189]=o++encI r)))/\(¬65535<IntKind.u32.wrap r->(o.length+3)*1<=140737488355328/\(∃x1:Unit,o++[239,191,189]=o++encI r))))))) (by kernel_rfl) ?_;exact Bz hc1 hc2 (K:=fun o'=>∃x1:Unit,o'=o++encI r) ⟨(),rfl⟩
def QZ:(List (Int×Int))×Bool×Int->List SV:=fun(s0,s1,s2)=>[.agg [.row (.pair (.int .i32) (.int .i64)) s0,.bool s1,.int .i64 s2]]
def YX:(List (Int×Int))×Bool×Int->SV×List Prop:=fun(s0,s1,s2)=>(.one (.str (jY s0 s1)),[s0.length<=1048576,OkE s0])
def Wm:Con:=⟨true,[none],fun xs=>match xs with | [.agg [.row (.pair (.int .i32) (.int .i64)) s0,.bool s1,.int .i64 s2]]=>some (YX (s0,s1,s2)) | _=>none⟩
noncomputable def NG:GP:=dx QZ YX
theorem JO:∀a b,(QZ a).map aB=(QZ b).map aB->a=b:=by
 rintro⟨a0,a1,a2⟩ ⟨b0,b1,b2⟩ h;simp only[QZ,zK,List.map_nil,aB,aX,zG,AV.one.injEq,AV.agg.injEq,Lf.int.injEq,Lf.str.injEq,Lf.bool.injEq,Lf.vrow.injEq,and_true,true_and,and_assoc] at h;obtain⟨h0,h1,h2⟩:=h;have h0:=cZ h0;subst h0 h1 h2
 rfl
theorem Tu:dG NG Wm:=aY JO (fun⟨_,_,_⟩ ⟨_,_,_⟩=>rfl) (fun⟨_,_,_⟩=>rfl) fun xs r h=>by
 simp only[Wm] at h;split at h
 .cases h;rename_i s0 s1 s2;exact⟨(s0,s1,s2),rfl,rfl⟩
 .cases h
theorem Yu {S:SC}(hB:SB S) (u56:fC S 56 C56)  (h346:S.has 346 f346):aN S 346 (az NG):=by
 refine ZP hB [] [] [(56,C56)] trivial trivial ⟨u56,trivial⟩ h346 (fun⟨s0,s1,s2⟩=>⟨rfl,rfl,rfl⟩) (fun(s0,s1,s2)=>fun f id T L=>match f,id with
  |346,4012=>some (.cut Unit fun _=>([(3,.one (.osl 1))],[(1,.row (.int .u8) [if s1 then 43 else 45])]))
  |346,0=>some (.inv { i:Nat // i<=s0.length } (fun x=>([(15,.one (.int .i64 x.1)),(3,.one (.osl 1))],[(1,.row (.int .u8) (lc (s0.take x.1) s1))])) (fun x=>s0.length-x.1))
  |346,2=>match T.getD 6 .junk,ae L 1 with | .one (.int _ n0),.row (.int .u8) o0=>some (.inv { p:Int×List Int // p.2++lY p.1=o0++lY n0/\0<=p.1/\p.1<=n0 } (fun x=>([(6,.one (.int .i64 x.1.1)),(3,.one (.osl 1))],[(1,.row (.int .u8) x.1.2)])) (fun x=>x.1.1.toNat)) | _,_=>none
  |_,_=>none) 2000 ?_
 rintro⟨s0,s1,s2⟩ hc;have hc1:s0.length<=1048576:=hc.1;have hc2:OkE s0:=hc.2.1;refine VC.use (p:=((s1=true->((0:Int)<=(0:Int)/\(0:Int)<(1:Int))/\(0:Nat)<(1:Nat)/\(∃x1:Unit,s0=s0/\s1=s1/\s2=s2/\([43]:List Int)=[if s1=true then 43 else 45]))/\(¬s1=true->∃x1:Unit,s0=s0/\s1=s1/\s2=s2/\([45]:List Int)=[if s1=true then 43 else 45]))/\(∀x1:Unit,(∃x2:{ i:Nat // i<=s0.length },s0=s0/\(s0.length:Int)=(s0.length:Int)/\0=(x2.1:Int)/\s0=s0/\s1=s1/\s2=s2/\[if s1=true then 43 else 45]=lc (List.take x2.1 s0) s1)/\(∀x2:{ i:Nat // i<=s0.length },((x2.1:Int)<(s0.length:Int)->(0<=(x2.1:Int)/\(x2.1:Int)<(s0.length:Int))/\Utf8.valid (s0.getD x2.1 (0,0)).1=true/\(lc (List.take x2.1 s0) s1).length<=70368744177664/\(∀x3:(Unit),(∃x4:{ p:Int×List Int // p.2++lY p.1=lc (List.take x2.1 s0) s1++encI (s0.getD x2.1 (0,0)).1++lY (s0.getD x2.1 (0,0)).2/\0<=p.1/\p.1<=(s0.getD x2.1 (0,0)).2 },(s0.getD x2.1 (0,0)).2=x4.1.1/\s0=s0/\(s0.length:Int)=(s0.length:Int)/\(x2.1:Int)=(x2.1:Int)/\s0=s0/\s1=s1/\s2=s2/\lc (List.take x2.1 s0) s1++encI (s0.getD x2.1 (0,0)).1=x4.1.2/\(s0.getD x2.1 (0,0)).1=(s0.getD x2.1 (0,0)).1/\(s0.getD x2.1 (0,0)).2=(s0.getD x2.1 (0,0)).2)/\(∀x4:{ p:Int×List Int // p.2++lY p.1=lc (List.take x2.1 s0) s1++encI (s0.getD x2.1 (0,0)).1++lY (s0.getD x2.1 (0,0)).2/\0<=p.1/\p.1<=(s0.getD x2.1 (0,0)).2 },(128:Int)≠(0:Int)/\(x4.1.2.length+[IntKind.u8.wrap (↑(BitVec.ofInt 8 (IntKind.u8.wrap (x4.1.1.tmod 128)) ||| BitVec.ofInt 8 128).toNat:Int)].length)*1<=140737488355328/\(x4.1.1<128->((x4.1.2++[IntKind.u8.wrap (↑(BitVec.ofInt 8 (IntKind.u8.wrap (x4.1.1.tmod 128)) ||| BitVec.ofInt 8 128).toNat:Int)]).length+1)*1<=140737488355328/\aG ((x2.1:Int)+1)/\(∃x5:{ i:Nat // i<=s0.length },s0.length-x5.1<s0.length-x2.1/\s0=s0/\(s0.length:Int)=(s0.length:Int)/\(x2.1:Int)+1=(x5.1:Int)/\s0=s0/\s1=s1/\s2=s2/\x4.1.2++[IntKind.u8.wrap (↑(BitVec.ofInt 8 (IntKind.u8.wrap (x4.1.1.tmod 128)) ||| BitVec.ofInt 8 128).toNat:Int)]++[0]=lc (List.take x5.1 s0) s1))/\(¬x4.1.1<128->(128:Int)≠(0:Int)/\aG (x4.1.1.tdiv 128)/\(∃x5:{ p:Int×List Int // p.2++lY p.1=lc (List.take x2.1 s0) s1++encI (s0.getD x2.1 (0,0)).1++lY (s0.getD x2.1 (0,0)).2/\0<=p.1/\p.1<=(s0.getD x2.1 (0,0)).2 },x5.1.1.toNat<x4.1.1.toNat/\x4.1.1.tdiv 128=x5.1.1/\s0=s0/\(s0.length:Int)=(s0.length:Int)/\(x2.1:Int)=(x2.1:Int)/\s0=s0/\s1=s1/\s2=s2/\x4.1.2++[IntKind.u8.wrap (↑(BitVec.ofInt 8 (IntKind.u8.wrap (x4.1.1.tmod 128)) ||| BitVec.ofInt 8 128).toNat:Int)]=x5.1.2/\(s0.getD x2.1 (0,0)).1=(s0.getD x2.1 (0,0)).1/\(s0.getD x2.1 (0,0)).2=(s0.getD x2.1 (0,0)).2)))))/\(¬(x2.1:Int)<(s0.length:Int)->List.map (fun z=>UInt8.ofNat (Int.toNat z)) (lc (List.take x2.1 s0) s1)=jY s0 s1)))) (by kernel_rfl) ?_;refine⟨⟨fun h=>⟨by omega,by omega,(),rfl,rfl,rfl,by rw[if_pos h]⟩,fun h=>⟨(),rfl,rfl,rfl,by rw[if_neg h]⟩⟩,fun _=>⟨⟨⟨0,Nat.zero_le _⟩,rfl,rfl,rfl,rfl,rfl,rfl,rfl⟩,?_⟩⟩;rintro⟨i,hi⟩;dsimp only;refine⟨fun h=>?_,fun h=>by rw[List.take_of_length_le (by omega)];rfl⟩;have h1:=hc2.at (i:=i) (by omega);have h2:=uT hc2 s1 i hi;have hst:=wD (b:=s1) (show i<s0.length by omega);have hln:=uT hc2 s1 (i+1) (by omega);rw[hst] at hln;generalize lc (s0.take i) s1=o at h2 hst hln ⊢;unfold Hq at hln hst;generalize s0.getD i (0,0)=e at h1 hst hln ⊢;simp only[zL,zN] at hln;refine⟨by omega,h1.1,by omega,fun _=>⟨⟨⟨(e.2,o++encI e.1),rfl,h1.2.1,Int.le_refl _⟩,rfl,rfl,rfl,rfl,rfl,rfl,rfl,rfl,rfl,rfl⟩,?_⟩⟩;rintro⟨⟨n,p⟩,hp,hn0,hn1⟩;dsimp only at hp hn0 hn1 ⊢;rw[Xk hn0];have hpl:=congrArg List.length hp;simp only[zL] at hpl;have hdl:=Bd n;refine⟨by omega,by rw[zN];omega,fun hlt=>⟨by rw[zL,zN];omega,by unfold aG;omega,⟨i+1,by omega⟩,by dsimp only;omega,rfl,rfl,by push_cast;rfl,rfl,rfl,rfl,?_⟩,fun hge=>?_⟩
 .show _=lc (s0.take (i+1)) s1;rw[hst,<- zO,<- zO,<- hp,BI hlt]
 .obtain⟨g1,g2,g3⟩:=kR hge;refine⟨by omega,by unfold aG;omega,⟨(n.tdiv 128,p++[dgB n]),?_,g1,by omega⟩,g2,rfl,rfl,rfl,rfl,rfl,rfl,rfl,rfl,rfl,rfl⟩;show p++[dgB n]++lY (n.tdiv 128)=_;rw[<- hp,vQ hge,zO];rfl
def Qw:List Int×List Int->List SV:=fun(a,b)=>[.one (.row (.int .i32) a),.one (.row (.int .i32) b)]
def Zz:List Int×List Int->SV×List Prop:=fun(a,b)=>(.one (.int .i64 (bi a b)),[a.length<=1099511627776])
def VU:Con:=⟨true,[some (.int .i32),some (.int .i32)],fun xs=>match xs with | [.one (.row (.int .i32) a),.one (.row (.int .i32) b)]=>some (Zz (a,b)) | _=>none⟩
noncomputable def OU:GP:=dx Qw Zz
theorem Ku:∀a b,(Qw a).map aB=(Qw b).map aB->a=b:=by
 rintro⟨a0,a1⟩ ⟨b0,b1⟩ h;simp only[Qw,zK,List.map_nil,aB,aX,zG,AV.one.injEq,AV.agg.injEq,Lf.int.injEq,Lf.str.injEq,Lf.bool.injEq,Lf.vrow.injEq,and_true,true_and,and_assoc] at h;obtain⟨h0,h1⟩:=h;have h0:=cZ h0;have h1:=cZ h1;subst h0 h1
 rfl
theorem Sr:dG OU VU:=aY Ku (fun⟨_,_⟩ ⟨_,_⟩=>rfl) (fun⟨_,_⟩=>rfl) fun xs r h=>by
 simp only[VU] at h;split at h
 .cases h;rename_i a b;exact⟨(a,b),rfl,rfl⟩
 .cases h
theorem YB {S:SC}(hB:SB S)  (h330:S.has 330 f330):aN S 330 (az OU):=by
 refine prM hB [] [] trivial trivial h330 (fun⟨a,b⟩=>⟨rfl,rfl,rfl⟩) (fun(a,b)=>fun f id T L=>match f,id with
  |330,0=>some (.inv { i:Nat // i<=a.length/\i<=b.length/\bi a b=i+bi (a.drop i) (b.drop i) } (fun x=>([(4,.one (.int .i64 x.1))],[])) (fun x=>a.length-x.1))
  |_,_=>none) 1000 ?_
 rintro⟨a,b⟩ hc;have hc1:a.length<=1099511627776:=hc.1;refine VC.use (p:=(∃x1:{ i:Nat // i<=a.length/\i<=b.length/\bi a b=i+bi (List.drop i a) (List.drop i b) },a=a/\b=b/\0=(x1.1:Int))/\(∀x1:{ i:Nat // i<=a.length/\i<=b.length/\bi a b=i+bi (List.drop i a) (List.drop i b) },((x1.1:Int)<(a.length:Int)->((x1.1:Int)<(b.length:Int)->(0<=(x1.1:Int)/\(x1.1:Int)<(a.length:Int))/\(0<=(x1.1:Int)/\(x1.1:Int)<(b.length:Int))/\(a.getD x1.1 0=b.getD x1.1 0->aG ((x1.1:Int)+1)/\(∃x2:{ i:Nat // i<=a.length/\i<=b.length/\bi a b=i+bi (List.drop i a) (List.drop i b) },a.length-x2.1<a.length-x1.1/\a=a/\b=b/\(x1.1:Int)+1=(x2.1:Int)))/\(¬a.getD x1.1 0=b.getD x1.1 0->(x1.1:Int)=(↑(bi a b):Int)))/\(¬(x1.1:Int)<(b.length:Int)->(x1.1:Int)=(↑(bi a b):Int)))/\(¬(x1.1:Int)<(a.length:Int)->(x1.1:Int)=(↑(bi a b):Int)))) (by kernel_rfl) ?_;refine⟨⟨⟨0,Nat.zero_le _,Nat.zero_le _,by simp⟩,rfl,rfl,rfl⟩,?_⟩;rintro⟨i,h1,h2,h3⟩;dsimp only;refine⟨fun ha=>⟨fun hb=>⟨by omega,by omega,fun he=>⟨by unfold aG;omega,⟨i+1,by omega,by omega,?_⟩,by dsimp only;omega,rfl,rfl,by push_cast;rfl⟩,fun he=>?_⟩,fun hb=>?_⟩,fun ha=>?_⟩
 .rw[h3,vU (by omega) (by omega),if_pos he];omega
 .rw[h3,vU (by omega) (by omega),if_neg he];rfl
 .rw[h3,Be (.inr (by omega))];rfl
 .rw[h3,Be (.inl (by omega))];rfl
end Go.EA
end
