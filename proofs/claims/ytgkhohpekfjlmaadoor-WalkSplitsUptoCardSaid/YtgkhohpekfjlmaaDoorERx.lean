/- Layer 1: a rune out of so many bytes, step by step. Conditions: none. -/
import Derived.Test.YtgkhohpekfjlmaaDoorEFirst
import Derived.Test.YtgkhohpekfjlmaaDoorEBits
set_option linter.unusedVariables false
set_option linter.unusedSimpArgs false
namespace Go.EA
def ax (s:List UInt8) (n:Int):Nat->Int
 |0=>0
 |1=>if n=2 then IntKind.i32.wrap (IntKind.i32.wrap ((s.getD 0 0).toNat:Int)-192) else if n=3 then IntKind.i32.wrap (IntKind.i32.wrap ((s.getD 0 0).toNat:Int)-224) else if n=4 then IntKind.i32.wrap (IntKind.i32.wrap ((s.getD 0 0).toNat:Int)-240) else IntKind.i32.wrap ((s.getD 0 0).toNat:Int)
 |i+1=>IntKind.i32.wrap (IntKind.i32.wrap (IntKind.i32.wrap (ax s n i*64)+IntKind.i32.wrap ((s.getD i 0).toNat:Int))-128)
theorem RY (s:List UInt8) (n:Int) {i:Nat}(h:1<=i):ax s n (i+1)=IntKind.i32.wrap (IntKind.i32.wrap (IntKind.i32.wrap (ax s n i*64)+IntKind.i32.wrap ((s.getD i 0).toNat:Int))-128):=by
 cases i with
 |zero=>omega
 |succ i=>rfl
theorem ZB (s:List UInt8) {n:Nat}(h1:1<=n) (h4:n<=4):ax s n n=rx s n:=by
 obtain rfl | rfl | rfl | rfl:n=1\/n=2\/n=3\/n=4:=by omega
 .exact rw1 s
 .exact rw2 s
 .exact rw3 s
 .exact rw4 s
theorem unB (r:Int):(encI r).map (fun z:Int=>UInt8.ofNat z.toNat)=jd r:=by
 unfold encI;rw[List.map_map]
 conv=>rhs;rw[<- List.map_id (jd r)]
 exact List.map_congr_left fun x _=>by simp
def oB (c z:Int):Int:=IntKind.u8.wrap (↑(BitVec.ofInt IntKind.u8.bits c ||| BitVec.ofInt IntKind.u8.bits (IntKind.u8.wrap z)).toNat:Int)
def o6 (z:Int):Int:=IntKind.u8.wrap (↑(BitVec.ofInt IntKind.u8.bits 128 ||| BitVec.ofInt IntKind.u8.bits (IntKind.u8.wrap (↑(BitVec.ofInt IntKind.u8.bits (IntKind.u8.wrap z) &&& BitVec.ofInt IntKind.u8.bits 63).toNat:Int))).toNat:Int)
theorem Bz {r:Int}{o:List Int}{K:List Int->Prop}(hv:Utf8.valid r=true) (ho:o.length<=70368744177664) (hk:K (o++encI r)) :
 ((IntKind.u32.wrap r<=127->(((o.length+[IntKind.u8.wrap r].length)*1<=140737488355328)/\K (o++[IntKind.u8.wrap r])))/\(¬IntKind.u32.wrap r<=127->((IntKind.u32.wrap r<=2047->(((o.length+[oB 192 (Int.fdiv r (2 ^ min 6 IntKind.i32.bits)),o6 r].length)*1<=140737488355328)/\K (o++[oB 192 (Int.fdiv r (2 ^ min 6 IntKind.i32.bits)),o6 r])))/\(¬IntKind.u32.wrap r<=2047->((IntKind.u32.wrap r<55296->((IntKind.u32.wrap r<55296->(((o.length+[oB 224 (Int.fdiv r (2 ^ min 12 IntKind.i32.bits)),o6 (Int.fdiv r (2 ^ min 6 IntKind.i32.bits)),o6 r].length)*1<=140737488355328)/\K (o++[oB 224 (Int.fdiv r (2 ^ min 12 IntKind.i32.bits)),o6 (Int.fdiv r (2 ^ min 6 IntKind.i32.bits)),o6 r])))/\(¬IntKind.u32.wrap r<55296->((65535<IntKind.u32.wrap r->((IntKind.u32.wrap r<=1114111->(((o.length+[oB 240 (Int.fdiv r (2 ^ min 18 IntKind.i32.bits)),o6 (Int.fdiv r (2 ^ min 12 IntKind.i32.bits)),o6 (Int.fdiv r (2 ^ min 6 IntKind.i32.bits)),o6 r].length)*1<=140737488355328)/\K (o++[oB 240 (Int.fdiv r (2 ^ min 18 IntKind.i32.bits)),o6 (Int.fdiv r (2 ^ min 12 IntKind.i32.bits)),o6 (Int.fdiv r (2 ^ min 6 IntKind.i32.bits)),o6 r])))/\(¬IntKind.u32.wrap r<=1114111->(((o.length+3)*1<=140737488355328)/\K (o++[239,191,189])))))/\(¬65535<IntKind.u32.wrap r->(((o.length+3)*1<=140737488355328)/\K (o++[239,191,189])))))))/\(¬IntKind.u32.wrap r<55296->((57343<IntKind.u32.wrap r->((IntKind.u32.wrap r<=65535->(((o.length+[oB 224 (Int.fdiv r (2 ^ min 12 IntKind.i32.bits)),o6 (Int.fdiv r (2 ^ min 6 IntKind.i32.bits)),o6 r].length)*1<=140737488355328)/\K (o++[oB 224 (Int.fdiv r (2 ^ min 12 IntKind.i32.bits)),o6 (Int.fdiv r (2 ^ min 6 IntKind.i32.bits)),o6 r])))/\(¬IntKind.u32.wrap r<=65535->((65535<IntKind.u32.wrap r->((IntKind.u32.wrap r<=1114111->(((o.length+[oB 240 (Int.fdiv r (2 ^ min 18 IntKind.i32.bits)),o6 (Int.fdiv r (2 ^ min 12 IntKind.i32.bits)),o6 (Int.fdiv r (2 ^ min 6 IntKind.i32.bits)),o6 r].length)*1<=140737488355328)/\K (o++[oB 240 (Int.fdiv r (2 ^ min 18 IntKind.i32.bits)),o6 (Int.fdiv r (2 ^ min 12 IntKind.i32.bits)),o6 (Int.fdiv r (2 ^ min 6 IntKind.i32.bits)),o6 r])))/\(¬IntKind.u32.wrap r<=1114111->(((o.length+3)*1<=140737488355328)/\K (o++[239,191,189])))))/\(¬65535<IntKind.u32.wrap r->(((o.length+3)*1<=140737488355328)/\K (o++[239,191,189])))))))/\(¬57343<IntKind.u32.wrap r->((65535<IntKind.u32.wrap r->((IntKind.u32.wrap r<=1114111->(((o.length+[oB 240 (Int.fdiv r (2 ^ min 18 IntKind.i32.bits)),o6 (Int.fdiv r (2 ^ min 12 IntKind.i32.bits)),o6 (Int.fdiv r (2 ^ min 6 IntKind.i32.bits)),o6 r].length)*1<=140737488355328)/\K (o++[oB 240 (Int.fdiv r (2 ^ min 18 IntKind.i32.bits)),o6 (Int.fdiv r (2 ^ min 12 IntKind.i32.bits)),o6 (Int.fdiv r (2 ^ min 6 IntKind.i32.bits)),o6 r])))/\(¬IntKind.u32.wrap r<=1114111->(((o.length+3)*1<=140737488355328)/\K (o++[239,191,189])))))/\(¬65535<IntKind.u32.wrap r->(((o.length+3)*1<=140737488355328)/\K (o++[239,191,189])))))))))))):=by
 unfold oB o6;have hv2:=bz.1 hv;rw[TF hv];refine⟨fun h1=>⟨by simp;omega,?_⟩,fun h1=>⟨fun h2=>⟨by simp;omega,?_⟩,fun h2=>⟨fun h3=>⟨fun _=>⟨by simp;omega,?_⟩,fun h4=>absurd h3 h4⟩,fun h3=>⟨fun h4=>⟨fun h5=>⟨by simp;omega,?_⟩,fun h5=>⟨fun h6=>⟨fun h7=>⟨by simp;omega,?_⟩,fun h7=>by omega⟩,fun h6=>by omega⟩⟩,fun h4=>by omega⟩⟩⟩⟩
 .rw[Df (by omega)];rw[GM hv (by omega)] at hk;exact hk
 .rw[Gw hv (by omega) (by omega)] at hk;simp(disch:=omega) only [fd6,Tp,xB];exact hk
 .rw[Cy hv (by omega) (by omega)] at hk;simp(disch:=omega) only [fd6,VS,Gj,xB];exact hk
 .rw[Cy hv (by omega) (by omega)] at hk;simp(disch:=omega) only [fd6,VS,Gj,xB];exact hk
 .rw[GX hv (by omega)] at hk;simp(disch:=omega) only [fd6,VS,aan,TS,xB];exact hk
end Go.EA
