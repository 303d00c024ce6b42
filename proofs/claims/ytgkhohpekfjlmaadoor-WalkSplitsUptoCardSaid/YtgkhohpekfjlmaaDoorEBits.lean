/- A rune's bytes by the operations on bits that Go's library writes. Conditions: none. -/
import Derived.Test.YtgkhohpekfjlmaaDoorEMean5
import Derived.Test.YtgkhohpekfjlmaaDoorENorm2
set_option linter.unusedVariables false
set_option linter.unusedSimpArgs false
set_option maxRecDepth 100000
namespace Go.EA
theorem yK {z:Int}(h:0<=z):IntKind.u8.wrap z=((z.toNat % 256:Nat):Int):=by
 have e:IntKind.u8.wrap z=z % 256:=by
  unfold IntKind.wrap;have:IntKind.u8.signed=false:=rfl;simp only[this,Bool.false_and,Bool.false_eq_true,if_false]
  rfl
 rw[e];omega
theorem UT:∀n:Nat,n<256->IntKind.u8.wrap (↑(BitVec.ofInt IntKind.u8.bits 128 ||| BitVec.ofInt IntKind.u8.bits (IntKind.u8.wrap (↑(BitVec.ofInt IntKind.u8.bits (n:Int) &&& BitVec.ofInt IntKind.u8.bits 63).toNat:Int))).toNat:Int)=((128+n % 64:Nat):Int):=by decide +kernel
theorem Rv:∀n:Nat,n<32->IntKind.u8.wrap (↑(BitVec.ofInt IntKind.u8.bits 192 ||| BitVec.ofInt IntKind.u8.bits (n:Int)).toNat:Int)=((192+n:Nat):Int):=by decide +kernel
theorem RG:∀n:Nat,n<16->IntKind.u8.wrap (↑(BitVec.ofInt IntKind.u8.bits 224 ||| BitVec.ofInt IntKind.u8.bits (n:Int)).toNat:Int)=((224+n:Nat):Int):=by decide +kernel
theorem TY:∀n:Nat,n<8->IntKind.u8.wrap (↑(BitVec.ofInt IntKind.u8.bits 240 ||| BitVec.ofInt IntKind.u8.bits (n:Int)).toNat:Int)=((240+n:Nat):Int):=by decide +kernel
theorem xB {z:Int}(h:0<=z):IntKind.u8.wrap (↑(BitVec.ofInt IntKind.u8.bits 128 ||| BitVec.ofInt IntKind.u8.bits (IntKind.u8.wrap (↑(BitVec.ofInt IntKind.u8.bits (IntKind.u8.wrap z) &&& BitVec.ofInt IntKind.u8.bits 63).toNat:Int))).toNat:Int)=128+z % 64:=by
 rw[yK h,UT _ (by omega)];omega
theorem Tp {z:Int}(h:0<=z/\z<32):IntKind.u8.wrap (↑(BitVec.ofInt IntKind.u8.bits 192 ||| BitVec.ofInt IntKind.u8.bits (IntKind.u8.wrap z)).toNat:Int)=192+z:=by
 rw[yK h.1,Rv _ (by omega)];omega
theorem Gj {z:Int}(h:0<=z/\z<16):IntKind.u8.wrap (↑(BitVec.ofInt IntKind.u8.bits 224 ||| BitVec.ofInt IntKind.u8.bits (IntKind.u8.wrap z)).toNat:Int)=224+z:=by
 rw[yK h.1,RG _ (by omega)];omega
theorem TS {z:Int}(h:0<=z/\z<8):IntKind.u8.wrap (↑(BitVec.ofInt IntKind.u8.bits 240 ||| BitVec.ofInt IntKind.u8.bits (IntKind.u8.wrap z)).toNat:Int)=240+z:=by
 rw[yK h.1,TY _ (by omega)];omega
theorem fd6 {r:Int}(h:0<=r):r.fdiv (2 ^ min 6 IntKind.i32.bits)=r / 64:=Int.fdiv_eq_ediv_of_nonneg r (by decide)
theorem VS {r:Int}(h:0<=r):r.fdiv (2 ^ min 12 IntKind.i32.bits)=r / 4096:=Int.fdiv_eq_ediv_of_nonneg r (by decide)
theorem aan {r:Int}(h:0<=r):r.fdiv (2 ^ min 18 IntKind.i32.bits)=r / 262144:=Int.fdiv_eq_ediv_of_nonneg r (by decide)
theorem TF {z:Int}(h:Utf8.valid z=true):IntKind.u32.wrap z=z:=by
 have h2:=bz.1 h;have e:IntKind.u32.wrap z=z % 4294967296:=by
  unfold IntKind.wrap;have:IntKind.u32.signed=false:=rfl;simp only[this,Bool.false_and,Bool.false_eq_true,if_false]
  rfl
 rw[e];omega
def encI (r:Int):List Int:=(jd r).map fun x=>(x.toNat:Int)
theorem GM {r:Int}(h:Utf8.valid r=true) (h1:r<128):encI r=[r]:=by
 have hv:=bz.1 h;unfold encI;rw[fT h,if_pos (by omega)];simp only[zK,List.map_nil,zG,and_true];rw[b8 (by omega)];omega
theorem Gw {r:Int}(h:Utf8.valid r=true) (h0:128<=r) (h1:r<2048):encI r=[192+r / 64,128+r % 64]:=by
 unfold encI;rw[fT h,if_neg (by omega),if_pos (by omega)];simp only[zK,List.map_nil,zG,and_true];rw[b8 (by omega),b8 (by omega)];omega
theorem Cy {r:Int}(h:Utf8.valid r=true) (h0:2048<=r) (h1:r<65536):encI r=[224+r / 4096,128+r / 64 % 64,128+r % 64]:=by
 unfold encI;rw[fT h,if_neg (by omega),if_neg (by omega),if_pos (by omega)];simp only[zK,List.map_nil,zG,and_true];rw[b8 (by omega),b8 (by omega),b8 (by omega)];omega
theorem GX {r:Int}(h:Utf8.valid r=true) (h0:65536<=r):encI r=[240+r / 262144,128+r / 4096 % 64,128+r / 64 % 64,128+r % 64]:=by
 have hv:=bz.1 h;unfold encI;rw[fT h,if_neg (by omega),if_neg (by omega),if_neg (by omega)];simp only[zK,List.map_nil,zG,and_true];rw[b8 (by omega),b8 (by omega),b8 (by omega),b8 (by omega)];omega
def fV (l:List Int):List Int:=(l.map encI).flatten
theorem ME (l:List Int):fV l=(bv l).map fun x=>(x.toNat:Int):=by
 unfold fV bv;rw[List.map_flatten,List.map_map]
 rfl
theorem wV:∀(l:List Int),l.all Utf8.valid=true->(fV l).length<=4*l.length
 |[],_=>by simp[fV]
 | x::l,h=>by
   rw[List.all_cons,zH] at h;have ih:=wV l h.2;have e:fV (x::l)=encI x++fV l:=rfl;rw[e,zL,zM];have hx:(encI x).length<=4:=by
    have hv:=bz.1 h.1;by_cases a:x<128
    .rw[GM h.1 a];simp
    .by_cases b:x<2048
     .rw[Gw h.1 (by omega) b];simp
     .by_cases c:x<65536
      .rw[Cy h.1 (by omega) c];simp
      .rw[GX h.1 (by omega)];simp
   omega
theorem DF {l:List Int}{i:Nat}(h:(i:Int)<l.length):fV (l.take (i+1))=fV (l.take i)++encI (l.getD i 0):=by
 have hi:i<l.length:=by omega
 rw[List.take_add_one,zB hi,zA,zB hi];unfold fV;rw[List.map_append,List.flatten_append];simp
theorem Iu {l:List Int}{i:Nat}{o:List Int}(h:¬ (i:Int)<l.length) (ho:o=fV (l.take i)):unI o=bv l:=by
 rw[List.take_of_length_le (by omega)] at ho;rw[ho,ME,Hw]
theorem Nk {l:List Int}(h:l.all Utf8.valid=false):iJ l=[]/\Ew l=3:=by
 unfold iJ Ew;rw[h];exact⟨rfl,rfl⟩
theorem GZ {l:List Int}(h:l.all Utf8.valid=true):iJ l=bv l/\Ew l=0:=by
 unfold iJ Ew;rw[if_pos h,if_pos h];exact⟨rfl,rfl⟩
theorem Oo {l:List Int}{i:Nat}{o:List Int}(h:l.all Utf8.valid=true) (hl:l.length<=1099511627776) (ho:o=fV (l.take i)):o.length<=4398046511104:=by
 have h2:(l.take i).all Utf8.valid=true:=List.all_eq_true.2 fun x hx=>List.all_eq_true.1 h x (List.mem_of_mem_take hx)
 have:=wV _ h2;rw[<- ho,zP] at this;omega
theorem HY {l:List Int}{i:Nat}(hl:l.all Utf8.valid=true) (h:(i:Int)<l.length):Utf8.valid (l.getD i 0)=true:=by
 have hi:i<l.length:=by omega
 rw[zA,zB hi];exact List.all_eq_true.1 hl _ (List.getElem_mem hi)
end Go.EA
