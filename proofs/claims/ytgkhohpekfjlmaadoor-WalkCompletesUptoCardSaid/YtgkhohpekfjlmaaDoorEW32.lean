/- Layer 2: the same texts. Conditions: none. -/
import Derived.Test.YtgkhohpekfjlmaaDoorERf
import Derived.Test.YtgkhohpekfjlmaaDoorEAf2
import Derived.KernelRfl
set_option linter.unusedVariables false
set_option linter.unusedSimpArgs false
set_option maxRecDepth 100000
set_option maxHeartbeats 0
namespace Go.EA
open F
theorem RG {α:Type}{a b:List α}{i:Nat}(h:¬ (i:Int)<a.length) (hl:a.length=b.length) (ht:a.take i=b.take i):a=b:=by
 rwa [List.take_of_length_le (by omega),List.take_of_length_le (by omega)] at ht
theorem Kj {α:Type}{a b:List α}{i:Nat}(d:α) (h:(i:Int)<a.length) (hl:a.length=b.length) (ht:a.take i=b.take i) (he:a.getD i d=b.getD i d):a.take (i+1)=b.take (i+1):=by
 have h1:i<a.length:=by omega
 have h2:i<b.length:=by omega
 rw[zA,zA,zB h1,zB h2] at he;rw[List.take_add_one,List.take_add_one,ht,zB h1,zB h2];have he:a[i]=b[i]:=he;rw[he]
def P32:List (List UInt8)×List (List UInt8)->List SV:=fun(a,b)=>[.one (.row .str a),.one (.row .str b)]
def Zr:List (List UInt8)×List (List UInt8)->SV×List Prop:=fun(a,b)=>(.one (.bool (decide (a=b))),[a.length<=1099511627776])
def K32:Con:=⟨true,[some .str,some .str],fun xs=>match xs with | [.one (.row .str a),.one (.row .str b)]=>some (Zr (a,b)) | _=>none⟩
noncomputable def G32:GP:=bZ P32 Zr
theorem TK:∀a b,(P32 a).map aB=(P32 b).map aB->a=b:=by
 rintro⟨a0,a1⟩ ⟨b0,b1⟩ h;simp only[P32,zK,List.map_nil,aB,aS,zG,AV.one.injEq,AV.agg.injEq,Lf.int.injEq,Lf.str.injEq,Lf.bool.injEq,Lf.vrow.injEq,and_true,true_and,and_assoc] at h;obtain⟨h0,h1⟩:=h;have h0:=bT h0;have h1:=bT h1;subst h0 h1
 rfl
theorem Vg:df G32 K32:=aR TK (fun⟨_,_⟩ ⟨_,_⟩=>rfl) (fun⟨_,_⟩=>rfl) fun xs r h=>by
 simp only[K32] at h;split at h
 .cases h;rename_i a b;exact⟨(a,b),rfl,rfl⟩
 .cases h
theorem aa4 {S:SC}(hB:SB S)  (h32:S.has 32 f32):aG S 32 (az G32):=by
 refine prM hB [] [] trivial trivial h32 (fun⟨a,b⟩=>⟨rfl,rfl,rfl⟩) (fun(a,b)=>fun f id T L=>match f,id with
  |32,0=>some (.inv { i:Nat // i<=a.length/\a.length=b.length/\a.take i=b.take i } (fun x=>([(13,.one (.int .i64 x.1))],[])) (fun x=>a.length-x.1))
  |_,_=>none) 400 ?_
 rintro⟨a,b⟩ hc;have hc1:a.length<=1099511627776:=hc.1;refine VC.use (p:=((a.length:Int)=(b.length:Int)->(∃x1:{ i:Nat // i<=a.length/\a.length=b.length/\List.take i a=List.take i b },a=a/\b=b/\(a.length:Int)=(a.length:Int)/\0=(x1.1:Int))/\(∀x1:{ i:Nat // i<=a.length/\a.length=b.length/\List.take i a=List.take i b },((x1.1:Int)<(a.length:Int)->(0<=(x1.1:Int)/\(x1.1:Int)<(a.length:Int))/\(0<=(x1.1:Int)/\(x1.1:Int)<(b.length:Int))/\(a.getD x1.1 []=b.getD x1.1 []->aA ((x1.1:Int)+1)/\(∃x2:{ i:Nat // i<=a.length/\a.length=b.length/\List.take i a=List.take i b },a.length-x2.1<a.length-x1.1/\a=a/\b=b/\(a.length:Int)=(a.length:Int)/\(x1.1:Int)+1=(x2.1:Int)))/\(¬a.getD x1.1 []=b.getD x1.1 []->false=decide (a=b)))/\(¬(x1.1:Int)<(a.length:Int)->true=decide (a=b))))/\(¬(a.length:Int)=(b.length:Int)->false=decide (a=b))) (by kernel_rfl) ?_;refine⟨fun h=>⟨⟨⟨0,by omega,by omega,by simp⟩,rfl,rfl,rfl,rfl⟩,?_⟩,fun h=>?_⟩
 .rintro⟨i,hi,hl,ht⟩;dsimp only;exact⟨fun h1=>⟨by omega,by omega,fun h2=>⟨by unfold aA;omega,⟨i+1,by omega,hl,Kj [] h1 hl ht (by simpa using h2)⟩,by show _-(i+1)<_-i;omega,rfl,rfl,rfl,rfl⟩,fun h2=>by exact(decide_eq_false fun e=>h2 (by rw[e])).symm⟩,fun h1=>(decide_eq_true (RG h1 hl ht)).symm⟩
 .symm;apply decide_eq_false;rintro rfl;omega
end Go.EA
