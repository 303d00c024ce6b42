/- strings.Join by the shelf's contract. Conditions: none. -/
import Derived.Test.YtgkhohpekfjlmaaDoorEMean6
import Derived.Test.YtgkhohpekfjlmaaDoorEK6
import Derived.Lib.ValidU
import Derived.Test.YtgkhohpekfjlmaaDoorEK9
import Derived.Test.YtgkhohpekfjlmaaDoorEOrder
import Derived.Lib.RuneCount
import Derived.Shelf.Unicode.ValidAny
import Derived.Lib.Join
set_option linter.unusedVariables false
set_option linter.unusedSimpArgs false
namespace Go.EA
open Go.RowKit
def Re:List (List UInt8)×List UInt8->List SV:=fun(a,s)=>[.one (.row .str a),.one (.str s)]
def Zp:List (List UInt8)×List UInt8->SV×List Prop:=fun(a,s)=>(.one (.str (Lib.join a s)),[a.length<=140737488355328,(Lib.join a s).length<=140737488355328])
def Vl:Con:=⟨true,[some .str,none],fun xs=>match xs with | [.one (.row .str a),.one (.str s)]=>some (Zp (a,s)) | _=>none⟩
noncomputable def IX:GP:=dx Re Zp
theorem MB:∀a b,(Re a).map aB=(Re b).map aB->a=b:=by
 rintro⟨a0,a1⟩ ⟨b0,b1⟩ h;simp only[Re,zK,List.map_nil,aB,aX,zG,AV.one.injEq,AV.agg.injEq,Lf.int.injEq,Lf.str.injEq,Lf.bool.injEq,Lf.vrow.injEq,and_true,true_and,and_assoc] at h;obtain⟨h0,h1⟩:=h;have h0:=cZ h0;subst h0 h1
 rfl
theorem Qe:dG IX Vl:=aY MB (fun⟨_,_⟩ ⟨_,_⟩=>rfl) (fun⟨_,_⟩=>rfl) fun xs r h=>by
 simp only[Vl] at h;split at h
 .cases h;rename_i a s;exact⟨(a,s),rfl,rfl⟩
 .cases h
theorem Ar {S:SC}{fz:Nat->Option Obj}{C:Array Value}:∀{a:List (List UInt8)}{o:Nat},fQ S fz C o 1 (a.map (Ty.enc .str))->∀j x,a[j]?=some x->C[o+j]?=some (.string ⟨x.toArray⟩)
 |[],_,_,j,x,hx=>by simp at hx
 | y::a,o,h,0,x,hx=>by
   obtain⟨_,⟨⟨u,h1,h2⟩,_⟩,_⟩:=h;have hx:y=x:=by simpa using hx
   subst hx;have h2:u=.string ⟨y.toArray⟩:=h2;rw[Nat.add_zero,h1,h2]
 | y::a,o,h,j+1,x,hx=>by
   obtain⟨_,_,h3⟩:=h;have:=Ar h3 j x (by simpa using hx);rw[<- this];congr 1;omega
theorem Fx (a:List (List UInt8)):(a.map fun x=>(ByteArray.mk x.toArray)).map (·.data.toList)=a:=by
 rw[List.map_map]
 conv=>rhs;rw[<- List.map_id a]
 refine List.map_congr_left fun x _=>?_
 simp
theorem XX {S:SC}{i:Nat}(h0:S.d0=0) (hent:∀args w,(callFunc (S.re i) args).run S.C.P w=.ok (.enter (S.re i) args) w)
 (L0:∀(a:Option Addr) (c:Nat) (sep:ByteArray) (w:World),Calls S.C.P (S.re i) #[.slice a 0 c,.string sep] w fun e w'=>e=.returned (.string ⟨#[]⟩)/\w'=w)
 (L:∀(bk o c:Nat) (xs:List ByteArray) (sep:ByteArray) (w:World),(∀(j:Nat) x,xs[j]?=some x->w.cell? ⟨bk,o+j,none⟩=some (.string x))->bk<w.heap.size->xs.length<=140737488355328->xs.length<=c->
  (Lib.join (xs.map (·.data.toList)) sep.data.toList).length<=140737488355328->
  Calls S.C.P (S.re i) #[.slice (some ⟨bk,o,none⟩) xs.length c,.string sep] w fun e w'=>e=.returned (.string ⟨(Lib.join (xs.map (·.data.toList)) sep.data.toList).toArray⟩)/\Below w.heap.size w w'):aN S i (az IX):=by
 refine uw h0 hent _ fun xs v c hg hc H ρ w vs hvs hH=>?_
 unfold IX dx yD at hg;split at hg
 .rename_i hx;have hp:=hx.choose_spec;generalize hx.choose=a at hg hp;obtain⟨a,s⟩:=a;simp only[zE,zF] at hg;obtain⟨rfl,rfl⟩:=hg;subst hp;obtain⟨u,us,rfl,hu,ht⟩:=hvs.cons_inv;obtain⟨u2,us,rfl,hu2,ht⟩:=ht.cons_inv;obtain rfl:=ht.nil_inv;have hu2:u2=.string ⟨s.toArray⟩:=hu2;subst hu2;have hu:bB S ρ.fz (.vrow 1 (a.map (Ty.enc .str))) u:=hu;obtain⟨ad,cap,rfl,hcap,hor⟩:=hu;rw[zR] at hcap ⊢;have hc1:a.length<=140737488355328:=hc.1;have hc2:(Lib.join a s).length<=140737488355328:=hc.2.1;cases a with
  | nil=>
    refine Calls.mono (L0 ad cap ⟨s.toArray⟩ w) fun e w' h=>⟨_,h.1,?_,?_⟩
    .show Value.string _=.string _;rw[show Lib.join [] s=[] from rfl]
    .rw[h.2];exact Below.refl _ _
  | cons x a=>
    rcases hor with hor | ⟨g,o,C,ty,fr,rfl,hfz,hrow⟩
    .cases hor
    .obtain⟨_,hheap,_⟩:=hH.fz g _ hfz;have hlt:g<w.heap.size:=(zQ.1 hheap).1;have hcell:=Ar hrow;have hL:=L g o cap ((x::a).map fun x=>(ByteArray.mk x.toArray)) ⟨s.toArray⟩ w (fun j y hy=>?_) hlt (by rw[zR];exact hc1) (by rw[zR];exact hcap) (by rw[Fx];simpa using hc2)
     .rw[zR,Fx] at hL;refine Calls.mono hL fun e w' h=>⟨_,h.1,?_,h.2⟩
      show Value.string _=.string _;simp
     .rw[List.getElem?_map,zD] at hy;obtain⟨z,hz,rfl⟩:=hy;have h1:=hcell j z hz;unfold World.cell?;simp only[hheap];exact h1
 .cases hg
end Go.EA
