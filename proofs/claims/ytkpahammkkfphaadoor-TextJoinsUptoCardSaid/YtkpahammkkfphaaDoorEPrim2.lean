/- Functions of Go's library by the shelf's contracts: DecodeRuneInString, ValidString, RuneCountInString, strings.Compare. Conditions: none. -/
import Derived.Test.YtkpahammkkfphaaDoorEBack
import Derived.Test.YtkpahammkkfphaaDoorEMean3
import Derived.Test.YtkpahammkkfphaaDoorEValid
import Derived.Test.YtkpahammkkfphaaDoorEK9
import Derived.Test.YtkpahammkkfphaaDoorEOrder
import Derived.Lib.RuneCount
import Derived.Shelf.Unicode.ValidAny
set_option linter.unusedVariables false
set_option linter.unusedSimpArgs false
namespace Go.EA
open Go.RowKit
def P38:List UInt8->List SV:=fun s=>[.one (.str s)]
def R38:List UInt8->SV×List Prop:=fun s=>(.one (.bool (aR s)),[s.length<=4611686018427387904])
def K38:Con:=⟨true,[none],fun xs=>match xs with | [.one (.str s)]=>some (R38 s) | _=>none⟩
noncomputable def G38:GP:=dU P38 R38
theorem Gf:∀a b,(P38 a).map aF=(P38 b).map aF->a=b:=by
 rintro a0 b0 h;simp only[P38,zK,List.map_nil,aF,bi,zG,AV.one.injEq,Lf.str.injEq,and_true] at h;exact h
theorem Jm:fA G38 K38:=bF Gf (fun _ _=>rfl) (fun _=>rfl) fun xs r h=>by
 simp only[K38] at h;split at h
 .cases h;rename_i s;exact⟨s,rfl,rfl⟩
 .cases h
theorem vQ (s:List UInt8) (i:Nat):Utf8.decode ⟨s.toArray⟩ i=Utf8.decode ⟨(s.drop i).toArray⟩ 0:=by
 have hg:∀k,(ByteArray.mk s.toArray).get! (i+k)=(ByteArray.mk (s.drop i).toArray).get! (0+k):=fun k=>by
  show s.toArray.getD (i+k) default=(s.drop i).toArray.getD (0+k) default;simp[Array.getD_eq_getD_getElem?]
 have hs:∀k,decide (i+k<(ByteArray.mk s.toArray).size)=decide (0+k<(ByteArray.mk (s.drop i).toArray).size):=fun k=>by
  show decide (i+k<s.toArray.size)=decide (0+k<(s.drop i).toArray.size);rw[decide_eq_decide];simp;omega
 unfold Utf8.decode;simp only[hg,hs]
theorem ww {s:List UInt8}{i:Nat}(h:i<s.length):Utf8.decode ⟨s.toArray⟩ i=dec (s.drop i):=by
 unfold dec;rw[if_neg (by simp;omega),vQ]
theorem Fh {S:SC}{ρ:Rho}{n:Nat}{s:List UInt8}{vs:List Value}(h:ae (aN S ρ n) [.one (.str s)] vs):vs=[.string ⟨s.toArray⟩]:=by
 obtain⟨u,us,rfl,hu,ht⟩:=h.cons_inv;obtain rfl:=ht.nil_inv;have hu:u=.string ⟨s.toArray⟩:=hu;rw[hu]
theorem IU {S:SC}{i:Nat}(h0:S.d0=0) (hent:∀args w,(callFunc (S.re i) args).run S.C.P w=.ok (.enter (S.re i) args) w) {res:List UInt8->SV×List Prop}{val:List UInt8->Value}
 (hv:∀s ρ n,aN S ρ n (aF (res s).1) (val s)) (h:∀s,aK (res s).2->∀H ρ w,aJ S H ρ w->Calls S.C.P (S.re i) #[.string ⟨s.toArray⟩] w fun e w'=>e=.returned (val s)/\Below w.heap.size w w'):aP S i (aC (dU P38 res)):=by
 refine pK h0 hent _ fun xs v c hg hc H ρ w vs hvs hH=>?_
 unfold dU sI at hg;split at hg
 .rename_i hx;have hp:=hx.choose_spec;generalize hx.choose=s at hg hp;simp only[zE,zF] at hg;obtain⟨rfl,rfl⟩:=hg;subst hp;rw[Fh hvs];exact Calls.mono (h s hc H ρ w hH) fun e w' hh=>⟨_,hh.1,hv s _ _,hh.2⟩
 .cases hg
theorem LZ {S:SC}{P:Program}{i:Nat}(h0:S.d0=0) (hP:S.C.P=P) (hent:∀args w,(callFunc (S.re i) args).run S.C.P w=.ok (.enter (S.re i) args) w) {ρl:Shelf.Ren}(hf:ρl.f 196=S.re i) (L:Proofs.Lays.n196 S.C.P ρl) (hT:∀H ρ w,aJ S H ρ w->Lib.Utf8Tabs (ρl.g 3) (ρl.g 4) w):aP S i (aC G38):=by
 refine IU h0 hent (val:=fun s=>.bool (Lib.validD s)) (fun s ρ n=>by show Value.bool _=.bool _;rw[xy]) fun s hc H ρ w hH=>?_
 rw[<- hf];exact Proofs.Any.utf8_ValidString L ⟨s.toArray⟩ w (by have:=hc.1;show s.toArray.size<=_;simp;omega) (hT H ρ w hH)
end Go.EA
