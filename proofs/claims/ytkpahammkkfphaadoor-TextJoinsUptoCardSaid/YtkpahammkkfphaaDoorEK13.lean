/- Texts. Conditions: none. -/
import Derived.Test.YtkpahammkkfphaaDoorEArgs
import Derived.Test.YtkpahammkkfphaaDoorEK7
set_option linter.unusedVariables false
set_option linter.unusedSimpArgs false
section
namespace Go.EA
open Go.ChangeShapes Go.WideShapes Go.RowKit
def gL:Ty->TypeDesc->Bool
 |.int k,.int k'=>decide (k=k')
 |.bool,.bool=>true
 |.str,.string=>true
 |_,_=>false
theorem xz {k:IntKind}{d:TypeDesc}(h:gL (.int k) d=true):d=.int k:=by
 cases d <;> simp[gL] at h
 rw[h]
theorem tJ {d:TypeDesc}(h:gL .bool d=true):d=.bool:=by
 cases d <;> simp[gL] at h
 rfl
theorem xK {d:TypeDesc}(h:gL .str d=true):d=.string:=by
 cases d <;> simp[gL] at h
 rfl
section
variable {S:SC} {P:Program} {W:World} {H:Type} {enc:TypeId×Value->H} {sp:Nat->Bool}
theorem vN {fz:Nat->Option Obj}{C:Array Value}:∀{xs:List Lf}{cs:List Value}{o:Nat},ae (aV S fz) xs cs->(∀j,j<cs.length->C[o+j]?=cs[j]?)->bz S fz C o xs
 |[],cs,o,h,hc=>trivial
 | x::xs,cs,o,h,hc=>by
   obtain⟨c,cs,rfl,h1,h2⟩:=h.cons_inv;refine⟨⟨c,by have:=hc 0 (by simp);simpa using this,h1⟩,vN h2 fun j hj=>?_⟩;have:=hc (j+1) (by simpa using hj);rw[show o+1+j=o+(j+1) by omega];simpa using this
end
end Go.EA
end
section
namespace Go.EA
open Go.ChangeShapes Go.WideShapes Go.RowKit
def SmT (n:Nat):(t:Ty)->t.den->Prop
 |.str,s=>List.length (α:=UInt8) s<=n
 |.pair a b,x=>SmT n a x.1/\SmT n b x.2
 |.row t,l=>List.length (α:=t.den) l<=n/\∀x:t.den,x∈(l:List t.den)->SmT n t x
 |.int k,z=>(Lit.int k z).wf=true
 |.bool,_=>True
theorem SmT.mono {m n:Nat}(h:m<=n):∀(t:Ty) {x:t.den},SmT m t x->SmT n t x
 |.str,s,hs=>Nat.le_trans hs h
 |.pair a b,x,hs=>⟨SmT.mono h a hs.1,SmT.mono h b hs.2⟩
 |.row t,l,hs=>⟨Nat.le_trans hs.1 h,fun x hx=>SmT.mono h t (hs.2 x hx)⟩
 |.int _,_,hs=>hs
 |.bool,_,_=>trivial
def qo (P:Program) (ok:Ty->TypeId->Bool):Nat->Ty->List Field->Bool
 |_,_,[]=>false
 |o,t,[f]=>Nat.beq f.offset o&&Nat.beq (P.cellsOf f.type) t.size&&ok t f.type
 |o,t,f::f'::fs=>match t with
  |.pair a b=>Nat.beq f.offset o&&Nat.beq (P.cellsOf f.type) a.size&&ok a f.type&&qo P ok (o+a.size) b (f'::fs)
  |_=>false
def okT (P:Program):Nat->Ty->TypeId->Bool
 |0,_,_=>false
 |n+1,t,e=>match P.underlying e with
  |some (.struct fs)=>qo P (okT P n) 0 t fs.toList&&Nat.beq (P.cellsOf e) t.size
  |some (.slice e')=>match t with
   |.row t'=>okT P n t' e'&&Nat.beq (P.cellsOf e') t'.size
   |_=>false
  |some d=>gL t d
  |none=>false
theorem tY {t:Ty}{d:TypeDesc}(h:gL t d=true):(∃k,t=.int k/\d=.int k)\/(t=.bool/\d=.bool)\/(t=.str/\d=.string):=by
 cases t with
 |int k=>exact .inl ⟨k,rfl,xz h⟩
 |bool=>exact .inr (.inl ⟨rfl,tJ h⟩)
 |str=>exact .inr (.inr ⟨rfl,xK h⟩)
 |pair a b=>simp[gL] at h
 |row t=>simp[gL] at h
theorem Ty.size_pos:∀t:Ty,0<t.size
 |.int _ | .bool | .str | .row _=>Nat.one_pos
 |.pair a b=>by have:=Ty.size_pos a;simp only[Ty.size];omega
section
variable {S:SC} {P:Program} {W:World} {H:Type} {enc:TypeId×Value->H} {held:Bool} {bulk:DataW H->Nat}
structure GZ (bulk:DataW H->Nat):Prop where
 str:∀s:List UInt8,s.length<=bulk (.lit (.string s))
 agg:∀(ds:List (DataW H)) (d:DataW H),d∈ds->bulk d<=bulk (.agg ds)
 len:∀ds r:List (DataW H),ds.length<=bulk (.slice ds r)
 el:∀(ds r:List (DataW H)) (d:DataW H),d∈ds->bulk d<=bulk (.slice ds r)
theorem tC {ok:Ty->TypeId->Bool}{D:List (DataW H)}{cs:List Value}(hB:GZ bulk):∀(l:List Field) {o:Nat}{t:Ty},qo P ok o t l=true->
 (∀f∈l,∀t,ok t f.type=true->∃x:t.den,ae (aV S (nI W).fz) (t.enc x) ((cs.drop f.offset).take (P.cellsOf f.type))/\∃d∈D,SmT (bulk d) t x)->
 ∃x:t.den,ae (aV S (nI W).fz) (t.enc x) ((cs.drop o).take t.size)/\SmT (bulk (.agg D)) t x
 |[],o,t,h,_=>by simp[qo] at h
 | [f],o,t,h,hf=>by
   simp only[qo,zH] at h;obtain⟨⟨h1,h2⟩,h3⟩:=h;obtain⟨x,hx,d,hd,hs⟩:=hf f (List.mem_cons_self ..) t h3;rw[zC h1,zC h2] at hx;exact⟨x,hx,SmT.mono (hB.agg _ _ hd) _ hs⟩
 | f::f'::fs,o,t,h,hf=>by
   cases t with
   | pair a b=>
     simp only[qo,zH] at h;obtain⟨⟨⟨h1,h2⟩,h3⟩,h4⟩:=h;obtain⟨x,hx,d,hd,hs⟩:=hf f (List.mem_cons_self ..) a h3;rw[zC h1,zC h2] at hx;obtain⟨y,hy,hs2⟩:=tC hB (f'::fs) h4 fun f hf'=>hf f (List.mem_cons_of_mem _ hf')
     refine⟨(x,y),?_,SmT.mono (hB.agg _ _ hd) _ hs,hs2⟩;show ae _ (a.enc x++b.enc y) ((cs.drop o).take (a.size+b.size));rw[List.take_add,List.drop_drop];exact hx.append hy
   |int k=>simp[qo] at h
   |bool=>simp[qo] at h
   |str=>simp[qo] at h
   |row t=>simp[qo] at h
theorem Ec (hB:GZ bulk):∀(n:Nat) {t:Ty}{e:TypeId}{fuel:Nat}{cs:List Value}{y:DataW H×List MemPlace},okT P n t e=true->DataW.trod enc P W 0 (fun _=>true) held fuel e cs=some y->
 ∃x:t.den,ae (aV S (nI W).fz) (t.enc x) cs/\SmT (bulk y.1) t x
 |0,t,e,fuel,cs,y,h,_=>by simp[okT] at h
 | n+1,t,e,fuel,cs,y,hok,hf=>by
   unfold okT at hok;split at hok
   ·rename_i fs hu;simp only[zH] at hok;obtain⟨h1,h2⟩:=hok;obtain⟨xs,m,_,rfl,hl,hlen,hg⟩:=DataW.trod_struct hu hf;have:=tC (S:=S) (W:=W) (cs:=cs) (D:=xs.map (·.1)) hB fs.toList h1 (fun f hf' t ht=>by
     obtain⟨i,hi,rfl⟩:=List.mem_iff_getElem.1 hf';have hi':i<fs.size:=by simpa using hi
     have hfa:fs[i]?=some fs.toList[i]:=by rw[<- Array.getElem?_toList];exact zB hi
     have hq:=hg i _ hfa;have hx:i<xs.length:=by rw[hlen];exact hi'
     rw[zB hx] at hq;obtain⟨x,hx1,hx2⟩:=Ec hB n ht hq;exact⟨x,hx1,_,List.mem_map_of_mem (List.getElem_mem hx),hx2⟩)
    obtain⟨x,hx1,hx2⟩:=this;refine⟨x,?_,hx2⟩;rw[List.drop_zero,List.take_of_length_le (by rw[hl,zC h2];exact zJ _)] at hx1;exact hx1
   .rename_i e' hu;split at hok
    .rename_i t';simp only[zH] at hok;obtain⟨h1,h2⟩:=hok;have h2:=zC h2;rcases DataW.trod_slice hu hf with ⟨rfl,_⟩ | ⟨a',len,cap,elems,rest,m,_,rfl,rfl,hb,hl,hm,hlen,hel,_,_⟩
     .exact⟨[],ae.cons ⟨none,0,rfl,zJ _,.inl rfl⟩ ae.nil,Nat.zero_le _,fun x hx=>by cases hx⟩
     .by_cases h0:len=0
      .subst h0;exact⟨[],ae.cons ⟨some a',cap,rfl,Nat.zero_le _,.inl rfl⟩ ae.nil,Nat.zero_le _,fun x hx=>by cases hx⟩
      have hpos:=Ty.size_pos t';have each:∀i,i<len->∃(x:t'.den) (cs:List Value),W.cells? 0 (a'.add (i*t'.size)) t'.size=some cs/\cs.length=t'.size/\ae (aV S (nI W).fz) (t'.enc x) cs/\∃d∈elems.map (·.1),SmT (bulk d) t' x:=by
       intro i hi;have hE:=hel i hi;rw[zB (by omega:i<elems.length),Option.bind_eq_some_iff,h2] at hE;obtain⟨cs,k1,k2⟩:=hE;obtain⟨x,g1,g2⟩:=Ec hB n h1 k2;exact⟨x,cs,k1,by rw[<- g1.1,Ty.enc_len],g1,_,List.mem_map_of_mem (List.getElem_mem (by omega:i<elems.length)),g2⟩
      obtain⟨x0,cs0,hc0,hl0,_,_⟩:=each 0 (by omega);have hat0:=(World.cells?_some hc0).2.2 0 hpos;obtain⟨b,off,spot⟩:=a';have hx0:W.cell? ⟨b,off,spot⟩=cs0[0]?:=by simpa [Addr.add] using hat0
      rw[zB (by omega)] at hx0;have hcb:∃C ty fr,W.heap[b]?=some (.cells C ty fr)/\spot=none:=by
       unfold World.cell? at hx0;split at hx0
       .rename_i C ty fr hC;split at hx0
        .cases hx0
        .rename_i hs;exact⟨C,ty,fr,hC,by simpa using hs⟩
       .cases hx0
      obtain⟨C,ty,fr,hC,rfl⟩:=hcb;have each2:∀i,i<len->∃(x:t'.den),bz S (nI W).fz C (off+i*t'.size) (t'.enc x)/\∃d∈elems.map (·.1),SmT (bulk d) t' x:=by
       intro i hi;obtain⟨x,cs,k1,k2,k3,k4⟩:=each i hi;refine⟨x,vN k3 fun j hj=>?_,k4⟩;have:=(World.cells?_some k1).2.2 j (by omega);rw[show ((⟨b,off,none⟩:Addr).add (i*t'.size)).add j=⟨b,off+i*t'.size+j,none⟩ by rw[addr_add,addr_add]] at this;unfold World.cell? at this;rw[hC] at this;simpa using this
      have rows:∀(q i:Nat),i+q=len->∃zs:List t'.den,zs.length=q/\eG S (nI W).fz C (off+i*t'.size) t'.size (zs.map t'.enc)/\∀x∈zs,∃d∈elems.map (·.1),SmT (bulk d) t' x:=by
       intro q
       induction q with
       |zero=>intro i _;exact⟨[],rfl,trivial,fun x hx=>by cases hx⟩
       | succ q ih=>
         intro i hi;obtain⟨x,hx,hx2⟩:=each2 i (by omega);obtain⟨zs,k1,k2,k3⟩:=ih (i+1) (by omega);refine⟨x::zs,by simp[k1],⟨Ty.enc_len _ _,hx,?_⟩,fun z hz=>?_⟩
         .rw[show off+i*t'.size+t'.size=off+(i+1)*t'.size by rw[Nat.succ_mul];omega];exact k2
         .rcases List.mem_cons.1 hz with rfl | hz
          .exact hx2
          .exact k3 z hz
      obtain⟨zs,k1,k2,k3⟩:=rows len 0 (by omega);refine⟨zs,ae.cons ⟨some ⟨b,off,none⟩,cap,by rw[zR,k1],by rw[zR,k1];exact hl,.inr ⟨b,off,C,ty,fr,rfl,?_,?_⟩⟩ ae.nil,?_,fun x hx=>?_⟩
      .show (match W.heap[b]? with | some (.cells C t f)=>some (Obj.cells C t f) | _=>none)=_;rw[hC]
      .rw[Nat.zero_mul,Nat.add_zero] at k2;exact k2
      ·rw[k1,<- hlen];have:=hB.len (elems.map (·.1)) (rest.map (·.1));rw[zR] at this;exact this
      .obtain⟨d,hd,hs⟩:=k3 x hx;exact SmT.mono (hB.el _ _ _ hd) _ hs
    .cases hok
   .rename_i d _ _ hu;rcases tY hok with ⟨k,rfl,rfl⟩ | ⟨rfl,rfl⟩ | ⟨rfl,rfl⟩
    .obtain⟨z,rfl,hq,hwf⟩:=DataW.trod_int hu hf;exact⟨z,ae.cons rfl ae.nil,hwf⟩
    .obtain⟨z,rfl,hq⟩:=DataW.trod_bool hu hf;exact⟨z,ae.cons rfl ae.nil,trivial⟩
    .obtain⟨z,rfl,hq,_⟩:=DataW.trod_string hu hf;refine⟨z.data.toList,ae.cons ?_ ae.nil,?_⟩
     .show Value.string z=Value.string ⟨z.data.toList.toArray⟩;simp
     .rw[hq];exact hB.str _
   .cases hok
theorem Ef {ρ:Rho}{n:Nat}:∀(t:Ty) {x:t.den}{cs:List Value},ae (aV S ρ.fz) (t.enc x) cs->ae (aA S ρ n) (t.enc x) cs
 |.int k,x,cs,h=>by obtain⟨c,cs,rfl,h1,h2⟩:=h.cons_inv;exact ae.cons h1 (by rw[h2.nil_inv];exact ae.nil)
 |.bool,x,cs,h=>by obtain⟨c,cs,rfl,h1,h2⟩:=h.cons_inv;exact ae.cons h1 (by rw[h2.nil_inv];exact ae.nil)
 |.str,x,cs,h=>by obtain⟨c,cs,rfl,h1,h2⟩:=h.cons_inv;exact ae.cons h1 (by rw[h2.nil_inv];exact ae.nil)
 |.row t,x,cs,h=>by obtain⟨c,cs,rfl,h1,h2⟩:=h.cons_inv;exact ae.cons h1 (by rw[h2.nil_inv];exact ae.nil)
 | .pair a b,x,cs,h=>by
   have h:ae (aV S ρ.fz) (a.enc x.1++b.enc x.2) cs:=h;have e:=(List.take_append_drop (a.enc x.1).length cs).symm;have h1:=h.take (a.enc x.1).length;have h2:=h.drop (a.enc x.1).length;rw[List.take_left] at h1;rw[List.drop_left] at h2;rw[e];exact(Ef a h1).append (Ef b h2)
theorem Gm {r:Reach}{b0 n:Nat}{t:TypeId}{T:Ty}{fs:Array Field}{v:Value}{d:DataW H}{ps:List MemPlace}(hB:GZ bulk) (hu:P.underlying t=some (.struct fs)) (hok:okT P n T t=true) (hval:Value.okWide P W r b0 t v) (hd:DataW.Trod enc P W 0 (fun _=>true) true t v d ps) :
 ∃x:T.den,aN S (nI W) 0 (.agg (T.enc x)) v/\SmT (bulk d) T x:=by
 obtain⟨fuel,hf⟩:=hd;obtain⟨cs,rfl,_⟩:=okWide_struct hu hval;obtain⟨x,h1,h2⟩:=Ec (S:=S) hB n hok hf;exact⟨x,⟨cs,rfl,Ef T h1⟩,h2⟩
end
end Go.EA
end
