/- Texts. Conditions: none. -/
import Derived.Test.YtgkhohpekfjlmaaDoorEArgs
import Derived.Test.YtgkhohpekfjlmaaDoorEK7
set_option linter.unusedVariables false
set_option linter.unusedSimpArgs false
section
namespace Go.EA
open Go.ChangeShapes Go.WideShapes Go.RowKit
def tyF:List Ty->Ty
 |[]=>.bool
 |[k]=>k
 |k::k'::r=>.pair k (tyF (k'::r))
def IsK:Ty->Lf->Prop
 |.int k,x=>∃z,x=.int k z
 |.bool,x=>∃b,x=.bool b
 |.str,x=>∃s,x=.str s
 |_,_=>False
theorem Nr:∀{ks:List Ty}{xs:List Lf},ah IsK ks xs->ks≠[]->∃x:(tyF ks).den,(tyF ks).enc x=xs
 |[],xs,h,h0=>absurd rfl h0
 |k::r,[],h,_=>by have:=h.1;simp at this
 | [k],x::xs,h,_=>by
   obtain⟨y,ys,e,h1,h2⟩:=h.cons_inv;cases e;obtain rfl:=h2.nil_inv;cases k with
   |int k=>obtain⟨z,rfl⟩:=h1;exact⟨z,rfl⟩
   |bool=>obtain⟨z,rfl⟩:=h1;exact⟨z,rfl⟩
   |str=>obtain⟨z,rfl⟩:=h1;exact⟨z,rfl⟩
   |pair a b=>exact h1.elim
   |row t=>exact h1.elim
 | k::k'::r,x::xs,h,_=>by
   obtain⟨y,ys,e,h1,h2⟩:=h.cons_inv;cases e;obtain⟨q,hq⟩:=Nr h2 (by simp);cases k with
   |int k=>obtain⟨z,rfl⟩:=h1;exact⟨(z,q),by show [Lf.int k z]++(tyF (k'::r)).enc q=_;rw[hq];rfl⟩
   |bool=>obtain⟨z,rfl⟩:=h1;exact⟨(z,q),by show [Lf.bool z]++(tyF (k'::r)).enc q=_;rw[hq];rfl⟩
   |str=>obtain⟨z,rfl⟩:=h1;exact⟨(z,q),by show [Lf.str z]++(tyF (k'::r)).enc q=_;rw[hq];rfl⟩
   |pair a b=>exact h1.elim
   |row t=>exact h1.elim
def jg:Ty->TypeDesc->Bool
 |.int k,.int k'=>decide (k=k')
 |.bool,.bool=>true
 |.str,.string=>true
 |_,_=>false
theorem Eo {k:IntKind}{d:TypeDesc}(h:jg (.int k) d=true):d=.int k:=by
 cases d <;> simp[jg] at h
 rw[h]
theorem Ad {d:TypeDesc}(h:jg .bool d=true):d=.bool:=by
 cases d <;> simp[jg] at h
 rfl
theorem EP {d:TypeDesc}(h:jg .str d=true):d=.string:=by
 cases d <;> simp[jg] at h
 rfl
def jT (P:Program):Nat->List Ty->List Field->Bool
 |_,[],[]=>true
 |i,k::ks,f::fs=>Nat.beq f.offset i&&Nat.beq (P.cellsOf f.type) 1&&(match P.underlying f.type with | some d=>jg k d | none=>false)&&jT P (i+1) ks fs
 |_,_,_=>false
def yj (P:Program) (e:TypeId) (ks:List Ty):Bool:=match P.underlying e with
 |some (.struct fs)=>jT P 0 ks fs.toList&&Nat.beq (P.cellsOf e) ks.length&&!ks.isEmpty
 |_=>false
theorem pF {P:Program}:∀{i:Nat}{ks:List Ty}{fs:List Field},jT P i ks fs=true->ks.length=fs.length/\∀j k f,ks[j]?=some k->fs[j]?=some f->f.offset=i+j/\P.cellsOf f.type=1/\∃d,P.underlying f.type=some d/\jg k d=true
 |i,[],[],_=>⟨rfl,fun j k f h=>by simp at h⟩
 |i,[],_::_,h=>by simp[jT] at h
 |i,_::_,[],h=>by simp[jT] at h
 | i,k::ks,f::fs,h=>by
   simp only[jT,zH] at h;obtain⟨⟨⟨h1,h2⟩,h3⟩,h4⟩:=h;obtain⟨g1,g2⟩:=pF h4;refine⟨by simp[g1],fun j k' f' hk hf=>?_⟩;cases j with
   | zero=>
     simp at hk hf;subst hk hf;refine⟨zC h1,zC h2,?_⟩;split at h3
     .rename_i d hd;exact⟨d,hd,h3⟩
     .cases h3
   | succ j=>
     simp at hk hf;obtain⟨a,b⟩:=g2 j k' f' hk hf;exact⟨by omega,b⟩
def uk {H:Type}:Lf->DataW H
 |.int k z=>.lit (.int k z)
 |.bool b=>.lit (.bool b)
 |.str s=>.lit (.string s)
 |_=>.nil
section
variable {S:SC} {P:Program} {W:World} {H:Type} {enc:TypeId×Value->H} {sp:Nat->Bool}
theorem DY {fz:Nat->Option Obj}{e:TypeId}{ks:List Ty}{fuel base:Nat}{held:Bool}{cs:List Value}{y:DataW H×List MemPlace}(hok:yj P e ks=true) (h:DataW.trod enc P W base sp held fuel e cs=some y) :
 cs.length=ks.length/\∃xs,ah IsK ks xs/\ah (bB S fz) xs cs/\y.1=.agg (xs.map uk):=by
 unfold yj at hok;split at hok
 .rename_i fs hu;simp only[zH] at hok;obtain⟨⟨h1,h2⟩,_⟩:=hok;obtain⟨g1,g2⟩:=pF h1;have h2:=zC h2;obtain⟨xs,n,_,hy0,hl,hlen,hf⟩:=DataW.trod_struct hu h;have hcl:cs.length=ks.length:=by rw[hl,h2]
  have each:∀j,j<ks.length->∃x,IsK (ks[j]?.getD .bool) x/\bB S fz x (cs[j]?.getD (.bool false))/\xs[j]?.map (·.1)=some (uk x):=by
   intro j hj;have hk:ks[j]?=some ks[j]:=zB hj;have hj2:j<fs.toList.length:=by omega
   have hfj:fs.toList[j]?=some fs.toList[j]:=zB hj2;obtain⟨ho,hc1,d,hd,hdk⟩:=g2 j _ _ hk hfj;rw[Nat.zero_add] at ho;have hfa:fs[j]?=some fs.toList[j]:=by rw[<- Array.getElem?_toList];exact hfj
   have:=hf j _ hfa;rw[ho,hc1] at this;have hx:∃x,xs[j]?=some x:=⟨xs[j]'(by rw[hlen];simpa using hj2),zB _⟩;obtain⟨x,hx⟩:=hx;rw[hx] at this;have hcj:j<cs.length:=by omega
   have hone:(cs.drop j).take 1=[cs[j]]:=by rw[List.drop_eq_getElem_cons hcj];rfl
   rw[hone] at this;rw[hk,zB hcj,hx];simp only[Option.getD_some,Option.map_some];cases hkk:ks[j] with
   | int k=>
     rw[hkk] at hdk;obtain rfl:=Eo hdk;obtain⟨z,hz,hq,_⟩:=DataW.trod_int hd this;simp at hz;exact⟨.int k z,⟨z,rfl⟩,hz,by rw[hq];rfl⟩
   | bool=>
     rw[hkk] at hdk;obtain rfl:=Ad hdk;obtain⟨z,hz,hq⟩:=DataW.trod_bool hd this;simp at hz;exact⟨.bool z,⟨z,rfl⟩,hz,by rw[hq];rfl⟩
   | str=>
     rw[hkk] at hdk;obtain rfl:=EP hdk;obtain⟨z,hz,hq,_⟩:=DataW.trod_string hd this;simp at hz;exact⟨.str z.data.toList,⟨_,rfl⟩,by rw[hz];show Value.string z=Value.string ⟨z.data.toList.toArray⟩;simp,by rw[hq];rfl⟩
   |pair a b=>rw[hkk] at hdk;simp[jg] at hdk
   |row t=>rw[hkk] at hdk;simp[jg] at hdk
  refine⟨hcl,?_⟩;have hxl:xs.length=ks.length:=by rw[hlen,g1];simp
  have key:∀(n:Nat),n<=ks.length->∃ys,ah IsK (ks.drop (ks.length-n)) ys/\ah (bB S fz) ys (cs.drop (ks.length-n))/\(xs.drop (ks.length-n)).map (·.1)=ys.map uk:=by
   intro n
   induction n with
   |zero=>intro _;exact⟨[],by rw[List.drop_of_length_le (by omega)];exact ah.nil,by rw[List.drop_of_length_le (by omega)];exact ah.nil,by rw[List.drop_of_length_le (by omega)];rfl⟩
   | succ n ih=>
     intro hn;obtain⟨ys,a1,a2,a3⟩:=ih (by omega);obtain⟨x,b1,b2,b3⟩:=each (ks.length-(n+1)) (by omega);have hj:ks.length-(n+1)<ks.length:=by omega
     have hj2:ks.length-(n+1)<cs.length:=by omega
     have hj3:ks.length-(n+1)<xs.length:=by omega
     rw[zB hj] at b1;rw[zB hj2] at b2;rw[zB hj3] at b3;simp only[Option.map_some,zE] at b3;refine⟨x::ys,?_,?_,?_⟩
     .rw[List.drop_eq_getElem_cons hj,show ks.length-(n+1)+1=ks.length-n by omega];exact ah.cons b1 a1
     .rw[List.drop_eq_getElem_cons hj2,show ks.length-(n+1)+1=ks.length-n by omega];exact ah.cons b2 a2
     .rw[List.drop_eq_getElem_cons hj3,show ks.length-(n+1)+1=ks.length-n by omega,zK,zK,a3,b3]
  obtain⟨ys,a1,a2,a3⟩:=key ks.length (zJ _);rw[Nat.sub_self,List.drop_zero] at a1 a2 a3;exact⟨ys,a1,a2,by rw[hy0,<- a3]⟩
 .cases hok
theorem CK {fz:Nat->Option Obj}{C:Array Value}:∀{xs:List Lf}{cs:List Value}{o:Nat},ah (bB S fz) xs cs->(∀j,j<cs.length->C[o+j]?=cs[j]?)->bN S fz C o xs
 |[],cs,o,h,hc=>trivial
 | x::xs,cs,o,h,hc=>by
   obtain⟨c,cs,rfl,h1,h2⟩:=h.cons_inv;refine⟨⟨c,by have:=hc 0 (by simp);simpa using this,h1⟩,CK h2 fun j hj=>?_⟩;have:=hc (j+1) (by simpa using hj);rw[show o+1+j=o+(j+1) by omega];simpa using this
end
end Go.EA
end
section
namespace Go.EA
open Go.ChangeShapes Go.WideShapes Go.RowKit
section
variable {S:SC} {P:Program} {W:World} {H:Type} {enc:TypeId×Value->H} {sp:Nat->Bool}
theorem Du {r:Reach}{b0:Nat}{t e:TypeId}{ks:List Ty}{v:Value}{d:DataW H}{ps:List MemPlace}
 (ht:P.underlying t=some (.slice e)) (hok:yj P e ks=true) (hval:Value.okWide P W r b0 t v) (hd:DataW.Trod enc P W 0 (fun _=>true) true t v d ps) :
 ∃zs:List (tyF ks).den,bf S (vE W) 0 (.one (.vrow (tyF ks).size (zs.map (tyF ks).enc))) v/\(zs=[]\/∃ds r,d=.slice ds r/\ds=zs.map fun x=>.agg (((tyF ks).enc x).map uk)):=by
 obtain⟨a,len,cap,rfl⟩:=okWide_slice ht hval;obtain⟨fuel,hf⟩:=hd;have hks:ks≠[]/\P.cellsOf e=ks.length:=by
  unfold yj at hok;split at hok
  .simp only[zH,Bool.not_eq_true',List.isEmpty_eq_false_iff] at hok;exact⟨hok.2,zC hok.1.2⟩
  .cases hok
 have hpos:0<ks.length:=List.length_pos_iff.2 hks.1;rcases DataW.trod_slice ht hf with ⟨h,_⟩ | ⟨a',len',cap',elems,rest,n,_,h,hx9,hb,hl,hm,hlen,hel,_,_⟩
 .simp only[Value.cells,zG,Value.slice.injEq,and_true] at h;obtain⟨rfl,rfl,rfl⟩:=h;exact⟨[],⟨none,0,rfl,zJ _,.inl rfl⟩,.inl rfl⟩
 .simp only[Value.cells,zG,Value.slice.injEq,and_true] at h;obtain⟨rfl,rfl,rfl⟩:=h;by_cases h0:len=0
  .subst h0;exact⟨[],⟨some a',cap,rfl,Nat.zero_le _,.inl rfl⟩,.inl rfl⟩
  have each:∀i,i<len->∃(x:(tyF ks).den) (cs:List Value),W.cells? 0 (a'.add (i*ks.length)) ks.length=some cs/\cs.length=ks.length/\ah (bB S (vE W).fz) ((tyF ks).enc x) cs/\elems[i]?.map (·.1)=some (.agg (((tyF ks).enc x).map uk)):=by
   intro i hi;have hE:=hel i hi;rw[zB (by omega:i<elems.length),Option.bind_eq_some_iff,hks.2] at hE;obtain⟨cs,h1,h2⟩:=hE;obtain⟨g1,xs,g2,g3,g4⟩:=DY (S:=S) (fz:=(vE W).fz) hok h2;obtain⟨x,rfl⟩:=Nr g2 hks.1;exact⟨x,cs,h1,g1,g3,by rw[zB (by omega:i<elems.length),Option.map_some,g4]⟩
  have hcell0:=each 0 (by omega);obtain⟨x0,cs0,hc0,hl0,_,_⟩:=hcell0;have hat0:=(World.cells?_some hc0).2.2 0 hpos;obtain⟨b,off,spot⟩:=a';have hx0:W.cell? ⟨b,off,spot⟩=cs0[0]?:=by simpa [Addr.add] using hat0
  rw[zB (by omega)] at hx0;have hcb:∃C ty fr,W.heap[b]?=some (.cells C ty fr)/\spot=none:=by
   unfold World.cell? at hx0;split at hx0
   .rename_i C ty fr hC;split at hx0
    .cases hx0
    .rename_i hs;exact⟨C,ty,fr,hC,by simpa using hs⟩
   .cases hx0
  obtain⟨C,ty,fr,hC,rfl⟩:=hcb;have each2:∀i,i<len->∃(x:(tyF ks).den),bN S (vE W).fz C (off+i*ks.length) ((tyF ks).enc x)/\elems[i]?.map (·.1)=some (.agg (((tyF ks).enc x).map uk)):=by
   intro i hi;obtain⟨x,cs,h1,h2,h3,h4⟩:=each i hi;refine⟨x,CK h3 fun j hj=>?_,h4⟩;have:=(World.cells?_some h1).2.2 j (by omega);rw[show ((⟨b,off,none⟩:Addr).add (i*ks.length)).add j=⟨b,off+i*ks.length+j,none⟩ by rw[addr_add,addr_add]] at this;unfold World.cell? at this;rw[hC] at this;simpa using this
  have hsz:(tyF ks).size=ks.length:=by
   obtain⟨x,cs,h1,h2,h3,_⟩:=each 0 (by omega);rw[<- Ty.enc_len (tyF ks) x,h3.1,h2]
  have rows:∀(n i:Nat),i+n=len->∃zs:List (tyF ks).den,zs.length=n/\fQ S (vE W).fz C (off+i*ks.length) (tyF ks).size (zs.map (tyF ks).enc)/\(elems.drop i).map (·.1)=zs.map fun x=>.agg (((tyF ks).enc x).map uk):=by
   intro n
   induction n with
   |zero=>intro i _;exact⟨[],rfl,trivial,by rw[List.drop_of_length_le (by omega)];rfl⟩
   | succ n ih=>
     intro i hi;obtain⟨x,hx,hx2⟩:=each2 i (by omega);obtain⟨zs,h1,h2,h3⟩:=ih (i+1) (by omega);have hie:i<elems.length:=by omega
     rw[zB hie,Option.map_some,zE] at hx2;refine⟨x::zs,by simp[h1],⟨Ty.enc_len _ _,hx,?_⟩,by rw[List.drop_eq_getElem_cons hie,zK,h3,hx2];rfl⟩;rw[hsz,show off+i*ks.length+ks.length=off+(i+1)*ks.length by rw[Nat.succ_mul];omega];rw[hsz] at h2;exact h2
  obtain⟨zs,h1,h2,h3⟩:=rows len 0 (by omega);refine⟨zs,⟨some ⟨b,off,none⟩,cap,by rw[zR,h1],by rw[zR,h1];exact hl,.inr ⟨b,off,C,ty,fr,rfl,?_,?_⟩⟩,.inr ⟨elems.map (·.1),rest.map (·.1),congrArg Prod.fst hx9,by rw[List.drop_zero] at h3;exact h3⟩⟩
  .show (match W.heap[b]? with | some (.cells C t f)=>some (Obj.cells C t f) | _=>none)=_;rw[hC]
  .rw[Nat.zero_mul,Nat.add_zero] at h2;exact h2
end
end Go.EA
end
