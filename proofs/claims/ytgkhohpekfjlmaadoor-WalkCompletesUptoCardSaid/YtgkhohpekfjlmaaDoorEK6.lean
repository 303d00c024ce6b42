/- Texts. Conditions: none. -/
import Derived.Test.YtgkhohpekfjlmaaDoorEK4
import Derived.Below
import Derived.Shelf.Unicode.DecodeAny
import Derived.Test.YtgkhohpekfjlmaaDoorEK5
set_option linter.unusedVariables false
set_option linter.unusedSimpArgs false
section
namespace Go.EA
open Go.RowKit
structure Old (w w':World):Prop where
 sz:w.heap.size<=w'.heap.size
 os:w'.os=w.os
 tape:w'.tape=w.tape
 output:w'.output=w.output
 keep:∀k,k<w.heap.size->w'.heap[k]?=w.heap[k]?
section
variable {S:SC} {H:Heap} {ρ:Rho} {w w':World}
theorem aU.old (h:aU S H ρ w) (o:Old w w') (hdr:S.d0<=w'.drawn):aU S H ρ w'/\Frm H ρ w H ρ w':=by
 have hF:Frm H ρ w H ρ w':=⟨o.sz,o.os,o.tape,o.output,zJ _,fun _ _=>rfl,fun k hk hn=>⟨o.keep k hk,hn⟩,fun _ _ h=>h,fun _ _ _=>rfl⟩;refine⟨⟨fun i hi=>?_,h.ap,fun k ob hk=>let a:=h.fx k ob hk;let b:=hF.keep k (zQ.1 a.1).1 a.2;⟨b.1.trans a.1,b.2⟩,
  fun k ob hk=>let a:=h.fz k ob hk;let b:=hF.keep k (zQ.1 a.2.1).1 a.2.2;⟨a.1,b.1.trans a.2.1,b.2⟩,hdr⟩,hF⟩
 cases hd:live (H.o i) with
 | false=>
   have:H.o i=.dead:=by revert hd; cases H.o i <;> simp[live]
   rw[this];trivial
 |true=>rw[o.keep _ (h.lt' hi hd)];exact h.obj i hi
theorem Jz {w w':World}(h:Below w.heap.size w w'):Old w w':=⟨h.size,h.os,h.tape,h.output,h.block⟩
theorem EW {i:Nat}(h0:S.d0=0) (hent:∀args w,(callFunc (S.re i) args).run S.C.P w=.ok (.enter (S.re i) args) w) (g:GP)
 (hc:∀xs v c,g xs=some (v,c)->aO c->∀H ρ w vs,ah (aZ S ρ H.n) xs vs->aU S H ρ w->Calls S.C.P (S.re i) vs.toArray w fun e w'=>∃u,e=.returned u/\aZ S ρ H.n v u/\Below w.heap.size w w') :
 aG S i (az g):=by
 intro xs H v H' hp ρ w vs hvs hH;obtain⟨hHH,c,hg,hcc⟩:=wI hp;subst H';refine .inr (.inl ⟨_,_,w,ρ,hent _ _,rfl,rfl,?_⟩);refine(callsIn_wide.2 (hc xs v c hg hcc H ρ w vs hvs hH)).mono fun e w' hr=>?_
 obtain⟨u,rfl,hu,hb⟩:=hr;obtain⟨k1,k2⟩:=hH.old (Jz hb) (by rw[h0];exact Nat.zero_le _);exact⟨u,ρ,rfl,k1,k2,hu⟩
end
def dec (s:List UInt8):Nat×Nat:=if s.length=0 then (65533,0) else Utf8.decode ⟨s.toArray⟩ 0
def sO:GP
 |[.one (.str s)]=>some (.tup [.one (.int .i32 (dec s).1),.one (.int .i64 (dec s).2)],[])
 |_=>none
section
variable {S:SC}
theorem Qg {i:Nat}(h0:S.d0=0) (hent:∀args w,(callFunc (S.re i) args).run S.C.P w=.ok (.enter (S.re i) args) w) {ρl:Shelf.Ren}(hf:ρl.f 197=S.re i) (L:Proofs.Lays.n197 S.C.P ρl) (hT:∀H ρ w,aU S H ρ w->Lib.Utf8Tabs (ρl.g 3) (ρl.g 4) w):aG S i (az sO):=by
 refine EW h0 hent sO fun xs v c hg _ H ρ w vs hvs hH=>?_
 unfold sO at hg;split at hg
 .rename_i s;cases hg;obtain⟨u,us,rfl,hu,ht⟩:=hvs.cons_inv;obtain rfl:=ht.nil_inv;have hu:u=.string ⟨s.toArray⟩:=hu;subst hu;have:=Proofs.Any.utf8_DecodeRuneInString L ⟨s.toArray⟩ w (hT H ρ w hH);rw[hf] at this;refine Calls.mono this fun e w' h=>⟨_,h.1,?_,h.2⟩
  have hd:Lib.decodeGo ⟨s.toArray⟩=dec s:=by
   unfold Lib.decodeGo dec;rw[size_mk]
  rw[hd];exact .inr ⟨_,rfl,ah.cons rfl (ah.cons rfl ah.nil)⟩
 .cases hg
end
end Go.EA
end
section
namespace Go.EA
theorem bJ {s:List UInt8}(h:s≠[]):1<=(dec s).2/\(dec s).2<=s.length:=by
 have hl:0<s.length:=List.length_pos_iff.2 h;have hne:¬ s.length=0:=by omega
 unfold dec;rw[if_neg hne];unfold Utf8.decode;simp only[zH,decide_eq_true_eq,size_mk]
 repeat' split
 all_goals simp_all
 all_goals omega
def isR (s:List UInt8):Bool:=decide (((dec s).1:Int)≠65533)||decide (1<(dec s).2)
def jm:Nat->List UInt8->List (Int×Bool)
 |0,_=>[]
 |n+1,s=>if s=[] then [] else (((dec s).1:Int),isR s)::jm n (s.drop (dec s).2)
def runes (s:List UInt8):List (Int×Bool):=jm s.length s
theorem rf:∀(n m:Nat) (s:List UInt8),s.length<=n->s.length<=m->jm n s=jm m s
 | 0,m,s,h,_=>by
   have:s=[]:=zT (by omega);subst this;cases m <;> simp[jm]
 | n+1,0,s,_,h=>by
   have:s=[]:=zT (by omega);subst this;simp[jm]
 | n+1,m+1,s,h1,h2=>by
   simp only[jm];by_cases hs:s=[]
   .simp[hs]
   .rw[if_neg hs,if_neg hs];have hw:=bJ hs;rw[rf n m (s.drop (dec s).2) (by simp;omega) (by simp;omega)]
theorem jJ:runes []=[]:=rfl
theorem bX {s:List UInt8}(h:s≠[]):runes s=(((dec s).1:Int),isR s)::runes (s.drop (dec s).2):=by
 have hw:=bJ h;have hl:0<s.length:=List.length_pos_iff.2 h;unfold runes;cases hn:s.length with
 |zero=>omega
 | succ n=>
   simp only[jm];rw[if_neg h];rw[rf n (s.drop (dec s).2).length _ (by simp;omega) (zJ _)]
end Go.EA
namespace Go.EA
theorem ui:∀(n:Nat) (s:List UInt8),(jm n s).length<=s.length
 |0,s=>Nat.zero_le _
 | n+1,s=>by
   simp only[jm];by_cases hs:s=[]
   .simp[hs]
   .rw[if_neg hs];have hw:=bJ hs;have:=ui n (s.drop (dec s).2);simp only[zM,List.length_drop] at this ⊢;omega
theorem wC (s:List UInt8):(runes s).length<=s.length:=ui _ _
def dH (s:List UInt8):Bool:=(runes s).all (·.2)
def aJ (s:List UInt8):List Int:=if dH s then (runes s).map (·.1) else []
def bG (s:List UInt8):Int:=if dH s then 0 else 3
end Go.EA
end
section
namespace Go.EA
def byt (s:List UInt8) (k:Nat):Nat:=(s.getD k 0).toNat
def ct (s:List UInt8) (k:Nat):Bool:=decide (k<s.length)&&byt s k / 64 == 2
def xZ (s:List UInt8):Nat×Nat:=
 if byt s 0<0x80 then (byt s 0,1)
 else if byt s 0 / 32 == 6&&ct s 1 then
  if (byt s 0 % 32)*64+byt s 1 % 64 ≥ 0x80 then ((byt s 0 % 32)*64+byt s 1 % 64,2) else (65533,1)
 else if byt s 0 / 16 == 14&&ct s 1&&ct s 2 then
  if (byt s 0 % 16)*4096+(byt s 1 % 64)*64+byt s 2 % 64 ≥ 0x800&&Utf8.valid ((byt s 0 % 16)*4096+(byt s 1 % 64)*64+byt s 2 % 64:Nat) then ((byt s 0 % 16)*4096+(byt s 1 % 64)*64+byt s 2 % 64,3) else (65533,1)
 else if byt s 0 / 8 == 30&&ct s 1&&ct s 2&&ct s 3 then
  if (byt s 0 % 8)*262144+(byt s 1 % 64)*4096+(byt s 2 % 64)*64+byt s 3 % 64 ≥ 0x10000&&Utf8.valid ((byt s 0 % 8)*262144+(byt s 1 % 64)*4096+(byt s 2 % 64)*64+byt s 3 % 64:Nat) then ((byt s 0 % 8)*262144+(byt s 1 % 64)*4096+(byt s 2 % 64)*64+byt s 3 % 64,4) else (65533,1)
 else (65533,1)
theorem vz {s:List UInt8}(h:s≠[]):dec s=xZ s:=by
 have hl:¬ s.length=0:=fun e=>h (zT e)
 have hg:∀k,((⟨s.toArray⟩:ByteArray).get! k).toNat=byt s k:=by
  intro k;unfold byt
  congr 1
  show (s.toArray)[k]! = _;simp[zA]
  rfl
 unfold dec;rw[if_neg hl];unfold Utf8.decode xZ ct;simp only[Nat.zero_add,hg,size_mk]
 rfl
theorem FD {a b:List UInt8}{k:Nat}(h:k<a.length):byt (a++b) k=byt a k:=by
 unfold byt;rw[zA,zA,zV h]
theorem OL {a b:List UInt8}:byt (a++b) a.length=byt b 0:=by
 unfold byt;rw[zA,zA,List.getElem?_append_right (zJ _),Nat.sub_self]
theorem eT {s:List UInt8}{k:Nat}:ct s k=true↔k<s.length/\byt s k / 64=2:=by simp[ct]
theorem mQ {s:List UInt8}(h:s≠[]) (hr:isR s=true) :
 (byt s 0<0x80/\(dec s).2=1)\/(0x80<=byt s 0/\byt s 0 / 32=6/\ct s 1=true/\(dec s).2=2)\/(byt s 0 / 16=14/\ct s 1=true/\ct s 2=true/\(dec s).2=3)\/(byt s 0 / 8=30/\ct s 1=true/\ct s 2=true/\ct s 3=true/\(dec s).2=4):=by
 unfold isR at hr;rw[vz h] at hr ⊢;unfold xZ at hr ⊢;split at hr
 .rename_i h1;rw[if_pos h1];exact .inl ⟨h1,rfl⟩
 .rename_i h1;rw[if_neg h1];split at hr
  .rename_i h2;rw[if_pos h2];simp only[zH,beq_iff_eq] at h2;split at hr
   .rename_i h3;rw[if_pos h3];exact .inr (.inl ⟨by omega,h2.1,h2.2,rfl⟩)
   .simp at hr
  .rename_i h2;rw[if_neg h2];split at hr
   .rename_i h3;rw[if_pos h3];simp only[zH,beq_iff_eq] at h3;split at hr
    .rename_i h4;rw[if_pos h4];exact .inr (.inr (.inl ⟨h3.1.1,h3.1.2,h3.2,rfl⟩))
    .simp at hr
   .rename_i h3;rw[if_neg h3];split at hr
    .rename_i h4;rw[if_pos h4];simp only[zH,beq_iff_eq] at h4;split at hr
     .rename_i h5;rw[if_pos h5];exact .inr (.inr (.inr ⟨h4.1.1.1,h4.1.1.2,h4.1.2,h4.2,rfl⟩))
     .simp at hr
    .simp at hr
theorem Cm {s t:List UInt8}(hs:s≠[]) (ht:t≠[]) {n:Nat}(hn:n<=s.length) (hn2:n<=t.length) (hb:∀k,k<n->byt s k=byt t k)
 (h:(byt s 0<0x80/\n=1)\/(0x80<=byt s 0/\byt s 0 / 32=6/\ct s 1=true/\n=2)\/(byt s 0 / 16=14/\ct s 1=true/\ct s 2=true/\n=3)\/(byt s 0 / 8=30/\ct s 1=true/\ct s 2=true/\ct s 3=true/\n=4)):dec t=dec s:=by
 have hc:∀k,k<n->ct s k=true->ct t k=true:=fun k hk h=>by
  rw[eT] at h ⊢;rw[<- hb k hk];exact⟨by omega,h.2⟩
 rw[vz hs,vz ht];unfold xZ;rcases h with ⟨h1,rfl⟩ | ⟨h0,h1,h2,rfl⟩ | ⟨h1,h2,h3,rfl⟩ | ⟨h1,h2,h3,h4,rfl⟩
 .rw[<- hb 0 (by omega),if_pos h1,if_pos h1]
 .have c1:=hc 1 (by omega) h2;have n1:¬ byt s 0<0x80:=by omega
  simp only[<- hb 0 (by omega),<- hb 1 (by omega),n1,if_false,h1,h2,c1,Bool.and_true,beq_self_eq_true,if_true]
 .have c1:=hc 1 (by omega) h2;have c2:=hc 2 (by omega) h3;have n1:¬ byt s 0<0x80:=by omega
  have n2:(byt s 0 / 32 == 6)=false:=by rw[beq_eq_false_iff_ne];omega
  simp only[<- hb 0 (by omega),<- hb 1 (by omega),<- hb 2 (by omega),n1,n2,if_false,h1,h2,h3,c1,c2,Bool.and_true,Bool.false_and,beq_self_eq_true,if_true,Bool.false_eq_true]
 .have c1:=hc 1 (by omega) h2;have c2:=hc 2 (by omega) h3;have c3:=hc 3 (by omega) h4;have n1:¬ byt s 0<0x80:=by omega
  have n2:(byt s 0 / 32 == 6)=false:=by rw[beq_eq_false_iff_ne];omega
  have n3:(byt s 0 / 16 == 14)=false:=by rw[beq_eq_false_iff_ne];omega
  simp only[<- hb 0 (by omega),<- hb 1 (by omega),<- hb 2 (by omega),<- hb 3 (by omega),n1,n2,n3,if_false,h1,h2,h3,h4,c1,c2,c3,Bool.and_true,Bool.false_and,beq_self_eq_true,if_true,Bool.false_eq_true]
theorem Jn {s:List UInt8}(h:s≠[]):(dec s).2<=s.length:=(bJ h).2
theorem Fu {a b:List UInt8}(ha:a≠[]) (hr:isR a=true):dec (a++b)=dec a:=by
 have hw:=bJ ha;exact Cm ha (by simp[ha]) hw.2 (by rw[zL];omega) (fun k hk=>(FD (by omega)).symm) (mQ ha hr)
theorem Qs {a b:List UInt8}(ha:a≠[]) (hr:isR a=true):isR (a++b)=true:=by
 have:=Fu (b:=b) ha hr;unfold isR at hr ⊢;rw[this];exact hr
theorem Rk {a b:List UInt8}(ha:a≠[]) (hr:isR (a++b)=true) (hn:(dec (a++b)).2<=a.length):dec a=dec (a++b):=
 Cm (by simp[ha]) ha (by rw[zL];omega) hn (fun k hk=>FD (by omega)) (mQ (by simp[ha]) hr)
theorem Ru {b:List UInt8}(hb:b≠[]) (h:byt b 0 / 64=2):isR b=false:=by
 cases hr:isR b with
 |false=>rfl
 |true=>rcases mQ hb hr with h1 | h1 | h1 | h1 <;> omega
theorem Ny {a b:List UInt8}(ha:a≠[]) (hr:isR (a++b)=true) (hn:a.length<(dec (a++b)).2):b≠[]/\isR b=false:=by
 have hl:0<a.length:=List.length_pos_iff.2 ha;have hw:=Jn (s:=a++b) (by simp[ha]);have hb:b≠[]:=by rintro rfl;simp at hw hn;omega
 refine⟨hb,Ru hb ?_⟩;have hk:∀k,ct (a++b) k=true->k=a.length->byt b 0 / 64=2:=fun k hk e=>by
  subst e;have:=(eT.1 hk).2
  rwa [OL] at this
 rcases mQ (by simp[ha]) hr with ⟨_,h⟩ | ⟨_,_,c1,h⟩ | ⟨_,c1,c2,h⟩ | ⟨_,c1,c2,c3,h⟩
 .omega
 .exact hk 1 c1 (by omega)
 .rcases (by omega:a.length=1\/a.length=2) with e | e
  .exact hk 1 c1 e.symm
  .exact hk 2 c2 e.symm
 .rcases (by omega:a.length=1\/a.length=2\/a.length=3) with e | e | e
  .exact hk 1 c1 e.symm
  .exact hk 2 c2 e.symm
  .exact hk 3 c3 e.symm
theorem fE {s:List UInt8}(h:s≠[]):dH s=(isR s&&dH (s.drop (dec s).2)):=by
 unfold dH;rw[bX h];rfl
theorem qC:∀(n:Nat) {a b:List UInt8},a.length<=n->dH a=true->runes (a++b)=runes a++runes b
 |n,[],b,_,_=>by simp[jJ]
 |0,x::a,b,h,_=>by simp at h
 | n+1,x::a,b,h,hok=>by
   have ha:x::a≠[]:=by simp
   rw[fE ha,zH] at hok;have hw:=bJ ha;rw[bX (s:=(x::a)++b) (by simp),bX ha,Fu ha hok.1,Qs ha hok.1,hok.1,List.drop_append_of_le_length hw.2];rw[qC n (by rw[List.length_drop];simp at h ⊢;omega) hok.2]
   rfl
theorem vC:∀(n:Nat) {a b:List UInt8},a.length<=n->dH (a++b)=true->dH b=true->dH a=true
 |n,[],b,_,_,_=>by unfold dH;rw[jJ];rfl
 |0,x::a,b,h,_,_=>by simp at h
 | n+1,x::a,b,h,hab,hb=>by
   have ha:x::a≠[]:=by simp
   rw[fE (s:=(x::a)++b) (by simp),zH] at hab;rcases Nat.lt_or_ge (x::a).length (dec ((x::a)++b)).2 with h1 | h1
   .obtain⟨h2,h3⟩:=Ny ha hab.1 h1;rw[fE h2,h3] at hb;cases hb
   .have hd:=Rk ha hab.1 h1;have hr:isR (x::a)=true:=by have:=hab.1;unfold isR at this ⊢;rw[hd];exact this
    have hw:=bJ ha;rw[fE ha,hr,Bool.true_and];rw[<- hd,List.drop_append_of_le_length hw.2] at hab;exact vC n (by rw[List.length_drop];simp at h ⊢;omega) hab.2 hb
theorem fJ {s:List UInt8}:bG s=0↔dH s=true:=by unfold bG; split <;> simp_all
theorem Py (a b:List UInt8) (ha:bG a=0) (hb:bG b=0):bG (a++b)=0/\aJ (a++b)=aJ a++aJ b:=by
 rw[fJ] at ha hb;have h:=qC a.length (b:=b) (zJ _) ha;have hok:dH (a++b)=true:=by
  unfold dH at ha hb ⊢;rw[h,List.all_append,ha,hb];rfl
 refine⟨fJ.2 hok,?_⟩;unfold aJ;rw[hok,ha,hb,h];simp
theorem HZ (a b:List UInt8) (h:bG (a++b)=0):bG a=0↔bG b=0:=by
 rw[fJ] at h;rw[fJ,fJ];constructor
 .intro ha;have:=qC a.length (b:=b) (zJ _) ha;unfold dH at h ha ⊢;rw[this,List.all_append,ha] at h;simpa using h
 .exact vC a.length (zJ _) h
end Go.EA
end
section
namespace Go.EA
open Go.RowKit
theorem EX {X:Cx}(hap:∀i,X.ap i=none) (hpr:∀i p xs H v H',X.pr i=some p->p xs H=some (v,H')->H'=H) {f:AV}{xs:List AV}{H H':Heap}{v:AV}(h:fQ X (fun _ _ _=>none) f xs H=some (v,H')):H'=H:=by
 unfold fQ at h;split at h
 .split at h
  .rename_i p hp;split at h
   .exact hpr _ _ _ _ _ _ hp h
   .cases h
  .rw[hap] at h;cases h
 .split at h
  .split at h
   .cases h
   .cases h
  .cases h
 .cases h
theorem Eo {X:Cx}(hpr:∀i p xs H v H',X.pr i=some p->p xs H=some (v,H')->H.Hd->∀o,p xs (H.push o)=some (v,H.push o)) (hap:∀i,X.ap i=none) {f:Nat}{xs:List AV}{H H':Heap}{v:AV}(h:fQ X (fun _ _ _=>none) (.one (.fn f [])) xs H=some (v,H')) (hd:H.Hd) (o:AO) :
 fQ X (fun _ _ _=>none) (.one (.fn f [])) xs (H.push o)=some (v,H.push o):=by
 simp only[fQ] at h ⊢;split at h
 .rename_i p hp;simp only[List.isEmpty_nil,if_true] at h ⊢;exact hpr _ _ _ _ _ _ hp h hd o
 .rw[hap] at h;cases h
def Oc (W:World) (a b:Nat):Nat->Option Obj:=fun k=>if k=a then W.heap[k]? else if k=b then W.heap[k]? else none
theorem Rm {S:SC}{W:World}{a b:Nat}(hfx:S.fx=Oc W a b) (hU:Lib.Utf8Tabs a b W):∀H ρ w,aU S H ρ w->Lib.Utf8Tabs a b w:=by
 intro H ρ w hH;have key:∀k,k=a\/k=b->∀c v,W.cell? ⟨k,c,none⟩=some v->w.cell? ⟨k,c,none⟩=some v:=by
  intro k hk c v hv;cases ho:W.heap[k]? with
  |none=>simp[World.cell?,ho] at hv
  | some ob=>
    have:S.fx k=some ob:=by
     rw[hfx];unfold Oc;rcases hk with rfl | rfl
     .rw[if_pos rfl];exact ho
     .split
      .exact ho
      .rw[if_pos rfl];exact ho
    have h2:=(hH.fx k ob this).1;simp only[World.cell?,ho] at hv;simp only[World.cell?,h2];exact hv
 exact⟨fun c hc=>key a (.inl rfl) _ _ (hU.1 c hc),fun i hi=>⟨key b (.inr rfl) _ _ (hU.2 i hi).1,key b (.inr rfl) _ _ (hU.2 i hi).2⟩⟩
def vQ (W:World):Rho:=⟨fun _=>⟨0,0,0,0⟩,fun k=>match W.heap[k]? with | some (.cells C t f)=>some (.cells C t f) | _=>none⟩
theorem aaS {S:SC}{W:World}(hfx:∀k ob,S.fx k=some ob->W.heap[k]?=some ob) (hd:S.d0<=W.drawn):aU S (hl []) (vQ W) W:=
 ⟨fun i hi=>absurd hi (zS _),fun i j hi=>absurd hi (zS _),fun k ob hk=>⟨hfx k ob hk,fun i hi=>absurd hi (zS _)⟩,fun k ob hk=>(by
  have hk':(match W.heap[k]? with | some (.cells C t f)=>some (.cells C t f) | _=>none)=some ob:=hk;split at hk'
  .rename_i C t f ho;cases hk';exact⟨⟨C,t,f,rfl⟩,ho,fun i hi=>absurd hi (zS _)⟩
  .cases hk'),hd⟩
theorem HY {W:World}{a b:Nat}:∀k ob,Oc W a b k=some ob->W.heap[k]?=some ob:=by
 intro k ob h;unfold Oc at h;split at h
 .exact h
 .split at h
  .exact h
  .cases h
theorem Ls {S:SC}{f:Nat}{xs:List AV}{v:AV}(h:MF S f [] xs (hl []) fun v' _=>v'=v) {W:World}(hfx:∀k ob,S.fx k=some ob->W.heap[k]?=some ob) {vs:List Value}(hvs:ah (aZ S (vQ W) 0) xs vs) (hd:S.d0<=W.drawn:=by exact Nat.zero_le _) :
 Calls S.C.P (S.re f) vs.toArray W fun e w'=>∃u ρ' n',e=.returned u/\aZ S ρ' n' v u/\Below W.heap.size W w':=by
 have:=(h (vQ W) W vs (by simp) hvs (aaS hfx hd)).2;rw[show vs.toArray++(List.map (dU (vQ W)) ([]:List (Nat×Nat×Nat))).toArray=vs.toArray by simp] at this;refine(callsIn_wide.1 this).mono fun e w' hr=>?_
 obtain⟨_,H1,rfl,u,ρ',rfl,k1,k2,k3⟩:=hr;exact⟨u,ρ',_,rfl,k3,⟨k2.os,k2.tape,k2.output,k2.sz,fun k hk=>(k2.keep k hk fun i hi=>absurd hi (zS _)).1⟩⟩
end Go.EA
end
