/- Texts. Conditions: none. -/
import Derived.Test.YtgkhohpekfjlmaaDoorEK4
import Derived.Below
import Derived.Shelf.Unicode.DecodeAny
import Derived.Test.YtgkhohpekfjlmaaDoorEK5
set_option linter.unusedVariables false
set_option linter.unusedSimpArgs false
section
namespace Go.EA
open Go.RowKit
structure Old (w w':World):Prop where
 sz:w.heap.size<=w'.heap.size
 os:w'.os=w.os
 tape:w'.tape=w.tape
 output:w'.output=w.output
 keep:∀k,k<w.heap.size->w'.heap[k]?=w.heap[k]?
section
variable {S:SC} {H:Heap} {ρ:Rho} {w w':World}
theorem aV.old (h:aV S H ρ w) (o:Old w w') (hdr:S.d0<=w'.drawn):aV S H ρ w'/\Frm H ρ w H ρ w':=by
 have hF:Frm H ρ w H ρ w':=⟨o.sz,o.os,o.tape,o.output,zJ _,fun _ _=>rfl,fun k hk hn=>⟨o.keep k hk,hn⟩,fun _ _ h=>h,fun _ _ _=>rfl⟩;refine⟨⟨fun i hi=>?_,h.ap,fun k ob hk=>let a:=h.fx k ob hk;let b:=hF.keep k (zQ.1 a.1).1 a.2;⟨b.1.trans a.1,b.2⟩,
  fun k ob hk=>let a:=h.fz k ob hk;let b:=hF.keep k (zQ.1 a.2.1).1 a.2.2;⟨a.1,b.1.trans a.2.1,b.2⟩,hdr⟩,hF⟩
 cases hd:live (H.o i) with
 | false=>
   have:H.o i=.dead:=by revert hd; cases H.o i <;> simp[live]
   rw[this];trivial
 |true=>rw[o.keep _ (h.lt' hi hd)];exact h.obj i hi
theorem Jr {w w':World}(h:Below w.heap.size w w'):Old w w':=⟨h.size,h.os,h.tape,h.output,h.block⟩
theorem uw {i:Nat}(h0:S.d0=0) (hent:∀args w,(callFunc (S.re i) args).run S.C.P w=.ok (.enter (S.re i) args) w) (g:GP)
 (hc:∀xs v c,g xs=some (v,c)->aS c->∀H ρ w vs,ah (bf S ρ H.n) xs vs->aV S H ρ w->Calls S.C.P (S.re i) vs.toArray w fun e w'=>∃u,e=.returned u/\bf S ρ H.n v u/\Below w.heap.size w w') :
 aN S i (az g):=by
 intro xs H v H' hp ρ w vs hvs hH;obtain⟨hHH,c,hg,hcc⟩:=vV hp;subst H';refine .inr (.inl ⟨_,_,w,ρ,hent _ _,rfl,rfl,?_⟩);refine(callsIn_wide.2 (hc xs v c hg hcc H ρ w vs hvs hH)).mono fun e w' hr=>?_
 obtain⟨u,rfl,hu,hb⟩:=hr;obtain⟨k1,k2⟩:=hH.old (Jr hb) (by rw[h0];exact Nat.zero_le _);exact⟨u,ρ,rfl,k1,k2,hu⟩
end
def dec (s:List UInt8):Nat×Nat:=if s.length=0 then (65533,0) else Utf8.decode ⟨s.toArray⟩ 0
def tF:GP
 |[.one (.str s)]=>some (.tup [.one (.int .i32 (dec s).1),.one (.int .i64 (dec s).2)],[])
 |_=>none
section
variable {S:SC}
theorem RP {i:Nat}(h0:S.d0=0) (hent:∀args w,(callFunc (S.re i) args).run S.C.P w=.ok (.enter (S.re i) args) w) {ρl:Shelf.Ren}(hf:ρl.f 197=S.re i) (L:Proofs.Lays.n197 S.C.P ρl) (hT:∀H ρ w,aV S H ρ w->Lib.Utf8Tabs (ρl.g 3) (ρl.g 4) w):aN S i (az tF):=by
 refine uw h0 hent tF fun xs v c hg _ H ρ w vs hvs hH=>?_
 unfold tF at hg;split at hg
 .rename_i s;cases hg;obtain⟨u,us,rfl,hu,ht⟩:=hvs.cons_inv;obtain rfl:=ht.nil_inv;have hu:u=.string ⟨s.toArray⟩:=hu;subst hu;have:=Proofs.Any.utf8_DecodeRuneInString L ⟨s.toArray⟩ w (hT H ρ w hH);rw[hf] at this;refine Calls.mono this fun e w' h=>⟨_,h.1,?_,h.2⟩
  have hd:Lib.decodeGo ⟨s.toArray⟩=dec s:=by
   unfold Lib.decodeGo dec;rw[size_mk]
  rw[hd];exact .inr ⟨_,rfl,ah.cons rfl (ah.cons rfl ah.nil)⟩
 .cases hg
end
end Go.EA
end
section
namespace Go.EA
theorem bI {s:List UInt8}(h:s≠[]):1<=(dec s).2/\(dec s).2<=s.length:=by
 have hl:0<s.length:=List.length_pos_iff.2 h;have hne:¬ s.length=0:=by omega
 unfold dec;rw[if_neg hne];unfold Utf8.decode;simp only[zH,decide_eq_true_eq,size_mk]
 repeat' split
 all_goals simp_all
 all_goals omega
def isR (s:List UInt8):Bool:=decide (((dec s).1:Int)≠65533)||decide (1<(dec s).2)
def jo:Nat->List UInt8->List (Int×Bool)
 |0,_=>[]
 |n+1,s=>if s=[] then [] else (((dec s).1:Int),isR s)::jo n (s.drop (dec s).2)
def runes (s:List UInt8):List (Int×Bool):=jo s.length s
theorem qZ:∀(n m:Nat) (s:List UInt8),s.length<=n->s.length<=m->jo n s=jo m s
 | 0,m,s,h,_=>by
   have:s=[]:=zT (by omega);subst this;cases m <;> simp[jo]
 | n+1,0,s,_,h=>by
   have:s=[]:=zT (by omega);subst this;simp[jo]
 | n+1,m+1,s,h1,h2=>by
   simp only[jo];by_cases hs:s=[]
   .simp[hs]
   .rw[if_neg hs,if_neg hs];have hw:=bI hs;rw[qZ n m (s.drop (dec s).2) (by simp;omega) (by simp;omega)]
theorem jU:runes []=[]:=rfl
theorem bV {s:List UInt8}(h:s≠[]):runes s=(((dec s).1:Int),isR s)::runes (s.drop (dec s).2):=by
 have hw:=bI h;have hl:0<s.length:=List.length_pos_iff.2 h;unfold runes;cases hn:s.length with
 |zero=>omega
 | succ n=>
   simp only[jo];rw[if_neg h];rw[qZ n (s.drop (dec s).2).length _ (by simp;omega) (zJ _)]
end Go.EA
namespace Go.EA
theorem sP:∀(n:Nat) (s:List UInt8),(jo n s).length<=s.length
 |0,s=>Nat.zero_le _
 | n+1,s=>by
   simp only[jo];by_cases hs:s=[]
   .simp[hs]
   .rw[if_neg hs];have hw:=bI hs;have:=sP n (s.drop (dec s).2);simp only[zM,List.length_drop] at this ⊢;omega
theorem Jm (s:List UInt8):(runes s).length<=s.length:=sP _ _
def dD (s:List UInt8):Bool:=(runes s).all (·.2)
def aK (s:List UInt8):List Int:=if dD s then (runes s).map (·.1) else []
def bH (s:List UInt8):Int:=if dD s then 0 else 3
end Go.EA
end
section
namespace Go.EA
def byt (s:List UInt8) (k:Nat):Nat:=(s.getD k 0).toNat
def ct (s:List UInt8) (k:Nat):Bool:=decide (k<s.length)&&byt s k / 64 == 2
def yw (s:List UInt8):Nat×Nat:=
 if byt s 0<0x80 then (byt s 0,1)
 else if byt s 0 / 32 == 6&&ct s 1 then
  if (byt s 0 % 32)*64+byt s 1 % 64 ≥ 0x80 then ((byt s 0 % 32)*64+byt s 1 % 64,2) else (65533,1)
 else if byt s 0 / 16 == 14&&ct s 1&&ct s 2 then
  if (byt s 0 % 16)*4096+(byt s 1 % 64)*64+byt s 2 % 64 ≥ 0x800&&Utf8.valid ((byt s 0 % 16)*4096+(byt s 1 % 64)*64+byt s 2 % 64:Nat) then ((byt s 0 % 16)*4096+(byt s 1 % 64)*64+byt s 2 % 64,3) else (65533,1)
 else if byt s 0 / 8 == 30&&ct s 1&&ct s 2&&ct s 3 then
  if (byt s 0 % 8)*262144+(byt s 1 % 64)*4096+(byt s 2 % 64)*64+byt s 3 % 64 ≥ 0x10000&&Utf8.valid ((byt s 0 % 8)*262144+(byt s 1 % 64)*4096+(byt s 2 % 64)*64+byt s 3 % 64:Nat) then ((byt s 0 % 8)*262144+(byt s 1 % 64)*4096+(byt s 2 % 64)*64+byt s 3 % 64,4) else (65533,1)
 else (65533,1)
theorem uz {s:List UInt8}(h:s≠[]):dec s=yw s:=by
 have hl:¬ s.length=0:=fun e=>h (zT e)
 have hg:∀k,((⟨s.toArray⟩:ByteArray).get! k).toNat=byt s k:=by
  intro k;unfold byt
  congr 1
  show (s.toArray)[k]! = _;simp[zA]
  rfl
 unfold dec;rw[if_neg hl];unfold Utf8.decode yw ct;simp only[Nat.zero_add,hg,size_mk]
 rfl
theorem FW {a b:List UInt8}{k:Nat}(h:k<a.length):byt (a++b) k=byt a k:=by
 unfold byt;rw[zA,zA,zV h]
theorem Le {a b:List UInt8}:byt (a++b) a.length=byt b 0:=by
 unfold byt;rw[zA,zA,List.getElem?_append_right (zJ _),Nat.sub_self]
theorem eF {s:List UInt8}{k:Nat}:ct s k=true↔k<s.length/\byt s k / 64=2:=by simp[ct]
theorem mI {s:List UInt8}(h:s≠[]) (hr:isR s=true) :
 (byt s 0<0x80/\(dec s).2=1)\/(0x80<=byt s 0/\byt s 0 / 32=6/\ct s 1=true/\(dec s).2=2)\/(byt s 0 / 16=14/\ct s 1=true/\ct s 2=true/\(dec s).2=3)\/(byt s 0 / 8=30/\ct s 1=true/\ct s 2=true/\ct s 3=true/\(dec s).2=4):=by
 unfold isR at hr;rw[uz h] at hr ⊢;unfold yw at hr ⊢;split at hr
 .rename_i h1;rw[if_pos h1];exact .inl ⟨h1,rfl⟩
 .rename_i h1;rw[if_neg h1];split at hr
  .rename_i h2;rw[if_pos h2];simp only[zH,beq_iff_eq] at h2;split at hr
   .rename_i h3;rw[if_pos h3];exact .inr (.inl ⟨by omega,h2.1,h2.2,rfl⟩)
   .simp at hr
  .rename_i h2;rw[if_neg h2];split at hr
   .rename_i h3;rw[if_pos h3];simp only[zH,beq_iff_eq] at h3;split at hr
    .rename_i h4;rw[if_pos h4];exact .inr (.inr (.inl ⟨h3.1.1,h3.1.2,h3.2,rfl⟩))
    .simp at hr
   .rename_i h3;rw[if_neg h3];split at hr
    .rename_i h4;rw[if_pos h4];simp only[zH,beq_iff_eq] at h4;split at hr
     .rename_i h5;rw[if_pos h5];exact .inr (.inr (.inr ⟨h4.1.1.1,h4.1.1.2,h4.1.2,h4.2,rfl⟩))
     .simp at hr
    .simp at hr
theorem AQ {s t:List UInt8}(hs:s≠[]) (ht:t≠[]) {n:Nat}(hn:n<=s.length) (hn2:n<=t.length) (hb:∀k,k<n->byt s k=byt t k)
 (h:(byt s 0<0x80/\n=1)\/(0x80<=byt s 0/\byt s 0 / 32=6/\ct s 1=true/\n=2)\/(byt s 0 / 16=14/\ct s 1=true/\ct s 2=true/\n=3)\/(byt s 0 / 8=30/\ct s 1=true/\ct s 2=true/\ct s 3=true/\n=4)):dec t=dec s:=by
 have hc:∀k,k<n->ct s k=true->ct t k=true:=fun k hk h=>by
  rw[eF] at h ⊢;rw[<- hb k hk];exact⟨by omega,h.2⟩
 rw[uz hs,uz ht];unfold yw;rcases h with ⟨h1,rfl⟩ | ⟨h0,h1,h2,rfl⟩ | ⟨h1,h2,h3,rfl⟩ | ⟨h1,h2,h3,h4,rfl⟩
 .rw[<- hb 0 (by omega),if_pos h1,if_pos h1]
 .have c1:=hc 1 (by omega) h2;have n1:¬ byt s 0<0x80:=by omega
  simp only[<- hb 0 (by omega),<- hb 1 (by omega),n1,if_false,h1,h2,c1,Bool.and_true,beq_self_eq_true,if_true]
 .have c1:=hc 1 (by omega) h2;have c2:=hc 2 (by omega) h3;have n1:¬ byt s 0<0x80:=by omega
  have n2:(byt s 0 / 32 == 6)=false:=by rw[beq_eq_false_iff_ne];omega
  simp only[<- hb 0 (by omega),<- hb 1 (by omega),<- hb 2 (by omega),n1,n2,if_false,h1,h2,h3,c1,c2,Bool.and_true,Bool.false_and,beq_self_eq_true,if_true,Bool.false_eq_true]
 .have c1:=hc 1 (by omega) h2;have c2:=hc 2 (by omega) h3;have c3:=hc 3 (by omega) h4;have n1:¬ byt s 0<0x80:=by omega
  have n2:(byt s 0 / 32 == 6)=false:=by rw[beq_eq_false_iff_ne];omega
  have n3:(byt s 0 / 16 == 14)=false:=by rw[beq_eq_false_iff_ne];omega
  simp only[<- hb 0 (by omega),<- hb 1 (by omega),<- hb 2 (by omega),<- hb 3 (by omega),n1,n2,n3,if_false,h1,h2,h3,h4,c1,c2,c3,Bool.and_true,Bool.false_and,beq_self_eq_true,if_true,Bool.false_eq_true]
theorem II {s:List UInt8}(h:s≠[]):(dec s).2<=s.length:=(bI h).2
theorem FH {a b:List UInt8}(ha:a≠[]) (hr:isR a=true):dec (a++b)=dec a:=by
 have hw:=bI ha;exact AQ ha (by simp[ha]) hw.2 (by rw[zL];omega) (fun k hk=>(FW (by omega)).symm) (mI ha hr)
theorem Qi {a b:List UInt8}(ha:a≠[]) (hr:isR a=true):isR (a++b)=true:=by
 have:=FH (b:=b) ha hr;unfold isR at hr ⊢;rw[this];exact hr
theorem QN {a b:List UInt8}(ha:a≠[]) (hr:isR (a++b)=true) (hn:(dec (a++b)).2<=a.length):dec a=dec (a++b):=
 AQ (by simp[ha]) ha (by rw[zL];omega) hn (fun k hk=>FW (by omega)) (mI (by simp[ha]) hr)
theorem Qq {b:List UInt8}(hb:b≠[]) (h:byt b 0 / 64=2):isR b=false:=by
 cases hr:isR b with
 |false=>rfl
 |true=>rcases mI hb hr with h1 | h1 | h1 | h1 <;> omega
theorem Lb {a b:List UInt8}(ha:a≠[]) (hr:isR (a++b)=true) (hn:a.length<(dec (a++b)).2):b≠[]/\isR b=false:=by
 have hl:0<a.length:=List.length_pos_iff.2 ha;have hw:=II (s:=a++b) (by simp[ha]);have hb:b≠[]:=by rintro rfl;simp at hw hn;omega
 refine⟨hb,Qq hb ?_⟩;have hk:∀k,ct (a++b) k=true->k=a.length->byt b 0 / 64=2:=fun k hk e=>by
  subst e;have:=(eF.1 hk).2
  rwa [Le] at this
 rcases mI (by simp[ha]) hr with ⟨_,h⟩ | ⟨_,_,c1,h⟩ | ⟨_,c1,c2,h⟩ | ⟨_,c1,c2,c3,h⟩
 .omega
 .exact hk 1 c1 (by omega)
 .rcases (by omega:a.length=1\/a.length=2) with e | e
  .exact hk 1 c1 e.symm
  .exact hk 2 c2 e.symm
 .rcases (by omega:a.length=1\/a.length=2\/a.length=3) with e | e | e
  .exact hk 1 c1 e.symm
  .exact hk 2 c2 e.symm
  .exact hk 3 c3 e.symm
theorem fw {s:List UInt8}(h:s≠[]):dD s=(isR s&&dD (s.drop (dec s).2)):=by
 unfold dD;rw[bV h];rfl
theorem qC:∀(n:Nat) {a b:List UInt8},a.length<=n->dD a=true->runes (a++b)=runes a++runes b
 |n,[],b,_,_=>by simp[jU]
 |0,x::a,b,h,_=>by simp at h
 | n+1,x::a,b,h,hok=>by
   have ha:x::a≠[]:=by simp
   rw[fw ha,zH] at hok;have hw:=bI ha;rw[bV (s:=(x::a)++b) (by simp),bV ha,FH ha hok.1,Qi ha hok.1,hok.1,List.drop_append_of_le_length hw.2];rw[qC n (by rw[List.length_drop];simp at h ⊢;omega) hok.2]
   rfl
theorem uM:∀(n:Nat) {a b:List UInt8},a.length<=n->dD (a++b)=true->dD b=true->dD a=true
 |n,[],b,_,_,_=>by unfold dD;rw[jU];rfl
 |0,x::a,b,h,_,_=>by simp at h
 | n+1,x::a,b,h,hab,hb=>by
   have ha:x::a≠[]:=by simp
   rw[fw (s:=(x::a)++b) (by simp),zH] at hab;rcases Nat.lt_or_ge (x::a).length (dec ((x::a)++b)).2 with h1 | h1
   .obtain⟨h2,h3⟩:=Lb ha hab.1 h1;rw[fw h2,h3] at hb;cases hb
   .have hd:=QN ha hab.1 h1;have hr:isR (x::a)=true:=by have:=hab.1;unfold isR at this ⊢;rw[hd];exact this
    have hw:=bI ha;rw[fw ha,hr,Bool.true_and];rw[<- hd,List.drop_append_of_le_length hw.2] at hab;exact uM n (by rw[List.length_drop];simp at h ⊢;omega) hab.2 hb
theorem fH {s:List UInt8}:bH s=0↔dD s=true:=by unfold bH; split <;> simp_all
theorem BQ (a b:List UInt8) (ha:bH a=0) (hb:bH b=0):bH (a++b)=0/\aK (a++b)=aK a++aK b:=by
 rw[fH] at ha hb;have h:=qC a.length (b:=b) (zJ _) ha;have hok:dD (a++b)=true:=by
  unfold dD at ha hb ⊢;rw[h,List.all_append,ha,hb];rfl
 refine⟨fH.2 hok,?_⟩;unfold aK;rw[hok,ha,hb,h];simp
theorem IV (a b:List UInt8) (h:bH (a++b)=0):bH a=0↔bH b=0:=by
 rw[fH] at h;rw[fH,fH];constructor
 .intro ha;have:=qC a.length (b:=b) (zJ _) ha;unfold dD at h ha ⊢;rw[this,List.all_append,ha] at h;simpa using h
 .exact uM a.length (zJ _) h
end Go.EA
end
section
namespace Go.EA
open Go.RowKit
theorem Dq {X:Cx}(hap:∀i,X.ap i=none) (hpr:∀i p xs H v H',X.pr i=some p->p xs H=some (v,H')->H'=H) {f:AV}{xs:List AV}{H H':Heap}{v:AV}(h:fP X (fun _ _ _=>none) f xs H=some (v,H')):H'=H:=by
 unfold fP at h;split at h
 .split at h
  .rename_i p hp;split at h
   .exact hpr _ _ _ _ _ _ hp h
   .cases h
  .rw[hap] at h;cases h
 .split at h
  .split at h
   .cases h
   .cases h
  .cases h
 .cases h
theorem DL {X:Cx}(hpr:∀i p xs H v H',X.pr i=some p->p xs H=some (v,H')->H.Hd->∀o,p xs (H.push o)=some (v,H.push o)) (hap:∀i,X.ap i=none) {f:Nat}{xs:List AV}{H H':Heap}{v:AV}(h:fP X (fun _ _ _=>none) (.one (.fn f [])) xs H=some (v,H')) (hd:H.Hd) (o:AO) :
 fP X (fun _ _ _=>none) (.one (.fn f [])) xs (H.push o)=some (v,H.push o):=by
 simp only[fP] at h ⊢;split at h
 .rename_i p hp;simp only[List.isEmpty_nil,if_true] at h ⊢;exact hpr _ _ _ _ _ _ hp h hd o
 .rw[hap] at h;cases h
def OW (W:World) (a b:Nat):Nat->Option Obj:=fun k=>if k=a then W.heap[k]? else if k=b then W.heap[k]? else none
theorem SH {S:SC}{W:World}{a b:Nat}(hfx:S.fx=OW W a b) (hU:Lib.Utf8Tabs a b W):∀H ρ w,aV S H ρ w->Lib.Utf8Tabs a b w:=by
 intro H ρ w hH;have key:∀k,k=a\/k=b->∀c v,W.cell? ⟨k,c,none⟩=some v->w.cell? ⟨k,c,none⟩=some v:=by
  intro k hk c v hv;cases ho:W.heap[k]? with
  |none=>simp[World.cell?,ho] at hv
  | some ob=>
    have:S.fx k=some ob:=by
     rw[hfx];unfold OW;rcases hk with rfl | rfl
     .rw[if_pos rfl];exact ho
     .split
      .exact ho
      .rw[if_pos rfl];exact ho
    have h2:=(hH.fx k ob this).1;simp only[World.cell?,ho] at hv;simp only[World.cell?,h2];exact hv
 exact⟨fun c hc=>key a (.inl rfl) _ _ (hU.1 c hc),fun i hi=>⟨key b (.inr rfl) _ _ (hU.2 i hi).1,key b (.inr rfl) _ _ (hU.2 i hi).2⟩⟩
def vE (W:World):Rho:=⟨fun _=>⟨0,0,0,0⟩,fun k=>match W.heap[k]? with | some (.cells C t f)=>some (.cells C t f) | _=>none⟩
theorem ZN {S:SC}{W:World}(hfx:∀k ob,S.fx k=some ob->W.heap[k]?=some ob) (hd:S.d0<=W.drawn):aV S (hl []) (vE W) W:=
 ⟨fun i hi=>absurd hi (zS _),fun i j hi=>absurd hi (zS _),fun k ob hk=>⟨hfx k ob hk,fun i hi=>absurd hi (zS _)⟩,fun k ob hk=>(by
  have hk':(match W.heap[k]? with | some (.cells C t f)=>some (.cells C t f) | _=>none)=some ob:=hk;split at hk'
  .rename_i C t f ho;cases hk';exact⟨⟨C,t,f,rfl⟩,ho,fun i hi=>absurd hi (zS _)⟩
  .cases hk'),hd⟩
theorem Jh {W:World}{a b:Nat}:∀k ob,OW W a b k=some ob->W.heap[k]?=some ob:=by
 intro k ob h;unfold OW at h;split at h
 .exact h
 .split at h
  .exact h
  .cases h
theorem OL {S:SC}{f:Nat}{xs:List AV}{v:AV}(h:MF S f [] xs (hl []) fun v' _=>v'=v) {W:World}(hfx:∀k ob,S.fx k=some ob->W.heap[k]?=some ob) {vs:List Value}(hvs:ah (bf S (vE W) 0) xs vs) (hd:S.d0<=W.drawn:=by exact Nat.zero_le _) :
 Calls S.C.P (S.re f) vs.toArray W fun e w'=>∃u ρ' n',e=.returned u/\bf S ρ' n' v u/\Below W.heap.size W w':=by
 have:=(h (vE W) W vs (by simp) hvs (ZN hfx hd)).2;rw[show vs.toArray++(List.map (dR (vE W)) ([]:List (Nat×Nat×Nat))).toArray=vs.toArray by simp] at this;refine(callsIn_wide.1 this).mono fun e w' hr=>?_
 obtain⟨_,H1,rfl,u,ρ',rfl,k1,k2,k3⟩:=hr;exact⟨u,ρ',_,rfl,k3,⟨k2.os,k2.tape,k2.output,k2.sz,fun k hk=>(k2.keep k hk fun i hi=>absurd hi (zS _)).1⟩⟩
end Go.EA
end
