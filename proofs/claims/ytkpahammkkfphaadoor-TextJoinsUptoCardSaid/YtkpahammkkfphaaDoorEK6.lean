/- Texts. Conditions: none. -/
import Derived.Test.YtkpahammkkfphaaDoorEK4
import Derived.Below
import Derived.Shelf.Unicode.DecodeAny
import Derived.Test.YtkpahammkkfphaaDoorEK5
set_option linter.unusedVariables false
set_option linter.unusedSimpArgs false
section
namespace Go.EA
open Go.RowKit
structure Old (w w':World):Prop where
 sz:w.heap.size<=w'.heap.size
 os:w'.os=w.os
 tape:w'.tape=w.tape
 output:w'.output=w.output
 keep:∀k,k<w.heap.size->w'.heap[k]?=w.heap[k]?
section
variable {S:SC} {H:Heap} {ρ:Rho} {w w':World}
theorem aJ.old (h:aJ S H ρ w) (o:Old w w') (hdr:S.d0<=w'.drawn):aJ S H ρ w'/\Frm H ρ w H ρ w':=by
 have hF:Frm H ρ w H ρ w':=⟨o.sz,o.os,o.tape,o.output,zJ _,fun _ _=>rfl,fun k hk hn=>⟨o.keep k hk,hn⟩,fun _ _ h=>h,fun _ _ _=>rfl⟩;refine⟨⟨fun i hi=>?_,h.ap,fun k ob hk=>let a:=h.fx k ob hk;let b:=hF.keep k (zQ.1 a.1).1 a.2;⟨b.1.trans a.1,b.2⟩,
  fun k ob hk=>let a:=h.fz k ob hk;let b:=hF.keep k (zQ.1 a.2.1).1 a.2.2;⟨a.1,b.1.trans a.2.1,b.2⟩,hdr⟩,hF⟩
 cases hd:live (H.o i) with
 | false=>
   have:H.o i=.dead:=by revert hd; cases H.o i <;> simp[live]
   rw[this];trivial
 |true=>rw[o.keep _ (h.lt' hi hd)];exact h.obj i hi
theorem AY {w w':World}(h:Below w.heap.size w w'):Old w w':=⟨h.size,h.os,h.tape,h.output,h.block⟩
theorem pK {i:Nat}(h0:S.d0=0) (hent:∀args w,(callFunc (S.re i) args).run S.C.P w=.ok (.enter (S.re i) args) w) (g:GP)
 (hc:∀xs v c,g xs=some (v,c)->aK c->∀H ρ w vs,ae (aN S ρ H.n) xs vs->aJ S H ρ w->Calls S.C.P (S.re i) vs.toArray w fun e w'=>∃u,e=.returned u/\aN S ρ H.n v u/\Below w.heap.size w w') :
 aP S i (aC g):=by
 intro xs H v H' hp ρ w vs hvs hH;obtain⟨hHH,c,hg,hcc⟩:=qA hp;subst H';refine .inr (.inl ⟨_,_,w,ρ,hent _ _,rfl,rfl,?_⟩);refine(callsIn_wide.2 (hc xs v c hg hcc H ρ w vs hvs hH)).mono fun e w' hr=>?_
 obtain⟨u,rfl,hu,hb⟩:=hr;obtain⟨k1,k2⟩:=hH.old (AY hb) (by rw[h0];exact Nat.zero_le _);exact⟨u,ρ,rfl,k1,k2,hu⟩
end
def dec (s:List UInt8):Nat×Nat:=if s.length=0 then (65533,0) else Utf8.decode ⟨s.toArray⟩ 0
def FQ:GP
 |[.one (.str s)]=>some (.tup [.one (.int .i32 (dec s).1),.one (.int .i64 (dec s).2)],[])
 |_=>none
section
variable {S:SC}
theorem FU {i:Nat}(h0:S.d0=0) (hent:∀args w,(callFunc (S.re i) args).run S.C.P w=.ok (.enter (S.re i) args) w) {ρl:Shelf.Ren}(hf:ρl.f 197=S.re i) (L:Proofs.Lays.n197 S.C.P ρl) (hT:∀H ρ w,aJ S H ρ w->Lib.Utf8Tabs (ρl.g 3) (ρl.g 4) w):aP S i (aC FQ):=by
 refine pK h0 hent FQ fun xs v c hg _ H ρ w vs hvs hH=>?_
 unfold FQ at hg;split at hg
 .rename_i s;cases hg;obtain⟨u,us,rfl,hu,ht⟩:=hvs.cons_inv;obtain rfl:=ht.nil_inv;have hu:u=.string ⟨s.toArray⟩:=hu;subst hu;have:=Proofs.Any.utf8_DecodeRuneInString L ⟨s.toArray⟩ w (hT H ρ w hH);rw[hf] at this;refine Calls.mono this fun e w' h=>⟨_,h.1,?_,h.2⟩
  have hd:Lib.decodeGo ⟨s.toArray⟩=dec s:=by
   unfold Lib.decodeGo dec;rw[size_mk]
  rw[hd];exact .inr ⟨_,rfl,ae.cons rfl (ae.cons rfl ae.nil)⟩
 .cases hg
end
end Go.EA
end
section
namespace Go.EA
theorem bH {s:List UInt8}(h:s≠[]):1<=(dec s).2/\(dec s).2<=s.length:=by
 have hl:0<s.length:=List.length_pos_iff.2 h;have hne:¬ s.length=0:=by omega
 unfold dec;rw[if_neg hne];unfold Utf8.decode;simp only[zH,decide_eq_true_eq,size_mk]
 repeat' split
 all_goals simp_all
 all_goals omega
def isR (s:List UInt8):Bool:=decide (((dec s).1:Int)≠65533)||decide (1<(dec s).2)
def gK:Nat->List UInt8->List (Int×Bool)
 |0,_=>[]
 |n+1,s=>if s=[] then [] else (((dec s).1:Int),isR s)::gK n (s.drop (dec s).2)
def runes (s:List UInt8):List (Int×Bool):=gK s.length s
theorem mX:∀(n m:Nat) (s:List UInt8),s.length<=n->s.length<=m->gK n s=gK m s
 | 0,m,s,h,_=>by
   have:s=[]:=zT (by omega);subst this;cases m <;> simp[gK]
 | n+1,0,s,_,h=>by
   have:s=[]:=zT (by omega);subst this;simp[gK]
 | n+1,m+1,s,h1,h2=>by
   simp only[gK];by_cases hs:s=[]
   .simp[hs]
   .rw[if_neg hs,if_neg hs];have hw:=bH hs;rw[mX n m (s.drop (dec s).2) (by simp;omega) (by simp;omega)]
theorem jD:runes []=[]:=rfl
theorem cK {s:List UInt8}(h:s≠[]):runes s=(((dec s).1:Int),isR s)::runes (s.drop (dec s).2):=by
 have hw:=bH h;have hl:0<s.length:=List.length_pos_iff.2 h;unfold runes;cases hn:s.length with
 |zero=>omega
 | succ n=>
   simp only[gK];rw[if_neg h];rw[mX n (s.drop (dec s).2).length _ (by simp;omega) (zJ _)]
end Go.EA
namespace Go.EA
theorem pU:∀(n:Nat) (s:List UInt8),(gK n s).length<=s.length
 |0,s=>Nat.zero_le _
 | n+1,s=>by
   simp only[gK];by_cases hs:s=[]
   .simp[hs]
   .rw[if_neg hs];have hw:=bH hs;have:=pU n (s.drop (dec s).2);simp only[zM,List.length_drop] at this ⊢;omega
theorem qQ (s:List UInt8):(runes s).length<=s.length:=pU _ _
def aR (s:List UInt8):Bool:=(runes s).all (·.2)
def aS (s:List UInt8):List Int:=if aR s then (runes s).map (·.1) else []
def iL (s:List UInt8):Int:=if aR s then 0 else 3
theorem DX (s:List UInt8):(aS s).length<=s.length:=by
 unfold aS;split
 .rw[zR];exact qQ s
 .exact Nat.zero_le _
end Go.EA
end
section
namespace Go.EA
def byt (s:List UInt8) (k:Nat):Nat:=(s.getD k 0).toNat
def ct (s:List UInt8) (k:Nat):Bool:=decide (k<s.length)&&byt s k / 64 == 2
def xk (s:List UInt8):Nat×Nat:=
 if byt s 0<0x80 then (byt s 0,1)
 else if byt s 0 / 32 == 6&&ct s 1 then
  if (byt s 0 % 32)*64+byt s 1 % 64 ≥ 0x80 then ((byt s 0 % 32)*64+byt s 1 % 64,2) else (65533,1)
 else if byt s 0 / 16 == 14&&ct s 1&&ct s 2 then
  if (byt s 0 % 16)*4096+(byt s 1 % 64)*64+byt s 2 % 64 ≥ 0x800&&Utf8.valid ((byt s 0 % 16)*4096+(byt s 1 % 64)*64+byt s 2 % 64:Nat) then ((byt s 0 % 16)*4096+(byt s 1 % 64)*64+byt s 2 % 64,3) else (65533,1)
 else if byt s 0 / 8 == 30&&ct s 1&&ct s 2&&ct s 3 then
  if (byt s 0 % 8)*262144+(byt s 1 % 64)*4096+(byt s 2 % 64)*64+byt s 3 % 64 ≥ 0x10000&&Utf8.valid ((byt s 0 % 8)*262144+(byt s 1 % 64)*4096+(byt s 2 % 64)*64+byt s 3 % 64:Nat) then ((byt s 0 % 8)*262144+(byt s 1 % 64)*4096+(byt s 2 % 64)*64+byt s 3 % 64,4) else (65533,1)
 else (65533,1)
theorem Cu {s:List UInt8}(h:s≠[]):dec s=xk s:=by
 have hl:¬ s.length=0:=fun e=>h (zT e)
 have hg:∀k,((⟨s.toArray⟩:ByteArray).get! k).toNat=byt s k:=by
  intro k;unfold byt
  congr 1
  show (s.toArray)[k]! = _;simp[zA]
  rfl
 unfold dec;rw[if_neg hl];unfold Utf8.decode xk ct;simp only[Nat.zero_add,hg,size_mk]
 rfl
theorem dN {s:List UInt8}{k:Nat}:ct s k=true↔k<s.length/\byt s k / 64=2:=by simp[ct]
theorem fT {s:List UInt8}(h:s≠[]):aR s=(isR s&&aR (s.drop (dec s).2)):=by
 unfold aR;rw[cK h];rfl
theorem lN {s:List UInt8}:iL s=0↔aR s=true:=by unfold iL; split <;> simp_all
theorem xU {s:List UInt8}:iL s≠0↔aR s=false:=by unfold iL; split <;> simp_all
end Go.EA
end
section
namespace Go.EA
open Go.RowKit
theorem xI {X:Cx}(hap:∀i,X.ap i=none) (hpr:∀i p xs H v H',X.pr i=some p->p xs H=some (v,H')->H'=H) {f:AV}{xs:List AV}{H H':Heap}{v:AV}(h:eD X (fun _ _ _=>none) f xs H=some (v,H')):H'=H:=by
 unfold eD at h;split at h
 .split at h
  .rename_i p hp;split at h
   .exact hpr _ _ _ _ _ _ hp h
   .cases h
  .rw[hap] at h;cases h
 .split at h
  .split at h
   .cases h
   .cases h
  .cases h
 .cases h
theorem xn {X:Cx}(hpr:∀i p xs H v H',X.pr i=some p->p xs H=some (v,H')->H.Hd->∀o,p xs (H.push o)=some (v,H.push o)) (hap:∀i,X.ap i=none) {f:Nat}{xs:List AV}{H H':Heap}{v:AV}(h:eD X (fun _ _ _=>none) (.one (.fn f [])) xs H=some (v,H')) (hd:H.Hd) (o:AO) :
 eD X (fun _ _ _=>none) (.one (.fn f [])) xs (H.push o)=some (v,H.push o):=by
 simp only[eD] at h ⊢;split at h
 .rename_i p hp;simp only[List.isEmpty_nil,if_true] at h ⊢;exact hpr _ _ _ _ _ _ hp h hd o
 .rw[hap] at h;cases h
def Dn (W:World) (a b:Nat):Nat->Option Obj:=fun k=>if k=a then W.heap[k]? else if k=b then W.heap[k]? else none
theorem yI {S:SC}{W:World}{a b:Nat}(hfx:S.fx=Dn W a b) (hU:Lib.Utf8Tabs a b W):∀H ρ w,aJ S H ρ w->Lib.Utf8Tabs a b w:=by
 intro H ρ w hH;have key:∀k,k=a\/k=b->∀c v,W.cell? ⟨k,c,none⟩=some v->w.cell? ⟨k,c,none⟩=some v:=by
  intro k hk c v hv;cases ho:W.heap[k]? with
  |none=>simp[World.cell?,ho] at hv
  | some ob=>
    have:S.fx k=some ob:=by
     rw[hfx];unfold Dn;rcases hk with rfl | rfl
     .rw[if_pos rfl];exact ho
     .split
      .exact ho
      .rw[if_pos rfl];exact ho
    have h2:=(hH.fx k ob this).1;simp only[World.cell?,ho] at hv;simp only[World.cell?,h2];exact hv
 exact⟨fun c hc=>key a (.inl rfl) _ _ (hU.1 c hc),fun i hi=>⟨key b (.inr rfl) _ _ (hU.2 i hi).1,key b (.inr rfl) _ _ (hU.2 i hi).2⟩⟩
def nI (W:World):Rho:=⟨fun _=>⟨0,0,0,0,(0,0,0)⟩,fun k=>match W.heap[k]? with | some (.cells C t f)=>some (.cells C t f) | _=>none⟩
theorem KD {S:SC}{W:World}(hfx:∀k ob,S.fx k=some ob->W.heap[k]?=some ob) (hd:S.d0<=W.drawn):aJ S (hl []) (nI W) W:=
 ⟨fun i hi=>absurd hi (zS _),fun i j hi=>absurd hi (zS _),fun k ob hk=>⟨hfx k ob hk,fun i hi=>absurd hi (zS _)⟩,fun k ob hk=>(by
  have hk':(match W.heap[k]? with | some (.cells C t f)=>some (.cells C t f) | _=>none)=some ob:=hk;split at hk'
  .rename_i C t f ho;cases hk';exact⟨⟨C,t,f,rfl⟩,ho,fun i hi=>absurd hi (zS _)⟩
  .cases hk'),hd⟩
theorem Br {W:World}{a b:Nat}:∀k ob,Dn W a b k=some ob->W.heap[k]?=some ob:=by
 intro k ob h;unfold Dn at h;split at h
 .exact h
 .split at h
  .exact h
  .cases h
theorem EJ {S:SC}{f:Nat}{xs:List AV}{v:AV}(h:MF S f [] xs (hl []) fun v' _=>v'=v) {W:World}(hfx:∀k ob,S.fx k=some ob->W.heap[k]?=some ob) {vs:List Value}(hvs:ae (aN S (nI W) 0) xs vs) (hd:S.d0<=W.drawn:=by exact Nat.zero_le _) :
 Calls S.C.P (S.re f) vs.toArray W fun e w'=>∃u ρ' n',e=.returned u/\aN S ρ' n' v u/\Below W.heap.size W w':=by
 have:=(h (nI W) W vs (by simp) hvs (KD hfx hd)).2;rw[show vs.toArray++(List.map (bY (nI W)) ([]:List (Nat×Nat×Nat))).toArray=vs.toArray by simp] at this;refine(callsIn_wide.1 this).mono fun e w' hr=>?_
 obtain⟨_,H1,rfl,u,ρ',rfl,k1,k2,k3⟩:=hr;exact⟨u,ρ',_,rfl,k3,⟨k2.os,k2.tape,k2.output,k2.sz,fun k hk=>(k2.keep k hk fun i hi=>absurd hi (zS _)).1⟩⟩
end Go.EA
end
