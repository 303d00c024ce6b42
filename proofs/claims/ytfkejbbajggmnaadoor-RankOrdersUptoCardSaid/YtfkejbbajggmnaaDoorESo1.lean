/- Go's sort of a row by a function, as what turns an own row in its place: the library's contract said in this project's terms. Conditions: none. -/
import Derived.Test.YtfkejbbajggmnaaDoorESrt
import Derived.Test.YtfkejbbajggmnaaDoorEK9
import Derived.Shelf.SlSortCmp.NoneTotal
set_option linter.unusedVariables false
set_option linter.unusedSimpArgs false
namespace Go.EA
open Go.Sort Go.Proofs
def valL:Lf→Value
  | .int k x=>.int k x
  | .bool b=>.bool b
  | .str s=>.string ⟨s.toArray⟩
  | _=>.bool false
def simpL:Lf→Bool
  | .int _ _ | .bool _ | .str _=>true
  | _=>false
section
variable {S:SC}
theorem valL_rel {ρ:Rho} {n:Nat} {u:Lf} {v:Value} (h:simpL u=true):LRel S ρ n u v↔v=valL u:=by
  cases u <;> simp only [simpL,Bool.false_eq_true] at h <;> exact Iff.rfl
theorem valL_one {u:Lf} (h:simpL u=true):(valL u).oneCell'=true:=by
  cases u <;> simp only [simpL,Bool.false_eq_true] at h <;> rfl
def encV (t:Ty) (x:t.den):List Value:=(t.enc x).map valL
theorem encV_len (t:Ty) (x:t.den):(encV t x).length=t.size:=by unfold encV;rw [List.length_map,Ty.enc_len]
def SimpT (t:Ty):Prop:=∀ (x:t.den),∀ u∈t.enc x,simpL u=true
variable {t:Ty} [Inhabited t.den] {H:Heap} {ρ:Rho} {w:World} {bb:Nat} {els:List (List Lf)} {l:List t.den}
theorem flat_at (hsim:SimpT t) {d:Array t.den} {q j:Nat} (hq:q < d.size) {x:Lf} (hx:(t.enc d[q]!)[j]?=some x):(flatK (encV t) t.size d)[q*t.size+j]! = valL x:=by
  have hj:j < t.size:=by rw [← Ty.enc_len t d[q]!];exact (List.getElem?_eq_some_iff.1 hx).1
  have h2:(q+1)*t.size≤d.size*t.size:=Nat.mul_le_mul_right _ hq
  rw [Nat.add_mul,Nat.one_mul] at h2
  rw [get_flatK _ _ _ _ (by omega)]
  have e1:(q*t.size+j) / t.size=q:=(blk_iff t.size q _ (by omega)).1 ⟨by omega,by omega⟩
  have e2:(q*t.size+j) % t.size=j:=by rw [Nat.mod_eq_sub_div_mul,e1];omega
  rw [e1,e2]
  have:(encV t d[q]!)[j]?=some (valL x):=by unfold encV;rw [List.getElem?_map,hx];rfl
  rw [List.getElem!_eq_getElem?_getD,this];rfl
theorem holds_of (hsim:SimpT t) (hH:HRel S H ρ w) (hb:bb < H.n) (ho:H.o bb=.blk t.size els true) (hl:els.take l.length=l.map t.enc) (hle:l.length≤els.length) :
    HoldsK (encV t) t.size w (ρ bb).g (ρ bb).o l.toArray:=by
  have hob:=hH.obj bb hb
  rw [ho] at hob
  obtain ⟨hs,C,ty,fr,hC,hcell,hown⟩:=hob
  obtain ⟨hz,hlen,hfr⟩:=hown rfl
  intro j hj
  rw [size_flatK] at hj
  have hj:j < l.length*t.size:=by simpa using hj
  have k0:0 < t.size:=by
    rcases Nat.eq_zero_or_pos t.size with h | h
    · rw [h] at hj;omega
    · exact h
  have hq:j / t.size < l.length:=(Nat.div_lt_iff_lt_mul k0).2 hj
  have hr:j % t.size < t.size:=Nat.mod_lt _ k0
  have hel:els[j / t.size]?=some (t.enc l[j / t.size]):=by
    have:=congrArg (fun z=>z[j / t.size]?) hl
    rw [List.getElem?_take_of_lt hq,List.getElem?_map,List.getElem?_eq_getElem hq] at this
    exact this
  obtain ⟨_,hx⟩:=hcell _ _ hel
  have hxl:(t.enc l[j / t.size])[j % t.size]?=some ((t.enc l[j / t.size])[j % t.size]'(by rw [Ty.enc_len];exact hr)):=List.getElem?_eq_getElem _
  obtain ⟨v,hv,hrel⟩:=hx _ _ hxl
  rw [valL_rel (hsim _ _ (List.getElem_mem _))] at hrel
  subst hrel
  have hdm:j / t.size*t.size+j % t.size=j:=Nat.div_add_mod' j t.size
  have hpos:(ρ bb).o+(j / t.size)*(ρ bb).s+j % t.size=(ρ bb).o+j:=by rw [← hs];omega
  rw [hpos] at hv
  have hC2:l.length*t.size≤els.length*t.size:=Nat.mul_le_mul_right _ hle
  rw [← hs] at hlen
  refine ⟨?_,?_⟩
  · unfold World.cell?
    rw [hC]
    show (if (none:Option Nat).isSome=true then none else C[(ρ bb).o+j]?)=_
    rw [show (if (none:Option Nat).isSome=true then none else C[(ρ bb).o+j]?)=C[(ρ bb).o+j]? from rfl,hv]
    have hd:(l.toArray)[j / t.size]! = l[j / t.size]:=by
      rw [getElem!_pos _ _ (by simpa using hq)];simp
    have:=flat_at (t:=t) hsim (d:=l.toArray) (q:=j / t.size) (j:=j % t.size) (by simpa using hq) (by rw [hd];exact hxl)
    rw [hdm] at this
    rw [this];rfl
  · simp [World.frozen?,hC];omega
theorem putCells_get {F:Array Value} {off:Nat} {C:Array Value} (p:Nat):(putCells id off F C)[p]?=C[p]?.map fun x=>if off≤p∧p < off+F.size then F[p - off]! else x:=by
  unfold putCells
  rw [Array.getElem?_mapIdx]
  rfl
theorem turn_of (hsim:SimpT t) (hH:HRel S H ρ w) (hb:bb < H.n) (ho:H.o bb=.blk t.size els true) (hle:l.length≤els.length) {d:Array t.den} (hd:d.size=l.length) (m:Nat) (os:Array Obj) :
    HRel S (H.set bb (.blk t.size (d.toList.map t.enc++els.drop l.length) true)) ρ (sortWorldK (encV t) t.size w (ρ bb).g (ρ bb).o m d os) ∧
      Frm H ρ w (H.set bb (.blk t.size (d.toList.map t.enc++els.drop l.length) true)) ρ (sortWorldK (encV t) t.size w (ρ bb).g (ρ bb).o m d os):=by
  have hob:=hH.obj bb hb
  rw [ho] at hob
  obtain ⟨hs,C,ty,fr,hC,hcell,hown⟩:=hob
  obtain ⟨hz,hlen,hfr⟩:=hown rfl
  let w1:World:=putRowK (encV t) t.size (Sort.ahead w m) (ρ bb).g (ρ bb).o d
  have hheap:w1.heap=w.heap.modify (ρ bb).g (onCells (putCells id (ρ bb).o (flatK (encV t) t.size d))):=rfl
  have hg:w1.heap[(ρ bb).g]?=some (.cells (putCells id (ρ bb).o (flatK (encV t) t.size d) C) ty fr):=by
    rw [hheap,Array.getElem?_modify,if_pos rfl,hC];rfl
  have hC2:l.length*t.size≤els.length*t.size:=Nat.mul_le_mul_right _ hle
  have hlen':=hlen
  rw [← hs] at hlen'
  have hx:ORel S ρ H.n (ρ bb) (.blk t.size (d.toList.map t.enc++els.drop l.length) true) (w1.heap[(ρ bb).g]?):=by
    refine ⟨hs,_,ty,fr,hg,fun k e he=>?_,fun _=>⟨?_,?_,?_⟩⟩
    · rcases Nat.lt_or_ge k l.length with hk | hk
      · have hkd:k < d.size:=by omega
        rw [List.getElem?_append_left (by simpa using hkd),List.getElem?_map] at he
        have hde:d.toList[k]?=some d[k]! := by
          rw [getElem!_pos d k hkd,List.getElem?_eq_getElem (by simpa using hkd)];simp
        rw [hde] at he
        cases he
        refine ⟨by rw [Ty.enc_len];exact hs,fun j x hj=>⟨valL x,?_,(valL_rel (hsim _ _ (List.mem_of_getElem? hj))).2 rfl⟩⟩
        have hjs:j < t.size:=by rw [← Ty.enc_len t d[k]!];exact (List.getElem?_eq_some_iff.1 hj).1
        have h2:(k+1)*t.size≤l.length*t.size:=Nat.mul_le_mul_right _ hk
        rw [Nat.add_mul,Nat.one_mul] at h2
        rw [putCells_get,← hs,Array.getElem?_eq_getElem (xs:=C) (show (ρ bb).o+k*t.size+j < C.size by omega),Option.map_some,if_pos ⟨by omega,by rw [size_flatK,hd];omega⟩]
        rw [show (ρ bb).o+k*t.size+j - (ρ bb).o=k*t.size+j by omega,flat_at hsim hkd hj]
      · rw [List.getElem?_append_right (by simpa [hd] using hk)] at he
        simp only [List.length_map,Array.length_toList,hd,List.getElem?_drop] at he
        rw [show l.length+(k - l.length)=k by omega] at he
        obtain ⟨h1,h2⟩:=hcell k e he
        refine ⟨h1,fun j x hj=>?_⟩
        obtain ⟨v,hv,hr⟩:=h2 j x hj
        refine ⟨v,?_,hr⟩
        have h3:l.length*t.size≤k*t.size:=Nat.mul_le_mul_right _ hk
        rw [putCells_get,hv,Option.map_some,if_neg]
        rw [size_flatK,hd,← hs]
        omega
    · rw [← hz];unfold putCells;simp
    · have:(d.toList.map t.enc++els.drop l.length).length=els.length:=by simp [hd];omega
      rw [this];unfold putCells;simpa using hlen
    · rcases hfr with h | h
      · exact .inl h
      · exact .inr (by unfold putCells;simpa using h)
  obtain ⟨k1,k2⟩:=hH.turn hb (by rw [ho];rfl) (w':=w1) hx rfl (by rw [hheap];simp) rfl rfl rfl (fun k hk=>by
    rw [hheap,Array.getElem?_modify,if_neg (Ne.symm hk)]) (Nat.le_add_right _ _)
  have hold:Old w1 (grow w1 os):=⟨by simp [grow],rfl,rfl,rfl,fun k hk=>by
    show (w1.heap++os)[k]?=_
    rw [Array.getElem?_append_left hk]⟩
  obtain ⟨k3,k4⟩:=k1.old hold k1.dr
  exact ⟨k3,FrmB.trans k2 k4⟩
def Msort (t:Ty) (g:Nat) (lt:t.den→t.den→Bool) (d0:t.den):MRow:=⟨List t.den,t,fun _ o=>[.one (.osl o),.one (.fn g [])],fun l=>l,fun l=>[l.length≤1099511627776],fun _=>List t.den,fun l y=>[PI l y 0 l.length,SrtR lt d0 y 0 l.length],fun _ _=>.tup [],fun _ y=>y⟩
theorem simp_closed {u:Lf} (h:simpL u=true):u.closed=true:=by cases u <;> simp only [simpL,Bool.false_eq_true] at h <;> rfl
omit [Inhabited t.den] in
theorem els_new (hsim:SimpT t) {d:List t.den} {n:Nat} (h:elsClosed els=true):elsClosed (d.map t.enc++els.drop n)=true:=by
  unfold elsClosed at h ⊢
  rw [List.all_eq_true] at h ⊢
  intro e he
  rcases List.mem_append.1 he with h1 | h1
  · obtain ⟨x,_,rfl⟩:=List.mem_map.1 h1
    rw [List.all_eq_true]
    exact fun u hu=>simp_closed (hsim x u hu)
  · exact h e (List.mem_of_mem_drop h1)
theorem mut_sort {i g:Nat} {lt:t.den→t.den→Bool} {d0:t.den} (hsim:SimpT t) (hent:∀ args w,(callFunc (S.re i) args).run S.C.P w=.ok (.enter (S.re i) args) w)
    (hs:∀ (w:World) (blk off cap:Nat) (d:Array t.den),HoldsK (encV t) t.size w blk off d→blk < w.heap.size→d.size < 4611686018427387904 →
      Calls S.C.P (S.re i) #[.slice (some ⟨blk,off,none⟩) d.size cap,.func (.func (S.re g)) #[] #[]] w fun e w'=>e=.returned (.tuple #[])∧∃ d' n os,PermIn 0 d.size d d'∧SortedIn lt 0 d.size d'∧w'=sortWorldK (encV t) t.size w blk off n d' os)
    (hn:∀ (p:Option Addr) (cap:Nat) (w:World),Calls S.C.P (S.re i) #[.slice p 0 cap,.func (.func (S.re g)) #[] #[]] w fun e w'=>e=.returned (.tuple #[])∧w'=w)
    {mc:MCon} (hfit:(Msort t g lt d0).Fits mc):MutOk S i mc:=by
  intro c L H xs ys r hr hpre hH hxs
  obtain ⟨l,b,he,hb,rfl⟩:∃ (l:List t.den) (b:Nat),xs.map nrmV=[.one (.osl b),.one (.fn g [])]∧getO L b=.row t l∧r=(Msort t g lt d0).res l b L:=hfit xs L r hr
  have hxs:All2 (RVS c L) [.one (.osl b),.one (.fn g [])] ys:=by
    rw [← he]
    refine ⟨by simpa using hxs.1,fun i x y hx hy=>?_⟩
    rw [List.getElem?_map,Option.map_eq_some_iff] at hx
    obtain ⟨x',hx',rfl⟩:=hx
    exact nrmV_rel (hxs.2 i x' y hx' hy)
  obtain ⟨a1,as1,rfl,h1,h2⟩:=hxs.cons_inv
  obtain ⟨a2,as2,rfl,h3,h4⟩:=h2.cons_inv
  obtain rfl:=h4.nil_inv
  obtain ⟨y1,rfl,hbl,hy⟩:=h1
  obtain ⟨y2,rfl,_,hy2⟩:=h3
  have hy2:y2=.fn g []:=hy2
  subst hy2
  have hlen:l.length≤1099511627776:=hpre.1
  have hy:=hy t l (asR hb)
  intro ρ w vs _ hvs hHR
  obtain ⟨v1,vs1,rfl,g1,g2⟩:=hvs.cons_inv
  obtain ⟨v2,vs2,rfl,g3,g4⟩:=g2.cons_inv
  obtain rfl:=g4.nil_inv
  have g3:v2=.func (.func (S.re g)) #[] #[]:=g3.2
  subst g3
  have conv:([v1,Value.func (.func (S.re g)) #[] #[]].toArray++(([]:List (Nat×Nat×Nat)).map (capAddr ρ)).toArray)=#[v1,.func (.func (S.re g)) #[] #[]]:=by simp
  rw [conv]
  refine ⟨hent _ w,callsIn_wide.2 ?_⟩
  by_cases h0:l.length=0
  · have hl0:l=[]:=List.eq_nil_of_length_eq_zero h0
    have hv1:∃ p cap,v1=.slice p 0 cap:=by
      rcases hy with ⟨_,_,rfl | rfl⟩ | ⟨_,rfl⟩
      · have g1:v1=.slice none 0 0:=g1
        exact ⟨_,_,g1⟩
      · obtain ⟨a,g1⟩:∃ a,v1=.slice a 0 0:=g1
        exact ⟨_,_,g1⟩
      · obtain ⟨_,a,cap,g1,_⟩:=g1
        rw [h0] at g1
        exact ⟨_,_,g1⟩
    obtain ⟨p,cap,rfl⟩:=hv1
    refine Calls.mono (hn p cap w) fun e w' ⟨he,hw⟩=>?_
    subst he hw
    have hset:L.set b (.row t l)=L:=by
      rw [← hb]
      unfold getO
      rw [List.getD_eq_getElem?_getD,List.getElem?_eq_getElem hbl]
      simp
    refine ⟨.tup [],H,⟨l,⟨PI.refl,fun p q _ _ h=>by omega,trivial⟩,c,⟨[],rfl,All2.nil⟩,?_,?_⟩,.tuple #[],ρ,rfl,hHR,Frm.refl _ _ _,.inr ⟨_,rfl,All2.nil⟩⟩
    · show RH c (L.set b (.row t l)) H
      rw [hset];exact hH
    · show Keep c L c (L.set b (.row t l)) _
      rw [hset];exact Keep.refl
  · rcases hy with ⟨_,e,_⟩ | ⟨hnz,rfl⟩
    · rw [e] at h0;exact absurd rfl h0
    rcases hH.rowAt hb with ⟨e,_⟩ | ⟨_,hπ,els,ho,hcl,htake,hle⟩
    · rw [hnz] at e;cases e
    obtain ⟨_,a,cap,rfl,hcap,hloc⟩:=g1
    obtain ⟨rfl,_⟩:=hloc.resolve_left (by omega)
    have hh:=holds_of hsim hHR hπ ho htake hle
    have haddr:(ρ (c.π b)).addr 0 0=⟨(ρ (c.π b)).g,(ρ (c.π b)).o,none⟩:=by unfold Loc.addr;simp
    rw [haddr]
    have hcall:=hs w (ρ (c.π b)).g (ρ (c.π b)).o cap l.toArray hh (hHR.lt hπ (by rw [ho];rfl)) (by simp;omega)
    rw [show l.toArray.size=l.length by simp] at hcall
    refine Calls.mono hcall fun e w' ⟨he,d',m,os,hp,hsd,hw⟩=>?_
    subst he hw
    have hds:d'.size=l.length:=by have:=hp.1;simpa using this
    obtain ⟨k1,k2⟩:=turn_of hsim hHR hπ ho hle hds m os
    have hperm:d'.toList.Perm l:=by
      have:=hp.2.2
      rw [show l.length=d'.size from hds.symm] at this
      have this:(List.take l.length d'.toList).Perm l:=by simpa [hds] using this
      rwa [List.take_of_length_le (by simp [hds])] at this
    have hget:∀ q,q < l.length→d'.toList.getD q d0=d'[q]! := fun q hq=>by
      rw [List.getD_eq_getElem?_getD,List.getElem?_eq_getElem (by simpa [hds] using hq),getElem!_pos d' q (by omega)]
      simp
    refine ⟨.tup [],_,⟨d'.toList,⟨⟨hperm,fun i hi=>?_⟩,fun p q _ h1 h2=>?_,trivial⟩,c,⟨[],rfl,All2.nil⟩,?_,?_⟩,.tuple #[],ρ,rfl,k1,k2,.inr ⟨_,rfl,All2.nil⟩⟩
    · rcases hi with hi | hi
      · omega
      · rw [List.getElem?_eq_none (by simp [hds];exact hi),List.getElem?_eq_none hi]
    · rw [hget q h2,hget p (by omega)]
      exact hsd p q (Nat.zero_le _) h1 h2
    · show RH c (L.set b (.row t d'.toList)) _
      have htk:(d'.toList.map t.enc++els.drop l.length).take d'.toList.length=d'.toList.map t.enc:=by
        rw [List.take_append_of_le_length (by simp),List.take_of_length_le (by simp)]
      exact hH.set hbl (by rw [hb];exact hnz) (fun t' l' h=>by
        cases h
        exact ⟨t,l,asR hb,by simp [hds]⟩) (fun _=>.inr ⟨hnz,_,rfl,els_new hsim hcl,htk⟩) fun h=>absurd (show c.nz b=true from hnz) h
    · show Keep c L c (L.set b (.row t d'.toList)) _
      exact Keep.set fun t' l' h=>by
        cases h
        exact ⟨t,l,asR hb,by simp [hds]⟩
end
end Go.EA
