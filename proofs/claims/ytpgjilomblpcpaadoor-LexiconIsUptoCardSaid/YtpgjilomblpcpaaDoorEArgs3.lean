/- Rows of structs among a law's arguments: what their texts are. Conditions: none. -/
import Derived.Test.YtpgjilomblpcpaaDoorEArgs2
set_option linter.unusedVariables false
set_option linter.unusedSimpArgs false
namespace Go.EA
open Go.ChangeShapes Go.WideShapes Go.RowKit
section
variable {S:SC} {P:Program} {W:World} {H:Type} {enc:TypeId×Value→H} {sp:Nat→Bool}
theorem open_flatS {r:Reach} {b0:Nat} {t e:TypeId} {ks:List Ty} {v:Value} {d:DataW H} {ps:List MemPlace}
    (ht:P.underlying t=some (.slice e)) (hok:flatOk P e ks=true) (hval:Value.okWide P W r b0 t v) (hd:DataW.Trod enc P W 0 (fun _=>true) true t v d ps) :
    ∃ zs:List (tyF ks).den,VRel S (rho0 W) 0 (.one (.vrow (tyF ks).size (zs.map (tyF ks).enc))) v∧(zs=[]∨∃ ds r,d=.slice ds r∧ds=zs.map fun x=>.agg (((tyF ks).enc x).map litOf)):=by
  obtain ⟨a,len,cap,rfl⟩:=okWide_slice ht hval
  obtain ⟨fuel,hf⟩:=hd
  have hks:ks≠[]∧P.cellsOf e=ks.length:=by
    unfold flatOk at hok
    split at hok
    · simp only [Bool.and_eq_true,Bool.not_eq_true',List.isEmpty_eq_false_iff] at hok
      exact ⟨hok.2,Nat.eq_of_beq_eq_true hok.1.2⟩
    · cases hok
  have hpos:0 < ks.length:=List.length_pos_iff.2 hks.1
  rcases DataW.trod_slice ht hf with ⟨h,_⟩ | ⟨a',len',cap',elems,rest,n,_,h,hx9,hb,hl,hm,hlen,hel,_,_⟩
  · simp only [Value.cells,List.cons.injEq,Value.slice.injEq,and_true] at h
    obtain ⟨rfl,rfl,rfl⟩:=h
    exact ⟨[],⟨none,0,rfl,Nat.le_refl _,.inl rfl⟩,.inl rfl⟩
  · simp only [Value.cells,List.cons.injEq,Value.slice.injEq,and_true] at h
    obtain ⟨rfl,rfl,rfl⟩:=h
    by_cases h0:len=0
    · subst h0
      exact ⟨[],⟨some a',cap,rfl,Nat.zero_le _,.inl rfl⟩,.inl rfl⟩
    have each:∀ i,i < len→∃ (x:(tyF ks).den) (cs:List Value),W.cells? 0 (a'.add (i*ks.length)) ks.length=some cs∧cs.length=ks.length∧All2 (CRel S (rho0 W).fz) ((tyF ks).enc x) cs∧elems[i]?.map (·.1)=some (.agg (((tyF ks).enc x).map litOf)):=by
      intro i hi
      have hE:=hel i hi
      rw [List.getElem?_eq_getElem (by omega:i < elems.length),Option.bind_eq_some_iff,hks.2] at hE
      obtain ⟨cs,h1,h2⟩:=hE
      obtain ⟨g1,xs,g2,g3,g4⟩:=flat_cells (S:=S) (fz:=(rho0 W).fz) hok h2
      obtain ⟨x,rfl⟩:=enc_of g2 hks.1
      exact ⟨x,cs,h1,g1,g3,by rw [List.getElem?_eq_getElem (by omega:i < elems.length),Option.map_some,g4]⟩
    have hcell0:=each 0 (by omega)
    obtain ⟨x0,cs0,hc0,hl0,_,_⟩:=hcell0
    have hat0:=(World.cells?_some hc0).2.2 0 hpos
    obtain ⟨b,off,spot⟩:=a'
    have hx0:W.cell? ⟨b,off,spot⟩=cs0[0]?:=by simpa [Addr.add] using hat0
    rw [List.getElem?_eq_getElem (by omega)] at hx0
    have hcb:∃ C ty fr,W.heap[b]?=some (.cells C ty fr)∧spot=none:=by
      unfold World.cell? at hx0
      split at hx0
      · rename_i C ty fr hC
        split at hx0
        · cases hx0
        · rename_i hs
          exact ⟨C,ty,fr,hC,by simpa using hs⟩
      · cases hx0
    obtain ⟨C,ty,fr,hC,rfl⟩:=hcb
    have each2:∀ i,i < len→∃ (x:(tyF ks).den),CellC S (rho0 W).fz C (off+i*ks.length) ((tyF ks).enc x)∧elems[i]?.map (·.1)=some (.agg (((tyF ks).enc x).map litOf)):=by
      intro i hi
      obtain ⟨x,cs,h1,h2,h3,h4⟩:=each i hi
      refine ⟨x,cellC_of h3 fun j hj=>?_,h4⟩
      have:=(World.cells?_some h1).2.2 j (by omega)
      rw [show ((⟨b,off,none⟩:Addr).add (i*ks.length)).add j=⟨b,off+i*ks.length+j,none⟩ by rw [addr_add,addr_add]] at this
      unfold World.cell? at this
      rw [hC] at this
      simpa using this
    have hsz:(tyF ks).size=ks.length:=by
      obtain ⟨x,cs,h1,h2,h3,_⟩:=each 0 (by omega)
      rw [← Ty.enc_len (tyF ks) x,h3.1,h2]
    have rows:∀ (n i:Nat),i+n=len→∃ zs:List (tyF ks).den,zs.length=n∧RowC S (rho0 W).fz C (off+i*ks.length) (tyF ks).size (zs.map (tyF ks).enc)∧(elems.drop i).map (·.1)=zs.map fun x=>.agg (((tyF ks).enc x).map litOf):=by
      intro n
      induction n with
      | zero=>intro i _;exact ⟨[],rfl,trivial,by rw [List.drop_of_length_le (by omega)];rfl⟩
      | succ n ih=>
        intro i hi
        obtain ⟨x,hx,hx2⟩:=each2 i (by omega)
        obtain ⟨zs,h1,h2,h3⟩:=ih (i+1) (by omega)
        have hie:i < elems.length:=by omega
        rw [List.getElem?_eq_getElem hie,Option.map_some,Option.some.injEq] at hx2
        refine ⟨x::zs,by simp [h1],⟨Ty.enc_len _ _,hx,?_⟩,by rw [List.drop_eq_getElem_cons hie,List.map_cons,h3,hx2];rfl⟩
        rw [hsz,show off+i*ks.length+ks.length=off+(i+1)*ks.length by rw [Nat.succ_mul];omega]
        rw [hsz] at h2
        exact h2
    obtain ⟨zs,h1,h2,h3⟩:=rows len 0 (by omega)
    refine ⟨zs,⟨some ⟨b,off,none⟩,cap,by rw [List.length_map,h1],by rw [List.length_map,h1];exact hl,.inr ⟨b,off,C,ty,fr,rfl,?_,?_⟩⟩,.inr ⟨elems.map (·.1),rest.map (·.1),congrArg Prod.fst hx9,by rw [List.drop_zero] at h3;exact h3⟩⟩
    · show (match W.heap[b]? with | some (.cells C t f)=>some (Obj.cells C t f) | _=>none)=_
      rw [hC]
    · rw [Nat.zero_mul,Nat.add_zero] at h2
      exact h2
end
end Go.EA
