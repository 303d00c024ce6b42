/- strings.Builder's functions, told exactly: copyCheck, WriteString, String. Conditions: none. -/
import Derived.Test.YtkpahammkkfphaaDoorEBd
import Derived.Shelf.Strings.Builder1
set_option linter.unusedVariables false
set_option linter.unusedSimpArgs false
namespace Go.EA
open Go.Proofs Go.Shelf Go.RowKit
structure oJ (b:Nat) (ob:Obj) (w w':World):Prop where
 at':w'.heap[b]?=some ob
 ne:∀k,k≠b->w'.heap[k]?=w.heap[k]?
 sz:w'.heap.size=w.heap.size
 os:w'.os=w.os
 tape:w'.tape=w.tape
 output:w'.output=w.output
 drawn:w'.drawn=w.drawn
def slf (b:Nat):Value:=.pointer (some ⟨b,0,none⟩)
theorem rE {b j:Nat}{C:Array Value}{ty:TypeId}{fr:Nat×Nat}{w:World}{v:Value}(h:w.heap[b]?=some (.cells C ty fr)):oJ b (.cells (C.setIfInBounds j v) ty fr) w (w.setCell ⟨b,j,none⟩ v):=by
 refine⟨?_,fun k hk=>?_,?_,rfl,rfl,rfl,rfl⟩
 .show (w.heap.modify b _)[b]?=_;rw[Array.getElem?_modify,if_pos rfl,h];rfl
 .show (w.heap.modify b _)[k]?=_;rw[Array.getElem?_modify,if_neg (Ne.symm hk)]
 .show (w.heap.modify b _).size=_;simp
section
variable {P:Program} {ρ:Ren}
theorem Ew (L:Lays.n240 P ρ) (X:Builder.X72 P ρ) (b:Nat) (u:Bool) (v:Value) (w:World) (hb:w.heap[b]?=some (.cells #[.pointer (if u then some ⟨b,0,none⟩ else none),v] (ρ.t 72) (0,0))) :
 Calls P (ρ.f 240) #[.pointer (some ⟨b,0,none⟩)] w fun e w'=>e=.returned (.tuple #[])/\oJ b (.cells #[slf b,v] (ρ.t 72) (0,0)) w w':=by
 cases u with
 | true=>
   refine(Any.Builder_copyCheck_used L X b w (by rw[Lib.cell_of_heap hb];rfl)).mono ?_;rintro e w' ⟨rfl,rfl⟩;exact⟨rfl,hb,fun _ _=>rfl,rfl,rfl,rfl,rfl,rfl⟩
 | false=>
   refine(Any.Builder_copyCheck_fresh L X b w (by rw[Lib.cell_of_heap hb];rfl) (by simp[World.shape?,hb]) (Lib.frozen_of_heap hb 0)).mono ?_;rintro e w' ⟨rfl,rfl⟩;exact⟨rfl,rE (j:=0) (v:=slf b) hb⟩
structure Lx (b:Nat) (ob:Obj) (R:Value->World->Prop) (v':Value) (w2:World):Prop where
 at':w2.heap[b]?=some ob
 sl:∃p n c,v'=.slice p n c
 r:R v' w2
theorem wI {ops:Array Oper}{rest:List Oper}{o:Oper}{a:Act}{w:World}{Q:Exit->Act->World->Prop}(hgd:o.guard=none) (sl x:Operand) (t u:TypeId)
 (ho:o.op=.call { callee:=.builtin .append,args:=#[sl,x],argTypes:=#[t,u] }) {v y:Value} (hs:a.eval sl=v) (hx:a.eval x=y) {C:Value->World->Prop}
 (hr:∀ty,∃v' w',(Builtin.append_ #[t,u] ty #[v,y]).run P w=.ok v' w'/\C v' w') (h:∀v' w',C v' w'->wpList P ops Q rest (a.put o.dst v') w'):wpList P ops Q (o::rest) a w:=by
 obtain⟨v',w',hr,hC⟩:=hr o.type;refine wpList_plain hgd fun K hK=>?_
 unfold Oper.wp execOp;simp only[ho,resolve,invoke,builtin,Sem.run_bind,Sem.run_pure,Result.andThen_ok,List.map_toArray,zK,List.map_nil,hs,hx,hr];exact hK _ _ (h _ _ hC)
set_option maxHeartbeats 2000000 in
set_option maxRecDepth 100000 in
theorem EI (L:Lays.n166 P ρ) (X:Builder.Extra P ρ) (b:Nat) (u:Bool) (v:Value) (s:ByteArray) (w:World) (hb:w.heap[b]?=some (.cells #[.pointer (if u then some ⟨b,0,none⟩ else none),v] (ρ.t 72) (0,0))) (R:World->Value->World->Prop)
 (ha:∀w1 ty,oJ b (.cells #[slf b,v] (ρ.t 72) (0,0)) w w1->∃v' w2,(Builtin.append_ #[ρ.t 37,ρ.t 9] ty #[v,.string s]).run P w1=.ok v' w2/\Lx b (.cells #[slf b,v] (ρ.t 72) (0,0)) (R w1) v' w2) :
 Calls P (ρ.f 166) #[.pointer (some ⟨b,0,none⟩),.string s] w fun e w'=>e=.returned (.tuple #[.int .i64 s.size,.nilIface])/\∃w1 v' w2,oJ b (.cells #[slf b,v] (ρ.t 72) (0,0)) w w1/\R w1 v' w2/\oJ b (.cells #[slf b,v'] (ρ.t 72) (0,0)) w2 w':=by
 have mixed:=L.mixed;have t72:=L.t72;have a72:=L.a72;have z72:=L.z72;have v72:=L.v72;have u72:=run_underlying L.t72;have t70:=L.t70;have a70:=L.a70;have z70:=L.z70;have v70:=L.v70;have u70:=run_underlying L.t70;have t37:=L.t37;have a37:=L.a37;have z37:=L.z37;have v37:=L.v37;have u37:=run_underlying L.t37;have t3:=L.t3;have a3:=L.a3;have z3:=L.z3;have v3:=L.v3;have u3:=run_underlying L.t3;have t9:=L.t9;have a9:=L.a9;have z9:=L.z9;have v9:=L.v9;have u9:=run_underlying L.t9;have t4:=L.t4;have a4:=L.a4;have z4:=L.z4;have v4:=L.v4;have u4:=run_underlying L.t4;have t164:=L.t164;have a164:=L.a164;have z164:=L.z164;have v164:=L.v164;have u164:=run_underlying L.t164;have t5:=X.t5;have a5:=X.a5;have z5:=X.z5;have v5:=X.v5;have u5:=run_underlying X.t5;have e240:∀args w,(callFunc (ρ.f 240) args).run P w=.ok (.enter (ρ.f 240) args) w:=enters_of L.f240 (by kernel_rfl) rfl
 go_enter L.f166,Body.n166_ntmps ρ
 go_wp2_with (go_at_fn (ρ.f 240);refine(Ew { L with } X.toX72 b u v _ hb).mono ?_)
 rintro e w1 ⟨rfl,h1⟩;have hbk:=h1.at';have c0:w1.cell? ⟨b,0,none⟩=some (slf b):=by rw[Lib.cell_of_heap hbk];rfl
 have c1:w1.cell? ⟨b,1,none⟩=some v:=by rw[Lib.cell_of_heap hbk];rfl
 go_wp2_with (at_builtin;refine wI rfl _ _ (ρ.t 37) (ρ.t 9) rfl rfl rfl (fun ty=>ha w1 ty h1) ?_)
 intro v' w2 hC;obtain⟨hb2,⟨p,n',cap,rfl⟩,hR⟩:=hC;have d0:w2.cell? ⟨b,0,none⟩=some (slf b):=by rw[Lib.cell_of_heap hb2];rfl
 have d1:w2.cell? ⟨b,1,none⟩=some v:=by rw[Lib.cell_of_heap hb2];rfl
 have f1:w2.frozen? ⟨b,1,none⟩=false:=Lib.frozen_of_heap hb2 1
 go_wp2
 go_ret2
 exact⟨rfl,w1,_,w2,h1,hR,rE (j:=1) hb2⟩
set_option maxHeartbeats 1000000 in
set_option maxRecDepth 100000 in
theorem DI (L:Lays.n169 P ρ) (X:Builder.Extra P ρ) (b g:Nat) (cap:Nat) (p:Value) (cur:Array Value) (l:List UInt8) (w:World) (hb:w.heap[b]?=some (.cells #[p,.slice (some ⟨g,0,none⟩) l.length cap] (ρ.t 72) (0,0)))
 (h0:l≠[]) (hcap:l.length<=cap) (hg:w.heap[g]?=some (.cells cur (ρ.t 5) (0,0))) (hl:l.length<=cur.size) (hm:l.length<=9223372036854775807) (hc:∀(j:Nat) (x:UInt8),l[j]?=some x->cur[j]?=some (.int .u8 x.toNat)) :
 Calls P (ρ.f 169) #[.pointer (some ⟨b,0,none⟩)] w fun e w'=>e=.returned (.string ⟨l.toArray⟩)/\w'=w.drew.freeze ⟨g,0,none⟩ l.length:=by
 have hl0:l.length≠0:=by simpa using h0
 have c1:w.drew.cell? ⟨b,1,none⟩=some (.slice (some ⟨g,0,none⟩) l.length cap):=by
  have:w.drew.heap[b]?=some (.cells #[p,.slice (some ⟨g,0,none⟩) l.length cap] (ρ.t 72) (0,0)):=hb;rw[Lib.cell_of_heap this];rfl
 have hSD:(Builtin.unsafeSliceData_ #[(ρ.t 37)] (ρ.t 127) #[.slice (some ⟨g,0,none⟩) l.length cap]).run P w.drew=.ok (.pointer (some ⟨g,0,none⟩)) w.drew:=
  Lib.run_unsafeSliceData_row _ _ _ _ _ _ (by omega)
 have hUS:(Builtin.unsafeString_ #[(ρ.t 127),(ρ.t 3)] (ρ.t 9) #[.pointer (some ⟨g,0,none⟩),.int .i64 l.length]).run P w.drew=.ok (.string ⟨l.toArray⟩) (w.drew.freeze ⟨g,0,none⟩ l.length):=by
  have hg':w.drew.heap[g]?=some (.cells cur (ρ.t 5) (0,0)):=hg;refine Lib.run_unsafeString_row w.drew (ρ.t 127) (ρ.t 3) (ρ.t 9) (ρ.t 5) L.t127 X.cellsByte g cur.size (by simp[World.shape?,hg']) l h0 hl hm ?_;intro j x hx;rw[addr_add,Nat.zero_add];simp[World.cell?,hg',hc j x hx]
 have mixed:=L.mixed;have t72:=L.t72;have a72:=L.a72;have z72:=L.z72;have v72:=L.v72;have u72:=run_underlying L.t72;have t70:=L.t70;have a70:=L.a70;have z70:=L.z70;have v70:=L.v70;have u70:=run_underlying L.t70;have t37:=L.t37;have a37:=L.a37;have z37:=L.z37;have v37:=L.v37;have u37:=run_underlying L.t37;have t127:=L.t127;have a127:=L.a127;have z127:=L.z127;have v127:=L.v127;have u127:=run_underlying L.t127;have t3:=L.t3;have a3:=L.a3;have z3:=L.z3;have v3:=L.v3;have u3:=run_underlying L.t3;have t9:=L.t9;have a9:=L.a9;have z9:=L.z9;have v9:=L.v9;have u9:=run_underlying L.t9;have t5:=X.t5;have a5:=X.a5;have z5:=X.z5;have v5:=X.v5;have u5:=run_underlying X.t5
 go_enter L.f169,Body.n169_ntmps ρ
 go_wp2
 go_region_o
 all_goals (go_wp2;go_ret;exact⟨rfl,rfl⟩)
set_option maxHeartbeats 2000000 in
set_option maxRecDepth 100000 in
theorem Jt (L:Lays.n169 P ρ) (X:Builder.Extra P ρ) (b:Nat) (p:Value) (w:World) (hb:w.heap[b]?=some (.cells #[p,.slice none 0 0] (ρ.t 72) (0,0))) :
 Calls P (ρ.f 169) #[.pointer (some ⟨b,0,none⟩)] w fun e w'=>e=.returned (.string ⟨#[]⟩)/\w'=w.drew:=by
 have hUS:=Any.unsafeString_none L X;have c1:w.drew.cell? ⟨b,1,none⟩=some (.slice none 0 0):=by
  have:w.drew.heap[b]?=some (.cells #[p,.slice none 0 0] (ρ.t 72) (0,0)):=hb;rw[Lib.cell_of_heap this];rfl
 have hSD:(Builtin.unsafeSliceData_ #[(ρ.t 37)] (ρ.t 127) #[.slice none 0 0]).run P w.drew=.ok (.pointer none) w.drew:=rfl;have mixed:=L.mixed;have t72:=L.t72;have a72:=L.a72;have z72:=L.z72;have v72:=L.v72;have u72:=run_underlying L.t72;have t70:=L.t70;have a70:=L.a70;have z70:=L.z70;have v70:=L.v70;have u70:=run_underlying L.t70;have t37:=L.t37;have a37:=L.a37;have z37:=L.z37;have v37:=L.v37;have u37:=run_underlying L.t37;have t127:=L.t127;have a127:=L.a127;have z127:=L.z127;have v127:=L.v127;have u127:=run_underlying L.t127;have t3:=L.t3;have a3:=L.a3;have z3:=L.z3;have v3:=L.v3;have u3:=run_underlying L.t3;have t9:=L.t9;have a9:=L.a9;have z9:=L.z9;have v9:=L.v9;have u9:=run_underlying L.t9;have t5:=X.t5;have a5:=X.a5;have z5:=X.z5;have v5:=X.v5;have u5:=run_underlying X.t5
 go_enter L.f169,Body.n169_ntmps ρ
 go_wp2
 go_region_o
 all_goals (go_wp2;go_ret;exact⟨rfl,rfl⟩)
end
end Go.EA
