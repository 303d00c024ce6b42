/- Layer 2: the law of joins. Conditions: none. -/
import Derived.Test.YtkpahammkkfphaaDoorEJo
import Derived.KernelRfl
set_option linter.unusedVariables false
set_option linter.unusedSimpArgs false
set_option maxRecDepth 100000
set_option maxHeartbeats 0
namespace Go.EA
open F
def mn5 (x:List UInt8):Int:=if (5000:Int)<x.length then 5000 else x.length
def sm5 (l:List (List UInt8)):Int:=(l.map mn5).sum
theorem BQ {l:List (List UInt8)}{i:Nat}(h:i<l.length):sm5 (l.take (i+1))=sm5 (l.take i)+mn5 (l.getD i []):=by
 unfold sm5;rw[List.take_add_one,zB h,List.map_append,List.sum_append,zA,zB h];simp
theorem xw (x:List UInt8):0<=mn5 x/\mn5 x<=5000:=by unfold mn5; split <;> omega
theorem wQ:∀(l:List (List UInt8)),0<=sm5 l/\sm5 l<=5000*l.length
 |[]=>⟨Int.le_refl _,Int.le_refl _⟩
 | x::l=>by
   have h1:=xw x;have h2:=wQ l;have e:sm5 (x::l)=mn5 x+sm5 l:=by simp[sm5]
   rw[e,zM];omega
theorem yT:∀(l:List (List UInt8)),sm5 l<=4000->(ko l:Int)=sm5 l
 |[],_=>rfl
 | x::l,h=>by
   have e:sm5 (x::l)=mn5 x+sm5 l:=by simp[sm5]
   have h1:=xw x;have h2:=(wQ l).1;have h3:=yT l (by omega);rw[qU,e,<- h3];have:mn5 x=x.length:=by
    unfold mn5 at h1 e ⊢;split
    .next h4=>rw[if_pos h4] at e;omega
    .rfl
   rw[this];push_cast
   rfl
theorem w10 {S:SC}(hB:SB S) (q26:aP S 26 (aC G26)) (q28:aP S 28 (aC G28)) (q39:aP S 39 (aC G39)) (q40:aP S 40 (aC G40)) (q41:aP S 41 (aC G41)) (q42:aP S 42 (aC G42)) (h10:S.has 10 f10) (z0:List UInt8) (z1:List (Int×Int×Bool)) (z2:List (List UInt8)) (z3:Bool) (hs0:z0.length<=1048576) (hl1:z1.length<=1048576) (hl2:z2.length<=1048576):MF S 10 [] [aF (.agg [.str z0,.row (.pair (.int .i64) (.pair (.int .i64) .bool)) z1,.row .str z2,.bool z3])] (hl []) fun v _=>v=.one (.bool true):=
 mfM hB [] [⟨26,G26,K26⟩,⟨28,G28,K28⟩,⟨39,G39,K39⟩,⟨40,G40,K40⟩,⟨41,G41,K41⟩,⟨42,G42,K42⟩] trivial ⟨⟨q26,JI⟩,⟨q28,Da⟩,⟨q39,IL⟩,⟨q40,IP⟩,⟨q41,Du⟩,⟨q42,Ey⟩,trivial⟩ h10 (v:=.one .tt) (xs:=[.agg [.str z0,.row (.pair (.int .i64) (.pair (.int .i64) .bool)) z1,.row .str z2,.bool z3]]) rfl rfl rfl (fun f id T L=>match f,id with
  |10,0=>some (.inv { i:Nat // i<=z2.length } (fun x=>([(28,.one (.int .i64 x.1)),(7,.one (.int .i64 (z0.length+sm5 (z2.take x.1))))],[])) (fun x=>z2.length-x.1))
  |_,_=>none) 2000 (VC.use (p:=((!true)=true->false=true)/\(¬(!true)=true->(∃x1:{ i:Nat // i<=z2.length },z0=z0/\z1=z1/\z2=z2/\z3=z3/\(z0.length:Int)=(z0.length:Int)+sm5 (List.take x1.1 z2)/\z2=z2/\(z2.length:Int)=(z2.length:Int)/\0=(x1.1:Int)/\z0=z0/\z1=z1/\z2=z2/\z3=z3)/\(∀x1:{ i:Nat // i<=z2.length },((x1.1:Int)<(z2.length:Int)->(0<=(x1.1:Int)/\(x1.1:Int)<(z2.length:Int))/\aZ ((z0.length:Int)+sm5 (List.take x1.1 z2)+(if 5000<(↑(List.length (z2.getD x1.1 [])):Int) then 5000 else (↑(List.length (z2.getD x1.1 [])):Int)))/\aZ ((x1.1:Int)+1)/\(∃x2:{ i:Nat // i<=z2.length },z2.length-x2.1<z2.length-x1.1/\z0=z0/\z1=z1/\z2=z2/\z3=z3/\((z0.length:Int)+sm5 (List.take x1.1 z2)+(if 5000<(↑(List.length (z2.getD x1.1 [])):Int) then 5000 else (↑(List.length (z2.getD x1.1 [])):Int)))=(z0.length:Int)+sm5 (List.take x2.1 z2)/\z2=z2/\(z2.length:Int)=(z2.length:Int)/\(x1.1:Int)+1=(x2.1:Int)/\z0=z0/\z1=z1/\z2=z2/\z3=z3))/\(¬(x1.1:Int)<(z2.length:Int)->(4000<(z0.length:Int)+sm5 (List.take x1.1 z2)->True)/\(¬4000<(z0.length:Int)+sm5 (List.take x1.1 z2)->(500<(z1.length:Int)->True)/\(¬500<(z1.length:Int)->(z3=true->ko z2<=1099511627776/\z2.length<=1099511627776/\ko z2<=1099511627776/\z2.length<=1099511627776/\(decide ((decide (spE z0=0)&&decide (spL z0=spL z0))=gZ z0 (spL z0))=true->(jnT z0 (spL z0) z2=jnT z0 (spL z0) z2->decide (jnE z0 (spL z0) z2=jnE z0 (spL z0) z2)=true)/\(¬jnT z0 (spL z0) z2=jnT z0 (spL z0) z2->false=true))/\(¬decide ((decide (spE z0=0)&&decide (spL z0=spL z0))=gZ z0 (spL z0))=true->false=true))/\(¬z3=true->ko z2<=1099511627776/\z2.length<=1099511627776/\ko z2<=1099511627776/\z2.length<=1099511627776/\(decide ((decide (spE z0=0)&&decide (spL z0=z1))=gZ z0 z1)=true->(jnT z0 z1 z2=jnT z0 z1 z2->decide (jnE z0 z1 z2=jnE z0 z1 z2)=true)/\(¬jnT z0 z1 z2=jnT z0 z1 z2->false=true))/\(¬decide ((decide (spE z0=0)&&decide (spL z0=z1))=gZ z0 z1)=true->false=true)))))))) (by kernel_rfl) (by
  refine⟨fun h=>(by cases h),fun _=>⟨⟨⟨0,Nat.zero_le _⟩,?_⟩,?_⟩⟩
  .repeat' apply And.intro
   all_goals first
    |rfl
    |(simp[sm5];done)
  rintro⟨i,hi⟩;dsimp only at hi ⊢;have hlo:=wQ (z2.take i);have htl:(z2.take i).length<=i:=List.length_take_le _ _;refine⟨fun h1=>?_,fun h1=>⟨fun _=>trivial,fun h2=>⟨fun _=>trivial,fun h3=>?_⟩⟩⟩
  .have hst:=BQ (l:=z2) (i:=i) (by omega);have hm:=xw (z2.getD i []);have e:(if (5000:Int)<(List.length (z2.getD i []):Int) then (5000:Int) else (List.length (z2.getD i []):Int))=mn5 (z2.getD i []):=rfl;rw[e];refine⟨by omega,by unfold aZ;omega,by unfold aZ;omega,⟨i+1,by omega⟩,by show _-(i+1)<_-i;omega,?_⟩;dsimp only;rw[hst]
   repeat' apply And.intro
   all_goals first
    |rfl
    |(push_cast;rfl)
    |omega
  .have ht:z2.take i=z2:=List.take_of_length_le (by omega);rw[ht] at h2 hlo;have hs5:=yT z2 (by omega);exact⟨fun _=>⟨by omega,by omega,by omega,by omega,fun _=>⟨fun _=>decide_eq_true rfl,fun h=>absurd rfl h⟩,fun h=>absurd (decide_eq_true rfl) h⟩,fun _=>⟨by omega,by omega,by omega,by omega,fun _=>⟨fun _=>decide_eq_true rfl,fun h=>absurd rfl h⟩,fun h=>absurd (decide_eq_true rfl) h⟩⟩))
end Go.EA
