/- Plain: places of words in an automaton. Conditions: none. -/
import Derived.Test.YtpgjilomblpcpaaDoorEK23
set_option linter.unusedVariables false
set_option linter.unusedSimpArgs false
namespace Go.EA
def e01 (b:Bool):Int:=if b then 1 else 0
def cB (S:List StD) (es:List Ed):Int:=(es.map fun e=>(stA S e.2.toNat).2.2).sum
theorem jK (S:List StD) {es:List Ed}{j:Nat}(h:j<es.length):cB S (es.take (j+1))=cB S (es.take j)+(stA S (es.getD j (0,0)).2.toNat).2.2:=by
 unfold cB;rw[bG (0,0) h,List.map_append,List.sum_append];simp
structure Am (S:List StD):Prop where
 eds:EdS S
 pos:0<S.length
 to:∀i,i<S.length->∀e∈(stA S i).1,0<=e.2/\e.2<(S.length:Int)
 cnt:∀i,i<S.length->(stA S i).2.2=e01 (stA S i).2.1+cB S (stA S i).1
 nn:∀i,i<S.length->0<=(stA S i).2.2
 le:∀i,i<S.length->(stA S i).2.2<=4194305
def plc (S:List StD):List Int->Nat->Int->Int×Int
 |[],i,at'=>if (stA S i).2.1 then (at',0) else (0,10)
 |r::rs,i,at'=>if iT (stA S i).1 r then plc S rs (uk (stA S i).1 r).toNat (at'+e01 (stA S i).2.1+cB S ((stA S i).1.take (gZ (stA S i).1 r).toNat)) else (0,10)
theorem ym {S:List StD}(h:Am S):∀(es:List Ed),(∀e∈es,0<=e.2/\e.2<(S.length:Int))->0<=cB S es
 |[],_=>Int.le_refl _
 | e::es,he=>by
   have h1:=ym h es fun x hx=>he x (by simp[hx])
   have h2:=he e (by simp);have h3:=h.nn e.2.toNat (by omega);unfold cB at h1 ⊢;simp only[zK,List.sum_cons];omega
theorem Am.part {S:List StD}(h:Am S) {i:Nat}(hi:i<S.length) {n:Nat}(hn:n<(stA S i).1.length) :
 0<=cB S ((stA S i).1.take n)/\e01 (stA S i).2.1+cB S ((stA S i).1.take n)+(stA S ((stA S i).1.getD n (0,0)).2.toNat).2.2<=(stA S i).2.2/\((stA S i).1.getD n (0,0)).2.toNat<S.length:=by
 have h0:=h.to i hi;have hm:=h0 _ (iJ hn);refine⟨ym h _ fun e he=>h0 e (List.mem_of_mem_take he),?_,by omega⟩;have e1:cB S (stA S i).1=cB S ((stA S i).1.take (n+1))+cB S ((stA S i).1.drop (n+1)):=by
  unfold cB;rw[<- List.sum_append,<- List.map_append,List.take_append_drop]
 have h2:=ym h ((stA S i).1.drop (n+1)) fun e he=>h0 e (List.mem_of_mem_drop he)
 have h3:=h.cnt i hi;rw[jK S hn] at e1;omega
theorem KQ (b:Bool):0<=e01 b/\e01 b<=1:=by cases b <;> exact⟨by decide,by decide⟩
theorem nJ {all:List RSt}{s:RSt}(g:Gs all s):∀{es:List Ed},(∀e∈es,e∈s.2.2)->cB (all.map stD) es=((es.map fun e=>(aS s.1 e.1).length).sum:Nat)
 |[],_=>rfl
 | e::es,he=>by
   have ih:=nJ g (es:=es) fun x hx=>he x (by simp[hx])
   obtain⟨n,h1,h2,h3⟩:=g.to e (he e (by simp));unfold cB at ih ⊢;simp only[zK,List.sum_cons];rw[ih,h1,Int.toNat_natCast,dh h2];show ((rAt all n).1.length:Int)+_=_;rw[h3];push_cast;rfl
theorem Sts.ok {W:Rst}{all:List RSt}(hS:Sts W all) (hT:tot W<=4194304):Am (all.map stD):=by
 have hm:∀i,i<all.length->rAt all i∈all:=fun i hi=>by unfold rAt;rw[zA,zB hi];exact List.getElem_mem _
 have hl:(all.map stD).length=all.length:=zR ..;refine⟨hS.eds hT,by rw[hl]; exact hS.pos,fun i hi e he=>?_,fun i hi=>?_,fun i hi=>?_,fun i hi=>?_⟩ <;> rw[hl] at hi
 .rw[dh hi] at he;obtain⟨n,h1,h2,h3⟩:=(hS.g _ (hm i hi)).to e he;rw[hl];omega
 .have g:=hS.g _ (hm i hi);rw[dh hi];show ((rAt all i).1.length:Int)=e01 (rAt all i).2.1+cB (all.map stD) (rAt all i).2.2;rw[nJ g fun e he=>he];have h1:=tH g.srt;unfold xc at h1;rw[List.take_length,<- g.hd,List.map_map,<- g.ends] at h1;have h2:((fun r=>(aS (rAt all i).1 r).length) ∘ fun e:Ed=>e.1)=fun e:Ed=>(aS (rAt all i).1 e.1).length:=rfl
  rw[h2] at h1;rw[<- h1];unfold e01;cases (rAt all i).2.1 <;> simp
 .rw[dh hi];show 0<=((rAt all i).1.length:Int);omega
 .rw[dh hi];show ((rAt all i).1.length:Int)<=_;have h1:=rz (hS.g _ (hm i hi)).srt;have h2:=hS.tt _ (hm i hi);omega
end Go.EA
