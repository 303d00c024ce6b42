/- Texts. Conditions: none. -/
import Derived.Test.YtkpahammkkfphaaDoorEK3
import Derived.Orders
set_option linter.unusedVariables false
set_option linter.unusedSimpArgs false
section
namespace Go.EA
def Opd.uses:Opd->List Nat
 |.t n=>[n]
 |.c _=>[]
def vV:Option Opd->List Nat
 |some x=>x.uses
 |none=>[]
def jQ:List Opd->List Nat
 |[]=>[]
 |x::r=>x.uses++jQ r
def uR:List (Nat×Nat×Opd)->List Nat
 |[]=>[]
 |(_,_,x)::r=>x.uses++uR r
def tu:List (Nat×Opd)->List Nat
 |[]=>[]
 |(_,x)::r=>x.uses++tu r
def AOp.uses:AOp->List Nat
 |.mov x | .un _ x | .wrapI _ x | .s2b x | .b2s x | .i2s x | .s2s x | .box x | .load _ _ x | .nilck x | .faddr _ x | .fld _ _ _ x | .rng x | .nxt x | .ext x _ | .len _ x | .clr _ _ x=>x.uses
 |.bin _ x y | .eqv _ _ x y | .store _ x y | .iaddr _ x y | .aaddr _ _ x y | .sidx x y | .aidx _ _ _ x y | .mksl _ _ _ x y | .lookup _ _ x y _ | .app _ _ x y=>x.uses++y.uses
 |.pick c a b | .mapset _ c a b=>c.uses++(a.uses++b.uses)
 |.new _ | .mkmap | .newb=>[]
 |.build _ ps=>uR ps
 |.rowLit _ _ _ ps=>tu ps
 |.slice _ _ x lo hi mx=>x.uses++(vV lo++(vV hi++vV mx))
 |.mkfn _ xs | .best _ xs=>jQ xs
 |.call f xs=>f.uses++jQ xs
section
variable {T T':Tm}
theorem bT {x:Opd}(h:∀n∈x.uses,T n=T' n):x.ev T=x.ev T':=by
 cases x with
 |t n=>exact h n (by simp[Opd.uses])
 |c v=>rfl
theorem mJ:∀{xs:List Opd},(∀n∈jQ xs,T n=T' n)->xs.map (·.ev T)=xs.map (·.ev T')
 |[],_=>rfl
 | x::r,h=>by
   simp only[zK];rw[bT (x:=x) fun n hn=>h n (by simp[jQ,hn]),mJ (xs:=r) fun n hn=>h n (by simp[jQ,hn])]
theorem nD:∀{ps:List (Nat×Nat×Opd)}{cs:List Lf},(∀n∈uR ps,T n=T' n)->ic T cs ps=ic T' cs ps
 |[],cs,_=>rfl
 | (o,n,x)::r,cs,h=>by
   simp only[ic];rw[bT (x:=x) fun n hn=>h n (by simp[uR,hn])];split
   .split
    .exact nD fun n hn=>h n (by simp[uR,hn])
    .rfl
   .rfl
theorem ni {s:Nat}:∀{ps:List (Nat×Opd)}{es:List (List Lf)},(∀n∈tu ps,T n=T' n)->fP T s es ps=fP T' s es ps
 |[],es,_=>rfl
 | (i,x)::r,es,h=>by
   simp only[fP];rw[bT (x:=x) fun n hn=>h n (by simp[tu,hn])];split
   .split
    .exact ni fun n hn=>h n (by simp[tu,hn])
    .rfl
   .rfl
theorem nA {d:Nat}{x:Option Opd}(h:∀n∈vV x,T n=T' n):bound T d x=bound T' d x:=by
 cases x with
 |none=>rfl
 |some x=>simp only[bound];rw[bT h]
theorem xM {H:Heap}{op:AOp}(h:∀n∈op.uses,T n=T' n):ah T H op=ah T' H op:=by
 have two:∀{x y:Opd},(∀n∈x.uses++y.uses,T n=T' n)->x.ev T=x.ev T'/\y.ev T=y.ev T':=fun h=>
  ⟨bT fun n hn=>h n (by simp[hn]),bT fun n hn=>h n (by simp[hn])⟩
 have three:∀{x y z:Opd},(∀n∈x.uses++(y.uses++z.uses),T n=T' n)->x.ev T=x.ev T'/\y.ev T=y.ev T'/\z.ev T=z.ev T':=fun h=>
  ⟨bT fun n hn=>h n (by simp[hn]),bT fun n hn=>h n (by simp[hn]),bT fun n hn=>h n (by simp[hn])⟩
 cases op
 case new=>rfl
 case mkmap=>rfl
 case newb=>rfl
 case call=>rfl
 case build z ps=>simp only[ah];rw[nD h]
 case rowLit s z n ps=>simp only[ah];rw[ni h]
 case slice k s x lo hi mx=>
  simp only[AOp.uses] at h;have h1:=nA (T:=T) (T':=T') (x:=lo) (d:=0) fun n hn=>h n (by simp[hn])
  have h2:∀d,bound T d hi=bound T' d hi:=fun d=>nA fun n hn=>h n (by simp[hn])
  have h3:∀m,mx=some m->m.ev T=m.ev T':=fun m e=>bT fun n hn=>h n (by subst e;simp[vV,hn])
  have h4:x.ev T=x.ev T':=bT fun n hn=>h n (by simp[hn])
  simp only[ah];rw[h4]
  congr 1
  unfold dh;simp only[h1,h2];cases mx with
  | none=>
    cases k
    case map=>cases x.ev T' with
     |one y=>cases y <;> rfl
     |agg cs=>rfl
     |tup vs=>rfl
    case cap=>cases x.ev T' with
     |one y=>cases y <;> rfl
     |agg cs=>rfl
     |tup vs=>rfl
    case str=>cases x.ev T' with
     |one y=>cases y <;> rfl
     |agg cs=>rfl
     |tup vs=>rfl
    case slc=>
     have nn:∀(a b:Option Nat) (r:AV) (f f':Opd->Option AV),(match a,b,(none:Option Opd) with | some 0,some 0,none=>some r | some 0,some 0,some m=>f m | _,_,_=>none)=(match a,b,(none:Option Opd) with | some 0,some 0,none=>some r | some 0,some 0,some m=>f' m | _,_,_=>none):=by
      intro a b r f f';cases a with
      |none=>rfl
      | some p=>
        cases b with
        |none=>cases p <;> rfl
        |some q=>cases p <;> cases q <;> rfl
     cases x.ev T' with
     |agg cs=>rfl
     |tup vs=>rfl
     | one y=>
       cases y
       case sl b i n=>dsimp only; cases bound T' 0 lo <;> cases bound T' n hi <;> rfl
       case vrow s' els=>dsimp only; cases bound T' 0 lo <;> cases bound T' els.length hi <;> rfl
       case nils=>exact nn _ _ _ _ _
       case slz=>exact nn _ _ _ _ _
       all_goals rfl
  | some m=>
    have hm:=h3 m rfl;cases k
    case map=>cases x.ev T' with
     |one y=>cases y <;> rfl
     |agg cs=>rfl
     |tup vs=>rfl
    case cap=>cases x.ev T' with
     |one y=>cases y <;> rfl
     |agg cs=>rfl
     |tup vs=>rfl
    case str=>cases x.ev T' with
     |one y=>cases y <;> rfl
     |agg cs=>rfl
     |tup vs=>rfl
    case slc=>
     cases x.ev T' with
     |agg cs=>rfl
     |tup vs=>rfl
     | one y=>
       cases y
       case sl b i n=>dsimp only; cases bound T' 0 lo <;> cases bound T' n hi <;> first | rfl | (dsimp only; rw[hm])
       case vrow s' els=>dsimp only; cases bound T' 0 lo <;> cases bound T' els.length hi <;> first | rfl | (dsimp only; rw[hm])
       case nils=>
        dsimp only;cases bound T' 0 lo with
        |none=>rfl
        |some p=>cases bound T' 0 hi with
         |none=>cases p <;> rfl
         |some q=>cases p <;> cases q <;> first | rfl | simp only[hm]
       case slz=>
        dsimp only;cases bound T' 0 lo with
        |none=>rfl
        |some p=>cases bound T' 0 hi with
         |none=>cases p <;> rfl
         |some q=>cases p <;> cases q <;> first | rfl | simp only[hm]
       all_goals rfl
 case mkfn f xs=>
  simp only[ah];have hl:∀(xs:List Opd),(∀n∈jQ xs,T n=T' n)->∀(g:AV->Option (Nat×Nat×Nat)),(xs.mapM fun x=>g (x.ev T))=xs.mapM fun x=>g (x.ev T'):=by
   intro xs hx g
   induction xs with
   |nil=>rfl
   | cons x r ih=>
     simp only[List.mapM_cons];rw[bT (x:=x) fun n hn=>hx n (by simp[jQ,hn]),ih fun n hn=>hx n (by simp[jQ,hn])]
  exact congrArg (Option.map _) (hl xs h capOf)
 case best mx xs=>
  simp only[ah];cases xs with
  |nil=>rfl
  | cons x r=>
    simp only[AOp.uses,jQ] at h;dsimp only;rw[bT (x:=x) fun n hn=>h n (by simp[hn]),mJ (xs:=r) fun n hn=>h n (by simp[hn])]
 case pick c a b=>obtain⟨h1,h2,h3⟩:=three h;simp only[ah,h1,h2,h3]
 case mapset kk c a b=>obtain⟨h1,h2,h3⟩:=three h;simp only[ah,h1,h2,h3]
 all_goals first
  |(obtain⟨h1,h2⟩:=two h;simp only[ah,h1,h2];done)
  |(have h1:=bT h;simp only[ah,h1];done)
end
def AOp.keeps (pp:Nat->Bool):AOp->Bool
 |.s2b _ | .new _ | .box _ | .rowLit _ _ _ _ | .store _ _ _ | .mksl _ _ _ _ _ | .mkmap | .newb | .mapset _ _ _ _ | .rng _ | .nxt _ | .app _ _ _ _ | .clr _ _ _=>false
 |.call (.c (.one (.fn f []))) _=>pp f
 |.call _ _=>false
 |_=>true
def AOp.blind:AOp->Bool
 |.mov _ | .bin _ _ _ | .eqv _ _ _ _ | .un _ _ | .wrapI _ _ | .i2s _ | .s2s _ | .pick _ _ _ | .build _ _ | .nilck _ | .faddr _ _ | .fld _ _ _ _ | .aaddr _ _ _ _ | .sidx _ _ | .aidx _ _ _ _ _ | .mkfn _ _ | .ext _ _ | .best _ _=>true
 |.len .str _ | .len .slc _=>true
 |_=>false
theorem pM {pp:Nat->Bool}{T:Tm}{H H':Heap}{op:AOp}{v:AV}(hk:op.keeps pp=true) (h:ah T H op=some (v,H')):H'=H:=by
 cases op <;> simp only[AOp.keeps,Bool.false_eq_true] at hk <;> simp only[ah] at h
 all_goals repeat' (split at h)
 all_goals first
  |(cases h;done)
  |(simp only[zE,zF] at h;exact h.2.symm)
  |(obtain⟨r,_,hr⟩:=zD.1 h;simp only[zF] at hr;exact hr.2.symm)
theorem wS {T:Tm}{H H':Heap}{op:AOp}{v:AV}(hk:op.blind=true) (h:ah T H op=some (v,H')):H'=H/\∀H2,ah T H2 op=some (v,H2):=by
 have hH:H'=H:=by
  refine pM (pp:=fun _=>false) ?_ h;cases op <;> simp only[AOp.blind,Bool.false_eq_true] at hk <;> rfl
 refine⟨hH,fun H2=>?_⟩;subst hH;cases op <;> simp only[AOp.blind,Bool.false_eq_true] at hk <;> simp only[ah] at h ⊢
 all_goals repeat' (split at h)
 all_goals first
  |(cases h;done)
  |(simp_all;done)
  |(obtain⟨r,hr0,hr⟩:=zD.1 h;simp only[zF] at hr;rw[hr0];simp[hr.1];done)
  |(cases hk;done)
  |skip
def AOp.looks:AOp->Bool
 |.load _ _ _ | .iaddr _ _ _=>true
 |_=>false
def AOp.looksW:AOp->Bool
 |.load _ _ _ | .iaddr _ _ _ | .slice _ _ _ _ _ _=>true
 |_=>false
def AOp.asks (pp:Nat->Bool):AOp->Bool
 |.call (.c (.one (.fn f []))) _=>pp f
 |_=>false
def AOp.adds:AOp->Bool
 |.rowLit _ _ _ _ | .new _ | .box _ | .s2b _ | .mkmap | .newb=>true
 |_=>false
theorem mK {H:Heap}{b:Nat}(h:b<H.n) (x:AO):(H.push x).o b=H.o b:=by
 show EA.put H.o H.n x b=_;unfold EA.put;rw[if_neg (by omega)]
theorem oF {T:Tm}{H H':Heap}{op:AOp}{v:AV}(hk:op.looks=true) (hd:H.Hd) (h:ah T H op=some (v,H')):H'=H/\∀x,ah T (H.push x) op=some (v,H.push x):=by
 cases op <;> simp only[AOp.looks,Bool.false_eq_true] at hk
 case load ag n a=>
  simp only[ah] at h ⊢;split at h
  .rename_i b i j e;obtain⟨w,hw,e2⟩:=zD.1 h;simp only[zF] at e2;obtain⟨rfl,rfl⟩:=e2;refine⟨rfl,fun x=>?_⟩;have hb:b<H.n:=Hd.lt hd fun e=>by simp[Heap.cells,e] at hw
   have:(H.push x).cells b i j n=H.cells b i j n:=by unfold Heap.cells;rw[mK hb]
   rw[this,hw];rfl
  .rename_i cs e;split at h
   .rename_i hn;obtain⟨w,hw,e2⟩:=zD.1 h;simp only[zF] at e2;obtain⟨rfl,rfl⟩:=e2;refine⟨rfl,fun x=>?_⟩;rw[if_pos hn,hw];rfl
   .cases h
  .cases h
 case iaddr s x i=>
  simp only[ah] at h ⊢;split at h
  .rename_i b f n k e1 e2;split at h
   .rename_i hn;simp only[zE,zF] at h;obtain⟨rfl,rfl⟩:=h;refine⟨rfl,fun x=>?_⟩;have hb:b<H.n:=Hd.lt hd fun e=>by have:=hn.1;simp[Heap.isBlk,e] at this
    have:(H.push x).isBlk s b=H.isBlk s b:=by unfold Heap.isBlk;rw[mK hb]
    rw[this,if_pos hn]
   .cases h
  .rename_i s' els k e1 e2;split at h
   .rename_i hn;obtain⟨w,hw,e3⟩:=zD.1 h;simp only[zF] at e3;obtain⟨rfl,rfl⟩:=e3;refine⟨rfl,fun x=>?_⟩;rw[if_pos hn,hw];rfl
   .cases h
  .cases h
theorem rV {T:Tm}{H:Heap}{k:nJ}{s:Nat}{x:AV}{lo hi mx:Option Opd}{v:AV}(hd:H.Hd) (h:dh T H k s x lo hi mx=some v) (o:AO):dh T (H.push o) k s x lo hi mx=some v:=by
 unfold dh at h ⊢;split at h
 all_goals first
  |exact h
  | (rename_i b i n
     split at h
     .rename_i hb;have hlt:b<H.n:=Hd.lt hd fun e=>by simp[Heap.isBlk,e] at hb
      have e:(H.push o).isBlk s b=H.isBlk s b:=by unfold Heap.isBlk;rw[mK hlt]
      rw[e,if_pos hb];exact h
     .cases h)
  |skip
theorem wu {T:Tm}{H H':Heap}{op:AOp}{v:AV}(hk:op.looksW=true) (hd:H.Hd) (h:ah T H op=some (v,H')):H'=H/\∀x,ah T (H.push x) op=some (v,H.push x):=by
 cases op <;> simp only[AOp.looksW,Bool.false_eq_true] at hk
 case load=>exact oF rfl hd h
 case iaddr=>exact oF rfl hd h
 case slice k s x lo hi mx=>
  simp only[ah] at h ⊢;obtain⟨w,hw,e⟩:=zD.1 h;simp only[zF] at e;obtain⟨rfl,rfl⟩:=e;exact⟨rfl,fun o=>by rw[rV hd hw o];rfl⟩
theorem AB {T:Tm}{H H':Heap}{op:AOp}{v:AV}(hk:op.adds=true) (h:ah T H op=some (v,H')):∃x,H'=H.push x:=by
 cases op <;> simp only[AOp.adds,Bool.false_eq_true] at hk
 case rowLit s z n ps=>
  simp only[ah] at h;obtain⟨_,_,e⟩:=zD.1 h;simp only[zF] at e;exact⟨_,e.2.symm⟩
 all_goals
  simp only[ah] at h
  repeat' split at h
  all_goals first
   |(cases h;done)
   |(simp only[zE,zF] at h;exact⟨_,h.2.symm⟩)
end Go.EA
end
section
namespace Go.EA
def AI.reads (i:AI):List Nat:=(match i.gd with | some (d,_)=>[d] | none=>[])++i.op.uses
def AI.writes (i:AI):List Nat:=match i.dst with | some d=>[d] | none=>[]
def lq (pp:Nat->Bool) (x y:AI):Bool:=
 x.writes.all (fun d=>!y.reads.contains d&&!y.writes.contains d)&&y.writes.all (fun d=>!x.reads.contains d) &&
 ((x.op.keeps pp&&y.op.keeps pp)||x.op.blind||y.op.blind||((x.op.looks||x.op.asks pp)&&y.op.adds))
def fq (pp:Nat->Bool) (x y:AI):Bool:=
 x.writes.all (fun d=>!y.reads.contains d&&!y.writes.contains d)&&y.writes.all (fun d=>!x.reads.contains d) &&
 ((x.op.keeps pp&&y.op.keeps pp)||x.op.blind||y.op.blind||((x.op.looksW||x.op.asks pp)&&y.op.adds))
theorem Fy {op:AOp}(h:op.looks=true):op.looksW=true:=by cases op <;> simp_all [AOp.looks,AOp.looksW]
theorem mD {pp:Nat->Bool}{x y:AI}(h:lq pp x y=true):fq pp x y=true:=by
 simp only[lq,fq,zH,Bool.or_eq_true] at h ⊢;refine⟨h.1,?_⟩;rcases h.2 with h1 | ⟨h1 | h1,h2⟩
 .exact .inl h1
 .exact .inr ⟨.inl (Fy h1),h2⟩
 .exact .inr ⟨.inr h1,h2⟩
def dF (pp:Nat->Bool) (call:AV->List AV->Heap->Option (AV×Heap)):Prop:=∀f xs H v H',pp f=true->call (.one (.fn f [])) xs H=some (v,H')->H'=H
def dX (call:AV->List AV->Heap->Option (AV×Heap)):Prop:=∀f xs H v H',call f xs H=some (v,H')->H.Hd->H'.Hd
def bR (pp:Nat->Bool) (call:AV->List AV->Heap->Option (AV×Heap)):Prop:=∀f xs H v H',pp f=true->call (.one (.fn f [])) xs H=some (v,H')->H.Hd->∀o,call (.one (.fn f [])) xs (H.push o)=some (v,H.push o)
section
variable {pp:Nat->Bool} {call:AV->List AV->Heap->Option (AV×Heap)}
def dW (call:AV->List AV->Heap->Option (AV×Heap)) (op:AOp) (T:Tm) (H:Heap):Option (AV×Heap):=
 match op with
 |.call f xs=>call (f.ev T) (xs.map (·.ev T)) H
 |op=>ah T H op
def gP (call:AV->List AV->Heap->Option (AV×Heap)) (i:AI) (T:Tm) (H:Heap):Option (AV×Heap):=if known T i.gd=false then none else if wanted T i.gd then dW call i.op T H else some (und,H)
theorem cO (i:AI) (r:List AI) (T:Tm) (H:Heap):aU call (i::r) T H=(gP call i T H).bind fun p=>aU call r (cz T i.dst p.1) p.2:=by
 obtain⟨d,op,g⟩:=i;simp only[aU,gP];by_cases hkn:known T g=false
 .rw[if_pos hkn,if_pos hkn];rfl
 rw[if_neg hkn,if_neg hkn];by_cases hw:wanted T g=true
 .rw[if_pos hw,if_pos hw];cases op with
  | call f xs=>
    simp only[dW];cases call (f.ev T) (xs.map (·.ev T)) H with
    |none=>rfl
    |some p=>rfl
  | _=>
    simp only[dW]
    first
     |rfl
     |(generalize ah T H _=z; cases z <;> rfl)
 .rw[if_neg hw,if_neg hw];rfl
theorem rW {T T':Tm}{g:Option (Nat×Bool)}(h:∀d b,g=some (d,b)->T d=T' d):wanted T g=wanted T' g:=by
 cases g with
 |none=>rfl
 |some p=>obtain⟨d,b⟩:=p;simp only[wanted];rw[h d b rfl]
theorem vw {T T':Tm}{g:Option (Nat×Bool)}(h:∀d b,g=some (d,b)->T d=T' d):known T g=known T' g:=by
 cases g with
 |none=>rfl
 |some p=>obtain⟨d,b⟩:=p;simp only[known];rw[h d b rfl]
theorem uS {op:AOp}{T T':Tm}{H:Heap}(h:∀n∈op.uses,T n=T' n):dW call op T H=dW call op T' H:=by
 cases op with
 | call f xs=>
   simp only[dW];simp only[AOp.uses] at h;rw[bT (x:=f) fun n hn=>h n (by simp[hn]),mJ (xs:=xs) fun n hn=>h n (by simp[hn])]
 |_=>exact xM h
theorem pQ {i:AI}{T T':Tm}{H:Heap}(h:∀n∈i.reads,T n=T' n):gP call i T H=gP call i T' H:=by
 have hw:wanted T i.gd=wanted T' i.gd:=rW fun d b e=>h d (by simp[AI.reads,e])
 have ho:dW call i.op T H=dW call i.op T' H:=uS fun n hn=>h n (by simp[AI.reads,hn])
 have hk:known T i.gd=known T' i.gd:=vw fun d b e=>h d (by simp[AI.reads,e])
 simp only[gP,hk,hw,ho]
theorem wo (hk:dF pp call) {op:AOp}{T:Tm}{H H':Heap}{v:AV}(h:op.keeps pp=true) (he:dW call op T H=some (v,H')):H'=H:=by
 cases op with
 | call f xs=>
   simp only[dW] at he;cases f with
   |t n=>simp[AOp.keeps] at h
   | c w=>
     cases w with
     |agg cs=>simp[AOp.keeps] at h
     |tup vs=>simp[AOp.keeps] at h
     | one z=>
       cases z
       case fn f cap=>
        cases cap with
        |nil=>exact hk f _ H v H' (by simpa [AOp.keeps] using h) he
        |cons c cs=>simp[AOp.keeps] at h
       all_goals simp[AOp.keeps] at h
 |_=>exact pM (T:=T) h he
theorem uA {op:AOp}{T:Tm}{H H':Heap}{v:AV}(h:op.blind=true) (he:dW call op T H=some (v,H')):H'=H/\∀H2,dW call op T H2=some (v,H2):=by
 cases op with
 |call f xs=>simp[AOp.blind] at h
 |_=>exact wS (T:=T) h he
theorem og (hk:dF pp call) {i:AI}{T:Tm}{H H':Heap}{v:AV}(h:i.op.keeps pp=true) (he:gP call i T H=some (v,H')):H'=H:=by
 unfold gP at he;split at he
 .cases he
 split at he
 .exact wo hk h he
 .simp only[zE,zF] at he;exact he.2.symm
theorem jS {i:AI}{T:Tm}{H H':Heap}{v:AV}(h:i.op.blind=true) (he:gP call i T H=some (v,H')):H'=H/\∀H2,gP call i T H2=some (v,H2):=by
 unfold gP at he ⊢;split at he
 .cases he
 rename_i hkn;simp only[if_neg hkn];split at he
 .rename_i hw;simp only[hw,if_true];exact uA h he
 .rename_i hw;simp only[zE,zF] at he;obtain⟨rfl,rfl⟩:=he;exact⟨rfl,fun H2=>by simp[hw]⟩
theorem Er (hh:dX call) {op:AOp}{T:Tm}{H H':Heap}{v:AV}(hd:H.Hd) (he:dW call op T H=some (v,H')):H'.Hd:=by
 have key:(∃f xs,op=.call f xs)\/dW call op T H=ah T H op:=by
  cases op <;> first | exact .inr rfl | exact .inl ⟨_,_,rfl⟩
 rcases key with ⟨f,xs,rfl⟩ | h
 .exact hh _ _ _ _ _ he hd
 .rw[h] at he;exact FI hd he
theorem uD {op:AOp}{T:Tm}{H H':Heap}{v:AV}(h:op.looksW=true) (hd:H.Hd) (he:dW call op T H=some (v,H')):H'=H/\∀x,dW call op T (H.push x)=some (v,H.push x):=by
 cases op with
 |call f xs=>simp[AOp.looksW] at h
 |_=>exact wu (T:=T) h hd he
theorem xE {op:AOp}{T:Tm}{H H':Heap}{v:AV}(h:op.adds=true) (he:dW call op T H=some (v,H')):∃x,H'=H.push x:=by
 cases op with
 |call f xs=>simp[AOp.adds] at h
 |_=>exact AB (T:=T) h he
theorem sF (hh:dX call) {i:AI}{T:Tm}{H H':Heap}{v:AV}(hd:H.Hd) (he:gP call i T H=some (v,H')):H'.Hd:=by
 unfold gP at he;split at he
 .cases he
 split at he
 .exact Er hh hd he
 .simp only[zE,zF] at he;rw[<- he.2];exact hd
theorem xQ (hk:dF pp call) (hp:bR pp call) {op:AOp}{T:Tm}{H H':Heap}{v:AV}(h:op.asks pp=true) (hd:H.Hd) (he:dW call op T H=some (v,H')):H'=H/\∀x,dW call op T (H.push x)=some (v,H.push x):=by
 unfold AOp.asks at h;split at h
 .exact⟨hk _ _ _ _ _ h he,hp _ _ _ _ _ h he hd⟩
 .cases h
theorem xx (hk:dF pp call) (hp:bR pp call) {i:AI}{T:Tm}{H H':Heap}{v:AV}(h:i.op.looksW=true\/i.op.asks pp=true) (hd:H.Hd) (he:gP call i T H=some (v,H')):H'=H/\∀x,gP call i T (H.push x)=some (v,H.push x):=by
 unfold gP at he ⊢;split at he
 .cases he
 rename_i hkn;simp only[if_neg hkn];split at he
 .rename_i hw;simp only[hw,if_true];exact h.elim (fun h=>uD h hd he) fun h=>xQ hk hp h hd he
 .rename_i hw;simp only[zE,zF] at he;obtain⟨rfl,rfl⟩:=he;exact⟨rfl,fun x=>by simp[hw]⟩
theorem Av {i:AI}{T:Tm}{H H':Heap}{v:AV}(h:i.op.adds=true) (he:gP call i T H=some (v,H')):H'=H\/∃x,H'=H.push x:=by
 unfold gP at he;split at he
 .cases he
 split at he
 .exact .inr (xE h he)
 .simp only[zE,zF] at he;exact .inl he.2.symm
theorem yc {T:Tm}{d:Option Nat}{v:AV}{n:Nat}(h:∀k,d=some k->n≠k):cz T d v n=T n:=by
 cases d with
 |none=>rfl
 |some k=>simp only[cz,EA.put];rw[if_neg (h k rfl)]
theorem AQ {T:Tm}{d e:Option Nat}{v u:AV}(h:∀a b,d=some a->e=some b->a≠b):cz (cz T d v) e u=cz (cz T e u) d v:=by
 cases d with
 |none=>rfl
 | some a=>
   cases e with
   |none=>rfl
   | some b=>
     have hab:=h a b rfl rfl
     funext n
     simp only[cz,EA.put];by_cases h1:n=b
     .subst h1;rw[if_pos rfl,if_neg (Ne.symm hab),if_pos rfl]
     .rw[if_neg h1];by_cases h2:n=a
      .rw[if_pos h2,if_pos h2]
      .rw[if_neg h2,if_neg h2,if_neg h1]
theorem swap (hk:dF pp call) (hp:bR pp call) {x y:AI}(hs:fq pp x y=true) {r:List AI}{T:Tm}{H:Heap}{z:Tm×Heap}(hd0:H.Hd) (he:aU call (x::y::r) T H=some z):aU call (y::x::r) T H=some z:=by
 simp only[fq,zH,Bool.or_eq_true,List.all_eq_true,Bool.not_eq_true'] at hs;obtain⟨⟨h1,h2⟩,h3⟩:=hs;have hd:∀k,x.dst=some k->k ∉ y.reads/\k ∉ y.writes:=fun k hk=>by
  have:=h1 k (by simp[AI.writes,hk]);simpa using this
 have he2:∀k,y.dst=some k->k ∉ x.reads:=fun k hk=>by
  have:=h2 k (by simp[AI.writes,hk]);simpa using this
 have hne:∀a b,x.dst=some a->y.dst=some b->a≠b:=fun a b ha hb e=>by
  subst e;exact(hd a ha).2 (by simp[AI.writes,hb])
 rw[cO] at he;obtain⟨⟨v,H1⟩,hx,he⟩:=Option.bind_eq_some_iff.1 he;rw[cO] at he;obtain⟨⟨u,H2⟩,hy,he⟩:=Option.bind_eq_some_iff.1 he;simp only at he hy;rw[pQ (T':=T) fun n hn=>yc fun k hk e=>(hd k hk).1 (e ▸ hn)] at hy;have hxc:∀Hc,gP call x (cz T y.dst u) Hc=gP call x T Hc:=fun Hc=>pQ fun n hn=>yc fun k hk e=>he2 k hk (e ▸ hn)
 have fin:∀Hm,gP call y T H=some (u,Hm)->gP call x T Hm=some (v,H2)->aU call (y::x::r) T H=some z:=by
  intro Hm ha hb;rw[cO,ha];simp only[Option.bind_some];rw[cO,hxc,hb];simp only[Option.bind_some];rw[<- AQ hne];exact he
 rcases h3 with ((⟨a,b⟩ | a) | b) | ⟨a,b⟩
 .obtain rfl:=og hk a hx;obtain rfl:=og hk b hy;exact fin _ hy hx
 .obtain⟨rfl,hall⟩:=jS a hx;exact fin _ hy (hall H2)
 .obtain⟨rfl,hall⟩:=jS b hy;exact fin _ (hall H) hx
 .obtain⟨rfl,hall⟩:=xx hk hp a hd0 hx;rcases Av b hy with rfl | ⟨o,rfl⟩
  .exact fin _ hy hx
  .exact fin _ hy (hall o)
theorem front (hk:dF pp call) (hp:bR pp call) (hh:dX call) {y:AI}{r:List AI}:∀{l:List AI}{T:Tm}{H:Heap}{z:Tm×Heap},(∀x∈l,fq pp x y=true)->H.Hd->aU call (l++y::r) T H=some z->aU call (y::(l++r)) T H=some z
 |[],T,H,z,_,_,he=>he
 | x::l,T,H,z,hs,hd,he=>by
   refine swap hk hp (hs x (by simp)) hd ?_;rw[List.cons_append,cO] at he;obtain⟨p,hp',he⟩:=Option.bind_eq_some_iff.1 he;have:=front hk hp hh (l:=l) (fun x hx=>hs x (by simp[hx])) (sF hh hd hp') he;rw[cO,hp'];exact this
end
end Go.EA
end
section
namespace Go.EA
def Ir (o:Oper):List Nat:=o.after.toList.filterMap fun e=>if Region.binds .any e then some e.on else none
def bE (ops:Array Oper) (i:Nat):List Nat:=match ops[i]? with | some o=>Ir o | none=>[]
def reach (ed:Nat->List Nat):Nat->Nat->Nat->Bool
 |0,_,_=>false
 |k+1,i,j=>(ed i).contains j||(ed i).any fun e=>decide (j<e)&&reach ed k e j
def oO (pp:Nat->Bool) (ops:Array Oper) (ais:List AI):Bool:=
 ais.length == ops.size&&(List.range ops.size).all fun i=>
  (bE ops i).all (fun e=>decide (e<i)) &&
  (List.range i).all fun j=>reach (bE ops) 8 i j||(match ais[j]?,ais[i]? with | some x,some y=>lq pp x y | _,_=>false)
section
variable {pp:Nat->Bool} {call:AV->List AV->Heap->Option (AV×Heap)}
theorem lD {ed:Nat->List Nat}{L:Nat->Bool}(hc:∀i,L i=true->∀e∈ed i,L e=true):∀(k i j:Nat),(∀e∈ed i,L e=true)->reach ed k i j=true->L j=true
 |0,i,j,_,h=>by simp[reach] at h
 | k+1,i,j,he,h=>by
   simp only[reach,Bool.or_eq_true,List.any_eq_true,zH] at h;rcases h with h | ⟨e,h1,_,h3⟩
   .exact he j (by simpa using h)
   .exact lD hc k e j (hc e (he e h1)) h3
theorem jF {ops:Array Oper}{i:Nat}{o:Oper}(ho:ops[i]?=some o) {L:Nat->Bool}:(o.after.all fun e=>!Region.binds .any e||L e.on)=true↔∀e∈bE ops i,L e=true:=by
 simp only[bE,ho,Ir,List.mem_filterMap,Array.all_eq_true',Bool.or_eq_true,Bool.not_eq_true'];constructor
 .rintro h e ⟨x,hx,he⟩;split at he
  .rename_i hb;cases he;rcases h x (by simpa using hx) with h1 | h1
   .rw[hb] at h1;cases h1
   .exact h1
  .cases he
 .intro h x hx;cases hb:Region.binds .any x with
  |false=>exact .inl rfl
  |true=>exact .inr (h x.on ⟨x,by simpa using hx,by simp[hb]⟩)
def rem (n:Nat) (L:Nat->Bool):List Nat:=(List.range n).filter fun i=>!L i
theorem vz (hk:dF pp call) (hpu:bR pp call) (hh:dX call) {ops:Array Oper}{ais:List AI}(hok:oO pp ops ais=true) {z:Tm×Heap} :
 ∀(fuel t:Nat) (listed:Array Bool) (T:Tm) (H:Heap),listed.size=ops.size->(∀i,listed.getD i false=true->∀e∈bE ops i,listed.getD e false=true)->
  (rem ops.size (listed.getD · false)).length<=fuel->H.Hd->aU call (aL ais (rem ops.size (listed.getD · false))) T H=some z->
  aU call (aL ais (Region.linearise.go .any ops fuel t listed [])) T H=some z:=by
 simp only[oO,zH,beq_iff_eq,List.all_eq_true,List.mem_range,Bool.or_eq_true,decide_eq_true_eq] at hok;obtain⟨hlen,hok⟩:=hok;intro fuel
 induction fuel with
 | zero=>
   intro t listed T H hsz hc hf hd he;have:rem ops.size (listed.getD · false)=[]:=zT (by omega);rw[this] at he;simpa [Region.linearise.go] using he
 | succ fuel ih=>
   intro t listed T H hsz hc hf hd he;have hD:∀i,i<ops.size->listed.getD i true=listed.getD i false:=fun i hi=>by
    simp[Array.getD_eq_getD_getElem?,Array.getElem?_eq_getElem (show i<listed.size by omega)]
   simp only[Region.linearise.go]
   change aU call (aL ais (match (Region.ready .any ops listed)[t % (Region.ready .any ops listed).length]? with
    |some i=>Region.linearise.go .any ops fuel (t / (Region.ready .any ops listed).length) (listed.setIfInBounds i true) [i]
    |none=>[].reverse)) T H=some z
   have hready:∀i,i∈Region.ready .any ops listed↔i<ops.size/\listed.getD i false=false/\∀e∈bE ops i,listed.getD e false=true:=by
    intro i;simp only[Region.ready,List.mem_filter,List.mem_range,zH,Bool.not_eq_true'];constructor
    .rintro⟨hi,h1,h2⟩;rw[hD i hi] at h1;refine⟨hi,h1,?_⟩;rw[Array.getElem?_eq_getElem hi] at h2;exact(jF (Array.getElem?_eq_getElem hi)).1 (by simpa using h2)
    ·rintro⟨hi,h1,h2⟩;refine⟨hi,by rw[hD i hi];exact h1,?_⟩;rw[Array.getElem?_eq_getElem hi];have:=(jF (L:=(listed.getD · false)) (Array.getElem?_eq_getElem hi)).2 h2;simpa using this
   cases hi:(Region.ready .any ops listed)[t % (Region.ready .any ops listed).length]? with
   | none=>
     have hnil:Region.ready .any ops listed=[]:=by
      cases hr:Region.ready .any ops listed with
      |nil=>rfl
      | cons x xs=>
        rw[hr] at hi;have hlt:t % (x::xs).length<(x::xs).length:=Nat.mod_lt _ (by simp);simp at hi;simp at hlt;omega
     have hrem:rem ops.size (listed.getD · false)=[]:=by
      have key:∀i,i<ops.size->listed.getD i false=true:=by
       intro i
       induction i using Nat.strongRecOn with
       | _ i ihi=>
         intro hi;cases h:listed.getD i false with
         |true=>rfl
         | false=>
           have:i∈Region.ready .any ops listed:=(hready i).2 ⟨hi,h,fun e he=>by
            have:=(hok i hi).1 e he;exact ihi e this (by omega)⟩
           rw[hnil] at this;cases this
      simp only[rem,List.filter_eq_nil_iff,List.mem_range];intro i hi;simp[key i hi]
     rw[hrem] at he;simpa using he
   | some i=>
     obtain⟨hin,hli,hed⟩:=(hready i).1 (zU hi);simp only[];rw[linearise_go_acc,List.reverse_singleton,List.singleton_append];have hmem:i∈rem ops.size (listed.getD · false):=List.mem_filter.2 ⟨List.mem_range.2 hin,by dsimp only;rw[hli];rfl⟩;obtain⟨l1,l2,hl⟩:=List.append_of_mem hmem;have hpw:(rem ops.size (listed.getD · false)).Pairwise (·<·):=(List.pairwise_lt_range).filter _;rw[hl] at hpw;have hl1:∀j∈l1,j<i:=fun j hj=>(List.pairwise_append.1 hpw).2.2 j hj i (by simp)
     have hl2:∀j∈l2,i<j:=fun j hj=>(List.pairwise_cons.1 (List.pairwise_append.1 hpw).2.1).1 j hj
     have hunl:∀j∈l1,listed.getD j false=false:=fun j hj=>by
      have:j∈rem ops.size (listed.getD · false):=by rw[hl];simp[hj]
      have h:=(List.mem_filter.1 this).2;dsimp only at h;cases hx:listed.getD j false with
      |false=>rfl
      |true=>rw[hx] at h;cases h
     have hai:∃y,ais[i]?=some y:=⟨_,zB (by omega)⟩;obtain⟨y,hy⟩:=hai;have hsw:∀x∈aL ais l1,lq pp x y=true:=by
      intro x hx;simp only[aL,List.mem_filterMap] at hx;obtain⟨j,hj,hjx⟩:=hx;have hji:=hl1 j hj;rcases (hok i hin).2 j hji with h | h
      ·have:=lD (L:=(listed.getD · false)) hc 8 i j hed h;rw[hunl j hj] at this;cases this
      .rw[hjx,hy] at h;exact h
     have hcat:∀(a b:List Nat),aL ais (a++b)=aL ais a++aL ais b:=fun a b=>List.filterMap_append
     have hcons:∀(b:List Nat),aL ais (i::b)=y::aL ais b:=fun b=>by simp[aL,hy]
     rw[hl,hcat,hcons] at he;have he2:=front hk hpu hh (fun x hx=>mD (hsw x hx)) hd he;rw[hcons];rw[cO] at he2 ⊢;obtain⟨p,hp,he3⟩:=Option.bind_eq_some_iff.1 he2;rw[hp];simp only[Option.bind_some];have hset:∀j,(listed.setIfInBounds i true).getD j false=if j=i then true else listed.getD j false:=fun j=>by
      simp only[Array.getD_eq_getD_getElem?,Array.getElem?_setIfInBounds];by_cases h:i=j
      .subst h;simp[show i<listed.size by omega]
      .simp[h,Ne.symm h]
     have hrem2:rem ops.size ((listed.setIfInBounds i true).getD · false)=l1++l2:=by
      have h1:rem ops.size ((listed.setIfInBounds i true).getD · false)=(rem ops.size (listed.getD · false)).filter fun j=>j != i:=by
       simp only[rem,List.filter_filter];refine List.filter_congr fun j _=>?_
       rw[hset j];by_cases h:j=i
       .subst h;simp
       .simp[h]
      rw[h1,hl,List.filter_append,List.filter_cons];have ha:l1.filter (fun j=>j != i)=l1:=List.filter_eq_self.2 fun j hj=>by have:=hl1 j hj;simp;omega
      have hb:l2.filter (fun j=>j != i)=l2:=List.filter_eq_self.2 fun j hj=>by have:=hl2 j hj;simp;omega
      rw[ha,hb];simp
     refine ih _ _ _ _ (by simpa using hsz) (fun j hj e he=>?_) ?_ (sF hh hd hp) ?_
     .rw[hset] at hj ⊢;split
      .rfl
      .split at hj
       .rename_i hji;rw[hji] at he;exact hed e he
       .exact hc j hj e he
     .rw[hrem2];rw[hl] at hf;simp at hf ⊢;omega
     .rw[hrem2,hcat];exact he3
theorem Ii (hk:dF pp call) (hpu:bR pp call) (hh:dX call) {ops:Array Oper}{ais:List AI}(hok:oO pp ops ais=true) {t:Nat}{T:Tm}{H:Heap}{z:Tm×Heap}(hd:H.Hd) (he:aU call ais T H=some z) :
 aU call (aL ais (Region.schedule true ops t)) T H=some z:=by
 have hlen:ais.length=ops.size:=by
  have:=hok;simp only[oO,zH,beq_iff_eq] at this;exact this.1
 have h0:∀i,(Array.replicate ops.size false).getD i false=false:=fun i=>by
  simp only[Array.getD_eq_getD_getElem?,Array.getElem?_replicate];split <;> rfl
 have hr:rem ops.size ((Array.replicate ops.size false).getD · false)=List.range ops.size:=by
  simp only[rem];exact List.filter_eq_self.2 fun i _=>by simp[h0 i]
 simp only[Region.schedule,Bool.true_or,if_true,Region.linearise];refine vz hk hpu hh hok ops.size t _ T H (by simp) (fun i hi=>by rw[h0 i] at hi;cases hi) ?_ hd ?_
 .rw[hr];simp
 .rw[hr,<- hlen];have:=mZ ais;rw[this];exact he
end
end Go.EA
end
section
namespace Go.EA
def Bef (l:List Nat) (x y:Nat):Prop:=∃a b c,l=a++x::b++y::c
section
variable {pp:Nat->Bool} {call:AV->List AV->Heap->Option (AV×Heap)}
theorem reorder (hk:dF pp call) (hpu:bR pp call) (hh:dX call) {ais:List AI}:∀(σ β:List Nat),σ.Nodup->(∀i,i∈σ↔i∈β)->β.Nodup->(∀i∈σ,i<ais.length)->
 (∀x y,Bef β x y->(∃u v,ais[x]?=some u/\ais[y]?=some v/\fq pp u v=true)\/Bef σ x y)->
 ∀{T:Tm} {H:Heap} {z:Tm×Heap},H.Hd->aU call (aL ais β) T H=some z->aU call (aL ais σ) T H=some z
 | [],β,_,hm,_,_,_,T,H,z,_,he=>by
   have:β=[]:=List.eq_nil_iff_forall_not_mem.2 fun i hi=>by have:=(hm i).2 hi;simp at this
   rw[this] at he;exact he
 | i::σ,β,hn,hm,hb,hlt,hs,T,H,z,hd,he=>by
   obtain⟨l1,l2,rfl⟩:=List.append_of_mem ((hm i).1 (by simp));have hni:i ∉ σ:=(List.nodup_cons.1 hn).1;have hcat:∀(a b:List Nat),aL ais (a++b)=aL ais a++aL ais b:=fun a b=>List.filterMap_append
   obtain⟨v,hv⟩:∃v,ais[i]?=some v:=⟨_,zB (hlt i (by simp))⟩;have hcons:∀(b:List Nat),aL ais (i::b)=v::aL ais b:=fun b=>by simp[aL,hv]
   have hsw:∀u∈aL ais l1,fq pp u v=true:=by
    intro u hu;simp only[aL,List.mem_filterMap] at hu;obtain⟨x,hx,hxu⟩:=hu;obtain⟨p,q,rfl⟩:=List.append_of_mem hx;rcases hs x i ⟨p,q,l2,by simp⟩ with ⟨u',v',h1,h2,h3⟩ | ⟨a,b,c,e⟩
    .rw[hxu] at h1;rw[hv] at h2;cases h1;cases h2;exact h3
    .exfalso;cases a with
     | nil=>
       simp only[List.nil_append,List.cons_append,zG] at e;obtain⟨rfl,e⟩:=e;exact hni (by rw[e];simp)
     | cons y a=>
       simp only[List.cons_append,zG] at e;exact hni (by rw[e.2];simp)
   rw[hcat,hcons] at he;have he2:=front hk hpu hh hsw hd he;rw[hcons];rw[cO] at he2 ⊢;obtain⟨p,hp,he3⟩:=Option.bind_eq_some_iff.1 he2;rw[hp];simp only[Option.bind_some];have hb':=hb;rw[List.nodup_append] at hb;obtain⟨n1,n2,n3⟩:=hb;have hi1:i ∉ l1:=fun h=>n3 i h i (by simp) rfl
   have hi2:i ∉ l2:=(List.nodup_cons.1 n2).1;refine reorder hk hpu hh σ (l1++l2) (List.nodup_cons.1 hn).2 (fun j=>?_) ?_ (fun j hj=>hlt j (by simp[hj])) (fun x y hxy=>?_) (sF hh hd hp) (by rw[hcat];exact he3)
   .have:=hm j;simp only[List.mem_cons,zX] at this ⊢;constructor
    .intro hj;rcases this.1 (.inr hj) with h | rfl | h
     .exact .inl h
     .exact absurd hj hni
     .exact .inr h
    .intro hj;rcases this.2 (hj.elim .inl fun h=>.inr (.inr h)) with rfl | h
     .exact(hj.elim hi1 hi2).elim
     .exact h
   .rw[List.nodup_append];exact⟨n1,(List.nodup_cons.1 n2).2,fun a ha b hb=>n3 a ha b (by simp[hb])⟩
   .obtain⟨a,b,c,e⟩:=hxy;have hin:∀w∈l1++l2,w≠i:=fun w hw e2=>by subst e2;rcases zX.1 hw with h | h;exact hi1 h;exact hi2 h
    have hx:x≠i:=hin x (by rw[e];simp);have hbef:Bef (l1++i::l2) x y:=by
     have key:∀(l1 l2 a b c:List Nat),l1++l2=a++x::b++y::c->Bef (l1++i::l2) x y:=by
      intro l1
      induction l1 with
      |nil=>intro l2 a b c e;exact⟨i::a,b,c,by simp at e ⊢;exact e⟩
      | cons w l1 ih=>
        intro l2 a b c e;cases a with
        | nil=>
          simp only[List.cons_append,List.nil_append,zG] at e;obtain⟨h0,e5⟩:=e;subst h0;have:y∈l1++i::l2:=by
           have:y∈l1++l2:=by rw[e5];simp
           rcases zX.1 this with h | h
           .simp[h]
           .simp[h]
          obtain⟨p,q,hpq⟩:=List.append_of_mem this;exact⟨[],p,q,by rw[List.cons_append,hpq];simp⟩
        | cons w' a=>
          simp only[List.cons_append,zG] at e;obtain⟨h0,e5⟩:=e;subst h0;obtain⟨p,q,r,h⟩:=ih l2 a b c e5;exact⟨w::p,q,r,by rw[List.cons_append,h];simp⟩
     exact key l1 l2 a b c e
    rcases hs x y hbef with h | ⟨a',b',c',e'⟩
    .exact .inl h
    .right
     cases a' with
     | nil=>
       simp only[List.nil_append,List.cons_append,zG] at e';exact absurd e'.1.symm hx
     | cons w a'=>
       simp only[List.cons_append,zG] at e';exact⟨a',b',c',e'.2⟩
end
theorem nQ {ops : Array Oper}(hed : ∀i, i<ops.size -> ∀e ∈ bE ops i, e<i) : ∀(fuel t : Nat) (listed : Array Bool), listed.size = ops.size->
 (rem ops.size (listed.getD · false)).length<=fuel->
 (Region.linearise.go .any ops fuel t listed []).Nodup/\(∀i,i∈Region.linearise.go .any ops fuel t listed []↔i<ops.size/\listed.getD i false=false)/\
 ∀a i b,Region.linearise.go .any ops fuel t listed []=a++i::b->∀e∈bE ops i,listed.getD e false=true\/e∈a:=by
 intro fuel
 induction fuel with
 | zero=>
   intro t listed hsz hf;have:rem ops.size (listed.getD · false)=[]:=zT (by omega);refine⟨by simp[Region.linearise.go],fun i=>?_,fun a i b h=>by simp[Region.linearise.go] at h⟩;simp only[Region.linearise.go,List.reverse_nil,List.not_mem_nil,false_iff,not_and];intro hi hl;have:i∈rem ops.size (listed.getD · false):=List.mem_filter.2 ⟨List.mem_range.2 hi,by dsimp only;rw[hl];rfl⟩
   simp_all
 | succ fuel ih=>
   intro t listed hsz hf;have hD:∀i,i<ops.size->listed.getD i true=listed.getD i false:=fun i hi=>by
    simp[Array.getD_eq_getD_getElem?,Array.getElem?_eq_getElem (show i<listed.size by omega)]
   have hready:∀i,i∈Region.ready .any ops listed↔i<ops.size/\listed.getD i false=false/\∀e∈bE ops i,listed.getD e false=true:=by
    intro i;simp only[Region.ready,List.mem_filter,List.mem_range,zH,Bool.not_eq_true'];constructor
    .rintro⟨hi,h1,h2⟩;rw[hD i hi] at h1;refine⟨hi,h1,?_⟩;rw[Array.getElem?_eq_getElem hi] at h2;exact(jF (Array.getElem?_eq_getElem hi)).1 (by simpa using h2)
    ·rintro⟨hi,h1,h2⟩;refine⟨hi,by rw[hD i hi];exact h1,?_⟩;rw[Array.getElem?_eq_getElem hi];have:=(jF (L:=(listed.getD · false)) (Array.getElem?_eq_getElem hi)).2 h2;simpa using this
   have hgo:Region.linearise.go .any ops (fuel+1) t listed []=(match (Region.ready .any ops listed)[t % (Region.ready .any ops listed).length]? with
    |some i=>Region.linearise.go .any ops fuel (t / (Region.ready .any ops listed).length) (listed.setIfInBounds i true) [i]
    |none=>([]:List Nat).reverse):=by
    simp only[Region.linearise.go];rfl
   rw[hgo];cases hi:(Region.ready .any ops listed)[t % (Region.ready .any ops listed).length]? with
   | none=>
     have hnil:Region.ready .any ops listed=[]:=by
      cases hr:Region.ready .any ops listed with
      |nil=>rfl
      | cons x xs=>
        rw[hr] at hi;have hlt:t % (x::xs).length<(x::xs).length:=Nat.mod_lt _ (by simp);simp at hi;simp at hlt;omega
     have key:∀i,i<ops.size->listed.getD i false=true:=by
      intro i
      induction i using Nat.strongRecOn with
      | _ i ihi=>
        intro hi;cases h:listed.getD i false with
        |true=>rfl
        | false=>
          have:i∈Region.ready .any ops listed:=(hready i).2 ⟨hi,h,fun e he=>by
           have:=hed i hi e he;exact ihi e this (by omega)⟩
          rw[hnil] at this;cases this
     refine⟨by simp,fun i=>?_,fun a i b h=>by simp at h⟩;simp only[List.reverse_nil,List.not_mem_nil,false_iff,not_and];intro hi hl;rw[key i hi] at hl;cases hl
   | some i=>
     obtain⟨hin,hli,hedl⟩:=(hready i).1 (zU hi);simp only[];rw[linearise_go_acc,List.reverse_singleton,List.singleton_append];have hset:∀j,(listed.setIfInBounds i true).getD j false=if j=i then true else listed.getD j false:=fun j=>by
      simp only[Array.getD_eq_getD_getElem?,Array.getElem?_setIfInBounds];by_cases h:i=j
      .subst h;simp[show i<listed.size by omega]
      .simp[h,Ne.symm h]
     have hlt:(rem ops.size ((listed.setIfInBounds i true).getD · false)).length<(rem ops.size (listed.getD · false)).length:=by
      have h1:rem ops.size ((listed.setIfInBounds i true).getD · false)=(rem ops.size (listed.getD · false)).filter fun j=>j != i:=by
       simp only[rem,List.filter_filter];refine List.filter_congr fun j _=>?_
       rw[hset j];by_cases h:j=i
       .subst h;simp
       .simp[h]
      rw[h1];have hm:i∈rem ops.size (listed.getD · false):=List.mem_filter.2 ⟨List.mem_range.2 hin,by dsimp only;rw[hli];rfl⟩;exact List.length_filter_lt_length_iff_exists.2 ⟨i,hm,by simp⟩
     obtain⟨g1,g2,g3⟩:=ih (t / (Region.ready .any ops listed).length) (listed.setIfInBounds i true) (by simpa using hsz) (by omega);refine⟨List.nodup_cons.2 ⟨fun h=>?_,g1⟩,fun j=>?_,fun a j b h e he=>?_⟩
     .have:=((g2 i).1 h).2;rw[hset,if_pos rfl] at this;cases this
     .rw[List.mem_cons,g2 j,hset];by_cases h:j=i
      .subst h;simp[hin,hli]
      .simp[h]
     .cases a with
      | nil=>
        simp only[List.nil_append,zG] at h;obtain⟨rfl,_⟩:=h;exact .inl (hedl e he)
      | cons x a=>
        simp only[List.cons_append,zG] at h;obtain⟨rfl,h⟩:=h;rcases g3 a j b h e he with h1 | h1
        .rw[hset] at h1;split at h1
         .rename_i h2;subst h2;exact .inr (by simp)
         .exact .inl h1
        .exact .inr (by simp[h1])
theorem fJ {ed:Nat->List Nat}{σ:List Nat}(hn:σ.Nodup) (h:∀a i b,σ=a++i::b->∀e∈ed i,e∈a):∀(k:Nat) {i j:Nat},i∈σ->reach ed k i j=true->Bef σ j i
 |0,i,j,_,hr=>by simp[reach] at hr
 | k+1,i,j,hi,hr=>by
   obtain⟨a,b,rfl⟩:=List.append_of_mem hi;have ha:=h a i b rfl;simp only[reach,Bool.or_eq_true,List.any_eq_true,zH] at hr;rcases hr with hr | ⟨e,h1,_,h3⟩
   .have:=ha j (by simpa using hr);obtain⟨p,q,rfl⟩:=List.append_of_mem this;exact⟨p,q,b,by simp⟩
   .have he:=ha e h1;obtain⟨p,q,r,e2⟩:=fJ hn h k (by simp[he]) h3;obtain⟨p',q',rfl⟩:=List.append_of_mem he;have hj:j∈p':=by
     have e3:p'++e::(q'++i::b)=(p++j::q)++e::r:=by simp at e2 ⊢;exact e2
     have hn':(p'++e::(q'++i::b)).Nodup:=by simpa using hn
     have:=nodup_split hn' e3;rw[this];simp
    obtain⟨u,w,rfl⟩:=List.append_of_mem hj;exact⟨u,w++e::q',b,by simp⟩
where
 nodup_split {e:Nat}:∀{a b c d:List Nat},(a++e::b).Nodup->a++e::b=c++e::d->a=c
  |[],b,[],d,_,_=>rfl
  | [],b,x::c,d,hn,h=>by
    simp only[List.nil_append,List.cons_append,zG] at h;obtain⟨rfl,h⟩:=h;rw[List.nil_append,List.nodup_cons] at hn;exact absurd (by rw[h];simp) hn.1
  | x::a,b,[],d,hn,h=>by
    simp only[List.nil_append,List.cons_append,zG] at h;obtain⟨rfl,h⟩:=h;rw[List.cons_append,List.nodup_cons] at hn;exact absurd (by simp) hn.1
  | x::a,b,y::c,d,hn,h=>by
    simp only[List.cons_append,zG] at h;obtain⟨rfl,h⟩:=h;rw[nodup_split (List.nodup_cons.1 hn).2 h]
theorem aB {σ:List Nat}(hn:σ.Nodup) {x y z:Nat}(h1:Bef σ x y) (h2:Bef σ y z):Bef σ x z:=by
 obtain⟨a,b,c,rfl⟩:=h1;obtain⟨a',b',c',e⟩:=h2;have e1:(a++x::b)++y::c=a'++y::(b'++z::c'):=by simp at e ⊢;exact e
 have:=fJ.nodup_split hn e1;subst this;have e2:y::c=y::(b'++z::c'):=List.append_cancel_left e1;simp only[zG,true_and] at e2;exact⟨a,b++y::b',c',by rw[e2];simp⟩
theorem bN {σ:List Nat}(hn:σ.Nodup) {x:Nat}(h:Bef σ x x):False:=by
 obtain⟨a,b,c,rfl⟩:=h;have:(x::b++x::c).Nodup:=(List.nodup_append.1 (by simpa using hn:(a++(x::b++x::c)).Nodup)).2.1;rw[List.cons_append,List.nodup_cons] at this;exact this.1 (by simp)
theorem Fq {σ:List Nat}{x y:Nat}(hx:x∈σ) (hy:y∈σ) (hne:x≠y):Bef σ x y\/Bef σ y x:=by
 obtain⟨a,b,rfl⟩:=List.append_of_mem hx;rcases zX.1 hy with h | h
 .obtain⟨p,q,rfl⟩:=List.append_of_mem h;exact .inr ⟨p,q,b,by simp⟩
 .rcases List.mem_cons.1 h with h | h
  .exact absurd h.symm hne
  .obtain⟨p,q,rfl⟩:=List.append_of_mem h;exact .inl ⟨a,p,q,by simp⟩
def nH:List (Nat×Nat)->List (List (Nat×Nat))
 |[]=>[[]]
 |p::r=>(nH r).flatMap fun o=>[p::o,(p.2,p.1)::o]
def rch (ops:Array Oper) (i j:Nat):Bool:=reach (bE ops) 8 i j
def fw (ops:Array Oper) (o:List (Nat×Nat)):Bool:=o.any fun p=>rch ops p.1 p.2||o.any fun q=>(Nat.beq q.1 p.2||rch ops q.1 p.2)&&(Nat.beq q.2 p.1||rch ops p.1 q.2)
def jU:List Nat->Bool
 |[]=>true
 |x::r=>!r.contains x&&jU r
def jB (f:Nat->Nat->Bool):List Nat->Bool
 |[]=>true
 |x::r=>r.all (f x)&&jB f r
def uf (pp:Nat->Bool) (ais:List AI) (x y:Nat):Bool:=match ais[x]?,ais[y]? with
 |some u,some v=>lq pp u v
 |_,_=>false
def Ik (pp:Nat->Bool) (ops:Array Oper) (ais:List AI) (o:List (Nat×Nat)) (β:List Nat):Bool:=
 jU β&&β.all (fun i=>decide (i<ops.size))&&(List.range ops.size).all (fun i=>β.contains i)&&jB (fun x y=>uf pp ais x y||rch ops y x||o.contains (x,y)) β
def wT (pp:Nat->Bool) (ops:Array Oper) (ais:List AI) (U:List (Nat×Nat)) (B:List (List Nat)):Bool:=
 ais.length == ops.size&&(List.range ops.size).all (fun i=>(bE ops i).all fun e=>decide (e<i))&&U.all (fun p=>decide (p.1<ops.size)&&decide (p.2<ops.size)&&!Nat.beq p.1 p.2) &&
  (nH U).all fun o=>fw ops o||B.any (Ik pp ops ais o)
def IV (ed:Nat->List Nat) (o:List (Nat×Nat)):Nat->List Nat->List Nat
 |0,_=>[]
 |k+1,r=>match r.find? (fun i=>(ed i).all (fun e=>!r.contains e)&&o.all fun p=>!Nat.beq p.2 i||!r.contains p.1) with
  |some i=>i::IV ed o k (r.erase i)
  |none=>[]
def IA (pp:Nat->Bool) (ops:Array Oper) (ais:List AI):List (Nat×Nat):=
 (List.range ops.size).flatMap fun i=>(List.range i).filterMap fun j=>if rch ops i j||uf pp ais j i then none else some (j,i)
def jP (pp:Nat->Bool) (ais:List AI) (x y:Nat):Bool:=match ais[x]?,ais[y]? with
 |some u,some v=>fq pp u v
 |_,_=>false
def GK (ops:Array Oper) (o:List (Nat×Nat)) (x y:Nat):Bool:=o.any fun p=>(Nat.beq p.1 x||rch ops p.1 x)&&((Nat.beq p.2 y||rch ops y p.2)||o.any fun q=>(Nat.beq q.1 p.2||rch ops q.1 p.2)&&(Nat.beq q.2 y||rch ops y q.2))
def CB (pp:Nat->Bool) (ops:Array Oper) (ais:List AI) (o:List (Nat×Nat)) (β:List Nat):Bool:=
 jU β&&β.all (fun i=>decide (i<ops.size))&&(List.range ops.size).all (fun i=>β.contains i)&&jB (fun x y=>jP pp ais x y||rch ops y x||GK ops o x y) β
def sw (pp:Nat->Bool) (ops:Array Oper) (ais:List AI) (U:List (Nat×Nat)) (B:List (List Nat)):Bool:=
 ais.length == ops.size&&(List.range ops.size).all (fun i=>(bE ops i).all fun e=>decide (e<i))&&U.all (fun p=>decide (p.1<ops.size)&&decide (p.2<ops.size)&&!Nat.beq p.1 p.2) &&
  (nH U).all fun o=>fw ops o||B.any (CB pp ops ais o)
def BC (pp:Nat->Bool) (ops:Array Oper) (ais:List AI):List (Nat×Nat):=
 (List.range ops.size).flatMap fun i=>(List.range i).filterMap fun j=>if rch ops i j||jP pp ais j i||jP pp ais i j then none else some (j,i)
def II (pp:Nat->Bool) (ops:Array Oper) (ais:List AI):List (Nat×Nat):=
 (List.range ops.size).flatMap fun i=>(List.range i).filterMap fun j=>if rch ops i j||jP pp ais j i then none else if jP pp ais i j then some (i,j) else none
def yo (ed:Nat->List Nat) (o wish:List (Nat×Nat)):Nat->List Nat->List Nat
 |0,_=>[]
 | k+1,r=>
   let may:=r.filter fun i=>(ed i).all (fun e=>!r.contains e)&&o.all fun p=>!Nat.beq p.2 i||!r.contains p.1
   match may.find? (fun i=>wish.all fun p=>!Nat.beq p.2 i||!r.contains p.1) with
   |some i=>i::yo ed o wish k (r.erase i)
   |none=>match may with
    |i::_=>i::yo ed o wish k (r.erase i)
    |[]=>[]
def qC (pp:Nat->Bool) (ops:Array Oper) (ais:List AI):Option (List (List AI)):=
 let U:=BC pp ops ais
 if 5<U.length then none else
 let W:=II pp ops ais
 let B:=((nH U).filter fun o=>!fw ops o).map fun o=>yo (bE ops) o W ops.size (List.range ops.size)
 if !B.isEmpty&&sw pp ops ais U B then some (B.map (aL ais)) else none
def kD (pp:Nat->Bool) (ops:Array Oper) (ais:List AI):Option (List (List AI)):=
 if oO pp ops ais then some [] else
 let U:=IA pp ops ais
 if 3<U.length then none else
 let B:=((nH U).filter fun o=>!fw ops o).map fun o=>IV (bE ops) o ops.size (List.range ops.size)
 if !B.isEmpty&&wT pp ops ais U B then some (B.map (aL ais)) else none
def mE (pp:Nat->Bool) (ops:Array Oper) (ais:List AI):Option (List (List AI)):=match kD pp ops ais with
 |some l=>some l
 |none=>qC pp ops ais
theorem ig:∀{l:List Nat},jU l=true->l.Nodup
 |[],_=>List.nodup_nil
 | x::r,h=>by
   simp only[jU,zH,Bool.not_eq_true'] at h;exact List.nodup_cons.2 ⟨fun hm=>(by have:=List.contains_iff_mem.2 hm;rw[this] at h;cases h.1),ig h.2⟩
theorem fK {f:Nat->Nat->Bool}:∀{l:List Nat},jB f l=true->∀{x y:Nat},Bef l x y->f x y=true
 |[],_,x,y,⟨a,b,c,e⟩=>by simp at e
 | w::r,h,x,y,⟨a,b,c,e⟩=>by
   simp only[jB,zH] at h;cases a with
   | nil=>
     simp only[List.nil_append,List.cons_append,zG] at e;obtain⟨rfl,rfl⟩:=e;exact List.all_eq_true.1 h.1 y (by simp)
   | cons v a=>
     simp only[List.cons_append,zG] at e;exact fK h.2 ⟨a,b,c,e.2⟩
theorem lJ {σ:List Nat}:∀{U:List (Nat×Nat)},(∀p∈U,p.1∈σ/\p.2∈σ/\p.1≠p.2)->∃o∈nH U,∀p∈o,Bef σ p.1 p.2
 |[],_=>⟨[],by simp[nH],by simp⟩
 | p::r,h=>by
   obtain⟨o,ho,hb⟩:=lJ (U:=r) fun q hq=>h q (by simp[hq])
   obtain⟨h1,h2,h3⟩:=h p (by simp);simp only[nH,List.mem_flatMap];rcases Fq h1 h2 h3 with hp | hp
   .exact⟨p::o,⟨o,ho,by simp⟩,fun q hq=>by
     rcases List.mem_cons.1 hq with rfl | hq
     .exact hp
     .exact hb q hq⟩
   .exact⟨(p.2,p.1)::o,⟨o,ho,by simp⟩,fun q hq=>by
     rcases List.mem_cons.1 hq with rfl | hq
     .exact hp
     .exact hb q hq⟩
section
variable {pp:Nat->Bool} {call:AV->List AV->Heap->Option (AV×Heap)}
theorem FD (hk:dF pp call) (hpu:bR pp call) (hh:dX call) {ops:Array Oper}{ais:List AI}{U:List (Nat×Nat)}{B:List (List Nat)}(hok:wT pp ops ais U B=true) (t:Nat) :
 ∃β∈B,∀{T:Tm} {H:Heap} {z:Tm×Heap},H.Hd->aU call (aL ais β) T H=some z->aU call (aL ais (Region.schedule true ops t)) T H=some z:=by
 simp only[wT,zH,beq_iff_eq,List.all_eq_true,List.mem_range,decide_eq_true_eq,Bool.not_eq_true',Bool.or_eq_true] at hok;obtain⟨⟨⟨hlen,hed⟩,hU⟩,hV⟩:=hok;have h0:∀i,(Array.replicate ops.size false).getD i false=false:=fun i=>by
  simp only[Array.getD_eq_getD_getElem?,Array.getElem?_replicate];split <;> rfl
 have hr:rem ops.size ((Array.replicate ops.size false).getD · false)=List.range ops.size:=by
  simp only[rem];exact List.filter_eq_self.2 fun i _=>by simp[h0 i]
 simp only[Region.schedule,Bool.true_or,if_true,Region.linearise];obtain⟨g1,g2,g3⟩:=nQ hed ops.size t (Array.replicate ops.size false) (by simp) (by rw[hr];simp);generalize Region.linearise.go .any ops ops.size t (Array.replicate ops.size false) []=σ at g1 g2 g3;have g2:∀i,i∈σ↔i<ops.size:=fun i=>by rw[g2 i,h0 i];simp
 have g3:∀a i b,σ=a++i::b->∀e∈bE ops i,e∈a:=fun a i b h e he=>by
  rcases g3 a i b h e he with h1 | h1
  .rw[h0] at h1;cases h1
  .exact h1
 have hre:∀{i j:Nat},i∈σ->rch ops i j=true->Bef σ j i:=fun hi h=>fJ g1 g3 8 hi h
 obtain⟨o,ho,hb⟩:=lJ (σ:=σ) (U:=U) fun p hp=>by
  obtain⟨⟨h1,h2⟩,h3⟩:=hU p hp;exact⟨(g2 _).2 h1,(g2 _).2 h2,fun e=>by rw[e,Nat.beq_refl] at h3;cases h3⟩
 have mem1:∀{x y},Bef σ x y->x∈σ/\y∈σ:=fun {x y} ⟨a,b,c,e⟩=>by rw[e];simp
 rcases hV o ho with hc | hc
 .exfalso;simp only[fw,List.any_eq_true,Bool.or_eq_true,zH] at hc;obtain⟨p,hp,hc⟩:=hc;have hbp:=hb p hp;rcases hc with hc | ⟨q,hq,h1,h2⟩
  .exact bN g1 (aB g1 hbp (hre (mem1 hbp).1 hc))
  .have hbq:=hb q hq;have k1:Bef σ p.1 q.2:=by
    rcases h1 with h1 | h1
    .have:=zC h1;rw[this] at hbq;exact aB g1 hbp hbq
    .exact aB g1 hbp (aB g1 (hre (mem1 hbq).1 h1) hbq)
   rcases h2 with h2 | h2
   .have:=zC h2;rw[this] at k1;exact bN g1 k1
   .exact bN g1 (aB g1 k1 (hre (mem1 hbp).1 h2))
 .obtain⟨β,hβ,hf⟩:=List.any_eq_true.1 hc;simp only[Ik,zH,List.all_eq_true,decide_eq_true_eq,List.mem_range] at hf;obtain⟨⟨⟨f1,f2⟩,f3⟩,f4⟩:=hf;refine⟨β,hβ,fun {T H z} hd he=>reorder hk hpu hh σ β g1 (fun i=>?_) (ig f1) (fun i hi=>by rw[hlen];exact(g2 i).1 hi) (fun x y hxy=>?_) hd he⟩
  .rw[g2 i];exact⟨fun hi=>List.contains_iff_mem.1 (f3 i hi),fun hi=>f2 i hi⟩
  .have:=fK f4 hxy;simp only[Bool.or_eq_true] at this;have hy:y∈σ:=(g2 y).2 (f2 y (by obtain⟨a,b,c,e⟩:=hxy;rw[e];simp));rcases this with (h | h) | h
   .left
    unfold uf at h;split at h
    .rename_i u v h1 h2;exact⟨u,v,h1,h2,mD h⟩
    .cases h
   .exact .inr (hre hy h)
   .exact .inr (hb (x,y) (List.contains_iff_mem.1 h))
theorem Fe (hk:dF pp call) (hpu:bR pp call) (hh:dX call) {ops:Array Oper}{ais:List AI}{U:List (Nat×Nat)}{B:List (List Nat)}(hok:sw pp ops ais U B=true) (t:Nat) :
 ∃β∈B,∀{T:Tm} {H:Heap} {z:Tm×Heap},H.Hd->aU call (aL ais β) T H=some z->aU call (aL ais (Region.schedule true ops t)) T H=some z:=by
 simp only[sw,zH,beq_iff_eq,List.all_eq_true,List.mem_range,decide_eq_true_eq,Bool.not_eq_true',Bool.or_eq_true] at hok;obtain⟨⟨⟨hlen,hed⟩,hU⟩,hV⟩:=hok;have h0:∀i,(Array.replicate ops.size false).getD i false=false:=fun i=>by
  simp only[Array.getD_eq_getD_getElem?,Array.getElem?_replicate];split <;> rfl
 have hr:rem ops.size ((Array.replicate ops.size false).getD · false)=List.range ops.size:=by
  simp only[rem];exact List.filter_eq_self.2 fun i _=>by simp[h0 i]
 simp only[Region.schedule,Bool.true_or,if_true,Region.linearise];obtain⟨g1,g2,g3⟩:=nQ hed ops.size t (Array.replicate ops.size false) (by simp) (by rw[hr];simp);generalize Region.linearise.go .any ops ops.size t (Array.replicate ops.size false) []=σ at g1 g2 g3;have g2:∀i,i∈σ↔i<ops.size:=fun i=>by rw[g2 i,h0 i];simp
 have g3:∀a i b,σ=a++i::b->∀e∈bE ops i,e∈a:=fun a i b h e he=>by
  rcases g3 a i b h e he with h1 | h1
  .rw[h0] at h1;cases h1
  .exact h1
 have hre:∀{i j:Nat},i∈σ->rch ops i j=true->Bef σ j i:=fun hi h=>fJ g1 g3 8 hi h
 obtain⟨o,ho,hb⟩:=lJ (σ:=σ) (U:=U) fun p hp=>by
  obtain⟨⟨h1,h2⟩,h3⟩:=hU p hp;exact⟨(g2 _).2 h1,(g2 _).2 h2,fun e=>by rw[e,Nat.beq_refl] at h3;cases h3⟩
 have mem1:∀{x y},Bef σ x y->x∈σ/\y∈σ:=fun {x y} ⟨a,b,c,e⟩=>by rw[e];simp
 rcases hV o ho with hc | hc
 .exfalso;simp only[fw,List.any_eq_true,Bool.or_eq_true,zH] at hc;obtain⟨p,hp,hc⟩:=hc;have hbp:=hb p hp;rcases hc with hc | ⟨q,hq,h1,h2⟩
  .exact bN g1 (aB g1 hbp (hre (mem1 hbp).1 hc))
  .have hbq:=hb q hq;have k1:Bef σ p.1 q.2:=by
    rcases h1 with h1 | h1
    .have:=zC h1;rw[this] at hbq;exact aB g1 hbp hbq
    .exact aB g1 hbp (aB g1 (hre (mem1 hbq).1 h1) hbq)
   rcases h2 with h2 | h2
   .have:=zC h2;rw[this] at k1;exact bN g1 k1
   .exact bN g1 (aB g1 k1 (hre (mem1 hbp).1 h2))
 .obtain⟨β,hβ,hf⟩:=List.any_eq_true.1 hc;simp only[CB,zH,List.all_eq_true,decide_eq_true_eq,List.mem_range] at hf;obtain⟨⟨⟨f1,f2⟩,f3⟩,f4⟩:=hf;refine⟨β,hβ,fun {T H z} hd he=>reorder hk hpu hh σ β g1 (fun i=>?_) (ig f1) (fun i hi=>by rw[hlen];exact(g2 i).1 hi) (fun x y hxy=>?_) hd he⟩
  .rw[g2 i];exact⟨fun hi=>List.contains_iff_mem.1 (f3 i hi),fun hi=>f2 i hi⟩
  .have:=fK f4 hxy;simp only[Bool.or_eq_true] at this;have hy:y∈σ:=(g2 y).2 (f2 y (by obtain⟨a,b,c,e⟩:=hxy;rw[e];simp));rcases this with (h | h) | h
   .left
    unfold jP at h;split at h
    .rename_i u v h1 h2;exact⟨u,v,h1,h2,h⟩
    .cases h
   .exact .inr (hre hy h)
   .right
    simp only[GK,List.any_eq_true,zH,Bool.or_eq_true] at h;obtain⟨p,hp,h1,h2⟩:=h;have hbp:=hb p hp;have k1:Bef σ x p.2:=by
     rcases h1 with h1 | h1
     .rw[<- zC h1];exact hbp
     .exact aB g1 (hre (mem1 hbp).1 h1) hbp
    rcases h2 with (h2 | h2) | ⟨q,hq,h2,h3⟩
    .rw[<- zC h2];exact k1
    .exact aB g1 k1 (hre hy h2)
    .have hbq:=hb q hq;have k2:Bef σ x q.2:=by
      rcases h2 with h2 | h2
      .rw[zC h2] at hbq;exact aB g1 k1 hbq
      .exact aB g1 k1 (aB g1 (hre (mem1 hbq).1 h2) hbq)
     rcases h3 with h3 | h3
     .rw[<- zC h3];exact k2
     .exact aB g1 k2 (hre hy h3)
theorem qx (hk:dF pp call) (hpu:bR pp call) (hh:dX call) {ops:Array Oper}{ais:List AI}{ls:List (List AI)}(hd:kD pp ops ais=some ls) (t:Nat) :
 ∃l∈jb ais ls,∀{T:Tm} {H:Heap} {z:Tm×Heap},H.Hd->aU call l T H=some z->aU call (aL ais (Region.schedule true ops t)) T H=some z:=by
 unfold kD at hd;split at hd
 .rename_i hok;cases hd;exact⟨ais,by simp[jb],fun {T H z} hd he=>Ii hk hpu hh hok hd he⟩
 .dsimp only at hd;split at hd
  .cases hd
  .split at hd
   .rename_i hb;cases hd;simp only[zH,Bool.not_eq_true'] at hb;obtain⟨β,hβ,h⟩:=FD hk hpu hh hb.2 t;refine⟨aL ais β,?_,fun {T H z} hd he=>h hd he⟩;have hm:=List.mem_map_of_mem (f:=aL ais) hβ;unfold jb;split
    .rename_i e;rw[e] at hm;simp at hm
    .exact hm
   .cases hd
theorem rM (hk:dF pp call) (hpu:bR pp call) (hh:dX call) {ops:Array Oper}{ais:List AI}{ls:List (List AI)}(hd:mE pp ops ais=some ls) (t:Nat) :
 ∃l∈jb ais ls,∀{T:Tm} {H:Heap} {z:Tm×Heap},H.Hd->aU call l T H=some z->aU call (aL ais (Region.schedule true ops t)) T H=some z:=by
 unfold mE at hd;split at hd
 .rename_i l h0;cases hd;exact qx hk hpu hh h0 t
 .unfold qC at hd;dsimp only at hd;split at hd
  .cases hd
  .split at hd
   .rename_i hb;cases hd;simp only[zH,Bool.not_eq_true'] at hb;obtain⟨β,hβ,h⟩:=Fe hk hpu hh hb.2 t;refine⟨aL ais β,?_,fun {T H z} hd he=>h hd he⟩;have hm:=List.mem_map_of_mem (f:=aL ais) hβ;unfold jb;split
    .rename_i e;rw[e] at hm;simp at hm
    .exact hm
   .cases hd
end
end Go.EA
end
section
namespace Go.EA
def lastB (ops:Array Oper):Bool:=match ops.size with
 |0=>false
 |n+1=>(List.range n).all fun j=>rch ops n j
def EM (pp:Nat->Bool) (ops:Array Oper) (k:Nat) (ais:List AI) (o:List (Nat×Nat)) (β:List Nat):Bool:=
 jU β&&β.all (fun i=>decide (i<k))&&(List.range k).all (fun i=>β.contains i)&&jB (fun x y=>uf pp ais x y||rch ops y x||o.contains (x,y)) β
def rP (pp:Nat->Bool) (ops:Array Oper) (k:Nat) (ais:List AI) (U:List (Nat×Nat)) (B:List (List Nat)):Bool:=
 decide (k<=ais.length)&&U.all (fun p=>decide (p.1<k)&&decide (p.2<k)&&!Nat.beq p.1 p.2)&&(nH U).all fun o=>fw ops o||B.any (EM pp ops k ais o)
theorem Ej {σ:List Nat}{n x y:Nat}(h:Bef (σ++[n]) x y) (hy:y≠n):Bef σ x y:=by
 obtain⟨a,b,c,e⟩:=h;rcases List.eq_nil_or_concat c with rfl | ⟨c',z,rfl⟩
 .have:σ++[n]=(a++x::b)++[y]:=by rw[e]
  have:=List.append_inj_right' this rfl;simp at this;exact absurd this.symm hy
 .have:σ++[n]=(a++x::b++y::c')++[z]:=by rw[e];simp
  exact⟨a,b,c',List.append_inj_left' this rfl⟩
section
variable {pp:Nat->Bool} {call:AV->List AV->Heap->Option (AV×Heap)}
theorem CR (hk:dF pp call) (hpu:bR pp call) (hh:dX call) {ops:Array Oper}{k:Nat}{ais:List AI}{U:List (Nat×Nat)}{B:List (List Nat)}(hok:rP pp ops k ais U B=true)
 {σ:List Nat} (g1:σ.Nodup) (g2:∀i,i∈σ↔i<k) (hre:∀{i j:Nat},i∈σ->rch ops i j=true->Bef σ j i) :
 ∃β∈B,∀{T:Tm} {H:Heap} {z:Tm×Heap},H.Hd->aU call (aL ais β) T H=some z->aU call (aL ais σ) T H=some z:=by
 simp only[rP,zH,List.all_eq_true,decide_eq_true_eq,Bool.not_eq_true',Bool.or_eq_true] at hok;obtain⟨⟨hlen,hU⟩,hV⟩:=hok;obtain⟨o,ho,hb⟩:=lJ (σ:=σ) (U:=U) fun p hp=>by
  obtain⟨⟨h1,h2⟩,h3⟩:=hU p hp;exact⟨(g2 _).2 h1,(g2 _).2 h2,fun e=>by rw[e,Nat.beq_refl] at h3;cases h3⟩
 have mem1:∀{x y},Bef σ x y->x∈σ/\y∈σ:=fun {x y} ⟨a,b,c,e⟩=>by rw[e];simp
 rcases hV o ho with hc | hc
 .exfalso;simp only[fw,List.any_eq_true,Bool.or_eq_true,zH] at hc;obtain⟨p,hp,hc⟩:=hc;have hbp:=hb p hp;rcases hc with hc | ⟨q,hq,h1,h2⟩
  .exact bN g1 (aB g1 hbp (hre (mem1 hbp).1 hc))
  .have hbq:=hb q hq;have k1:Bef σ p.1 q.2:=by
    rcases h1 with h1 | h1
    .have:=zC h1;rw[this] at hbq;exact aB g1 hbp hbq
    .exact aB g1 hbp (aB g1 (hre (mem1 hbq).1 h1) hbq)
   rcases h2 with h2 | h2
   .have:=zC h2;rw[this] at k1;exact bN g1 k1
   .exact bN g1 (aB g1 k1 (hre (mem1 hbp).1 h2))
 .obtain⟨β,hβ,hf⟩:=List.any_eq_true.1 hc;simp only[EM,zH,List.all_eq_true,decide_eq_true_eq,List.mem_range] at hf;obtain⟨⟨⟨f1,f2⟩,f3⟩,f4⟩:=hf;refine⟨β,hβ,fun {T H z} hd he=>reorder hk hpu hh σ β g1 (fun i=>?_) (ig f1) (fun i hi=>by have:=(g2 i).1 hi;omega) (fun x y hxy=>?_) hd he⟩
  .rw[g2 i];exact⟨fun hi=>List.contains_iff_mem.1 (f3 i hi),fun hi=>f2 i hi⟩
  .have:=fK f4 hxy;simp only[Bool.or_eq_true] at this;have hy:y∈σ:=(g2 y).2 (f2 y (by obtain⟨a,b,c,e⟩:=hxy;rw[e];simp));rcases this with (h | h) | h
   .left
    unfold uf at h;split at h
    .rename_i u v h1 h2;exact⟨u,v,h1,h2,mD h⟩
    .cases h
   .exact .inr (hre hy h)
   .exact .inr (hb (x,y) (List.contains_iff_mem.1 h))
def Km (ops:Array Oper) (ais:List AI):Bool:=match ais.getLast? with
 |some i=>match i.op with
  |.call (.t _) _=>lastB ops
  |_=>false
 |none=>false
def Al (pp:Nat->Bool) (ops:Array Oper) (k:Nat) (ais:List AI) (o:List (Nat×Nat)) (β:List Nat):Bool:=
 jU β&&β.all (fun i=>decide (i<k))&&(List.range k).all (fun i=>β.contains i)&&jB (fun x y=>jP pp ais x y||rch ops y x||GK ops o x y) β
def om (pp:Nat->Bool) (ops:Array Oper) (k:Nat) (ais:List AI) (U:List (Nat×Nat)) (B:List (List Nat)):Bool:=
 decide (k<=ais.length)&&U.all (fun p=>decide (p.1<k)&&decide (p.2<k)&&!Nat.beq p.1 p.2)&&(nH U).all fun o=>fw ops o||B.any (Al pp ops k ais o)
theorem AX (hk:dF pp call) (hpu:bR pp call) (hh:dX call) {ops:Array Oper}{k:Nat}{ais:List AI}{U:List (Nat×Nat)}{B:List (List Nat)}(hok:om pp ops k ais U B=true)
 {σ:List Nat} (g1:σ.Nodup) (g2:∀i,i∈σ↔i<k) (hre:∀{i j:Nat},i∈σ->rch ops i j=true->Bef σ j i) :
 ∃β∈B,∀{T:Tm} {H:Heap} {z:Tm×Heap},H.Hd->aU call (aL ais β) T H=some z->aU call (aL ais σ) T H=some z:=by
 simp only[om,zH,List.all_eq_true,decide_eq_true_eq,Bool.not_eq_true',Bool.or_eq_true] at hok;obtain⟨⟨hlen,hU⟩,hV⟩:=hok;obtain⟨o,ho,hb⟩:=lJ (σ:=σ) (U:=U) fun p hp=>by
  obtain⟨⟨h1,h2⟩,h3⟩:=hU p hp;exact⟨(g2 _).2 h1,(g2 _).2 h2,fun e=>by rw[e,Nat.beq_refl] at h3;cases h3⟩
 have mem1:∀{x y},Bef σ x y->x∈σ/\y∈σ:=fun {x y} ⟨a,b,c,e⟩=>by rw[e];simp
 rcases hV o ho with hc | hc
 .exfalso;simp only[fw,List.any_eq_true,Bool.or_eq_true,zH] at hc;obtain⟨p,hp,hc⟩:=hc;have hbp:=hb p hp;rcases hc with hc | ⟨q,hq,h1,h2⟩
  .exact bN g1 (aB g1 hbp (hre (mem1 hbp).1 hc))
  .have hbq:=hb q hq;have k1:Bef σ p.1 q.2:=by
    rcases h1 with h1 | h1
    .have:=zC h1;rw[this] at hbq;exact aB g1 hbp hbq
    .exact aB g1 hbp (aB g1 (hre (mem1 hbq).1 h1) hbq)
   rcases h2 with h2 | h2
   .have:=zC h2;rw[this] at k1;exact bN g1 k1
   .exact bN g1 (aB g1 k1 (hre (mem1 hbp).1 h2))
 .obtain⟨β,hβ,hf⟩:=List.any_eq_true.1 hc;simp only[Al,zH,List.all_eq_true,decide_eq_true_eq,List.mem_range] at hf;obtain⟨⟨⟨f1,f2⟩,f3⟩,f4⟩:=hf;refine⟨β,hβ,fun {T H z} hd he=>reorder hk hpu hh σ β g1 (fun i=>?_) (ig f1) (fun i hi=>by have:=(g2 i).1 hi;omega) (fun x y hxy=>?_) hd he⟩
  .rw[g2 i];exact⟨fun hi=>List.contains_iff_mem.1 (f3 i hi),fun hi=>f2 i hi⟩
  .have:=fK f4 hxy;simp only[Bool.or_eq_true] at this;have hy:y∈σ:=(g2 y).2 (f2 y (by obtain⟨a,b,c,e⟩:=hxy;rw[e];simp));rcases this with (h | h) | h
   .left
    unfold jP at h;split at h
    .rename_i u v h1 h2;exact⟨u,v,h1,h2,h⟩
    .cases h
   .exact .inr (hre hy h)
   .right
    simp only[GK,List.any_eq_true,zH,Bool.or_eq_true] at h;obtain⟨p,hp,h1,h2⟩:=h;have hbp:=hb p hp;have k1:Bef σ x p.2:=by
     rcases h1 with h1 | h1
     .rw[<- zC h1];exact hbp
     .exact aB g1 (hre (mem1 hbp).1 h1) hbp
    rcases h2 with (h2 | h2) | ⟨q,hq,h2,h3⟩
    .rw[<- zC h2];exact k1
    .exact aB g1 k1 (hre hy h2)
    .have hbq:=hb q hq;have k2:Bef σ x q.2:=by
      rcases h2 with h2 | h2
      .rw[zC h2] at hbq;exact aB g1 k1 hbq
      .exact aB g1 k1 (aB g1 (hre (mem1 hbq).1 h2) hbq)
     rcases h3 with h3 | h3
     .rw[<- zC h3];exact k2
     .exact aB g1 k2 (hre hy h3)
theorem jw:∀{r:List AI},r.all (fun i=>i.op.blind)=true->∀{T T':Tm}{H H':Heap},aU call r T H=some (T',H')->H'=H/\∀H2,aU call r T H2=some (T',H2)
 |[],_,T,T',H,H',h=>by simp only[aU,zE,zF] at h ⊢;exact⟨h.2.symm,fun H2=>⟨h.1,by trivial⟩⟩
 | i::r,hb,T,T',H,H',h=>by
   simp only[List.all_cons,zH] at hb;rw[cO,Option.bind_eq_some_iff] at h;obtain⟨⟨v,H1⟩,h1,h2⟩:=h;obtain⟨rfl,h3⟩:=jS hb.1 h1;obtain⟨rfl,h4⟩:=jw hb.2 h2;refine⟨rfl,fun H2=>?_⟩;rw[cO,h3 H2];exact h4 H2
def Lb (ais:List AI) (x:Opd):Bool:=match x with
 |.t d=>ais.any fun i=>match i.op,i.dst with
  |.app _ _ _ _,some d'=>Nat.beq d d'
  |.mkfn _ (_::_),some d'=>Nat.beq d d'
  |_,_=>false
 |_=>false
def Eu (ops:Array Oper) (ais:List AI) (k:Nat):Bool:=match ais[k]? with
 |some i=>(match i.op with | .call (.c _) xs=>xs.any (Lb ais) | _=>false)&&(List.range k).all (fun j=>rch ops k j)&&(List.range ops.size).all (fun j=>decide (j<=k)||rch ops j k)
 |none=>false
def Co (pp:Nat->Bool) (ops:Array Oper) (ais:List AI) (k:Nat):Bool:=
 (ais.drop (k+1)).all (fun i=>i.op.blind)&&jB (fun x y=>jP pp ais x y||rch ops y x) (List.range' (k+1) (ops.size-(k+1)))
def oG (pp:Nat->Bool) (ops:Array Oper) (ais:List AI):Option (List (List AI)×List AI):=
 match (List.range ops.size).find? (Eu ops ais) with
 |none=>none
 | some k=>
   let U:=(BC pp ops ais).filter fun p=>decide (p.2<k)
   if 5<U.length then none else
   let W:=(II pp ops ais).filter fun p=>decide (p.1<k)&&decide (p.2<k)
   let B:=((nH U).filter fun o=>!fw ops o).map fun o=>yo (bE ops) o W k (List.range k)
   if !B.isEmpty&&ais.length == ops.size&&decide (k<ops.size)&&Eu ops ais k&&(List.range ops.size).all (fun i=>(bE ops i).all fun e=>decide (e<i))&&om pp ops k ais U B&&Co pp ops ais k then some (B.map (aL ais),ais.drop k) else none
theorem kI {ais:List AI}:∀(n s:Nat),s+n=ais.length->aL ais (List.range' s n)=ais.drop s
 |0,s,h=>by rw[List.drop_of_length_le (by omega)];rfl
 | n+1,s,h=>by
   rw[List.range'_succ,List.drop_eq_getElem_cons (by omega),<- kI n (s+1) (by omega)];show List.filterMap _ (s::_)=_;rw[List.filterMap_cons,zB (by omega)]
   rfl
theorem iV {B:List (List AI)}{tl:List AI}(h:B≠[]):jc (B,tl)=tl:=by
 unfold jc;split
 .rename_i e;simp only[zF] at e;exact absurd e.1 h
 .rename_i e;simp only[zF] at e;exact e.2.symm
theorem uj (hk:dF pp call) (hpu:bR pp call) (hh:dX call) {ops:Array Oper}{ais:List AI}{ls:List (List AI)×List AI}(hd:oG pp ops ais=some ls) (t:Nat) :
 ∃l∈jb ais ls.1,∃σ τ,Region.schedule true ops t=σ++τ/\(∃τ',aL ais τ=(jc ls).take 1++τ'/\∀{T:Tm} {H:Heap} {z:Tm×Heap},aU call ((jc ls).drop 1) T H=some z->aU call τ' T H=some z)/\∀{T:Tm} {H:Heap} {z:Tm×Heap},H.Hd->aU call l T H=some z->aU call (aL ais σ) T H=some z:=by
 unfold oG at hd;split at hd
 .cases hd
 rename_i k _;dsimp only at hd;split at hd
 .cases hd
 split at hd
 case isFalse=>cases hd
 rename_i hok;cases hd;simp only[zH,beq_iff_eq,List.all_eq_true,List.mem_range,decide_eq_true_eq,Bool.not_eq_true'] at hok;obtain⟨⟨⟨⟨⟨⟨hne,hlen⟩,hkn⟩,hcall⟩,hed⟩,hok⟩,htail⟩:=hok;have h0:∀i,(Array.replicate ops.size false).getD i false=false:=fun i=>by
  simp only[Array.getD_eq_getD_getElem?,Array.getElem?_replicate];split <;> rfl
 have hr:rem ops.size ((Array.replicate ops.size false).getD · false)=List.range ops.size:=by
  simp only[rem];exact List.filter_eq_self.2 fun i _=>by simp[h0 i]
 simp only[Region.schedule,Bool.true_or,if_true,Region.linearise];obtain⟨g1,g2,g3⟩:=nQ hed ops.size t (Array.replicate ops.size false) (by simp) (by rw[hr];simp);generalize Region.linearise.go .any ops ops.size t (Array.replicate ops.size false) []=σ at g1 g2 g3;have g2:∀i,i∈σ↔i<ops.size:=fun i=>by rw[g2 i,h0 i];simp
 have g3:∀a i b,σ=a++i::b->∀e∈bE ops i,e∈a:=fun a i b h e he=>by
  rcases g3 a i b h e he with h1 | h1
  .rw[h0] at h1;cases h1
  .exact h1
 have hre:∀{i j:Nat},i∈σ->rch ops i j=true->Bef σ j i:=fun hi h=>fJ g1 g3 8 hi h
 have hkm:k∈σ:=(g2 k).2 hkn;have hkl:k<ais.length:=by omega
 obtain⟨c1,c2⟩:(∀j,j<k->rch ops k j=true)/\∀j,j<ops.size->k<j->rch ops j k=true:=by
  unfold Eu at hcall;rw[zB hkl] at hcall;simp only[zH,List.all_eq_true,List.mem_range,Bool.or_eq_true,decide_eq_true_eq] at hcall;exact⟨fun j hj=>hcall.1.2 j hj,fun j hj hkj=>(hcall.2 j hj).resolve_left (by omega)⟩
 obtain⟨a,b,e⟩:=List.append_of_mem hkm;have n1:=List.nodup_append.1 (e ▸ g1);have n2:=List.nodup_cons.1 n1.2.1;have ha:∀i,i∈a↔i<k:=fun i=>by
  constructor
  .intro hi;have h1:i∈σ:=by rw[e];simp[hi]
   have h2:i≠k:=fun h=>n1.2.2 i hi k (by simp) h
   rcases Nat.lt_or_ge i k with h3 | h3
   .exact h3
   .have hb:=hre h1 (c2 i ((g2 i).1 h1) (by omega));obtain⟨a',b',e'⟩:=List.append_of_mem hi;exact absurd (aB g1 hb ⟨a',b',b,by first | (rw[e,e'];done) | (rw[e,e'];simp)⟩) (bN g1)
  .intro hi;have h1:i∈σ:=(g2 i).2 (by omega);rw[e] at h1;rcases zX.1 h1 with h1 | h1
   .exact h1
   .rcases List.mem_cons.1 h1 with h1 | h1
    .omega
    .obtain⟨a',b',e'⟩:=List.append_of_mem h1;exact absurd (aB g1 (hre hkm (c1 i hi)) ⟨a,a',b',by rw[e,e'];simp⟩) (bN g1)
 have hb:∀i,i∈b↔k<i/\i<ops.size:=fun i=>by
  constructor
  .intro hi;have h1:i∈σ:=by rw[e];simp[hi]
   refine⟨?_,(g2 i).1 h1⟩;have h2:i≠k:=fun h=>n2.1 (h ▸ hi)
   rcases Nat.lt_or_ge i k with h3 | h3
   .exact absurd rfl (n1.2.2 i ((ha i).2 h3) i (by simp[hi]))
   .omega
  .intro hi;have h1:i∈σ:=(g2 i).2 hi.2;rw[e] at h1;rcases zX.1 h1 with h1 | h1
   .have:=(ha i).1 h1;omega
   .rcases List.mem_cons.1 h1 with h1 | h1
    .omega
    .exact h1
 obtain⟨β,hβ,h⟩:=AX (call:=call) hk hpu hh hok n1.1 ha fun {i j} hi hr=>by
  have hi':=(ha i).1 hi;obtain⟨x,y,z,e1⟩:=hre (by rw[e];simp[hi]) hr;have hj:j∈a:=by
   have h1:j∈σ:=by rw[e1];simp
   rw[e] at h1;rcases zX.1 h1 with h1 | h1
   .exact h1
   .exfalso;obtain⟨a',b',e'⟩:=List.append_of_mem hi;obtain⟨a2,b2,e2⟩:=List.append_of_mem h1;exact absurd (aB g1 ⟨x,y,z,e1⟩ ⟨a',b'++a2,b2,by rw[e,e',e2];simp⟩) (bN g1)
  obtain⟨a',b',e'⟩:=List.append_of_mem hi;have hja:j∈a':=by
   rw[e'] at hj;rcases zX.1 hj with h1 | h1
   .exact h1
   .exfalso;rcases List.mem_cons.1 h1 with h1 | h1
    .subst h1;exact absurd ⟨x,y,z,e1⟩ (bN g1)
    .obtain⟨a2,b2,e2⟩:=List.append_of_mem h1;exact absurd (aB g1 ⟨x,y,z,e1⟩ ⟨a',a2,b2++k::b,by rw[e,e',e2];simp⟩) (bN g1)
  obtain⟨a3,b3,e3⟩:=List.append_of_mem hja;exact⟨a3,b3,b',by first | (rw[e',e3];done) | (rw[e',e3];simp)⟩
 have hm:=List.mem_map_of_mem (f:=aL ais) hβ;have hBne:(List.map (aL ais) _)≠[]:=List.ne_nil_of_mem hm;refine⟨aL ais β,?_,a,k::b,e,⟨aL ais b,?_,fun {T H z} he=>?_⟩,fun {T H z} hd he=>h hd he⟩
 .unfold jb;split
  .rename_i e1;rw[e1] at hm;simp at hm
  .exact hm
 .rw[iV hBne,List.drop_eq_getElem_cons hkl];show List.filterMap _ (k::b)=_;rw[List.filterMap_cons,zB hkl]
  rfl
 .rw[iV hBne,List.drop_drop] at he;unfold Co at htail;simp only[zH] at htail;obtain⟨t1,t2⟩:=htail;obtain⟨T2,H2⟩:=z;obtain⟨rfl,hall⟩:=jw t1 he;have hrange:=kI (ais:=ais) (ops.size-(k+1)) (k+1) (by omega);have hH0:(⟨0,fun _=>.dead⟩:Heap).Hd:=fun i _=>rfl
  have h2:=reorder (call:=call) hk hpu hh (ais:=ais) b (List.range' (k+1) (ops.size-(k+1))) n2.2 (fun i=>by rw[hb i,List.mem_range'_1];omega) List.nodup_range' (fun i hi=>by have:=(hb i).1 hi;omega) (fun x y hxy=>by
   have:=fK t2 hxy;simp only[Bool.or_eq_true] at this;rcases this with h3 | h3
   .left
    unfold jP at h3;split at h3
    .rename_i u v h4 h5;exact⟨u,v,h4,h5,h3⟩
    .cases h3
   .right
    have hy:y∈b:=by
     rw[hb y];obtain⟨a',b',c',e'⟩:=hxy;have:y∈List.range' (k+1) (ops.size-(k+1)):=by rw[e'];simp
     rw[List.mem_range'_1] at this;omega
    have hx:x∈b:=by
     rw[hb x];obtain⟨a',b',c',e'⟩:=hxy;have:x∈List.range' (k+1) (ops.size-(k+1)):=by rw[e'];simp
     rw[List.mem_range'_1] at this;omega
    have hs:=hre (by rw[e];simp[hy]) h3;obtain⟨a',b',e'⟩:=List.append_of_mem hy;have hxa:x∈a':=by
     rw[e'] at hx;rcases zX.1 hx with h1 | h1
     .exact h1
     .exfalso;rcases List.mem_cons.1 h1 with h1 | h1
      .subst h1;exact absurd hs (bN g1)
      .obtain⟨a2,b2,e2⟩:=List.append_of_mem h1;exact absurd (aB g1 hs ⟨a++k::a',a2,b2,by rw[e,e',e2];simp⟩) (bN g1)
    obtain⟨a3,b3,e3⟩:=List.append_of_mem hxa;exact⟨a3,b3,b',by first | (rw[e',e3];done) | (rw[e',e3];simp)⟩) hH0 (by rw[hrange];exact hall _)
  have t3:(aL ais b).all (fun i=>i.op.blind)=true:=by
   rw[List.all_eq_true] at t1 ⊢;intro x hx;obtain⟨i,hi,hxi⟩:=List.mem_filterMap.1 hx;have hi:=(hb i).1 hi;refine t1 x (List.mem_iff_getElem?.2 ⟨i-(k+1),?_⟩);rw[List.getElem?_drop,show k+1+(i-(k+1))=i by omega];exact hxi
  exact(jw t3 h2).2 _
def lh (pp:Nat->Bool) (ops:Array Oper) (ais:List AI):Option (List (List AI)×List AI):=
 match Km ops ais with
 | true=>
   let k:=ops.size-1
   let U:=(IA pp ops ais).filter fun p=>decide (p.2<k)
   if 3<U.length then none else
   let B:=((nH U).filter fun o=>!fw ops o).map fun o=>IV (bE ops) o k (List.range k)
   if !B.isEmpty&&ais.length == ops.size&&decide (0<ops.size)&&lastB ops&&(List.range ops.size).all (fun i=>(bE ops i).all fun e=>decide (e<i))&&rP pp ops k ais U B then some (B.map (aL ais),ais.drop k) else none
 |false=>match oG pp ops ais with
  |some r=>some r
  |none=>(mE pp ops ais).map fun l=>(l,[])
theorem vJ (hk:dF pp call) (hpu:bR pp call) (hh:dX call) {ops:Array Oper}{ais:List AI}{ls:List (List AI)×List AI}(hd:lh pp ops ais=some ls) (t:Nat) :
 ∃l∈jb ais ls.1,∃σ τ,Region.schedule true ops t=σ++τ/\(∃τ',aL ais τ=(jc ls).take 1++τ'/\∀{T:Tm} {H:Heap} {z:Tm×Heap},aU call ((jc ls).drop 1) T H=some z->aU call τ' T H=some z)/\∀{T:Tm} {H:Heap} {z:Tm×Heap},H.Hd->aU call l T H=some z->aU call (aL ais σ) T H=some z:=by
 unfold lh at hd;split at hd
 .dsimp only at hd;split at hd
  .cases hd
  split at hd
  .rename_i hok;cases hd;simp only[zH,beq_iff_eq,List.all_eq_true,List.mem_range,decide_eq_true_eq,Bool.not_eq_true'] at hok;obtain⟨⟨⟨⟨⟨hne,hlen⟩,hpos⟩,hlast⟩,hed⟩,hok⟩:=hok;obtain⟨n,hn⟩:∃n,ops.size=n+1:=⟨ops.size-1,by omega⟩;have h0:∀i,(Array.replicate ops.size false).getD i false=false:=fun i=>by
    simp only[Array.getD_eq_getD_getElem?,Array.getElem?_replicate];split <;> rfl
   have hr:rem ops.size ((Array.replicate ops.size false).getD · false)=List.range ops.size:=by
    simp only[rem];exact List.filter_eq_self.2 fun i _=>by simp[h0 i]
   simp only[Region.schedule,Bool.true_or,if_true,Region.linearise];obtain⟨g1,g2,g3⟩:=nQ hed ops.size t (Array.replicate ops.size false) (by simp) (by rw[hr];simp);generalize Region.linearise.go .any ops ops.size t (Array.replicate ops.size false) []=σ at g1 g2 g3;have g2:∀i,i∈σ↔i<ops.size:=fun i=>by rw[g2 i,h0 i];simp
   have g3:∀a i b,σ=a++i::b->∀e∈bE ops i,e∈a:=fun a i b h e he=>by
    rcases g3 a i b h e he with h1 | h1
    .rw[h0] at h1;cases h1
    .exact h1
   have hre:∀{i j:Nat},i∈σ->rch ops i j=true->Bef σ j i:=fun hi h=>fJ g1 g3 8 hi h
   have hnm:n∈σ:=(g2 n).2 (by omega);obtain⟨a,b,e⟩:=List.append_of_mem hnm;have hb:b=[]:=by
    cases b with
    |nil=>rfl
    | cons y b=>
      exfalso;have hy:y∈σ:=by rw[e];simp
      have hyn:y≠n:=fun h=>by
       rw[e,h] at g1;have:=(List.nodup_append.1 g1).2.1;rw[List.nodup_cons] at this;exact this.1 (by simp)
      have hlt:=(g2 y).1 hy;have hr:rch ops n y=true:=by
       simp only[lastB,hn,List.all_eq_true,List.mem_range] at hlast;exact hlast y (by omega)
      exact bN g1 (aB g1 (hre hnm hr) ⟨a,[],b,by rw[e];simp⟩)
   subst hb;have hk1:ops.size-1=n:=by omega
   rw[hk1] at hok ⊢;have q1:a.Nodup:=by rw[e] at g1;exact(List.nodup_append.1 g1).1
   have q2:∀i,i∈a↔i<n:=fun i=>by
    constructor
    .intro hi;have h1:=(g2 i).1 (by rw[e];simp[hi]);have h2:i≠n:=fun h=>by
      rw[e] at g1;rw[h] at hi;exact(List.nodup_append.1 g1).2.2 n hi n (by simp) rfl
     omega
    .intro hi;have h1:=(g2 i).2 (by omega);rw[e] at h1;simp only[zX,List.mem_singleton] at h1;rcases h1 with h1 | h1
     .exact h1
     .omega
   obtain⟨β,hβ,h⟩:=CR (call:=call) hk hpu hh hok q1 q2 fun {i j} hi hr=>Ej (n:=n) (by rw[<- e];exact hre (by rw[e];simp[hi]) hr) (fun h=>by
    rw[h] at hi;exact absurd ((q2 n).1 hi) (by omega))
   have hm:=List.mem_map_of_mem (f:=aL ais) hβ;refine⟨aL ais β,?_,a,[n],e,⟨[],?_,fun {T H z} he=>?_⟩,fun {T H z} hd he=>h hd he⟩
   .unfold jb;split
    .rename_i e1;rw[e1] at hm;simp at hm
    .exact hm
   .have hl:n<ais.length:=by omega
    rw[List.drop_eq_getElem_cons hl,List.drop_of_length_le (by omega)];rw[iV (List.ne_nil_of_mem hm)];simp[aL,hl]
   .rw[iV (List.ne_nil_of_mem hm),List.drop_drop,List.drop_of_length_le (by omega)] at he;exact he
  .cases hd
 .split at hd
  .rename_i hr;cases hd;exact uj hk hpu hh hr t
  obtain⟨l,hl,rfl⟩:=zD.1 hd;obtain⟨l',hl',h⟩:=rM (call:=call) hk hpu hh hl t;have e:jc (l,([]:List AI))=[]:=by unfold jc; split <;> simp_all
  exact⟨l',hl',_,[],by simp,⟨[],by rw[e];rfl,fun {T H z} he=>by rw[e] at he;exact he⟩,fun {T H z} hd he=>h hd he⟩
end
end Go.EA
end
