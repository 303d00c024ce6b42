/- Plain: from the first state on just words end. Conditions: none. -/
import Derived.Test.YtpgjilomblpcpaaDoorEDfr
import Derived.Test.YtpgjilomblpcpaaDoorEK12
set_option linter.unusedVariables false
set_option linter.unusedSimpArgs false
namespace Go.EA
def wlk (S:List StD):List Int->Int->Int×Bool
 |[],i=>(i,true)
 |r::rs,i=>if dU (stA S i.toNat).1 r=true then wlk S rs (iG (stA S i.toNat).1 r) else (0,false)
theorem mem_nil_iff {α:Type}{l:List α}:l≠[]↔∃x,x∈l:=by
 cases l with
 |nil=>exact⟨fun h=>absurd rfl h,fun⟨x,h⟩=>by cases h⟩
 |cons a l=>exact⟨fun _=>⟨a,by simp⟩,fun _=>by simp⟩
theorem Gs.nxt {all:List RSt}{s:RSt}(g:Gs all s) {r:Int}:dU s.2.2 r=true↔aZ s.1 r≠[]:=by
 rw[Na,g.hd];constructor
 .exact Ka
 .intro h;obtain⟨z,hz⟩:=mem_nil_iff.1 h;exact gW (fJ.1 hz)
theorem Aw {all:List RSt}{i:Nat}(hi:i<all.length) (r:Int) (rs:List Int):wlk (all.map stD) (r::rs) i=if dU (rAt all i).2.2 r=true then wlk (all.map stD) rs (iG (rAt all i).2.2 r) else (0,false):=by
 have e:wlk (all.map stD) (r::rs) i=if dU (stA (all.map stD) (i:Int).toNat).1 r=true then wlk (all.map stD) rs (iG (stA (all.map stD) (i:Int).toNat).1 r) else (0,false):=rfl
 rw[e,Int.toNat_natCast,gP hi];rfl
theorem DC {W:Rst}{all:List RSt}(hS:Sts W all):∀(rs:List Int) (i:Nat),i<all.length->(bhs (rAt all i).1 rs≠[]\/rs=[])->∃n:Nat,wlk (all.map stD) rs i=((n:Int),true)/\n<all.length/\(rAt all n).1=bhs (rAt all i).1 rs
 |[],i,hi,_=>⟨i,rfl,hi,rfl⟩
 | r::rs,i,hi,h=>by
   have h:bhs (aZ (rAt all i).1 r) rs≠[]:=by
    rcases h with h | h
    .exact h
    .cases h
   have g:=hS.g _ (hS.mem hi);obtain⟨z,hz⟩:=mem_nil_iff.1 h;have hn:dU (rAt all i).2.2 r=true:=g.nxt.2 (mem_nil_iff.2 ⟨_,mh.1 hz⟩);obtain⟨n,h1,h2,h3⟩:=g.to _ (rU hn);dsimp only at h1 h3;obtain⟨m,m1,m2,m3⟩:=DC hS rs n h2 (.inl (by rw[h3];exact h));exact⟨m,by rw[Aw hi,if_pos hn,h1,m1],m2,by rw[m3,h3];rfl⟩
theorem Lh {W:Rst}{all:List RSt}(hS:Sts W all):∀(rs:List Int) (i:Nat),i<all.length->rs≠[]->bhs (rAt all i).1 rs=[]->wlk (all.map stD) rs i=(0,false)
 |[],i,_,h,_=>absurd rfl h
 | r::rs,i,hi,_,h=>by
   have h:bhs (aZ (rAt all i).1 r) rs=[]:=h;have g:=hS.g _ (hS.mem hi);rw[Aw hi];by_cases hn:dU (rAt all i).2.2 r=true
   .obtain⟨n,h1,h2,h3⟩:=g.to _ (rU hn);dsimp only at h1 h3;rw[if_pos hn,h1];refine Lh hS rs n h2 (fun e=>?_) (by rw[h3];exact h);subst e;exact g.nxt.1 hn h
   .rw[if_neg hn]
theorem yU (a b:List Int):xw (a++b)=xw a++xw b:=by unfold xw;simp
theorem Es {w s:List UInt8}(hw:bN w=0) (hs:bN s=0):preB w s=true↔∃z,aC w=aC s++z:=by
 constructor
 .intro h;have h:=of_decide_eq_true h;have e:w=s++w.drop s.length:=by conv=>lhs;rw[<- List.take_append_drop s.length w,h.2]
  have h2:bN (s++w.drop s.length)=0:=e ▸ hw;have h3:=(FQ _ _ h2).1 hs;exact⟨aC (w.drop s.length),by rw[<- (MN _ _ hs h3).2,<- e]⟩
 .rintro⟨z,hz⟩;have e:w=s++xw z:=by rw[<- oo hw,hz,yU,oo hs]
  refine decide_eq_true ?_;rw[e];simp
theorem xC {s:List UInt8}(h:bN s=0):aC s=[]↔s=[]:=by
 constructor
 .intro e;rw[<- oo h,e];rfl
 .rintro rfl;rfl
theorem Ol {a b:List UInt8}(ha:bN a=0) (hb:bN b=0) (e:aC a=aC b):a=b:=by rw[<- oo ha,e,oo hb]
theorem qV {l:List Wd}(h:isE l=0) {s:List UInt8}(hs:bN s=0):bhs (wdR l) (aC s)≠[]↔cu l s<jX l s:=by
 have hN:=nml h;obtain⟨e1,e2,e3,e4⟩:=vT l s;rw[mem_nil_iff];constructor
 .rintro⟨z,hz⟩;obtain⟨w,hw,e⟩:=qY.1 (mh.1 hz);obtain⟨i,hi,ei⟩:=List.getElem_of_mem hw;have hp:=(Rv hN.ris (s:=s) hi).1 (by rw[zA,zB hi];show preB (l[i]).1 s=true;rw[ei];exact(Es (hN.dec w hw) hs).2 ⟨z,e⟩);omega
 .intro hlt;have hp:=e3 (cu l s) (zJ _) hlt;have hm:l.getD (cu l s) ([],0)∈l:=by rw[zA,zB (by omega)];exact List.getElem_mem _
  obtain⟨z,hz⟩:=(Es (hN.dec _ hm) hs).1 hp;exact⟨z,mh.2 (qY.2 ⟨_,hm,hz⟩)⟩
theorem uE {l:List Wd}(h:isE l=0) {s:List UInt8}(hs:bN s=0):(wlk (List.map stD (bu l)) (aC s) 0).2=true↔cu l s<jX l s\/s=[]:=by
 have hS:=sts h;have hr:=hS.root;by_cases hb:bhs (wdR l) (aC s)≠[]\/aC s=[]
 .obtain⟨n,h1,_⟩:=DC hS (aC s) 0 hS.pos (by rw[hr];exact hb);have h1:wlk (List.map stD (bu l)) (aC s) 0=((n:Int),true):=h1;rw[h1,<- qV h hs,<- xC hs];exact⟨fun _=>hb,fun _=>rfl⟩
 .have h1:=Lh hS (aC s) 0 hS.pos (fun e=>hb (.inr e)) (by rw[hr];exact Classical.byContradiction fun h=>hb (.inl h));have h1:wlk (List.map stD (bu l)) (aC s) 0=(0,false):=h1;rw[h1,<- qV h hs,<- xC hs];exact⟨fun h=>(by cases h),fun h=>absurd h hb⟩
theorem oM {l:List Wd}(h:isE l=0) {s:List UInt8}(hs:bN s=0) (hg:(wlk (List.map stD (bu l)) (aC s) 0).2=true):∃n:Nat,(wlk (List.map stD (bu l)) (aC s) 0).1=(n:Int)/\n<(bu l).length/\((stA (List.map stD (bu l)) n).2.1=true↔∃w∈l,w.1=s):=by
 have hS:=sts h;have hN:=nml h;have hr:=hS.root;have hb:=(uE h hs).1 hg;rw[<- qV h hs,<- xC hs] at hb;obtain⟨n,h1,h2,h3⟩:=DC hS (aC s) 0 hS.pos (by rw[hr];exact hb);have h1:wlk (List.map stD (bu l)) (aC s) 0=((n:Int),true):=h1;refine⟨n,by rw[h1],h2,?_⟩;rw[gP h2];show (rAt (bu l) n).2.1=true↔_;rw[(hS.g _ (hS.mem h2)).ends,Aa,h3,hr,mh,List.append_nil,qY];constructor
 .rintro⟨w,hw,e⟩;exact⟨w,hw,Ol (hN.dec w hw) hs e⟩
 .rintro⟨w,hw,rfl⟩;exact⟨w,hw,rfl⟩
theorem pQ {l:List Wd}(h:isE l=0) {s:List UInt8}(hw:∃w∈l,w.1=s):bN s=0/\(wlk (List.map stD (bu l)) (aC s) 0).2=true:=by
 obtain⟨w,hw,rfl⟩:=hw;have hN:=nml h;have hd:=hN.dec w hw;refine⟨hd,(uE h hd).2 ?_⟩;rw[<- qV h hd];exact .inl (mem_nil_iff.2 ⟨[],mh.2 (qY.2 ⟨w,hw,by rw[List.append_nil]⟩)⟩)
theorem Bu {l:List Wd}(h:isE l=0) {s:List UInt8}:eO l s=0↔∃w∈l,w.1=s:=by
 unfold eO;rw[if_pos h];constructor
 .intro h0;split at h0
  .rename_i hf;rw[List.find?_isSome] at hf;obtain⟨w,hw,e⟩:=hf;exact⟨w,hw,of_decide_eq_true e⟩
  .cases h0
 .rintro⟨w,hw,e⟩;rw[if_pos (List.find?_isSome.2 ⟨w,hw,decide_eq_true e⟩)]
theorem OU {l:List Wd}(h:isE l=0) {s:List UInt8}(hs:bN s=0):(if (wlk (List.map stD (bu l)) (aC s) 0).2=true then (stA (List.map stD (bu l)) ((wlk (List.map stD (bu l)) (aC s) 0).1).toNat).2.1 else false)=decide (eO l s=0):=by
 by_cases hg:(wlk (List.map stD (bu l)) (aC s) 0).2=true
 .obtain⟨n,h1,h2,h3⟩:=oM h hs hg;rw[if_pos hg,h1,Int.toNat_natCast,Bool.eq_iff_iff,h3,decide_eq_true_iff,Bu h]
 .rw[if_neg hg];exact(decide_eq_false fun h0=>hg (pQ h ((Bu h).1 h0)).2).symm
end Go.EA
