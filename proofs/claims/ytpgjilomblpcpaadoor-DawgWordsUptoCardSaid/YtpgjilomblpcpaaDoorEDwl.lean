/- Plain: a word's place is its number. Conditions: none. -/
import Derived.Test.YtpgjilomblpcpaaDoorEDpm
import Derived.Test.YtpgjilomblpcpaaDoorEDfr
set_option linter.unusedVariables false
set_option linter.unusedSimpArgs false
namespace Go.EA
theorem yj:∀x:List Int,¬ ltR x x
 |[]=>fun h=>h
 | a::x=>fun h=>by
   rcases h with h | h
   .omega
   .exact yj x h.2
theorem xu {l:Rst}(h:dF l) {i j:Nat}(hi:i<l.length) (hj:j<l.length) (e:l.getD i []=l.getD j []):i=j:=by
 rw[zA,zA,zB hi,zB hj] at e;have e:l[i]=l[j]:=e;rcases Nat.lt_trichotomy i j with hij | hij | hij
 .exact absurd (e ▸ List.pairwise_iff_getElem.1 h i j hi hj hij) (yj _)
 .exact hij
 .exact absurd (e ▸ List.pairwise_iff_getElem.1 h j i hj hi hij) (yj _)
theorem KA (l:Rst) (a b:List Int):iH l (a++b)=iH l a++iH l b:=by unfold iH;rw[List.flatMap_append]
theorem Ih (l:Rst) (r:Int) (b:List Int):iH l (r::b)=(aS l r).map (fun z=>r::z)++iH l b:=by unfold iH;rw[List.flatMap_cons]
theorem jc {α β:Type}(f:α->β) {l:List α}{i:Nat}{d:α}{d':β}(h:i<l.length):(l.map f).getD i d'=f (l.getD i d):=by
 rw[zA,zA,List.getElem?_map,zB h];rfl
theorem Fy {W:Rst}{all:List RSt}(hS:Sts W all) (hE:EdS (all.map stD)):∀(rs:List Int) (i k:Nat) (a:Int),i<all.length->k<(rAt all i).1.length->(rAt all i).1.getD k []=rs->plc (all.map stD) rs i a=(a+k,0)
 | [],i,k,a,hi,hk,e=>by
   have g:=hS.g _ (hS.mem hi);have hm:[]∈(rAt all i).1:=by
    rw[zA,zB hk] at e;have e:(rAt all i).1[k]=[]:=e;rw[<- e];exact List.getElem_mem _
   have he:aA (rAt all i).1=true:=iZ.2 hm;have hsp:=qj g.srt;rw[if_pos he] at hsp;have h0:(rAt all i).1.getD 0 []=[]:=by rw[hsp];rfl
   have hk0:k=0:=xu g.srt hk (by omega) (e.trans h0.symm);unfold plc;rw[dh hi];show (if (rAt all i).2.1=true then (a,(0:Int)) else (0,10))=_;rw[g.ends,if_pos he,hk0];simp
 | r::rs,i,k,a,hi,hk,e=>by
   have g:=hS.g _ (hS.mem hi);have hm:r::rs∈(rAt all i).1:=by
    rw[zA,zB hk] at e;have e:(rAt all i).1[k]=r::rs:=e;rw[<- e];exact List.getElem_mem _
   have hER:EdR (rAt all i).2.2:=by
    have:=hE.at i;have e2:(all.map stD).getD i ([],false,0)=stD (rAt all i):=dh hi;rw[e2] at this;exact this
   have hn:iT (rAt all i).2.2 r=true:=Cr.2 (by rw[g.hd];exact fE hm);obtain⟨n,h1,h2,h3⟩:=g.to _ (Cc hn);dsimp only at h1 h3;obtain⟨f1,f2,f3⟩:=Ky hER hn;have hb:rs∈aS (rAt all i).1 r:=dQ.2 hm;obtain⟨k',hk',ek'⟩:=List.getElem_of_mem hb;have ek:(aS (rAt all i).1 r).getD k' []=rs:=by rw[zA,zB hk'];exact ek'
   unfold plc;rw[dh hi];show (if iT (rAt all i).2.2 r=true then plc (all.map stD) rs (uk (rAt all i).2.2 r).toNat (a+e01 (rAt all i).2.1+cB (all.map stD) ((rAt all i).2.2.take (gZ (rAt all i).2.2 r).toNat)) else (0,10))=_;rw[if_pos hn,h1,Int.toNat_natCast,Fy hS hE rs n k' _ h2 (by rw[h3];exact hk') (by rw[h3];exact ek)];have hfl:(gZ (rAt all i).2.2 r).toNat<(rAt all i).2.2.length:=by omega
   generalize (gZ (rAt all i).2.2 r).toNat=F at f3 hfl;have hsc:cB (all.map stD) ((rAt all i).2.2.take F)=((iH (rAt all i).1 (((rAt all i).2.2.take F).map (·.1))).length:Int):=by
    rw[nJ g fun e he=>List.mem_of_mem_take he,EK,List.map_map];rfl
   have hsp:=qj g.srt;have hdr:(rAt all i).2.2=(rAt all i).2.2.take F++(rAt all i).2.2.getD F (0,0)::(rAt all i).2.2.drop (F+1):=by
    conv=>lhs;rw[<- List.take_append_drop F (rAt all i).2.2,List.drop_eq_getElem_cons hfl]
    rw[zA,zB hfl];rfl
   have hh:az (rAt all i).1=((rAt all i).2.2.take F).map (·.1)++r::((rAt all i).2.2.drop (F+1)).map (·.1):=by
    rw[<- g.hd]
    conv=>lhs;rw[hdr]
    rw[List.map_append,zK,f3]
   rw[hh,KA,Ih] at hsp;have hpl:((if aA (rAt all i).1=true then [[]] else []:Rst).length:Int)=e01 (rAt all i).2.1:=by
    rw[g.ends];unfold e01;by_cases he:aA (rAt all i).1=true
    .rw[if_pos he,if_pos he];rfl
    .rw[if_neg he,if_neg he];rfl
   generalize (if aA (rAt all i).1=true then [[]] else []:Rst)=P at hsp hpl;generalize hG:iH (rAt all i).1 (((rAt all i).2.2.take F).map (·.1))=G at hsp hsc;have hlen:=congrArg List.length hsp;simp only[zL,zR] at hlen;have hat:(rAt all i).1.getD (P.length+(G.length+k')) []=r::rs:=by
    rw[hsp,kE (by omega),show P.length+(G.length+k')-P.length=G.length+k' by omega,kE (by omega),show G.length+k'-G.length=k' by omega,uE (by rw[zR];exact hk'),jc (d:=[]) _ hk',ek]
   have hkk:=xu g.srt hk (by omega) (e.trans hat.symm);rw[hsc,<- hpl];refine Prod.ext ?_ rfl;show a+(P.length:Int)+(G.length:Int)+(k':Int)=a+(k:Int);omega
theorem FK (S:List StD):∀(rs:List Int) (i:Nat) (a:Int),(plc S rs i a).2=0\/plc S rs i a=(0,10)
 | [],i,a=>by
   unfold plc;split
   .exact .inl rfl
   .exact .inr rfl
 | r::rs,i,a=>by
   unfold plc;split
   .exact FK S rs _ _
   .exact .inr rfl
def plR:List Wd->List UInt8->Int×Bool
 |[],_=>(0,false)
 |w::l,s=>if w.1=s then (0,true) else if (plR l s).2 then ((plR l s).1+1,true) else (0,false)
theorem Me {l:List Wd}{s:List UInt8}(h:∀w∈l,w.1≠s):plR l s=(0,false):=by
 induction l with
 |nil=>rfl
 | cons w l ih=>
   unfold plR;rw[if_neg (h w (by simp)),ih fun x hx=>h x (by simp[hx]),if_neg (by decide)]
theorem wY:∀{l:List Wd}{s:List UInt8}{i:Nat},i<l.length->(∀j,j<i->(l.getD j ([],0)).1≠s)->(l.getD i ([],0)).1=s->plR l s=((i:Int),true)
 |[],_,_,h,_,_=>by simp at h
 | w::l,s,0,_,_,h=>by
   have h:w.1=s:=h;unfold plR;rw[if_pos h];rfl
 | w::l,s,i+1,h0,h1,h2=>by
   have h3:w.1≠s:=h1 0 (Nat.succ_pos _);simp only[zM] at h0;have ih:=wY (l:=l) (i:=i) (by omega) (fun j hj=>h1 (j+1) (by omega)) h2;unfold plR;rw[if_neg h3,ih,if_pos rfl];push_cast;rfl
theorem Qs {l:List Wd}(h:isE l=0) (s:List UInt8):(plE s (List.map stD (fZ l))).1=(plR l s).1/\((plR l s).2=true->(plE s (List.map stD (fZ l))).2=0)/\((plR l s).2=false->(plE s (List.map stD (fZ l))).2=10):=by
 have hS:=sts h;have hN:=nml h;have hE:=hS.eds hN.tot;unfold plE;by_cases hs:∃w∈l,w.1=s
 .obtain⟨w,hw,rfl⟩:=hs;obtain⟨i,hi,ei⟩:=List.getElem_of_mem hw;have eg:l.getD i ([],0)=w:=by rw[zA,zB hi];exact ei
  have hd:=hN.dec w hw;have hat:(wdR l).getD i []=aG w.1:=by
   unfold wdR;rw[jc (d:=([],0)) _ hi,eg]
  have hp:=Fy hS hE (aG w.1) 0 i 0 hS.pos (by rw[hS.root,mq];exact hi) (by rw[hS.root];exact hat);have hr:plR l w.1=((i:Int),true):=by
   refine wY hi (fun j hj e=>?_) (by rw[eg]);have hj2:(wdR l).getD j []=aG w.1:=by
    unfold wdR;rw[jc (d:=([],0)) _ (by omega),e]
   have:=xu hN.srt (by rw[mq];omega) (by rw[mq];exact hi) (hj2.trans hat.symm);omega
  rw[if_pos hd,hp,hr];exact⟨by simp,fun _=>rfl,fun h=>(by cases h)⟩
 .have hr:plR l s=(0,false):=Me fun w hw e=>hs ⟨w,hw,e⟩
  rw[hr];by_cases hd:eP s=0
  .rw[if_pos hd];have hno:¬ (plc (List.map stD (fZ l)) (aG s) 0 0).2=0:=fun h0=>by
    have:=(FM hS (aG s) 0 0 hS.pos).1 h0;rw[hS.root] at this;obtain⟨w,hw,e⟩:=Oa.1 this;exact hs ⟨w,hw,by rw[<- yw (hN.dec w hw),e,yw hd]⟩
   rcases FK (List.map stD (fZ l)) (aG s) 0 0 with h2 | h2
   .exact absurd h2 hno
   .rw[h2];exact⟨rfl,fun h=>(by cases h),fun _=>rfl⟩
  .rw[if_neg hd];exact⟨rfl,fun h=>(by cases h),fun _=>rfl⟩
end Go.EA
