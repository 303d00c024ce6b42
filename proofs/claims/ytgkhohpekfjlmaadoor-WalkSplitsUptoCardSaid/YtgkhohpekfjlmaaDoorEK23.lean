/- Texts. Conditions: none. -/
import Derived.Test.YtgkhohpekfjlmaaDoorEK26
import Derived.Test.YtgkhohpekfjlmaaDoorEK24
import Derived.Test.YtgkhohpekfjlmaaDoorEK22
set_option linter.unusedVariables false
set_option linter.unusedSimpArgs false
section
namespace Go.EA
def IR (r:Int):Prop := -2147483648<=r/\r<=2147483647
def EdR (s:List Ed):Prop:=(s.map (·.1)).Pairwise (·<·)/\(∀e∈s,IR e.1)/\s.length<=4194305
def EdS (S:List StD):Prop:=∀x∈S,EdR x.1
theorem EdR.nil:EdR []:=⟨.nil,fun e he=>(by cases he),by decide⟩
theorem EdS.at {S:List StD}(h:EdS S) (i:Nat):EdR (S.getD i ([],false,0)).1:=by
 rw[zA];cases hi:S[i]? with
 |none=>exact EdR.nil
 |some x=>exact h x (zU hi)
def nC (s:List Ed) (r:Int):Int:=((s.filter fun e=>decide (e.1<r)).length:Int)
theorem EdR.mono {s:List Ed}(h:EdR s) {i j:Nat}(hij:i<j) (hj:j<s.length):(s.getD i (0,0)).1<(s.getD j (0,0)).1:=by
 have h1:=List.pairwise_iff_getElem.1 h.1 i j (by rw[zR];omega) (by rw[zR];omega) hij;rw[List.getElem_map,List.getElem_map] at h1;rw[zA,zA,zB (by omega),zB hj];exact h1
theorem EdR.ir {s:List Ed}(h:EdR s) (i:Nat):IR (s.getD i (0,0)).1:=by
 rw[zA];cases hi:s[i]? with
 |none=>exact⟨by decide,by decide⟩
 |some x=>exact h.2.1 x (zU hi)
theorem oU {r:Int}:∀{s:List Ed}{n:Nat},n<=s.length->(∀j,j<n->(s.getD j (0,0)).1<r)->(∀j,n<=j->j<s.length->r<=(s.getD j (0,0)).1)->(n:Int)=nC s r
 |[],0,_,_,_=>rfl
 |[],n+1,h,_,_=>by simp at h
 | e::s,0,_,_,h3=>by
   have h4:r<=e.1:=h3 0 (zJ _) (by simp);have ih:=oU (s:=s) (n:=0) (Nat.zero_le _) (fun j hj=>absurd hj (zS _)) fun j _ hj=>h3 (j+1) (Nat.zero_le _) (by simp;omega)
   unfold nC at ih ⊢;rw[List.filter_cons,if_neg (by simp;omega)];exact ih
 | e::s,n+1,h1,h2,h3=>by
   have h4:e.1<r:=h2 0 (Nat.succ_pos _);simp only[zM] at h1;have ih:=oU (s:=s) (n:=n) (by omega) (fun j hj=>h2 (j+1) (by omega)) fun j hn hj=>h3 (j+1) (by omega) (by simp;omega)
   unfold nC at ih ⊢;rw[List.filter_cons,if_pos (by simpa using h4),zM];push_cast;omega
theorem Qy {s:List Ed}{r:Int}{n:Nat}(hn:n<s.length) (h2:∀j,j<n->(s.getD j (0,0)).1<r):decide ((s.getD n (0,0)).1-r=0)=true->dz s r=true/\gM s r=(s.getD n (0,0)).2:=fun h=>by
 have h:=of_decide_eq_true h;have:=RU hn (fun j hj e=>by have:=h2 j hj;omega) (show (s.getD n (0,0)).1=r by omega);unfold dz gM;rw[this];exact⟨rfl,rfl⟩
theorem GU {s:List Ed}{r:Int}{n:Nat}(hs:EdR s) (hn:n<=s.length) (h2:∀j,j<n->(s.getD j (0,0)).1<r) (h3:∀j,n<=j->j<s.length->r<(s.getD j (0,0)).1):dz s r=false/\gM s r=0:=by
 have:=JS (out:=s) (r:=r) fun j hj e=>by
  by_cases h:j<n
  .have:=h2 j h;omega
  .have:=h3 j (by omega) hj;omega
 unfold dz gM;rw[this];exact⟨rfl,rfl⟩
theorem TJ {s:List Ed}{r:Int}(h:dz s r=false):gM s r=0:=by
 unfold dz at h;unfold gM;cases hn:vK s r with
 |none=>rfl
 |some e=>rw[hn] at h;cases h
theorem Va {s:List Ed}{r:Int}(hs:EdR s) (h:dz s r=true):(0<=nC s r/\nC s r<s.length)/\(s.getD (nC s r).toNat (0,0)).2=gM s r/\(s.getD (nC s r).toNat (0,0)).1=r:=by
 unfold dz at h;obtain⟨e,he⟩:=Option.isSome_iff_exists.1 h;unfold vK at he;obtain⟨h1,n,hn,h2,_⟩:=List.find?_eq_some_iff_getElem.1 he;have hg:s.getD n (0,0)=e:=by rw[zA,zB hn];exact h2
 have h1:=of_decide_eq_true h1;have e1:(n:Int)=nC s r:=oU (by omega) (fun j hj=>by have:=hs.mono hj hn;rw[hg] at this;omega) fun j hj hjl=>by
  by_cases e':j=n
  .subst e';rw[hg];omega
  .have:=hs.mono (i:=n) (j:=j) (by omega) hjl;rw[hg] at this;omega
 rw[<- e1,Int.toNat_natCast,hg];refine⟨⟨by omega,by omega⟩,?_,h1⟩;unfold gM vK;rw[he];rfl
end Go.EA
end
section
namespace Go.EA
def JH (l:Rst):Prop:=∀x∈l,∀r∈x,Utf8.valid r=true
theorem Pw {l:Rst}(h:JH l) (r:Int):JH (aZ l r):=fun x hx y hy=>h (r::x) (dK.1 hx) y (by simp[hy])
structure Gs (all:List RSt) (s:RSt):Prop where
 srt:dL s.1
 val:JH s.1
 ends:s.2.1=aH s.1
 hd:s.2.2.map (·.1)=aD s.1
 to:∀e∈s.2.2,∃n:Nat,e.2=(n:Int)/\n<all.length/\(rAt all n).1=aZ s.1 e.1
theorem Gs.more {a b:List RSt}{s:RSt}(h:Gs a s):Gs (a++b) s:=⟨h.srt,h.val,h.ends,h.hd,fun e he=>by
 obtain⟨n,h1,h2,h3⟩:=h.to e he;exact⟨n,h1,by rw[zL];omega,by rw[gm h2];exact h3⟩⟩
theorem Gs.congr {a b:List RSt}{s:RSt}(h:Gs a s) (hl:a.length=b.length) (hs:∀k,(rAt a k).1=(rAt b k).1):Gs b s:=⟨h.srt,h.val,h.ends,h.hd,fun e he=>by
 obtain⟨n,h1,h2,h3⟩:=h.to e he;exact⟨n,h1,by omega,by rw[<- hs];exact h3⟩⟩
def Xq (all:List RSt) (rests:Rst):Prop:=∃new,(iF all rests).1=all++new/\(∀s∈new,Gs (all++new) s/\(rests≠[]->s.1≠[]))/\(iF all rests).2<(all++new).length/\(rAt (all++new) (iF all rests).2).1=rests/\
 ∀n,all.length<=n->n<(all++new).length->n=(iF all rests).2\/∃s∈new,∃e∈s.2.2,e.2=(n:Int)
def VfG (all:List RSt) (rests:Rst) (j:Nat):Prop:=∃new,(dh all rests j).1=all++[(rests,aH rests,[])]++new/\(∀s∈new,Gs (all++[(rests,aH rests,[])]++new) s/\s.1≠[])/\(dh all rests j).2.map (·.1)=(aD rests).take j/\
 (∀e∈(dh all rests j).2,∃n:Nat,e.2=(n:Int)/\n<(all++[(rests,aH rests,[])]++new).length/\(rAt (all++[(rests,aH rests,[])]++new) n).1=aZ rests e.1)/\
 ∀n,all.length+1<=n->n<(all++[(rests,aH rests,[])]++new).length->(∃e∈(dh all rests j).2,e.2=(n:Int))\/∃s∈new,∃e∈s.2.2,e.2=(n:Int)
theorem Oe {l:Rst}{r:Int}(h:r∈aD l):aZ l r≠[]:=fun e=>uG e h
theorem Ui {all:List RSt}{rests:Rst}(ih:∀r∈aD rests,∀a,Xq a (aZ rests r)):∀j,j<=(aD rests).length->VfG all rests j
 |0,_=>⟨[],by rw[List.append_nil];rfl,fun s hs=>(by cases hs),rfl,fun e he=>(by cases he),fun n h1 h2=>by simp at h2;omega⟩
 | j+1,hj=>by
   obtain⟨new,h1,h2,h3,h4,h5⟩:=Ui ih j (by omega);have hr:(aD rests).getD j 0∈aD rests:=eY (by omega);obtain⟨n2,g1,g2,g3,g4,g5⟩:=ih _ hr (all++[(rests,aH rests,[])]++new);rw[VfG,kV (by omega)];unfold jB;rw[h1,g1];have ea:all++[(rests,aH rests,[])]++(new++n2)=all++[(rests,aH rests,[])]++new++n2:=by simp
   refine⟨new++n2,ea.symm,fun s hs=>?_,?_,fun e he=>?_,fun n hn1 hn2=>?_⟩
   .rw[ea];rcases zX.1 hs with hs | hs
    .obtain⟨q1,q2⟩:=h2 s hs;exact⟨q1.more,q2⟩
    .obtain⟨q1,q2⟩:=g2 s hs;exact⟨q1,q2 (Oe hr)⟩
   .rw[List.map_append,h3,bF 0 (by omega)];rfl
   .rw[ea];rcases zX.1 he with he | he
    .obtain⟨n,q1,q2,q3⟩:=h4 e he;exact⟨n,q1,by rw[zL];omega,by rw[gm q2];exact q3⟩
    .rw[List.mem_singleton.1 he];exact⟨_,rfl,g3,g4⟩
   .rw[ea] at hn2;by_cases c:n<(all++[(rests,aH rests,[])]++new).length
    .rcases h5 n hn1 c with ⟨e,q1,q2⟩ | ⟨s,q1,q2⟩
     .exact .inl ⟨e,by simp[q1],q2⟩
     .exact .inr ⟨s,by simp[q1],q2⟩
    .rcases g5 n (by omega) hn2 with rfl | ⟨s,q1,q2⟩
     .exact .inl ⟨_,List.mem_append_right _ (List.mem_singleton.2 rfl),rfl⟩
     .exact .inr ⟨s,by simp[q1],q2⟩
theorem Uf:∀(n:Nat) (rests:Rst),tot rests<n->dL rests->JH rests->∀all,Xq all rests
 |0,_,h,_,_,_=>by omega
 | n+1,rests,h,hs,hv,all=>by
   unfold Xq;rw[mQ];cases hf:mX all rests with
   | some i=>
     obtain⟨h1,h2⟩:=Bb hf;exact⟨[],by simp,fun s hs=>(by cases hs),by simpa using h1,by simpa using h2,fun n h1 h2=>by simp at h2;omega⟩
   | none=>
     obtain⟨new,h1,h2,h3,h4,h5⟩:=Ui (all:=all) (rests:=rests) (fun r hr a=>Uf n (aZ rests r) (by have:=iA hr;omega) (pJ hs r) (Pw hv r) a) _ (zJ _);dsimp only;rw[h1,nT];have hsame:∀k,(rAt (all++[(rests,aH rests,[])]++new) k).1=(rAt (all++[(rests,aH rests,(dh all rests (aD rests).length).2)]++new) k).1:=fun k=>by
      by_cases hk:k<all.length
      .rw[zO,zO,gm hk,gm hk]
      .rw[zO,zO,lK (a:=all) (by omega),lK (a:=all) (by omega)];cases k-all.length <;> rfl
     have hlen:(all++[(rests,aH rests,[])]++new).length=(all++[(rests,aH rests,(dh all rests (aD rests).length).2)]++new).length:=by simp
     have ea:∀o:List Ed,all++([(rests,aH rests,o)]++new)=all++[(rests,aH rests,o)]++new:=fun o=>by simp
     rw[List.take_length] at h3;refine⟨[(rests,aH rests,(dh all rests (aD rests).length).2)]++new,(ea _).symm,fun s hs'=>?_,by simp,?_,fun n hn1 hn2=>?_⟩
     .rw[ea];rcases zX.1 hs' with hs' | hs'
      .rw[List.mem_singleton.1 hs'];refine⟨⟨hs,hv,rfl,h3,fun e he=>?_⟩,fun h=>h⟩;obtain⟨n,q1,q2,q3⟩:=h4 e he;exact⟨n,q1,by rw[<- hlen];exact q2,by rw[<- hsame];exact q3⟩
      .obtain⟨q1,q2⟩:=h2 s hs';exact⟨q1.congr hlen hsame,fun _=>q2⟩
     .rw[lK (zJ _)];simp
     .rw[ea,<- hlen] at hn2;by_cases c:n=all.length
      .exact .inl c
      .rcases h5 n (by omega) hn2 with ⟨e,q1,q2⟩ | ⟨s,q1,q2⟩
       .exact .inr ⟨_,List.mem_append_left _ (List.mem_singleton.2 rfl),e,q1,q2⟩
       .exact .inr ⟨s,List.mem_append_right _ q1,q2⟩
structure Sts (W:Rst) (all:List RSt):Prop where
 g:∀s∈all,Gs all s
 ne:W≠[]->∀s∈all,s.1≠[]
 root:(rAt all 0).1=W
 pos:0<all.length
 led:∀n,0<n->n<all.length->∃s∈all,∃e∈s.2.2,e.2=(n:Int)
 nd:Nd all
 tt:∀s∈all,tot s.1<=tot W
 few:all.length<=tot W+1
theorem sts {l:List Wd}(h:isE l=0):Sts (wdR l) (aM l):=by
 have hN:=nml h;have hv:JH (wdR l):=fun x hx=>by
  obtain⟨w,hw,rfl⟩:=List.mem_map.1 hx;exact kD (hN.dec w hw)
 obtain⟨new,h1,h2,h3,h4,h5⟩:=Uf _ (wdR l) (Nat.lt_succ_self _) hN.srt hv [];obtain⟨n2,g1,g2,g3,g4,g5⟩:=sJ _ (wdR l) (Nat.lt_succ_self _) [] fun n m hn=>absurd hn (zS _)
 have hz:(iF [] (wdR l)).2=0:=by rw[mQ];rfl
 rw[List.nil_append] at h1 g1;rw[g1] at h1;subst h1;rw[List.nil_append] at h2 h3 h4 h5 g2 g3 g4;rw[hz] at h3 h4 h5;have hl:=Aw _ (wdR l) (Nat.lt_succ_self _) hN.srt [];unfold aM;rw[g1] at hl ⊢;exact⟨fun s hs=>(h2 s hs).1,fun hw s hs=>(h2 s hs).2 hw,h4,h3,fun n hn hl=>(h5 n (Nat.zero_le _) hl).resolve_left (by omega),g2,fun s hs=>(g5 s hs).2,by simpa using hl⟩
theorem Sts.eds {W:Rst}{all:List RSt}(h:Sts W all) (hT:tot W<=4194304):EdS (all.map stD):=fun x hx=>by
 obtain⟨s,hs,rfl⟩:=List.mem_map.1 hx;have g:=h.g s hs;show EdR s.2.2;refine⟨by rw[g.hd];exact jC g.srt,fun e he=>?_,?_⟩
 .have h1:e.1∈aD s.1:=by rw[<- g.hd];exact List.mem_map_of_mem he
  obtain⟨x,h2,h3⟩:=jM h1;cases x with
  |nil=>simp[dI] at h3
  | cons a t=>
    simp[dI] at h3;subst h3;have:=bz.1 (g.val _ h2 _ (List.mem_cons_self ..));unfold IR;omega
 .have h1:=congrArg List.length g.hd;rw[zR] at h1;have h2:=iq s.1;have h3:=si g.srt;have h4:=h.tt s hs;omega
end Go.EA
end
section
namespace Go.EA
def SmX (l:List Wd):Prop:=∀x∈l,x.1.length<=1048576
theorem SmX.at {l:List Wd}(h:SmX l) (i:Nat):(l.getD i ([],0)).1.length<=1048576:=by
 rw[zA];cases hi:l[i]? with
 |none=>simp
 |some x=>exact h x (zU hi)
def nH (l:List Wd):Int:=(l.map fun w=>(w.1.length:Int)).sum
theorem wB {l:List Wd}{i:Nat}(h:i<l.length):nH (l.take (i+1))=nH (l.take i)+((l.getD i ([],0)).1.length:Int):=by
 unfold nH;rw[bF ([],0) h,List.map_append,List.sum_append];simp
theorem GD {l:List Wd}(h:SmX l):∀i,i<=l.length->0<=nH (l.take i)/\nH (l.take i)<=1048576*i
 |0,_=>by simp[nH]
 | i+1,hi=>by
   have:=GD h i (by omega);have:=h.at i;rw[wB (by omega)];push_cast;omega
end Go.EA
end
