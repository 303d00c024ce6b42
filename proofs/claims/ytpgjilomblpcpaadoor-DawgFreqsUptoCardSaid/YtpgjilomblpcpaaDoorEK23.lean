/- Texts. Conditions: none. -/
import Derived.Test.YtpgjilomblpcpaaDoorEK26
import Derived.Test.YtpgjilomblpcpaaDoorEK24
import Derived.Test.YtpgjilomblpcpaaDoorEK22
set_option linter.unusedVariables false
set_option linter.unusedSimpArgs false
section
namespace Go.EA
def IR (r:Int):Prop := -2147483648<=r/\r<=2147483647
def EdR (s:List Ed):Prop:=(s.map (·.1)).Pairwise (·<·)/\(∀ e∈s,IR e.1)/\s.length<=4194305
def EdS (S:List StD):Prop:=∀ x∈S,EdR x.1
theorem EdR.nil:EdR []:=⟨.nil,fun e he=>(by cases he),by decide⟩
theorem EdS.at {S:List StD} (h:EdS S) (i:Nat):EdR (S.getD i ([],false,0)).1:=by
 rw [zA]
 cases hi:S[i]? with
 | none=>exact EdR.nil
 | some x=>exact h x (zU hi)
def fndI (s:List Ed) (r:Int):Int:=((s.filter fun e=>decide (e.1<r)).length:Int)
theorem EdR.mono {s:List Ed} (h:EdR s) {i j:Nat} (hij:i<j) (hj:j<s.length):(s.getD i (0,0)).1<(s.getD j (0,0)).1:=by
 have h1:=List.pairwise_iff_getElem.1 h.1 i j (by rw [zR];omega) (by rw [zR];omega) hij
 rw [List.getElem_map,List.getElem_map] at h1
 rw [zA,zA,zB (by omega),zB hj]
 exact h1
end Go.EA
end
section
namespace Go.EA
def ValR (l:Rst):Prop:=∀ x∈l,∀ r∈x,Utf8.valid r=true
theorem beh_val {l:Rst} (h:ValR l) (r:Int):ValR (behL l r):=fun x hx y hy=>h (r::x) (mem_behL.1 hx) y (by simp [hy])
structure Gs (all:List RSt) (s:RSt):Prop where
 srt:SrtQ s.1
 val:ValR s.1
 ends:s.2.1=emptyIn s.1
 hd:s.2.2.map (·.1)=headsL s.1
 to:∀ e∈s.2.2,∃ n:Nat,e.2=(n:Int)/\n<all.length/\(rAt all n).1=behL s.1 e.1
theorem Gs.more {a b:List RSt} {s:RSt} (h:Gs a s):Gs (a++b) s:=⟨h.srt,h.val,h.ends,h.hd,fun e he=>by
 obtain ⟨n,h1,h2,h3⟩:=h.to e he
 exact ⟨n,h1,by rw [zL];omega,by rw [rAt_l h2];exact h3⟩⟩
theorem Gs.congr {a b:List RSt} {s:RSt} (h:Gs a s) (hl:a.length=b.length) (hs:∀ k,(rAt a k).1=(rAt b k).1):Gs b s:=⟨h.srt,h.val,h.ends,h.hd,fun e he=>by
 obtain ⟨n,h1,h2,h3⟩:=h.to e he
 exact ⟨n,h1,by omega,by rw [<- hs];exact h3⟩⟩
def VisG (all:List RSt) (rests:Rst):Prop:=∃ new,(visT all rests).1=all++new/\(∀ s∈new,Gs (all++new) s/\(rests≠[]->s.1≠[]))/\(visT all rests).2<(all++new).length/\(rAt (all++new) (visT all rests).2).1=rests/\
 ∀ n,all.length<=n->n<(all++new).length->n=(visT all rests).2\/∃ s∈new,∃ e∈s.2.2,e.2=(n:Int)
def VfG (all:List RSt) (rests:Rst) (j:Nat):Prop:=∃ new,(vfold all rests j).1=all++[(rests,emptyIn rests,[])]++new/\(∀ s∈new,Gs (all++[(rests,emptyIn rests,[])]++new) s/\s.1≠[])/\(vfold all rests j).2.map (·.1)=(headsL rests).take j/\
 (∀ e∈(vfold all rests j).2,∃ n:Nat,e.2=(n:Int)/\n<(all++[(rests,emptyIn rests,[])]++new).length/\(rAt (all++[(rests,emptyIn rests,[])]++new) n).1=behL rests e.1)/\
 ∀ n,all.length+1<=n->n<(all++[(rests,emptyIn rests,[])]++new).length->(∃ e∈(vfold all rests j).2,e.2=(n:Int))\/∃ s∈new,∃ e∈s.2.2,e.2=(n:Int)
theorem beh_ne {l:Rst} {r:Int} (h:r∈headsL l):behL l r≠[]:=fun e=>beh_none e h
theorem vg_of {all:List RSt} {rests:Rst} (ih:∀ r∈headsL rests,∀ a,VisG a (behL rests r)):∀ j,j<=(headsL rests).length->VfG all rests j
 | 0,_=>⟨[],by rw [List.append_nil];rfl,fun s hs=>(by cases hs),rfl,fun e he=>(by cases he),fun n h1 h2=>by simp at h2;omega⟩
 | j+1,hj=>by
   obtain ⟨new,h1,h2,h3,h4,h5⟩:=vg_of ih j (by omega)
   have hr:(headsL rests).getD j 0∈headsL rests:=getD_mem (by omega)
   obtain ⟨n2,g1,g2,g3,g4,g5⟩:=ih _ hr (all++[(rests,emptyIn rests,[])]++new)
   rw [VfG,vfold_step (by omega)]
   unfold vstep
   rw [h1,g1]
   have ea:all++[(rests,emptyIn rests,[])]++(new++n2)=all++[(rests,emptyIn rests,[])]++new++n2:=by simp
   refine ⟨new++n2,ea.symm,fun s hs=>?_,?_,fun e he=>?_,fun n hn1 hn2=>?_⟩
   ·rw [ea]
    rcases zX.1 hs with hs | hs
    ·obtain ⟨q1,q2⟩:=h2 s hs
     exact ⟨q1.more,q2⟩
    ·obtain ⟨q1,q2⟩:=g2 s hs
     exact ⟨q1,q2 (beh_ne hr)⟩
   ·rw [List.map_append,h3,take_succ_getD 0 (by omega)];rfl
   ·rw [ea]
    rcases zX.1 he with he | he
    ·obtain ⟨n,q1,q2,q3⟩:=h4 e he
     exact ⟨n,q1,by rw [zL];omega,by rw [rAt_l q2];exact q3⟩
    ·rw [List.mem_singleton.1 he]
     exact ⟨_,rfl,g3,g4⟩
   ·rw [ea] at hn2
    by_cases c:n<(all++[(rests,emptyIn rests,[])]++new).length
    ·rcases h5 n hn1 c with ⟨e,q1,q2⟩ | ⟨s,q1,q2⟩
     ·exact .inl ⟨e,by simp [q1],q2⟩
     ·exact .inr ⟨s,by simp [q1],q2⟩
    ·rcases g5 n (by omega) hn2 with rfl | ⟨s,q1,q2⟩
     ·exact .inl ⟨_,List.mem_append_right _ (List.mem_singleton.2 rfl),rfl⟩
     ·exact .inr ⟨s,by simp [q1],q2⟩
theorem vis_g:∀ (n:Nat) (rests:Rst),tot rests<n->SrtQ rests->ValR rests->∀ all,VisG all rests
 | 0,_,h,_,_,_=>by omega
 | n+1,rests,h,hs,hv,all=>by
   unfold VisG
   rw [visT_eq]
   cases hf:fndR all rests with
   | some i=>
     obtain ⟨h1,h2⟩:=fndR_yes hf
     exact ⟨[],by simp,fun s hs=>(by cases hs),by simpa using h1,by simpa using h2,fun n h1 h2=>by simp at h2;omega⟩
   | none=>
     obtain ⟨new,h1,h2,h3,h4,h5⟩:=vg_of (all:=all) (rests:=rests) (fun r hr a=>vis_g n (behL rests r) (by have:=beh_lt hr;omega) (beh_srt hs r) (beh_val hv r) a) _ (zJ _)
     dsimp only
     rw [h1,setOut_mid]
     have hsame:∀ k,(rAt (all++[(rests,emptyIn rests,[])]++new) k).1=(rAt (all++[(rests,emptyIn rests,(vfold all rests (headsL rests).length).2)]++new) k).1:=fun k=>by
      by_cases hk:k<all.length
      ·rw [zO,zO,rAt_l hk,rAt_l hk]
      ·rw [zO,zO,rAt_r (a:=all) (by omega),rAt_r (a:=all) (by omega)]
       cases k-all.length <;> rfl
     have hlen:(all++[(rests,emptyIn rests,[])]++new).length=(all++[(rests,emptyIn rests,(vfold all rests (headsL rests).length).2)]++new).length:=by simp
     have ea:∀ o:List Ed,all++([(rests,emptyIn rests,o)]++new)=all++[(rests,emptyIn rests,o)]++new:=fun o=>by simp
     rw [List.take_length] at h3
     refine ⟨[(rests,emptyIn rests,(vfold all rests (headsL rests).length).2)]++new,(ea _).symm,fun s hs'=>?_,by simp,?_,fun n hn1 hn2=>?_⟩
     ·rw [ea]
      rcases zX.1 hs' with hs' | hs'
      ·rw [List.mem_singleton.1 hs']
       refine ⟨⟨hs,hv,rfl,h3,fun e he=>?_⟩,fun h=>h⟩
       obtain ⟨n,q1,q2,q3⟩:=h4 e he
       exact ⟨n,q1,by rw [<- hlen];exact q2,by rw [<- hsame];exact q3⟩
      ·obtain ⟨q1,q2⟩:=h2 s hs'
       exact ⟨q1.congr hlen hsame,fun _=>q2⟩
     ·rw [rAt_r (zJ _)];simp
     ·rw [ea,<- hlen] at hn2
      by_cases c:n=all.length
      ·exact .inl c
      ·rcases h5 n (by omega) hn2 with ⟨e,q1,q2⟩ | ⟨s,q1,q2⟩
       ·exact .inr ⟨_,List.mem_append_left _ (List.mem_singleton.2 rfl),e,q1,q2⟩
       ·exact .inr ⟨s,List.mem_append_right _ q1,q2⟩
structure Sts (W:Rst) (all:List RSt):Prop where
 g:∀ s∈all,Gs all s
 ne:W≠[]->∀ s∈all,s.1≠[]
 root:(rAt all 0).1=W
 pos:0<all.length
 led:∀ n,0<n->n<all.length->∃ s∈all,∃ e∈s.2.2,e.2=(n:Int)
 nd:Nd all
 tt:∀ s∈all,tot s.1<=tot W
 few:all.length<=tot W+1
theorem sts {l:List Wd} (h:isE l=0):Sts (wdR l) (stsR l):=by
 have hN:=nml h
 have hv:ValR (wdR l):=fun x hx=>by
  obtain ⟨w,hw,rfl⟩:=List.mem_map.1 hx
  exact decR_ok (hN.dec w hw)
 obtain ⟨new,h1,h2,h3,h4,h5⟩:=vis_g _ (wdR l) (Nat.lt_succ_self _) hN.srt hv []
 obtain ⟨n2,g1,g2,g3,g4,g5⟩:=vis_ok _ (wdR l) (Nat.lt_succ_self _) [] fun n m hn=>absurd hn (zS _)
 have hz:(visT [] (wdR l)).2=0:=by rw [visT_eq];rfl
 rw [List.nil_append] at h1 g1
 rw [g1] at h1
 subst h1
 rw [List.nil_append] at h2 h3 h4 h5 g2 g3 g4
 rw [hz] at h3 h4 h5
 have hl:=visT_len _ (wdR l) (Nat.lt_succ_self _) hN.srt []
 unfold stsR
 rw [g1] at hl ⊢
 exact ⟨fun s hs=>(h2 s hs).1,fun hw s hs=>(h2 s hs).2 hw,h4,h3,fun n hn hl=>(h5 n (Nat.zero_le _) hl).resolve_left (by omega),g2,fun s hs=>(g5 s hs).2,by simpa using hl⟩
theorem Sts.eds {W:Rst} {all:List RSt} (h:Sts W all) (hT:tot W<=4194304):EdS (all.map stD):=fun x hx=>by
 obtain ⟨s,hs,rfl⟩:=List.mem_map.1 hx
 have g:=h.g s hs
 show EdR s.2.2
 refine ⟨by rw [g.hd];exact heads_srt g.srt,fun e he=>?_,?_⟩
 ·have h1:e.1∈headsL s.1:=by rw [<- g.hd];exact List.mem_map_of_mem he
  obtain ⟨x,h2,h3⟩:=heads_mem h1
  cases x with
  | nil=>simp [behP] at h3
  | cons a t=>
    simp [behP] at h3
    subst h3
    have:=valid_iff.1 (g.val _ h2 _ (List.mem_cons_self ..))
    unfold IR
    omega
 ·have h1:=congrArg List.length g.hd
  rw [zR] at h1
  have h2:=heads_len s.1
  have h3:=len_tot g.srt
  have h4:=h.tt s hs
  omega
end Go.EA
end
section
namespace Go.EA
def SmX (l:List Wd):Prop:=∀ x∈l,x.1.length<=1048576
theorem SmX.at {l:List Wd} (h:SmX l) (i:Nat):(l.getD i ([],0)).1.length<=1048576:=by
 rw [zA]
 cases hi:l[i]? with
 | none=>simp
 | some x=>exact h x (zU hi)
def sumW (l:List Wd):Int:=(l.map fun w=>(w.1.length:Int)).sum
def grtB (l:List Wd):Bool:=decide (60<(l.length:Int))||decide (500<sumW l)
theorem sumW_step {l:List Wd} {i:Nat} (h:i<l.length):sumW (l.take (i+1))=sumW (l.take i)+((l.getD i ([],0)).1.length:Int):=by
 unfold sumW;rw [take_succ_getD ([],0) h,List.map_append,List.sum_append];simp
theorem sumW_bd {l:List Wd} (h:SmX l):∀ i,i<=l.length->0<=sumW (l.take i)/\sumW (l.take i)<=1048576*i
 | 0,_=>by simp [sumW]
 | i+1,hi=>by
   have:=sumW_bd h i (by omega)
   have:=h.at i
   rw [sumW_step (by omega)]
   push_cast
   omega
end Go.EA
end
