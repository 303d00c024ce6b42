/- Plain: words that are otherwise frequent; what is spelt is the word. Conditions: none. -/
import Derived.Test.YtpgjilomblpcpaaDoorEDwd
import Derived.Test.YtpgjilomblpcpaaDoorEDu
set_option linter.unusedVariables false
set_option linter.unusedSimpArgs false
namespace Go.EA
def frq (l:List Wd) (f:Int) (i:Nat):List Wd:=(l.take i).map (fun w=>(w.1,f+1))++l.drop i
def fqL (l:List Wd) (f:Int):List Wd:=frq (norO l) f (norO l).length
theorem frq_len (l:List Wd) (f:Int) {i:Nat} (h:i<=l.length):(frq l f i).length=l.length:=by
 unfold frq;rw [zL,zR,zP,List.length_drop];omega
theorem frq_step (l:List Wd) (f:Int) {i:Nat} (h:i<l.length):(frq l f i).set i (((frq l f i).getD i ([],0)).1,f+1)=frq l f (i+1):=by
 have hl:((l.take i).map (fun w:Wd=>(w.1,f+1))).length=i:=by rw [zR,zP];omega
 have hd:l.drop i=l.getD i ([],0)::l.drop (i+1):=by
  rw [List.drop_eq_getElem_cons h,zA,zB h];rfl
 have hg:(frq l f i).getD i ([],0)=l.getD i ([],0):=by
  unfold frq
  rw [getD_app_r (by omega),hl,Nat.sub_self,hd];rfl
 rw [hg]
 unfold frq
 rw [List.set_append_right _ _ (by omega),hl,Nat.sub_self,hd,take_succ_getD ([],0) h,List.map_append,zO]
 rfl
theorem fqL_eq (l:List Wd) (f:Int):fqL l f=(norO l).map fun w=>(w.1,f+1):=by
 unfold fqL frq;rw [List.take_length,List.drop_length,List.append_nil]
theorem fq_wdR (l:List Wd) (f:Int):wdR (fqL l f)=wdR (norO l):=by
 rw [fqL_eq];unfold wdR;rw [List.map_map];rfl
theorem fq_sts (l:List Wd) (f:Int):stsR (fqL l f)=stsR (norO l):=by unfold stsR;rw [fq_wdR]
theorem fq_isE {l:List Wd} {f:Int} (h:isE (norO l)=0) (hf:0<=f/\f<=65535):isE (fqL l f)=0:=by
 obtain ⟨h1,h2,h3⟩:=isE_zero.1 h
 have h4:=errL_zero h1
 rw [fqL_eq]
 refine isE_zero.2 ⟨errL_of fun x hx=>?_,?_,by rw [zR];exact h3⟩
 ·obtain ⟨w,hw,rfl⟩:=List.mem_map.1 hx
  obtain ⟨t1,t2,t3⟩:=wE_tok (h4 w hw)
  unfold wE
  rw [if_pos t1,if_neg (by dsimp only;omega)]
 ·exact List.pairwise_map.2 (h2.imp fun h=>h)
theorem encLI_map (l:List Int):(encLI l).map (fun z=>UInt8.ofNat (Int.toNat z))=encL l:=by
 unfold encLI encL
 rw [List.map_flatten,List.map_map]
 congr 1
 exact List.map_congr_left fun r _=>unB r
theorem encd_ok {s:List UInt8} (h:decE s=0):encL (decR s)=s:=by
 have h1:decOk s=true:=(decE_dec s).symm.trans (decide_eq_true h)
 unfold decR
 rw [if_pos h1]
 exact (enc_runes _ s (zJ _) h1).1
theorem wrdB_ok {l:List Wd} (h:isE l=0) {i:Nat} (hi:i<l.length):wrdB (List.map stD (stsR l)) (i:Int)=(l.getD i ([],0)).1:=by
 have hS:=sts h
 have hT:=(nml h).tot
 have hm:l.getD i ([],0)∈l:=by rw [zA,zB hi];exact List.getElem_mem _
 unfold wrdB
 rw [wrd_ok hS 4194306 0 i hS.pos (by rw [hS.root];omega) (by omega) (by rw [hS.root,wdR_len];omega),hS.root,Int.toNat_natCast,encLI_map]
 have:(wdR l).getD i []=decR (l.getD i ([],0)).1:=by
  unfold wdR
  rw [zA,List.getElem?_map,zB hi,zA,zB hi];rfl
 rw [this]
 exact encd_ok ((nml h).dec _ hm)
end Go.EA
