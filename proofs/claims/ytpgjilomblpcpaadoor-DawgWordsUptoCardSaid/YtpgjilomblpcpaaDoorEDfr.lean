/- Plain: words that are otherwise frequent; what is spelt is the word. Conditions: none. -/
import Derived.Test.YtpgjilomblpcpaaDoorEDwd
import Derived.Test.YtpgjilomblpcpaaDoorEDu
set_option linter.unusedVariables false
set_option linter.unusedSimpArgs false
namespace Go.EA
def frq (l:List Wd) (f:Int) (i:Nat):List Wd:=(l.take i).map (fun w=>(w.1,f+1))++l.drop i
theorem Iq (l:List Int):(Ac l).map (fun z=>UInt8.ofNat (Int.toNat z))=Ii l:=by
 unfold Ac Ii;rw[List.map_flatten,List.map_map]
 congr 1
 exact List.map_congr_left fun r _=>unB r
theorem yw {s:List UInt8}(h:eP s=0):Ii (aG s)=s:=by
 have h1:gM s=true:=(Av s).symm.trans (decide_eq_true h);unfold aG;rw[if_pos h1];exact(qy _ s (zJ _) h1).1
theorem OZ {l:List Wd}(h:isE l=0) {i:Nat}(hi:i<l.length):xV (List.map stD (fZ l)) (i:Int)=(l.getD i ([],0)).1:=by
 have hS:=sts h;have hT:=(nml h).tot;have hm:l.getD i ([],0)∈l:=by rw[zA,zB hi];exact List.getElem_mem _
 unfold xV;rw[LK hS 4194306 0 i hS.pos (by rw[hS.root];omega) (by omega) (by rw[hS.root,mq];omega),hS.root,Int.toNat_natCast,Iq];have:(wdR l).getD i []=aG (l.getD i ([],0)).1:=by
  unfold wdR;rw[zA,List.getElem?_map,zB hi,zA,zB hi];rfl
 rw[this];exact yw ((nml h).dec _ hm)
end Go.EA
