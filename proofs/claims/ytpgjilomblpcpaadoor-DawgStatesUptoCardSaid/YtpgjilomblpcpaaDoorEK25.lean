/- Texts. Conditions: none. -/
import Derived.Test.YtpgjilomblpcpaaDoorEK20
import Derived.Test.YtpgjilomblpcpaaDoorELx1
import Derived.Test.YtpgjilomblpcpaaDoorEAf9
import Derived.KernelRfl
import Derived.Test.YtpgjilomblpcpaaDoorEK21
import Derived.Test.YtpgjilomblpcpaaDoorERx
set_option linter.unusedVariables false
set_option linter.unusedSimpArgs false
section
set_option maxRecDepth 100000
set_option maxHeartbeats 0
namespace Go.EA
open F
def P331:List (List (Int))×List (List (Int))->List SV:=fun (a,b)=>[.one (.row (.row (.int .i32)) a),.one (.row (.row (.int .i32)) b)]
def R331:List (List (Int))×List (List (Int))->SV×List Prop:=fun (a,b)=>(.one (.bool (decide (a=b))),[SmR a,SmR b])
def K331:Con:=⟨true,[some (.row (.int .i32)),some (.row (.int .i32))],fun xs=>match xs with | [.one (.row (.row (.int .i32)) a),.one (.row (.row (.int .i32)) b)]=>some (R331 (a,b)) | _=>none⟩
noncomputable def G331:GP:=conG P331 R331
theorem P331_inj:∀ a b,(P331 a).map den0=(P331 b).map den0->a=b:=by
 rintro ⟨a0,a1⟩ ⟨b0,b1⟩ h
 simp only [P331,zK,List.map_nil,den0,den0L,zG,AV.one.injEq,AV.agg.injEq,Lf.int.injEq,Lf.str.injEq,Lf.bool.injEq,Lf.vrow.injEq,and_true,true_and,and_assoc] at h
 obtain ⟨h0,h1⟩:=h
 have h0:=row_inj h0
 have h1:=row_inj h1
 subst h0 h1
 rfl
theorem K331_ok:ConG G331 K331:=conG_of P331_inj (fun ⟨_,_⟩ ⟨_,_⟩=>rfl) (fun ⟨_,_⟩=>rfl) fun xs r h=>by
 simp only [K331] at h
 split at h
 ·cases h;rename_i a b;exact ⟨(a,b),rfl,rfl⟩
 ·cases h
theorem pr331 {S:SC} (hB:SB S) (q18:PrOk S 18 (pureP G18)) (h331:S.has 331 f331):PrOk S 331 (pureP G331):=by
 refine prM hB [] [⟨18,G18,K18⟩] trivial ⟨⟨q18,K18_ok⟩,trivial⟩ h331 (fun ⟨a,b⟩=>⟨rfl,rfl,rfl⟩) (fun (a,b)=>fun f id T L=>match f,id with
  | 331,0=>some (.inv { i:Nat // i<=a.length/\a.take i=b.take i } (fun x=>([(13,.one (.int .i64 x.1))],[])) (fun x=>a.length-x.1))
  | _,_=>none) 400 ?_
 rintro ⟨a,b⟩ hc
 have hc1:SmR a:=hc.1
 have hc2:SmR b:=hc.2.1
 refine VC.use (p:=
  (((↑a.length:Int)=(↑b.length:Int) →
    ((∃ x1:{ i:Nat // i≤a.length∧List.take i a=List.take i b },
      ((a=a) /\
      ((b=b) /\
      (((a.length:Int)=(a.length:Int)) /\
      (0=(x1.1:Int)))))) /\
    (∀ x1 : { i : Nat // i ≤ a.length ∧ List.take i a = List.take i b },
     (((↑x1.val:Int) < (↑a.length:Int) →
       ((0<=(x1.1:Int)/\(x1.1:Int)<(a.length:Int)) /\
       ((0<=(x1.1:Int)/\(x1.1:Int)<(b.length:Int)) /\
       ((List.length (a.getD x1.1 [])<=1099511627776) /\
       (((!decide (a.getD x1.val []=b.getD x1.val []))=true →
         (false=decide (a=b))) /\
       (¬(!decide (a.getD x1.val [] = b.getD x1.val [])) = true →
        ((i64R ((x1.1:Int)+1)) /\
        (∃ x2 : { i : Nat // i ≤ a.length ∧ List.take i a = List.take i b },
         ((a.length-x2.1<a.length-x1.1) /\
         ((a=a) /\
         ((b=b) /\
         (((a.length:Int)=(a.length:Int)) /\
         ((x1.1:Int)+1=(x2.1:Int)))))))))))))) /\
     (¬(↑x1.val : Int) < (↑a.length : Int) →
      (true=decide (a=b))))))) /\
  (¬(↑a.length : Int) = (↑b.length : Int) →
   (false=decide (a=b))))) (by kernel_rfl) ?_
 refine ⟨fun hl=>⟨⟨⟨0,Nat.zero_le _,rfl⟩,rfl,rfl,rfl,rfl⟩,?_⟩,fun hl=>(decide_eq_false fun e=>hl (by rw [e])).symm⟩
 rintro ⟨i,hi,ha⟩
 dsimp only
 have hs:=hc1.1
 refine ⟨fun h=>⟨by omega,by omega,hc1.at i,fun h1=>(decide_eq_false fun e=>by subst e;simp at h1).symm,fun h1=>⟨by unfold i64R;omega,⟨i+1,by omega,?_⟩,by dsimp only;omega,rfl,rfl,rfl,by push_cast;rfl⟩⟩,fun h=>(decide_eq_true ?_).symm⟩
 ·rw [take_succ_getD [] (show i<a.length by omega),take_succ_getD [] (show i<b.length by omega),ha]
  simp at h1
  rw [zA,zA,h1]
 ·rw [<- List.take_of_length_le (l:=a) (i:=i) (by omega),ha,List.take_of_length_le (by omega)]
def P332:List (List (Int))->List SV:=fun l=>[.one (.row (.row (.int .i32)) l)]
def R332:List (List (Int))->SV×List Prop:=fun l=>(.one (.row (.int .i32) (headsL l)),[SmR l])
def K332:Con:=⟨false,[some (.row (.int .i32))],fun xs=>match xs with | [.one (.row (.row (.int .i32)) l)]=>some (R332 l) | _=>none⟩
noncomputable def G332:GP:=conG P332 R332
theorem P332_inj:∀ a b,(P332 a).map den0=(P332 b).map den0->a=b:=by
 rintro a0 b0 h
 simp only [P332,zK,List.map_nil,den0,den0L,zG,AV.one.injEq,AV.agg.injEq,Lf.int.injEq,Lf.str.injEq,Lf.bool.injEq,Lf.vrow.injEq,and_true,true_and] at h
 exact row_inj h
theorem K332_ok:ConG G332 K332:=conG_of P332_inj (fun _ _=>rfl) (fun _=>rfl) fun xs r h=>by
 simp only [K332] at h
 split at h
 ·cases h;rename_i l;exact ⟨l,rfl,rfl⟩
 ·cases h
theorem pr332 {S:SC} (hB:SB S)  (h332:S.has 332 f332):PrOk S 332 (pureP G332):=by
 refine prM hB [] [] trivial trivial h332 (fun _=>⟨rfl,rfl,rfl⟩) (fun l=>fun f id T L=>match f,id with
  | 332,0=>some (.inv { i:Nat // i<=l.length } (fun x=>([(8,.one (.int .i64 x.1)),(3,.one (.osl 0))],[(0,.row (.int .i32) (headsL (l.take x.1)))])) (fun x=>l.length-x.1))
  | _,_=>none) 400 ?_
 rintro l hc
 have hc1:SmR l:=hc.1
 refine VC.use (p:=
  ((∃ x1:{ i:Nat // i≤l.length },
    ((headsL (List.take x1.1 l)=[]) /\
    ((l=l) /\
    (((l.length:Int)=(l.length:Int)) /\
    ((0=(x1.1:Int)) /\
    (headsL (List.take x1.1 l)=[])))))) /\
  (∀ x1 : { i : Nat // i ≤ l.length },
   (((↑x1.val:Int) < (↑l.length:Int) →
     ((0<=(x1.1:Int)/\(x1.1:Int)<(l.length:Int)) /\
     ((0 < (↑(List.length (l.getD x1.val [])):Int) →
       (((↑(headsL (List.take x1.val l)).length:Int)=0 →
         (((0:Int)<=(0:Int)/\(0:Int)<(↑(List.length (l.getD x1.1 [])):Int)) /\
         ((((headsL (List.take x1.1 l)).length+[List.getD (l.getD x1.1 []) 0 0].length)*4<=140737488355328) /\
         ((i64R ((x1.1:Int)+1)) /\
         (∃ x2 : { i : Nat // i ≤ l.length },
          ((l.length-x2.1<l.length-x1.1) /\
          ((l=l) /\
          (((l.length:Int)=(l.length:Int)) /\
          (((x1.1:Int)+1=(x2.1:Int)) /\
          (headsL (List.take x1.1 l)++[List.getD (l.getD x1.1 []) 0 0]=headsL (List.take x2.1 l))))))))))) /\
       (¬(↑(headsL (List.take x1.val l)).length : Int) = 0 →
        ((i64R ((↑(headsL (List.take x1.1 l)).length:Int)-1)) /\
        ((0<=(↑(headsL (List.take x1.1 l)).length:Int)-1/\(↑(headsL (List.take x1.1 l)).length:Int)-1<(↑(headsL (List.take x1.1 l)).length:Int)) /\
        ((((↑(headsL (List.take x1.1 l)).length:Int)-1).toNat<(headsL (List.take x1.1 l)).length) /\
        (((0:Int)<=(0:Int)/\(0:Int)<(↑(List.length (l.getD x1.1 [])):Int)) /\
        (((headsL (List.take x1.val l)).getD ((↑(headsL (List.take x1.val l)).length:Int) - 1).toNat 0=List.getD (l.getD x1.val []) 0 0 →
          ((i64R ((x1.1:Int)+1)) /\
          (∃ x2 : { i : Nat // i ≤ l.length },
           ((l.length-x2.1<l.length-x1.1) /\
           ((l=l) /\
           (((l.length:Int)=(l.length:Int)) /\
           (((x1.1:Int)+1=(x2.1:Int)) /\
           (headsL (List.take x1.1 l)=headsL (List.take x2.1 l))))))))) /\
        (¬(headsL (List.take x1.val l)).getD ((↑(headsL (List.take x1.val l)).length : Int) - 1).toNat 0 = List.getD (l.getD x1.val []) 0 0 →
         (((0:Int)<=(0:Int)/\(0:Int)<(↑(List.length (l.getD x1.1 [])):Int)) /\
         ((((headsL (List.take x1.1 l)).length+[List.getD (l.getD x1.1 []) 0 0].length)*4<=140737488355328) /\
         ((i64R ((x1.1:Int)+1)) /\
         (∃ x2 : { i : Nat // i ≤ l.length },
          ((l.length-x2.1<l.length-x1.1) /\
          ((l=l) /\
          (((l.length:Int)=(l.length:Int)) /\
          (((x1.1:Int)+1=(x2.1:Int)) /\
          (headsL (List.take x1.1 l)++[List.getD (l.getD x1.1 []) 0 0]=headsL (List.take x2.1 l))))))))))))))))))) /\
     (¬0 < (↑(List.length (l.getD x1.val [])) : Int) →
      ((i64R ((x1.1:Int)+1)) /\
      (∃ x2 : { i : Nat // i ≤ l.length },
       ((l.length-x2.1<l.length-x1.1) /\
       ((l=l) /\
       (((l.length:Int)=(l.length:Int)) /\
       (((x1.1:Int)+1=(x2.1:Int)) /\
       (headsL (List.take x1.1 l)=headsL (List.take x2.1 l)))))))))))) /\
   (¬(↑x1.val : Int) < (↑l.length : Int) →
    (headsL (List.take x1.1 l)=headsL l)))))) (by kernel_rfl) ?_
 have hs:=hc1.1
 refine ⟨⟨⟨0,Nat.zero_le _⟩,rfl,rfl,rfl,rfl,rfl⟩,?_⟩
 rintro ⟨i,hi⟩
 dsimp only
 have ho:=heads_len (l.take i)
 rw [zP] at ho
 refine ⟨fun h=>?_,fun h=>by rw [List.take_of_length_le (by omega)]⟩
 have hst:=heads_step (l:=l) (i:=i) (by omega)
 generalize headsL (l.take i)=o at ho hst ⊢
 have hi64:i64R ((i:Int)+1):=by unfold i64R;omega
 have fin:∀ o',hdStep o (l.getD i [])=o'->∃ x2:{ i:Nat // i<=l.length },(l.length-x2.1<l.length-i)/\l=l/\(l.length:Int)=(l.length:Int)/\(i:Int)+1=(x2.1:Int)/\o'=headsL (l.take x2.1):=fun o' e=>⟨⟨i+1,by omega⟩,by dsimp only;omega,rfl,rfl,by push_cast;rfl,by rw [hst,e]⟩
 generalize l.getD i []=x at fin ⊢
 refine ⟨by omega,fun hx=>⟨fun h0=>⟨by omega,by rw [zN];omega,hi64,fin _ (hd_put hx (.inl (List.eq_nil_of_length_eq_zero (by omega))))⟩,fun h0=>?_⟩,fun hx=>⟨hi64,fin _ (hd_nil hx)⟩⟩
 have e:((o.length:Int)-1).toNat=o.length-1:=by omega
 have hne:o≠[]:=by rintro rfl;simp at h0
 rw [e]
 exact ⟨by unfold i64R;omega,by omega,by omega,by omega,fun h1=>⟨hi64,fin _ (hd_same hx hne h1)⟩,fun h1=>⟨by omega,by rw [zN];omega,hi64,fin _ (hd_put hx (.inr h1))⟩⟩
def P333:List (List (Int))×Int->List SV:=fun (l,r)=>[.one (.row (.row (.int .i32)) l),.one (.int .i32 r)]
def R333:List (List (Int))×Int->SV×List Prop:=fun (l,r)=>(.one (.row (.row (.int .i32)) (behL l r)),[SmR l])
def K333:Con:=⟨false,[some (.row (.int .i32)),none],fun xs=>match xs with | [.one (.row (.row (.int .i32)) l),.one (.int .i32 r)]=>some (R333 (l,r)) | _=>none⟩
noncomputable def G333:GP:=conG P333 R333
theorem P333_inj:∀ a b,(P333 a).map den0=(P333 b).map den0->a=b:=by
 rintro ⟨a0,a1⟩ ⟨b0,b1⟩ h
 simp only [P333,zK,List.map_nil,den0,den0L,zG,AV.one.injEq,AV.agg.injEq,Lf.int.injEq,Lf.str.injEq,Lf.bool.injEq,Lf.vrow.injEq,and_true,true_and,and_assoc] at h
 obtain ⟨h0,h1⟩:=h
 have h0:=row_inj h0
 subst h0 h1
 rfl
theorem K333_ok:ConG G333 K333:=conG_of P333_inj (fun ⟨_,_⟩ ⟨_,_⟩=>rfl) (fun ⟨_,_⟩=>rfl) fun xs r h=>by
 simp only [K333] at h
 split at h
 ·cases h;rename_i l r;exact ⟨(l,r),rfl,rfl⟩
 ·cases h
theorem pr333 {S:SC} (hB:SB S)  (h333:S.has 333 f333):PrOk S 333 (pureP G333):=by
 refine prM hB [] [] trivial trivial h333 (fun ⟨l,r⟩=>⟨rfl,rfl,rfl⟩) (fun (l,r)=>fun f id T L=>match f,id with
  | 333,0=>some (.inv { i:Nat // i<=l.length } (fun x=>([(10,.one (.int .i64 x.1)),(5,.one (.osl 0))],[(0,.row (.row (.int .i32)) (behL (l.take x.1) r))])) (fun x=>l.length-x.1))
  | _,_=>none) 400 ?_
 rintro ⟨l,r⟩ hc
 have hc1:SmR l:=hc.1
 refine VC.use (p:=
  ((∃ x1:{ i:Nat // i≤l.length },
    ((r=r) /\
    ((behL (List.take x1.1 l) r=[]) /\
    ((l=l) /\
    (((l.length:Int)=(l.length:Int)) /\
    ((0=(x1.1:Int)) /\
    (behL (List.take x1.1 l) r=[]))))))) /\
  (∀ x1 : { i : Nat // i ≤ l.length },
   (((↑x1.val:Int) < (↑l.length:Int) →
     ((0<=(x1.1:Int)/\(x1.1:Int)<(l.length:Int)) /\
     ((0 < (↑(List.length (l.getD x1.val [])):Int) →
       (((0:Int)<=(0:Int)/\(0:Int)<(↑(List.length (l.getD x1.1 [])):Int)) /\
       ((List.getD (l.getD x1.val []) 0 0=r →
         (((0:Int)<=(1:Int)/\(1:Int)<=(↑(List.length (l.getD x1.1 [])):Int)) /\
         (((List.length (behL (List.take x1.1 l) r)+[cutR (l.getD x1.1 []) (some 1) none].length)*24<=140737488355328) /\
         ((i64R ((x1.1:Int)+1)) /\
         (∃ x2 : { i : Nat // i ≤ l.length },
          ((l.length-x2.1<l.length-x1.1) /\
          ((r=r) /\
          ((l=l) /\
          (((l.length:Int)=(l.length:Int)) /\
          (((x1.1:Int)+1=(x2.1:Int)) /\
          (behL (List.take x1.1 l) r++[cutR (l.getD x1.1 []) (some 1) none]=behL (List.take x2.1 l) r))))))))))) /\
       (¬List.getD (l.getD x1.val []) 0 0 = r →
        ((i64R ((x1.1:Int)+1)) /\
        (∃ x2 : { i : Nat // i ≤ l.length },
         ((l.length-x2.1<l.length-x1.1) /\
         ((r=r) /\
         ((l=l) /\
         (((l.length:Int)=(l.length:Int)) /\
         (((x1.1:Int)+1=(x2.1:Int)) /\
         (behL (List.take x1.1 l) r=behL (List.take x2.1 l) r)))))))))))) /\
     (¬0 < (↑(List.length (l.getD x1.val [])) : Int) →
      ((i64R ((x1.1:Int)+1)) /\
      (∃ x2 : { i : Nat // i ≤ l.length },
       ((l.length-x2.1<l.length-x1.1) /\
       ((r=r) /\
       ((l=l) /\
       (((l.length:Int)=(l.length:Int)) /\
       (((x1.1:Int)+1=(x2.1:Int)) /\
       (behL (List.take x1.1 l) r=behL (List.take x2.1 l) r)))))))))))) /\
   (¬(↑x1.val : Int) < (↑l.length : Int) →
    (behL (List.take x1.1 l) r=behL l r)))))) (by kernel_rfl) ?_
 have hs:=hc1.1
 refine ⟨⟨⟨0,Nat.zero_le _⟩,rfl,rfl,rfl,rfl,rfl,rfl⟩,?_⟩
 rintro ⟨i,hi⟩
 dsimp only
 have ho:=beh_len (l.take i) r
 rw [zP] at ho
 refine ⟨fun h=>?_,fun h=>by rw [List.take_of_length_le (by omega)]⟩
 have hst:=beh_step (l:=l) (i:=i) (by omega) r
 generalize behL (l.take i) r=o at ho hst ⊢
 have hi64:i64R ((i:Int)+1):=by unfold i64R;omega
 have fin:∀ o',o++(if behP r (l.getD i []) then [(l.getD i []).drop 1] else [])=o'->∃ x2:{ i:Nat // i<=l.length },(l.length-x2.1<l.length-i)/\r=r/\l=l/\(l.length:Int)=(l.length:Int)/\(i:Int)+1=(x2.1:Int)/\o'=behL (l.take x2.1) r:=fun o' e=>⟨⟨i+1,by omega⟩,by dsimp only;omega,rfl,rfl,rfl,by push_cast;rfl,by rw [hst,e]⟩
 generalize l.getD i []=x at fin ⊢
 refine ⟨by omega,fun hx=>⟨by omega,fun h0=>⟨by omega,by rw [zN];omega,hi64,fin _ (by rw [beh_yes hx h0];rfl)⟩,fun h0=>⟨hi64,fin _ (by rw [beh_no h0];simp)⟩⟩,fun hx=>⟨hi64,fin _ (by rw [beh_nil hx];simp)⟩⟩
end Go.EA
end
section
set_option maxRecDepth 100000
set_option maxHeartbeats 0
namespace Go.EA
open F
abbrev EdT:Ty:=(.pair (.int .i32) (.int .i64))
abbrev RsT:Ty:=(.pair (.row (.row (.int .i32))) (.pair .bool (.row (.pair (.int .i32) (.int .i64)))))
theorem cell_ren {b:Nat->Nat} {k:Nat} {p q:List SL} (h:All2 (RenL b k) p q):RenO b k (.cell p) (.cell q):=.inr ⟨p,q,rfl,rfl,h⟩
def M313 (k:Nat):MGen:=⟨(List RSt)×Rst,1,fun (all,rests) b=>[.one (.osl (b 0)),.one (.row (.row (.int .i32)) rests)],fun (all,rests) b=>[.row (.pair (.row (.row (.int .i32))) (.pair .bool (.row (.pair (.int .i32) (.int .i64))))) all],fun (all,rests)=>[tot rests<k,SrtQ rests,SmR rests,SmA all,all.length+tot rests+1<=1099511627776],fun _=>Unit,fun _ _=>[],fun (all,rests) _ b=>.tup [.o (.osl (b 0)),.o (.int .i64 (visT all rests).2)],fun (all,rests) _ b=>[.row (.pair (.row (.row (.int .i32))) (.pair .bool (.row (.pair (.int .i32) (.int .i64))))) (visT all rests).1],[0]⟩
def C313 (k:Nat):MCon:=⟨fun xs L=>match xs.map nrmV with | [.one (.osl o),.one (.row (.row (.int .i32)) rests)]=>(match getO L o with | .row (.pair (.row (.row (.int .i32))) (.pair .bool (.row (.pair (.int .i32) (.int .i64))))) all=>some ((M313 k).res (all,rests) (fun _=>o) L) | _=>none) | _=>none⟩
theorem M313_fits (k:Nat):(M313 k).Fits (C313 k):=by
 intro xs L r h
 simp only [C313] at h
 split at h
 ·rename_i o rests he
  split at h
  ·rename_i all hl
   cases h
   refine ⟨(all,rests),fun _=>o,he,fun j hj=>?_,fun i j hi hj _=>?_,rfl⟩
   ·have hj:j<1:=hj
    obtain rfl:j=0:=by omega
    exact hl
   ·have hi:i<1:=hi
    have hj:j<1:=hj
    omega
  ·cases h
 ·cases h
theorem M313_ok (k:Nat):(M313 k).Ok f313.np:=⟨fun ⟨_,_⟩ b=>All2.cons (.inl ⟨_,_,rfl,rfl,.inr (.inl ⟨0,Nat.zero_lt_one,rfl,rfl⟩)⟩) (All2.cons (.inr (.inl ⟨rfl,rfl⟩)) All2.nil),
 fun ⟨_, _⟩ b => ⟨rfl, fun j hj => by have hj : j < 1 := hj; obtain rfl : j = 0 := by omega
                                      exact .inl ⟨rfl,rfl⟩⟩,
 fun ⟨_, _⟩ _ b => ⟨rfl, fun j hj => by have hj : j < 1 := hj; obtain rfl : j = 0 := by omega
                                        exact .inl ⟨rfl,rfl⟩⟩,
 fun _ _ j hj hm => absurd (by have hj : j < 1 := hj; obtain rfl : j = 0 := by omega
                               exact List.mem_singleton.2 rfl) hm,
 fun _ j hj hm => absurd (by have hj : j < 1 := hj; obtain rfl : j = 0 := by omega
                             exact List.mem_singleton.2 rfl) hm,
 fun ⟨_,_⟩=>rfl,
 fun ⟨_,_⟩ _ b=>.inr (.inr ⟨_,_,rfl,rfl,All2.cons (.inl ⟨_,_,rfl,rfl,.inr (.inl ⟨0,Nat.zero_lt_one,rfl,rfl⟩)⟩) (All2.cons (.inl ⟨_,_,rfl,rfl,.inl ⟨rfl,rfl⟩⟩) All2.nil)⟩)⟩
theorem mur313 {S:SC} (hB:SB S)  (q331:PrOk S 331 (pureP G331)) (q332:PrOk S 332 (pureP G332)) (q333:PrOk S 333 (pureP G333)) (h313:S.has 313 f313):∀ k,MutOk S 313 (C313 k)
 | 0=>fun c L H xs ys r hr hp=>by
   obtain ⟨_,_,_,_,_,rfl⟩:=M313_fits 0 xs L r hr
   exact absurd hp.1 (Nat.not_lt_zero _)
 | k+1=>by
   have u313:=mur313 hB q331 q332 q333 h313 k
   refine muG hB [] [⟨331,G331,K331⟩,⟨332,G332,K332⟩,⟨333,G333,K333⟩] [(313,C313 k)] trivial ⟨⟨q331,K331_ok⟩,⟨q332,K332_ok⟩,⟨q333,K333_ok⟩,trivial⟩ ⟨u313,trivial⟩ h313 (M313_fits (k+1)) (M313_ok (k+1)) (fun (all,rests)=>fun f id T L=>match f,id with
    | 313,0=>some (.inv { i:Nat // i<=all.length/\∀ j,j<i->(all.getD j ([],false,[])).1≠rests } (fun x=>([(17,.one (.int .i64 x.1))],[])) (fun x=>all.length-x.1))
    | 313,2=>some (.inv { i:Nat // i<=rests.length } (fun x=>([(38,.one (.int .i64 x.1))],[(0,.row (.pair (.row (.row (.int .i32))) (.pair .bool (.row (.pair (.int .i32) (.int .i64))))) (all++[(rests,emptyIn (rests.take x.1),[])]))])) (fun x=>rests.length-x.1))
    | 313,4=>some (.inv { i:Nat // i<=(headsL rests).length } (fun x=>([(53,.one (.int .i64 x.1)),(0,.one (.osl 0)),(11,.one (.osl 2))],[(0,.row (.pair (.row (.row (.int .i32))) (.pair .bool (.row (.pair (.int .i32) (.int .i64))))) (vfold all rests x.1).1),(2,.row (.pair (.int .i32) (.int .i64)) (vfold all rests x.1).2)])) (fun x=>(headsL rests).length-x.1))
    | _,_=>none) 2000 ?_
   rintro ⟨all,rests⟩ hc
   have hc0:tot rests<k+1:=hc.1
   have hc1:SrtQ rests:=hc.2.1
   have hc2:SmR rests:=hc.2.2.1
   have hc3:SmA all:=hc.2.2.2.1
   have hc4:all.length+tot rests+1<=1099511627776:=hc.2.2.2.2.1
   refine VC.use (p:=
   ((∃ x1:{ i:Nat // i≤all.length∧∀ (j:Nat),j < i→(all.getD j ([],false,[])).fst≠rests },
     ((rests=rests) /\
     (((all.length:Int)=(all.length:Int)) /\
     ((0=(x1.1:Int)) /\
     (all=all))))) /\
   (∀ x1 : { i : Nat // i ≤ all.length ∧ ∀ (j : Nat), j < i → (all.getD j ([], false, [])).fst ≠ rests },
    (((↑x1.val:Int) < (↑all.length:Int) →
      ((0<=(x1.1:Int)/\(x1.1:Int)<(all.length:Int)) /\
      ((x1.1<all.length) /\
      ((SmR (all.getD x1.1 ([],false,[])).1) /\
      ((SmR rests) /\
      ((decide ((all.getD x1.val ([],false,[])).fst=rests)=true →
        (∃ x2 : Unit,
         (((x1.1:Int)=(↑(visT all rests).2:Int)) /\
         (all=(visT all rests).1)))) /\
      (¬decide ((all.getD x1.val ([], false, [])).fst = rests) = true →
       ((i64R ((x1.1:Int)+1)) /\
       (∃ x2 : { i : Nat // i ≤ all.length ∧ ∀ (j : Nat), j < i → (all.getD j ([], false, [])).fst ≠ rests },
        ((all.length-x2.1<all.length-x1.1) /\
        ((rests=rests) /\
        (((all.length:Int)=(all.length:Int)) /\
        (((x1.1:Int)+1=(x2.1:Int)) /\
        (all=all)))))))))))))) /\
    (¬(↑x1.val : Int) < (↑all.length : Int) →
     (((all.length+([(rests,false,[])]:List RSt).length)*56<=140737488355328) /\
     ((∃ x2:{ i:Nat // i≤List.length rests },
       ((rests=rests) /\
       (((all.length:Int)=(all.length:Int)) /\
       ((rests=rests) /\
       (((↑(List.length rests):Int)=(↑(List.length rests):Int)) /\
       ((0=(x2.1:Int)) /\
       ((all++([(rests,false,[])]:List RSt)=all++[(rests,emptyIn (List.take x2.1 rests),[])]) /\
       (([(rests,false,[])]:List RSt)=([(rests,false,[])]:List RSt))))))))) /\
     (∀ x2 : { i : Nat // i ≤ List.length rests },
      (((↑x2.val:Int) < (↑(List.length rests):Int) →
        ((0<=(x2.1:Int)/\(x2.1:Int)<(↑(List.length rests):Int)) /\
        (((↑(List.length (List.getD rests x2.val [])):Int)=0 →
          ((0<=(all.length:Int)/\(all.length:Int)<(↑(all++[(rests,emptyIn (List.take x2.1 rests),[])]).length:Int)) /\
          ((all.length<(all++[(rests,emptyIn (List.take x2.1 rests),[])]).length) /\
          ((i64R ((x2.1:Int)+1)) /\
          (∃ x3 : { i : Nat // i ≤ List.length rests },
           ((List.length rests-x3.1<List.length rests-x2.1) /\
           ((rests=rests) /\
           (((all.length:Int)=(all.length:Int)) /\
           ((rests=rests) /\
           (((↑(List.length rests):Int)=(↑(List.length rests):Int)) /\
           (((x2.1:Int)+1=(x3.1:Int)) /\
           (((all++[(rests,emptyIn (List.take x2.1 rests),[])]).set all.length (((all++[(rests,emptyIn (List.take x2.1 rests),[])]).getD all.length ([],false,[])).1,true,((all++[(rests,emptyIn (List.take x2.1 rests),[])]).getD all.length ([],false,[])).2.2)=all++[(rests,emptyIn (List.take x3.1 rests),[])]) /\
           (([(rests,false,[])]:List RSt)=([(rests,false,[])]:List RSt)))))))))))))) /\
        (¬(↑(List.length (List.getD rests x2.val [])) : Int) = 0 →
         ((i64R ((x2.1:Int)+1)) /\
         (∃ x3 : { i : Nat // i ≤ List.length rests },
          ((List.length rests-x3.1<List.length rests-x2.1) /\
          ((rests=rests) /\
          (((all.length:Int)=(all.length:Int)) /\
          ((rests=rests) /\
          (((↑(List.length rests):Int)=(↑(List.length rests):Int)) /\
          (((x2.1:Int)+1=(x3.1:Int)) /\
          ((all++[(rests,emptyIn (List.take x2.1 rests),[])]=all++[(rests,emptyIn (List.take x3.1 rests),[])]) /\
          (([(rests,false,[])]:List RSt)=([(rests,false,[])]:List RSt))))))))))))))) /\
      (¬(↑x2.val : Int) < (↑(List.length rests) : Int) →
       ((SmR rests) /\
       ((∃ x3:{ i:Nat // i≤(headsL rests).length },
         ((rests=rests) /\
         (((all.length:Int)=(all.length:Int)) /\
         (((vfold all rests x3.1).2=[]) /\
         ((headsL rests=headsL rests) /\
         (((↑(headsL rests).length:Int)=(↑(headsL rests).length:Int)) /\
         ((0=(x3.1:Int)) /\
         ((all++[(rests,emptyIn (List.take x2.1 rests),[])]=(vfold all rests x3.1).1) /\
         ((([(rests,false,[])]:List RSt)=([(rests,false,[])]:List RSt)) /\
         ((vfold all rests x3.1).2=[])))))))))) /\
       (∀ x3 : { i : Nat // i ≤ (headsL rests).length },
        (((↑x3.val:Int) < (↑(headsL rests).length:Int) →
          ((0<=(x3.1:Int)/\(x3.1:Int)<(↑(headsL rests).length:Int)) /\
          ((SmR rests) /\
          ((tot (behL rests ((headsL rests).getD x3.1 0))<k) /\
          ((SrtQ (behL rests ((headsL rests).getD x3.1 0))) /\
          ((SmR (behL rests ((headsL rests).getD x3.1 0))) /\
          ((SmA (vfold all rests x3.1).1) /\
          (((vfold all rests x3.1).1.length+tot (behL rests ((headsL rests).getD x3.1 0))+1<=1099511627776) /\
          (∀ x4 : (Unit),
           ((((vfold all rests x3.1).2.length+[((headsL rests).getD x3.1 0,(↑(visT (vfold all rests x3.1).1 (behL rests ((headsL rests).getD x3.1 0))).2:Int))].length)*16<=140737488355328) /\
           ((i64R ((x3.1:Int)+1)) /\
           (∃ x5 : { i : Nat // i ≤ (headsL rests).length },
            (((headsL rests).length-x5.1<(headsL rests).length-x3.1) /\
            ((rests=rests) /\
            (((all.length:Int)=(all.length:Int)) /\
            ((headsL rests=headsL rests) /\
            (((↑(headsL rests).length:Int)=(↑(headsL rests).length:Int)) /\
            (((x3.1:Int)+1=(x5.1:Int)) /\
            (((visT (vfold all rests x3.1).1 (behL rests ((headsL rests).getD x3.1 0))).1=(vfold all rests x5.1).1) /\
            ((([(rests,false,[])]:List RSt)=([(rests,false,[])]:List RSt)) /\
            ((vfold all rests x3.1).2++[((headsL rests).getD x3.1 0,(↑(visT (vfold all rests x3.1).1 (behL rests ((headsL rests).getD x3.1 0))).2:Int))]=(vfold all rests x5.1).2))))))))))))))))))))) /\
        (¬(↑x3.val : Int) < (↑(headsL rests).length : Int) →
         ((0<=(all.length:Int)/\(all.length:Int)<(↑(vfold all rests x3.1).1.length:Int)) /\
         ((all.length<(vfold all rests x3.1).1.length) /\
         (∃ x4 : Unit,
          (((all.length:Int)=(↑(visT all rests).2:Int)) /\
          ((vfold all rests x3.1).1.set all.length (((vfold all rests x3.1).1.getD all.length ([],false,[])).1,((vfold all rests x3.1).1.getD all.length ([],false,[])).2.1,(vfold all rests x3.1).2)=(visT all rests).1)))))))))))))))))))) (by kernel_rfl) ?_
   have hs:=hc2.1
   have hh:=heads_len rests
   refine ⟨⟨⟨0,Nat.zero_le _,fun j h=>absurd h (Nat.not_lt_zero _)⟩,rfl,rfl,rfl,rfl⟩,?_⟩
   rintro ⟨i,hi,ha⟩
   dsimp only
   refine ⟨fun h=>⟨by omega,by omega,hc3.at,hc2,fun h1=>⟨(),?_⟩,fun h1=>⟨by unfold i64R;omega,⟨i+1,by omega,fun j hj=>?_⟩,by dsimp only;omega,rfl,rfl,by push_cast;rfl,rfl⟩⟩,fun h=>?_⟩
   ·rw [visT_eq,fndR_hit (by omega) ha (of_decide_eq_true h1)]
    exact ⟨rfl,rfl⟩
   ·by_cases hji:j=i
    ·subst hji;simpa using h1
    ·exact ha j (by omega)
   have e:=fndR_none (all:=all) (rests:=rests) fun j hj=>ha j (by omega)
   refine ⟨by rw [zN];omega,⟨⟨0,Nat.zero_le _⟩,rfl,rfl,rfl,rfl,rfl,rfl,rfl⟩,?_⟩
   rintro ⟨i2,hi2⟩
   dsimp only
   have hl1:∀ s:RSt,(all++[s]).length=all.length+1:=fun s=>by simp
   refine ⟨fun h2=>⟨by omega,fun h3=>⟨by rw [hl1];omega,by rw [hl1];omega,by unfold i64R;omega,⟨i2+1,by omega⟩,by dsimp only;omega,rfl,rfl,rfl,rfl,by push_cast;rfl,?_,rfl⟩,fun h3=>⟨by unfold i64R;omega,⟨i2+1,by omega⟩,by dsimp only;omega,rfl,rfl,rfl,rfl,by push_cast;rfl,?_,rfl⟩⟩,fun h2=>?_⟩
   ·rw [getD_last,set_last,emptyIn_step (by omega),show (rests.getD i2 []).isEmpty=true by
     rw [List.isEmpty_iff];exact List.eq_nil_of_length_eq_zero (by omega),Bool.or_true]
   ·rw [emptyIn_step (by omega),show (rests.getD i2 []).isEmpty=false by
     cases hx:rests.getD i2 [] with
     | nil=>rw [hx] at h3;exact absurd rfl h3
     | cons _ _=>rfl,Bool.or_false]
   rw [List.take_of_length_le (by omega)]
   refine ⟨hc2,⟨⟨0,Nat.zero_le _⟩,rfl,rfl,rfl,rfl,rfl,rfl,rfl,rfl,rfl⟩,?_⟩
   rintro ⟨j,hj⟩
   dsimp only
   have g1:=vfold_len (all:=all) hc1 j
   have g2:=vfold_ge (all:=all) (rests:=rests) j
   have g3:=vfold_out (all:=all) (rests:=rests) j
   refine ⟨fun h3=>⟨by omega,hc2,?_,beh_srt hc1 _,beh_sm hc2 _,vfold_sm hc3 hc2 j,?_,fun _=>⟨?_,by unfold i64R;omega,⟨j+1,by omega⟩,by dsimp only;omega,rfl,rfl,rfl,rfl,by push_cast;rfl,?_,rfl,?_⟩⟩,fun h3=>⟨by omega,by omega,(),?_⟩⟩
   ·have:(headsL rests).getD j 0∈headsL rests:=by
     rw [zA,zB (by omega)];exact List.getElem_mem _
    have:=beh_lt this
    omega
   ·have:=g1.2 (by omega);omega
   ·rw [zN];omega
   ·rw [vfold_step (by omega)];rfl
   ·rw [vfold_step (by omega)];rfl
   ·rw [visT_eq,e]
    have hjj:j=(headsL rests).length:=by omega
    subst hjj
    exact ⟨rfl,rfl⟩
end Go.EA
end
section
set_option maxRecDepth 100000
set_option maxHeartbeats 0
namespace Go.EA
open F
def M313u:MGen:=⟨(List RSt)×Rst,1,fun (all,rests) b=>[.one (.osl (b 0)),.one (.row (.row (.int .i32)) rests)],fun (all,rests) b=>[.row (.pair (.row (.row (.int .i32))) (.pair .bool (.row (.pair (.int .i32) (.int .i64))))) all],fun (all,rests)=>[SrtQ rests,SmR rests,SmA all,all.length+tot rests+1<=1099511627776],fun _=>Unit,fun _ _=>[],fun (all,rests) _ b=>.tup [.o (.osl (b 0)),.o (.int .i64 (visT all rests).2)],fun (all,rests) _ b=>[.row (.pair (.row (.row (.int .i32))) (.pair .bool (.row (.pair (.int .i32) (.int .i64))))) (visT all rests).1],[0]⟩
def C313u:MCon:=⟨fun xs L=>match xs.map nrmV with | [.one (.osl o),.one (.row (.row (.int .i32)) rests)]=>(match getO L o with | .row (.pair (.row (.row (.int .i32))) (.pair .bool (.row (.pair (.int .i32) (.int .i64))))) all=>some (M313u.res (all,rests) (fun _=>o) L) | _=>none) | _=>none⟩
theorem mu313 {S:SC} (hB:SB S) (q331:PrOk S 331 (pureP G331)) (q332:PrOk S 332 (pureP G332)) (q333:PrOk S 333 (pureP G333)) (h313:S.has 313 f313):MutOk S 313 (nilCon RsT C313u):=by
 refine mut_nil fun c L H xs ys r hr hp hH hxs=>?_
 simp only [C313u] at hr
 split at hr
 ·rename_i o rests he
  split at hr
  ·rename_i all hl
   cases hr
   exact mur313 hB q331 q332 q333 h313 (tot rests+1) c L H xs ys ((M313 (tot rests+1)).res (all,rests) (fun _=>o) L) (by simp only [C313,he,hl]) ⟨Nat.lt_succ_self _,hp⟩ hH hxs
  ·cases hr
 ·cases hr
theorem same_ed (x y:Ed):sameS (List.take 2 (List.drop 0 (((Ty.int IntKind.i32).pair (Ty.int IntKind.i64)).cells x))) (List.take 2 (List.drop 0 (((Ty.int IntKind.i32).pair (Ty.int IntKind.i64)).cells y)))=decide (x=y):=by
 obtain ⟨a,b⟩:=x
 obtain ⟨c,d⟩:=y
 show (decide (a=c)&&(decide (b=d)&&true))=decide ((a,b)=(c,d))
 simp
def P280:(List (List UInt8×Int))->List SV:=fun l=>[.one (.row (.pair .str (.int .i64)) l)]
def R280:(List (List UInt8×Int))->SV×List Prop:=fun l=>(.one (.row (.pair (.row (.row (.int .i32))) (.pair .bool (.row (.pair (.int .i32) (.int .i64))))) (stsR l)),[isE l=0,SmW l])
def K280:Con:=⟨false,[some (.pair .str (.int .i64))],fun xs=>match xs with | [.one (.row (.pair .str (.int .i64)) l)]=>some (R280 l) | _=>none⟩
noncomputable def G280:GP:=conG P280 R280
theorem P280_inj:∀ a b,(P280 a).map den0=(P280 b).map den0->a=b:=by
 rintro a0 b0 h
 simp only [P280,zK,List.map_nil,den0,den0L,zG,AV.one.injEq,AV.agg.injEq,Lf.int.injEq,Lf.str.injEq,Lf.bool.injEq,Lf.vrow.injEq,and_true,true_and] at h
 exact row_inj h
theorem K280_ok:ConG G280 K280:=conG_of P280_inj (fun _ _=>rfl) (fun _=>rfl) fun xs r h=>by
 simp only [K280] at h
 split at h
 ·cases h;rename_i l;exact ⟨l,rfl,rfl⟩
 ·cases h
theorem pr280 {S:SC} (hB:SB S) (u313:MutOk S 313 (nilCon RsT C313u)) (q19:PrOk S 19 (pureP G19)) (h280:S.has 280 f280):PrOk S 280 (pureP G280):=by
 refine prMM hB [] [⟨19,G19,K19⟩] [(313,(nilCon RsT C313u))] trivial ⟨⟨q19,K19_ok⟩,trivial⟩ ⟨u313,trivial⟩ h280 (fun _=>⟨rfl,rfl,rfl⟩) (fun l=>fun f id T L=>match f,id with
  | 280,0=>some (.inv { i:Nat // i<=l.length } (fun x=>([(12,.one (.int .i64 x.1)),(3,.one (.osl 0))],[(0,.row (.row (.int .i32)) (wdR (l.take x.1)))])) (fun x=>l.length-x.1))
  | 280,6028=>some (.rnd 0)
  | _,_=>none) 1000 ?_
 rintro l hc
 have hc1:isE l=0:=hc.1
 have hc2:SmW l:=hc.2.1
 refine VC.use (p:=
  ((∃ x1:{ i:Nat // i≤l.length },
    ((wdR (List.take x1.1 l)=[]) /\
    ((l=l) /\
    (((l.length:Int)=(l.length:Int)) /\
    ((0=(x1.1:Int)) /\
    (wdR (List.take x1.1 l)=[])))))) /\
  (∀ x1 : { i : Nat // i ≤ l.length },
   (((↑x1.val:Int) < (↑l.length:Int) →
     ((0<=(x1.1:Int)/\(x1.1:Int)<(l.length:Int)) /\
     ((List.length (l.getD x1.1 ([],0)).1<=1099511627776) /\
     (((List.length (wdR (List.take x1.1 l))+[decR (l.getD x1.1 ([],0)).1].length)*24<=140737488355328) /\
     ((i64R ((x1.1:Int)+1)) /\
     (∃ x2 : { i : Nat // i ≤ l.length },
      ((l.length-x2.1<l.length-x1.1) /\
      ((l=l) /\
      (((l.length:Int)=(l.length:Int)) /\
      (((x1.1:Int)+1=(x2.1:Int)) /\
      (wdR (List.take x1.1 l)++[decR (l.getD x1.1 ([],0)).1]=wdR (List.take x2.1 l)))))))))))) /\
   (¬(↑x1.val : Int) < (↑l.length : Int) →
    ((SrtQ (wdR (List.take x1.1 l))) /\
    ((SmR (wdR (List.take x1.1 l))) /\
    ((SmA []) /\
    ((0+tot (wdR (List.take x1.1 l))+1<=1099511627776) /\
    (∀ x2 : (Unit),
     ((visT [] (wdR (List.take x1.1 l))).1=stsR l))))))))))) (by kernel_rfl) ?_
 have hn:=nml hc1
 have hl:=hn.len
 refine ⟨⟨⟨0,Nat.zero_le _⟩,rfl,rfl,rfl,rfl,rfl⟩,?_⟩
 rintro ⟨i,hi⟩
 dsimp only
 refine ⟨fun h=>⟨by omega,hc2.at i,?_,by unfold i64R;omega,⟨i+1,by omega⟩,by dsimp only;omega,rfl,rfl,by push_cast;rfl,(wdR_step (by omega)).symm⟩,fun h=>?_⟩
 ·rw [wdR_len,zN,zP];omega
 ·rw [List.take_of_length_le (by omega)]
  have:=hn.tot
  exact ⟨hn.srt,hn.sm,fun s hs=>(by cases hs),by omega,fun _=>rfl⟩
def P283:(List (List (List (Int))×Bool×List (Int×Int)))->List SV:=fun l=>[.one (.row (.pair (.row (.row (.int .i32))) (.pair .bool (.row (.pair (.int .i32) (.int .i64))))) l)]
def R283:(List (List (List (Int))×Bool×List (Int×Int)))->SV×List Prop:=fun l=>(.one (.int .i64 (edgN l)),[l.length<=8388607,∀ s∈l,s.2.2.length<=1099511627776])
def K283:Con:=⟨true,[some (.pair (.row (.row (.int .i32))) (.pair .bool (.row (.pair (.int .i32) (.int .i64)))))],fun xs=>match xs with | [.one (.row (.pair (.row (.row (.int .i32))) (.pair .bool (.row (.pair (.int .i32) (.int .i64))))) l)]=>some (R283 l) | _=>none⟩
noncomputable def G283:GP:=conG P283 R283
theorem P283_inj:∀ a b,(P283 a).map den0=(P283 b).map den0->a=b:=by
 rintro a0 b0 h
 simp only [P283,zK,List.map_nil,den0,den0L,zG,AV.one.injEq,AV.agg.injEq,Lf.int.injEq,Lf.str.injEq,Lf.bool.injEq,Lf.vrow.injEq,and_true,true_and] at h
 exact row_inj h
theorem K283_ok:ConG G283 K283:=conG_of P283_inj (fun _ _=>rfl) (fun _=>rfl) fun xs r h=>by
 simp only [K283] at h
 split at h
 ·cases h;rename_i l;exact ⟨l,rfl,rfl⟩
 ·cases h
theorem pr283 {S:SC} (hB:SB S)  (h283:S.has 283 f283):PrOk S 283 (pureP G283):=by
 refine prM hB [] [] trivial trivial h283 (fun _=>⟨rfl,rfl,rfl⟩) (fun l=>fun f id T L=>match f,id with
  | 283,0=>some (.inv { i:Nat // i<=l.length } (fun x=>([(8,.one (.int .i64 x.1)),(3,.one (.int .i64 (edgN (l.take x.1))))],[])) (fun x=>l.length-x.1))
  | _,_=>none) 400 ?_
 rintro l hc
 have hc1:l.length<=8388607:=hc.1
 have hc2:∀ s∈l,s.2.2.length<=1099511627776:=hc.2.1
 refine VC.use (p:=
  ((∃ x1:{ i:Nat // i≤l.length },
    ((0=edgN (List.take x1.1 l)) /\
    ((l=l) /\
    (((l.length:Int)=(l.length:Int)) /\
    (0=(x1.1:Int)))))) /\
  (∀ x1 : { i : Nat // i ≤ l.length },
   (((↑x1.val:Int) < (↑l.length:Int) →
     ((0<=(x1.1:Int)/\(x1.1:Int)<(l.length:Int)) /\
     ((i64R (edgN (List.take x1.1 l)+(↑(List.length (l.getD x1.1 ([],false,[])).2.2):Int))) /\
     ((i64R ((x1.1:Int)+1)) /\
     (∃ x2 : { i : Nat // i ≤ l.length },
      ((l.length-x2.1<l.length-x1.1) /\
      ((edgN (List.take x1.1 l)+(↑(List.length (l.getD x1.1 ([],false,[])).2.2):Int)=edgN (List.take x2.1 l)) /\
      ((l=l) /\
      (((l.length:Int)=(l.length:Int)) /\
      ((x1.1:Int)+1=(x2.1:Int))))))))))) /\
   (¬(↑x1.val : Int) < (↑l.length : Int) →
    (edgN (List.take x1.1 l)=edgN l)))))) (by kernel_rfl) ?_
 refine ⟨⟨⟨0,Nat.zero_le _⟩,rfl,rfl,rfl,rfl⟩,?_⟩
 rintro ⟨i,hi⟩
 dsimp only
 refine ⟨fun h=>?_,fun h=>by rw [List.take_of_length_le (by omega)]⟩
 obtain ⟨g1,g2⟩:=edgN_bd hc2 (i+1) (by omega)
 rw [edgN_step (by omega)] at g1 g2
 exact ⟨by omega,by unfold i64R;omega,by unfold i64R;omega,⟨i+1,by omega⟩,by dsimp only;omega,(edgN_step (by omega)).symm,rfl,rfl,by push_cast;rfl⟩
def P279:(List (List UInt8×Int))->List SV:=fun l=>[.one (.row (.pair .str (.int .i64)) l)]
def R279:(List (List UInt8×Int))->SV×List Prop:=fun l=>(.one (.int .i64 (isE l)),[l.length<=1099511627776,SmW l])
def K279:Con:=⟨true,[some (.pair .str (.int .i64))],fun xs=>match xs with | [.one (.row (.pair .str (.int .i64)) l)]=>some (R279 l) | _=>none⟩
noncomputable def G279:GP:=conG P279 R279
theorem P279_inj:∀ a b,(P279 a).map den0=(P279 b).map den0->a=b:=by
 rintro a0 b0 h
 simp only [P279,zK,List.map_nil,den0,den0L,zG,AV.one.injEq,AV.agg.injEq,Lf.int.injEq,Lf.str.injEq,Lf.bool.injEq,Lf.vrow.injEq,and_true,true_and] at h
 exact row_inj h
theorem K279_ok:ConG G279 K279:=conG_of P279_inj (fun _ _=>rfl) (fun _=>rfl) fun xs r h=>by
 simp only [K279] at h
 split at h
 ·cases h;rename_i l;exact ⟨l,rfl,rfl⟩
 ·cases h
theorem pr279 {S:SC} (hB:SB S) (q297:PrOk S 297 (pureP G297)) (h279:S.has 279 f279):PrOk S 279 (pureP G279):=by
 refine prM hB [] [⟨297,G297,K297⟩] trivial ⟨⟨q297,K297_ok⟩,trivial⟩ h279 (fun _=>⟨rfl,rfl,rfl⟩) (fun l=>fun _ _ _ _=>none) 400 ?_
 rintro l hc
 have hc1:l.length<=1099511627776:=hc.1
 have hc2:SmW l:=hc.2.1
 refine VC.use (p:=
  ((l.length<=1099511627776) /\
  ((SmW l) /\
  (isE l=isE l)))) (by kernel_rfl) ?_
 exact ⟨hc1,hc2,rfl⟩
def P287:(List (Int×Int))×(List (Int×Int))->List SV:=fun (a,b)=>[.one (.row (.pair (.int .i32) (.int .i64)) a),.one (.row (.pair (.int .i32) (.int .i64)) b)]
def R287:(List (Int×Int))×(List (Int×Int))->SV×List Prop:=fun (a,b)=>(.one (.bool (decide (a=b))),[a.length<=1099511627776,b.length<=1099511627776])
def K287:Con:=⟨true,[some (.pair (.int .i32) (.int .i64)),some (.pair (.int .i32) (.int .i64))],fun xs=>match xs with | [.one (.row (.pair (.int .i32) (.int .i64)) a),.one (.row (.pair (.int .i32) (.int .i64)) b)]=>some (R287 (a,b)) | _=>none⟩
noncomputable def G287:GP:=conG P287 R287
theorem P287_inj:∀ a b,(P287 a).map den0=(P287 b).map den0->a=b:=by
 rintro ⟨a0,a1⟩ ⟨b0,b1⟩ h
 simp only [P287,zK,List.map_nil,den0,den0L,zG,AV.one.injEq,AV.agg.injEq,Lf.int.injEq,Lf.str.injEq,Lf.bool.injEq,Lf.vrow.injEq,and_true,true_and,and_assoc] at h
 obtain ⟨h0,h1⟩:=h
 have h0:=row_inj h0
 have h1:=row_inj h1
 subst h0 h1
 rfl
theorem K287_ok:ConG G287 K287:=conG_of P287_inj (fun ⟨_,_⟩ ⟨_,_⟩=>rfl) (fun ⟨_,_⟩=>rfl) fun xs r h=>by
 simp only [K287] at h
 split at h
 ·cases h;rename_i a b;exact ⟨(a,b),rfl,rfl⟩
 ·cases h
theorem pr287 {S:SC} (hB:SB S)  (h287:S.has 287 f287):PrOk S 287 (pureP G287):=by
 refine prM hB [] [] trivial trivial h287 (fun ⟨a,b⟩=>⟨rfl,rfl,rfl⟩) (fun (a,b)=>fun f id T L=>match f,id with
  | 287,0=>some (.inv { i:Nat // i<=a.length/\a.take i=b.take i } (fun x=>([(13,.one (.int .i64 x.1))],[])) (fun x=>a.length-x.1))
  | _,_=>none) 400 ?_
 rintro ⟨a,b⟩ hc
 have hc1:a.length<=1099511627776:=hc.1
 have hc2:b.length<=1099511627776:=hc.2.1
 refine VC.use (p:=
  (((↑a.length:Int)=(↑b.length:Int) →
    ((∃ x1:{ i:Nat // i≤a.length∧List.take i a=List.take i b },
      ((a=a) /\
      ((b=b) /\
      (((a.length:Int)=(a.length:Int)) /\
      (0=(x1.1:Int)))))) /\
    (∀ x1 : { i : Nat // i ≤ a.length ∧ List.take i a = List.take i b },
     (((↑x1.val:Int) < (↑a.length:Int) →
       ((0<=(x1.1:Int)/\(x1.1:Int)<(a.length:Int)) /\
       ((0<=(x1.1:Int)/\(x1.1:Int)<(b.length:Int)) /\
       (((!sameS (List.take 2 (List.drop 0 (((Ty.int IntKind.i32).pair (Ty.int IntKind.i64)).cells (a.getD x1.val (0,0))))) (List.take 2 (List.drop 0 (((Ty.int IntKind.i32).pair (Ty.int IntKind.i64)).cells (b.getD x1.val (0,0))))))=true →
         (false=decide (a=b))) /\
       (¬(!sameS (List.take 2 (List.drop 0 (((Ty.int IntKind.i32).pair (Ty.int IntKind.i64)).cells (a.getD x1.val (0, 0))))) (List.take 2 (List.drop 0 (((Ty.int IntKind.i32).pair (Ty.int IntKind.i64)).cells (b.getD x1.val (0, 0)))))) = true →
        ((i64R ((x1.1:Int)+1)) /\
        (∃ x2 : { i : Nat // i ≤ a.length ∧ List.take i a = List.take i b },
         ((a.length-x2.1<a.length-x1.1) /\
         ((a=a) /\
         ((b=b) /\
         (((a.length:Int)=(a.length:Int)) /\
         ((x1.1:Int)+1=(x2.1:Int))))))))))))) /\
     (¬(↑x1.val : Int) < (↑a.length : Int) →
      (true=decide (a=b))))))) /\
  (¬(↑a.length : Int) = (↑b.length : Int) →
   (false=decide (a=b))))) (by kernel_rfl) ?_
 refine ⟨fun hl=>⟨⟨⟨0,Nat.zero_le _,rfl⟩,rfl,rfl,rfl,rfl⟩,?_⟩,fun hl=>(decide_eq_false fun e=>hl (by rw [e])).symm⟩
 rintro ⟨i,hi,ha⟩
 dsimp only
 rw [same_ed]
 refine ⟨fun h=>⟨by omega,by omega,fun h1=>(decide_eq_false fun e=>by subst e;simp at h1).symm,fun h1=>⟨by unfold i64R;omega,⟨i+1,by omega,?_⟩,by dsimp only;omega,rfl,rfl,rfl,by push_cast;rfl⟩⟩,fun h=>(decide_eq_true ?_).symm⟩
 ·rw [take_succ_getD (0,0) (show i<a.length by omega),take_succ_getD (0,0) (show i<b.length by omega),ha]
  simp at h1
  rw [zA,zA,h1]
 ·rw [<- List.take_of_length_le (l:=a) (i:=i) (by omega),ha,List.take_of_length_le (by omega)]
def P288:(List (Int×Int))->List SV:=fun l=>[.one (.row (.pair (.int .i32) (.int .i64)) l)]
def R288:(List (Int×Int))->SV×List Prop:=fun l=>(.one (.row (.pair (.int .i32) (.int .i64)) l),[l.length<=1099511627776])
def K288:Con:=⟨false,[some (.pair (.int .i32) (.int .i64))],fun xs=>match xs with | [.one (.row (.pair (.int .i32) (.int .i64)) l)]=>some (R288 l) | _=>none⟩
noncomputable def G288:GP:=conG P288 R288
theorem P288_inj:∀ a b,(P288 a).map den0=(P288 b).map den0->a=b:=by
 rintro a0 b0 h
 simp only [P288,zK,List.map_nil,den0,den0L,zG,AV.one.injEq,AV.agg.injEq,Lf.int.injEq,Lf.str.injEq,Lf.bool.injEq,Lf.vrow.injEq,and_true,true_and] at h
 exact row_inj h
theorem K288_ok:ConG G288 K288:=conG_of P288_inj (fun _ _=>rfl) (fun _=>rfl) fun xs r h=>by
 simp only [K288] at h
 split at h
 ·cases h;rename_i l;exact ⟨l,rfl,rfl⟩
 ·cases h
theorem pr288 {S:SC} (hB:SB S)  (h288:S.has 288 f288):PrOk S 288 (pureP G288):=by
 refine prM hB [] [] trivial trivial h288 (fun _=>⟨rfl,rfl,rfl⟩) (fun l=>fun f id T L=>match f,id with
  | 288,0=>some (.inv { i:Nat // i<=l.length } (fun x=>([(8,.one (.int .i64 x.1)),(3,.one (.osl 0))],[(0,.row (.pair (.int .i32) (.int .i64)) (l.take x.1))])) (fun x=>l.length-x.1))
  | _,_=>none) 400 ?_
 rintro l hc
 have hc1:l.length<=1099511627776:=hc.1
 refine VC.use (p:=
  ((∃ x1:{ i:Nat // i≤l.length },
    ((List.take x1.1 l=[]) /\
    ((l=l) /\
    (((l.length:Int)=(l.length:Int)) /\
    ((0=(x1.1:Int)) /\
    (List.take x1.1 l=[])))))) /\
  (∀ x1 : { i : Nat // i ≤ l.length },
   (((↑x1.val:Int) < (↑l.length:Int) →
     ((0<=(x1.1:Int)/\(x1.1:Int)<(l.length:Int)) /\
     ((((List.take x1.1 l).length+[((l.getD x1.1 (0,0)).1,(l.getD x1.1 (0,0)).2)].length)*16<=140737488355328) /\
     ((i64R ((x1.1:Int)+1)) /\
     (∃ x2 : { i : Nat // i ≤ l.length },
      ((l.length-x2.1<l.length-x1.1) /\
      ((l=l) /\
      (((l.length:Int)=(l.length:Int)) /\
      (((x1.1:Int)+1=(x2.1:Int)) /\
      (List.take x1.1 l++[((l.getD x1.1 (0,0)).1,(l.getD x1.1 (0,0)).2)]=List.take x2.1 l)))))))))) /\
   (¬(↑x1.val : Int) < (↑l.length : Int) →
    (List.take x1.1 l=l)))))) (by kernel_rfl) ?_
 refine ⟨⟨⟨0,Nat.zero_le _⟩,rfl,rfl,rfl,rfl,rfl⟩,?_⟩
 rintro ⟨i,hi⟩
 dsimp only
 refine ⟨fun h=>⟨by omega,?_,by unfold i64R;omega,⟨i+1,by omega⟩,by dsimp only;omega,rfl,rfl,by push_cast;rfl,(take_succ_getD (0,0) (by omega)).symm⟩,fun h=>by rw [List.take_of_length_le (by omega)]⟩
 rw [zP,zN];omega
def P290:List (List (Int))×Bool×(List (Int×Int))×Int->List SV:=fun (s0,s1,s2,r)=>[.agg [.row (.row (.int .i32)) s0,.bool s1,.row (.pair (.int .i32) (.int .i64)) s2],.one (.int .i32 r)]
def R290:List (List (Int))×Bool×(List (Int×Int))×Int->SV×List Prop:=fun (s0,s1,s2,r)=>(.tup [.o (.int .i64 (nxtV s2 r)),.o (.bool (nxtB s2 r))],[s2.length<=1099511627776])
def K290:Con:=⟨true,[none,none],fun xs=>match xs with | [.agg [.row (.row (.int .i32)) s0,.bool s1,.row (.pair (.int .i32) (.int .i64)) s2],.one (.int .i32 r)]=>some (R290 (s0,s1,s2,r)) | _=>none⟩
noncomputable def G290:GP:=conG P290 R290
theorem P290_inj:∀ a b,(P290 a).map den0=(P290 b).map den0->a=b:=by
 rintro ⟨a0,a1,a2,a3⟩ ⟨b0,b1,b2,b3⟩ h
 simp only [P290,zK,List.map_nil,den0,den0L,zG,AV.one.injEq,AV.agg.injEq,Lf.int.injEq,Lf.str.injEq,Lf.bool.injEq,Lf.vrow.injEq,and_true,true_and,and_assoc] at h
 obtain ⟨h0,h1,h2,h3⟩:=h
 have h0:=row_inj h0
 have h2:=row_inj h2
 subst h0 h1 h2 h3
 rfl
theorem K290_ok:ConG G290 K290:=conG_of P290_inj (fun ⟨_,_,_,_⟩ ⟨_,_,_,_⟩=>rfl) (fun ⟨_,_,_,_⟩=>rfl) fun xs r h=>by
 simp only [K290] at h
 split at h
 ·cases h;rename_i s0 s1 s2 r;exact ⟨(s0,s1,s2,r),rfl,rfl⟩
 ·cases h
theorem pr290 {S:SC} (hB:SB S)  (h290:S.has 290 f290):PrOk S 290 (pureP G290):=by
 refine prM hB [] [] trivial trivial h290 (fun ⟨s0,s1,s2,r⟩=>⟨rfl,rfl,rfl⟩) (fun (s0,s1,s2,r)=>fun f id T L=>match f,id with
  | 290,0=>some (.inv { i:Nat // i<=s2.length/\∀ j,j<i->(s2.getD j (0,0)).1≠r } (fun x=>([(11,.one (.int .i64 x.1))],[])) (fun x=>s2.length-x.1))
  | _,_=>none) 400 ?_
 rintro ⟨s0,s1,s2,r⟩ hc
 have hc1:s2.length<=1099511627776:=hc.1
 refine VC.use (p:=
  ((∃ x1:{ i:Nat // i≤s2.length∧∀ (j:Nat),j < i→(s2.getD j (0,0)).fst≠r },
    ((r=r) /\
    ((s2=s2) /\
    (((s2.length:Int)=(s2.length:Int)) /\
    ((0=(x1.1:Int)) /\
    ((s0=s0) /\
    ((s1=s1) /\
    (s2=s2)))))))) /\
  (∀ x1 : { i : Nat // i ≤ s2.length ∧ ∀ (j : Nat), j < i → (s2.getD j (0, 0)).fst ≠ r },
   (((↑x1.val:Int) < (↑s2.length:Int) →
     ((0<=(x1.1:Int)/\(x1.1:Int)<(s2.length:Int)) /\
     (((s2.getD x1.val (0,0)).fst=r →
       (((s2.getD x1.1 (0,0)).2=nxtV s2 r) /\
       (true=nxtB s2 r))) /\
     (¬(s2.getD x1.val (0, 0)).fst = r →
      ((i64R ((x1.1:Int)+1)) /\
      (∃ x2 : { i : Nat // i ≤ s2.length ∧ ∀ (j : Nat), j < i → (s2.getD j (0, 0)).fst ≠ r },
       ((s2.length-x2.1<s2.length-x1.1) /\
       ((r=r) /\
       ((s2=s2) /\
       (((s2.length:Int)=(s2.length:Int)) /\
       (((x1.1:Int)+1=(x2.1:Int)) /\
       ((s0=s0) /\
       ((s1=s1) /\
       (s2=s2)))))))))))))) /\
   (¬(↑x1.val : Int) < (↑s2.length : Int) →
    ((0=nxtV s2 r) /\
    (false=nxtB s2 r))))))) (by kernel_rfl) ?_
 refine ⟨⟨⟨0,Nat.zero_le _,fun j h=>absurd h (Nat.not_lt_zero _)⟩,rfl,rfl,rfl,rfl,rfl,rfl,rfl⟩,?_⟩
 rintro ⟨i,hi,ha⟩
 dsimp only
 refine ⟨fun h=>⟨by omega,fun h1=>?_,fun h1=>⟨by unfold i64R;omega,⟨i+1,by omega,fun j hj=>?_⟩,by dsimp only;omega,rfl,rfl,rfl,by push_cast;rfl,rfl,rfl,rfl⟩⟩,fun h=>?_⟩
 ·unfold nxtV nxtB
  rw [nxt_hit (by omega) ha h1]
  exact ⟨rfl,rfl⟩
 ·by_cases hji:j=i
  ·subst hji;exact h1
  ·exact ha j (by omega)
 ·unfold nxtV nxtB
  rw [nxt_none fun j hj=>ha j (by omega)]
  exact ⟨rfl,rfl⟩
end Go.EA
end
section
set_option maxRecDepth 100000
set_option maxHeartbeats 0
namespace Go.EA
open F
def M56:MGen:=⟨(List Int)×Int,1,fun (o,r) b=>[.one (.osl (b 0)),.one (.int .i32 r)],fun (o,r) b=>[.row (.int .u8) o],fun (o,r)=>[Utf8.valid r=true,o.length<=70368744177664],fun _=>Unit,fun _ _=>[],fun (o,r) _ b=>.one (.osl (b 0)),fun (o,r) _ b=>[.row (.int .u8) (o++encI r)],[0]⟩
def C56:MCon:=⟨fun xs L=>match xs.map nrmV with | [.one (.osl o),.one (.int .i32 r)]=>(match getO L o with | .row (.int .u8) l=>some (M56.res (l,r) (fun _=>o) L) | _=>none) | _=>none⟩
theorem M56_fits:M56.Fits C56:=by
 intro xs L r h
 simp only [C56] at h
 split at h
 ·rename_i o r he
  split at h
  ·rename_i l hl
   cases h
   refine ⟨(l,r),fun _=>o,he,fun j hj=>?_,fun i j hi hj _=>?_,rfl⟩
   ·have hj:j<1:=hj
    obtain rfl:j=0:=by omega
    exact hl
   ·have hi:i<1:=hi
    have hj:j<1:=hj
    omega
  ·cases h
 ·cases h
theorem M56_ok:M56.Ok f56.np:=⟨fun ⟨_,_⟩ b=>All2.cons (.inl ⟨_,_,rfl,rfl,.inr (.inl ⟨0,Nat.zero_lt_one,rfl,rfl⟩)⟩) (All2.cons (.inr (.inl ⟨rfl,rfl⟩)) All2.nil),
 fun ⟨_, _⟩ b => ⟨rfl, fun j hj => by have hj : j < 1 := hj; obtain rfl : j = 0 := by omega
                                      exact .inl ⟨rfl,rfl⟩⟩,
 fun ⟨_, _⟩ _ b => ⟨rfl, fun j hj => by have hj : j < 1 := hj; obtain rfl : j = 0 := by omega
                                        exact .inl ⟨rfl,rfl⟩⟩,
 fun _ _ j hj hm => absurd (by have hj : j < 1 := hj; obtain rfl : j = 0 := by omega
                               exact List.mem_singleton.2 rfl) hm,
 fun _ j hj hm => absurd (by have hj : j < 1 := hj; obtain rfl : j = 0 := by omega
                             exact List.mem_singleton.2 rfl) hm,
 fun ⟨_,_⟩=>rfl,
 fun ⟨_,_⟩ _ b=>.inl ⟨_,_,rfl,rfl,.inr (.inl ⟨0,Nat.zero_lt_one,rfl,rfl⟩)⟩⟩
theorem mu56 {S:SC} (hB:SB S)  (h75:S.has 75 f75) (h56:S.has 56 f56):MutOk S 56 C56:=by
 refine muG hB [(75,f75)] [] [] ⟨h75,trivial⟩ trivial trivial h56 M56_fits M56_ok (fun (o,r)=>fun _ _ _ _=>none) 400 ?_
 rintro ⟨o,r⟩ hc
 have hc1:Utf8.valid r=true:=hc.1
 have hc2:o.length<=70368744177664:=hc.2.1
 refine VC.use (p:=
  ((IntKind.u32.wrap r≤127 →
    (((o.length+[IntKind.u8.wrap r].length)*1<=140737488355328) /\
    (∃ x1 : Unit,
     (o++[IntKind.u8.wrap r]=o++encI r)))) /\
  (¬IntKind.u32.wrap r ≤ 127 →
   ((IntKind.u32.wrap r≤2047 →
     (((o.length+[oB 192 (r.fdiv 64),o6 r].length)*1<=140737488355328) /\
     (∃ x1 : Unit,
      (o++[oB 192 (r.fdiv 64),o6 r]=o++encI r)))) /\
   (¬IntKind.u32.wrap r ≤ 2047 →
    ((IntKind.u32.wrap r < 55296 →
      ((IntKind.u32.wrap r < 55296 →
        (((o.length+[oB 224 (r.fdiv 4096),o6 (r.fdiv 64),o6 r].length)*1<=140737488355328) /\
        (∃ x1 : Unit,
         (o++[oB 224 (r.fdiv 4096),o6 (r.fdiv 64),o6 r]=o++encI r)))) /\
      (¬IntKind.u32.wrap r < 55296 →
       ((65535 < IntKind.u32.wrap r →
         ((IntKind.u32.wrap r≤1114111 →
           (((o.length+[oB 240 (r.fdiv 262144),o6 (r.fdiv 4096),o6 (r.fdiv 64),o6 r].length)*1<=140737488355328) /\
           (∃ x1 : Unit,
            (o++[oB 240 (r.fdiv 262144),o6 (r.fdiv 4096),o6 (r.fdiv 64),o6 r]=o++encI r)))) /\
         (¬IntKind.u32.wrap r ≤ 1114111 →
          (((o.length+3)*1<=140737488355328) /\
          (∃ x1 : Unit,
           (o++[239,191,189]=o++encI r)))))) /\
       (¬65535 < IntKind.u32.wrap r →
        (((o.length+3)*1<=140737488355328) /\
        (∃ x1 : Unit,
         (o++[239,191,189]=o++encI r)))))))) /\
    (¬IntKind.u32.wrap r < 55296 →
     ((57343 < IntKind.u32.wrap r →
       ((IntKind.u32.wrap r≤65535 →
         (((o.length+[oB 224 (r.fdiv 4096),o6 (r.fdiv 64),o6 r].length)*1<=140737488355328) /\
         (∃ x1 : Unit,
          (o++[oB 224 (r.fdiv 4096),o6 (r.fdiv 64),o6 r]=o++encI r)))) /\
       (¬IntKind.u32.wrap r ≤ 65535 →
        ((65535 < IntKind.u32.wrap r →
          ((IntKind.u32.wrap r≤1114111 →
            (((o.length+[oB 240 (r.fdiv 262144),o6 (r.fdiv 4096),o6 (r.fdiv 64),o6 r].length)*1<=140737488355328) /\
            (∃ x1 : Unit,
             (o++[oB 240 (r.fdiv 262144),o6 (r.fdiv 4096),o6 (r.fdiv 64),o6 r]=o++encI r)))) /\
          (¬IntKind.u32.wrap r ≤ 1114111 →
           (((o.length+3)*1<=140737488355328) /\
           (∃ x1 : Unit,
            (o++[239,191,189]=o++encI r)))))) /\
        (¬65535 < IntKind.u32.wrap r →
         (((o.length+3)*1<=140737488355328) /\
         (∃ x1 : Unit,
          (o++[239,191,189]=o++encI r)))))))) /\
     (¬57343 < IntKind.u32.wrap r →
      ((65535 < IntKind.u32.wrap r →
        ((IntKind.u32.wrap r≤1114111 →
          (((o.length+[oB 240 (r.fdiv 262144),o6 (r.fdiv 4096),o6 (r.fdiv 64),o6 r].length)*1<=140737488355328) /\
          (∃ x1 : Unit,
           (o++[oB 240 (r.fdiv 262144),o6 (r.fdiv 4096),o6 (r.fdiv 64),o6 r]=o++encI r)))) /\
        (¬IntKind.u32.wrap r ≤ 1114111 →
         (((o.length+3)*1<=140737488355328) /\
         (∃ x1 : Unit,
          (o++[239,191,189]=o++encI r)))))) /\
      (¬65535 < IntKind.u32.wrap r →
       (((o.length+3)*1<=140737488355328) /\
       (∃ x1 : Unit,
        (o++[239,191,189]=o++encI r)))))))))))))) (by kernel_rfl) ?_
 exact app_rune hc1 hc2 (K:=fun o'=>∃ x1:Unit,o'=o++encI r) ⟨(),rfl⟩
def P346:(List (Int×Int))×Bool×Int->List SV:=fun (s0,s1,s2)=>[.agg [.row (.pair (.int .i32) (.int .i64)) s0,.bool s1,.int .i64 s2]]
def R346:(List (Int×Int))×Bool×Int->SV×List Prop:=fun (s0,s1,s2)=>(.one (.str (keyB s0 s1)),[s0.length<=1048576,OkE s0])
def K346:Con:=⟨true,[none],fun xs=>match xs with | [.agg [.row (.pair (.int .i32) (.int .i64)) s0,.bool s1,.int .i64 s2]]=>some (R346 (s0,s1,s2)) | _=>none⟩
noncomputable def G346:GP:=conG P346 R346
theorem P346_inj:∀ a b,(P346 a).map den0=(P346 b).map den0->a=b:=by
 rintro ⟨a0,a1,a2⟩ ⟨b0,b1,b2⟩ h
 simp only [P346,zK,List.map_nil,den0,den0L,zG,AV.one.injEq,AV.agg.injEq,Lf.int.injEq,Lf.str.injEq,Lf.bool.injEq,Lf.vrow.injEq,and_true,true_and,and_assoc] at h
 obtain ⟨h0,h1,h2⟩:=h
 have h0:=row_inj h0
 subst h0 h1 h2
 rfl
theorem K346_ok:ConG G346 K346:=conG_of P346_inj (fun ⟨_,_,_⟩ ⟨_,_,_⟩=>rfl) (fun ⟨_,_,_⟩=>rfl) fun xs r h=>by
 simp only [K346] at h
 split at h
 ·cases h;rename_i s0 s1 s2;exact ⟨(s0,s1,s2),rfl,rfl⟩
 ·cases h
theorem pr346 {S:SC} (hB:SB S) (u56:MutOk S 56 C56)  (h346:S.has 346 f346):PrOk S 346 (pureP G346):=by
 refine prMM hB [] [] [(56,C56)] trivial trivial ⟨u56,trivial⟩ h346 (fun ⟨s0,s1,s2⟩=>⟨rfl,rfl,rfl⟩) (fun (s0,s1,s2)=>fun f id T L=>match f,id with
  | 346,4012=>some (.cut Unit fun _=>([(3,.one (.osl 1))],[(1,.row (.int .u8) [if s1 then 43 else 45])]))
  | 346,0=>some (.inv { i:Nat // i<=s0.length } (fun x=>([(15,.one (.int .i64 x.1)),(3,.one (.osl 1))],[(1,.row (.int .u8) (keyI (s0.take x.1) s1))])) (fun x=>s0.length-x.1))
  | 346,2=>match T.getD 6 .junk,getO L 1 with | .one (.int _ n0),.row (.int .u8) o0=>some (.inv { p:Int×List Int // p.2++digI p.1=o0++digI n0/\0<=p.1/\p.1<=n0 } (fun x=>([(6,.one (.int .i64 x.1.1)),(3,.one (.osl 1))],[(1,.row (.int .u8) x.1.2)])) (fun x=>x.1.1.toNat)) | _,_=>none
  | _,_=>none) 2000 ?_
 rintro ⟨s0,s1,s2⟩ hc
 have hc1:s0.length<=1048576:=hc.1
 have hc2:OkE s0:=hc.2.1
 refine VC.use (p:=
  (((s1 = true →
     (((0:Int)<=(0:Int)/\(0:Int)<(1:Int)) /\
     (((0:Nat)<(1:Nat)) /\
     (∃ x1 : Unit,
      ((s0=s0) /\
      ((s1=s1) /\
      ((s2=s2) /\
      (([43]:List Int)=[if s1=true then 43 else 45])))))))) /\
   (¬s1 = true →
    (∃ x1 : Unit,
     ((s0=s0) /\
     ((s1=s1) /\
     ((s2=s2) /\
     (([45]:List Int)=[if s1=true then 43 else 45]))))))) /\
  (∀ x1 : Unit,
   ((∃ x2:{ i:Nat // i≤s0.length },
     ((s0=s0) /\
     (((s0.length:Int)=(s0.length:Int)) /\
     ((0=(x2.1:Int)) /\
     ((s0=s0) /\
     ((s1=s1) /\
     ((s2=s2) /\
     ([if s1=true then 43 else 45]=keyI (List.take x2.1 s0) s1)))))))) /\
   (∀ x2 : { i : Nat // i ≤ s0.length },
    (((↑x2.val:Int) < (↑s0.length:Int) →
      ((0<=(x2.1:Int)/\(x2.1:Int)<(s0.length:Int)) /\
      ((Utf8.valid (s0.getD x2.1 (0,0)).1=true) /\
      (((keyI (List.take x2.1 s0) s1).length<=70368744177664) /\
      (∀ x3 : (Unit),
       ((∃ x4:{ p:Int×List Int // p.snd++digI p.fst=keyI (List.take x2.val s0) s1++encI (s0.getD x2.val (0,0)).fst++digI (s0.getD x2.val (0,0)).snd∧0≤p.fst∧p.fst≤(s0.getD x2.val (0,0)).snd },
         (((s0.getD x2.1 (0,0)).2=x4.1.1) /\
         ((s0=s0) /\
         (((s0.length:Int)=(s0.length:Int)) /\
         (((x2.1:Int)=(x2.1:Int)) /\
         ((s0=s0) /\
         ((s1=s1) /\
         ((s2=s2) /\
         ((keyI (List.take x2.1 s0) s1++encI (s0.getD x2.1 (0,0)).1=x4.1.2) /\
         (((s0.getD x2.1 (0,0)).1=(s0.getD x2.1 (0,0)).1) /\
         ((s0.getD x2.1 (0,0)).2=(s0.getD x2.1 (0,0)).2))))))))))) /\
       (∀ x4 : { p : Int × List Int // p.snd ++ digI p.fst = keyI (List.take x2.val s0) s1 ++ encI (s0.getD x2.val (0, 0)).fst ++ digI (s0.getD x2.val (0, 0)).snd ∧ 0 ≤ p.fst ∧ p.fst ≤ (s0.getD x2.val (0, 0)).snd },
        (((128:Int)≠(0:Int)) /\
        (((x4.1.2.length+[IntKind.u8.wrap (↑(BitVec.ofInt 8 (IntKind.u8.wrap (x4.1.1.tmod 128)) ||| BitVec.ofInt 8 128).toNat:Int)].length)*1<=140737488355328) /\
        ((x4.val.fst < 128 →
          ((((x4.1.2++[IntKind.u8.wrap (↑(BitVec.ofInt 8 (IntKind.u8.wrap (x4.1.1.tmod 128)) ||| BitVec.ofInt 8 128).toNat:Int)]).length+1)*1<=140737488355328) /\
          ((i64R ((x2.1:Int)+1)) /\
          (∃ x5 : { i : Nat // i ≤ s0.length },
           ((s0.length-x5.1<s0.length-x2.1) /\
           ((s0=s0) /\
           (((s0.length:Int)=(s0.length:Int)) /\
           (((x2.1:Int)+1=(x5.1:Int)) /\
           ((s0=s0) /\
           ((s1=s1) /\
           ((s2=s2) /\
           (x4.1.2++[IntKind.u8.wrap (↑(BitVec.ofInt 8 (IntKind.u8.wrap (x4.1.1.tmod 128)) ||| BitVec.ofInt 8 128).toNat:Int)]++[0]=keyI (List.take x5.1 s0) s1)))))))))))) /\
        (¬x4.val.fst < 128 →
         (((128:Int)≠(0:Int)) /\
         ((i64R (x4.1.1.tdiv 128)) /\
         (∃ x5 : { p : Int × List Int // p.snd ++ digI p.fst = keyI (List.take x2.val s0) s1 ++ encI (s0.getD x2.val (0, 0)).fst ++ digI (s0.getD x2.val (0, 0)).snd ∧ 0 ≤ p.fst ∧ p.fst ≤ (s0.getD x2.val (0, 0)).snd },
          ((x5.1.1.toNat<x4.1.1.toNat) /\
          ((x4.1.1.tdiv 128=x5.1.1) /\
          ((s0=s0) /\
          (((s0.length:Int)=(s0.length:Int)) /\
          (((x2.1:Int)=(x2.1:Int)) /\
          ((s0=s0) /\
          ((s1=s1) /\
          ((s2=s2) /\
          ((x4.1.2++[IntKind.u8.wrap (↑(BitVec.ofInt 8 (IntKind.u8.wrap (x4.1.1.tmod 128)) ||| BitVec.ofInt 8 128).toNat:Int)]=x5.1.2) /\
          (((s0.getD x2.1 (0,0)).1=(s0.getD x2.1 (0,0)).1) /\
          ((s0.getD x2.1 (0,0)).2=(s0.getD x2.1 (0,0)).2))))))))))))))))))))))))) /\
    (¬(↑x2.val : Int) < (↑s0.length : Int) →
     (List.map (fun z=>UInt8.ofNat (Int.toNat z)) (keyI (List.take x2.1 s0) s1)=keyB s0 s1)))))))) (by kernel_rfl) ?_
 refine ⟨⟨fun h=>⟨by omega,by omega,(),rfl,rfl,rfl,by rw [if_pos h]⟩,fun h=>⟨(),rfl,rfl,rfl,by rw [if_neg h]⟩⟩,fun _=>⟨⟨⟨0,Nat.zero_le _⟩,rfl,rfl,rfl,rfl,rfl,rfl,rfl⟩,?_⟩⟩
 rintro ⟨i,hi⟩
 dsimp only
 refine ⟨fun h=>?_,fun h=>by rw [List.take_of_length_le (by omega)];rfl⟩
 have h1:=hc2.at (i:=i) (by omega)
 have h2:=keyI_len hc2 s1 i hi
 have hst:=keyI_step (b:=s1) (show i<s0.length by omega)
 have hln:=keyI_len hc2 s1 (i+1) (by omega)
 rw [hst] at hln
 generalize keyI (s0.take i) s1=o at h2 hst hln ⊢
 unfold keyE at hln hst
 generalize s0.getD i (0,0)=e at h1 hst hln ⊢
 simp only [zL,zN] at hln
 refine ⟨by omega,h1.1,by omega,fun _=>⟨⟨⟨(e.2,o++encI e.1),rfl,h1.2.1,Int.le_refl _⟩,rfl,rfl,rfl,rfl,rfl,rfl,rfl,rfl,rfl,rfl⟩,?_⟩⟩
 rintro ⟨⟨n,p⟩,hp,hn0,hn1⟩
 dsimp only at hp hn0 hn1 ⊢
 rw [dgB_or hn0]
 have hpl:=congrArg List.length hp
 simp only [zL] at hpl
 have hdl:=digI_len n
 refine ⟨by omega,by rw [zN];omega,fun hlt=>⟨by rw [zL,zN];omega,by unfold i64R;omega,⟨i+1,by omega⟩,by dsimp only;omega,rfl,rfl,by push_cast;rfl,rfl,rfl,rfl,?_⟩,fun hge=>?_⟩
 ·show _=keyI (s0.take (i+1)) s1
  rw [hst,<- zO,<- zO,<- hp,digI_one hlt]
 ·obtain ⟨g1,g2,g3⟩:=tdiv_lt hge
  refine ⟨by omega,by unfold i64R;omega,⟨(n.tdiv 128,p++[dgB n]),?_,g1,by omega⟩,g2,rfl,rfl,rfl,rfl,rfl,rfl,rfl,rfl,rfl,rfl⟩
  show p++[dgB n]++digI (n.tdiv 128)=_
  rw [<- hp,digI_more hge,zO];rfl
def P330:List Int×List Int->List SV:=fun (a,b)=>[.one (.row (.int .i32) a),.one (.row (.int .i32) b)]
def R330:List Int×List Int->SV×List Prop:=fun (a,b)=>(.one (.int .i64 (comN a b)),[a.length<=1099511627776])
def K330:Con:=⟨true,[some (.int .i32),some (.int .i32)],fun xs=>match xs with | [.one (.row (.int .i32) a),.one (.row (.int .i32) b)]=>some (R330 (a,b)) | _=>none⟩
noncomputable def G330:GP:=conG P330 R330
theorem P330_inj:∀ a b,(P330 a).map den0=(P330 b).map den0->a=b:=by
 rintro ⟨a0,a1⟩ ⟨b0,b1⟩ h
 simp only [P330,zK,List.map_nil,den0,den0L,zG,AV.one.injEq,AV.agg.injEq,Lf.int.injEq,Lf.str.injEq,Lf.bool.injEq,Lf.vrow.injEq,and_true,true_and,and_assoc] at h
 obtain ⟨h0,h1⟩:=h
 have h0:=row_inj h0
 have h1:=row_inj h1
 subst h0 h1
 rfl
theorem K330_ok:ConG G330 K330:=conG_of P330_inj (fun ⟨_,_⟩ ⟨_,_⟩=>rfl) (fun ⟨_,_⟩=>rfl) fun xs r h=>by
 simp only [K330] at h
 split at h
 ·cases h;rename_i a b;exact ⟨(a,b),rfl,rfl⟩
 ·cases h
theorem pr330 {S:SC} (hB:SB S)  (h330:S.has 330 f330):PrOk S 330 (pureP G330):=by
 refine prM hB [] [] trivial trivial h330 (fun ⟨a,b⟩=>⟨rfl,rfl,rfl⟩) (fun (a,b)=>fun f id T L=>match f,id with
  | 330,0=>some (.inv { i:Nat // i<=a.length/\i<=b.length/\comN a b=i+comN (a.drop i) (b.drop i) } (fun x=>([(4,.one (.int .i64 x.1))],[])) (fun x=>a.length-x.1))
  | _,_=>none) 1000 ?_
 rintro ⟨a,b⟩ hc
 have hc1:a.length<=1099511627776:=hc.1
 refine VC.use (p:=
  ((∃ x1:{ i:Nat // i≤a.length∧i≤b.length∧comN a b=i+comN (List.drop i a) (List.drop i b) },
    ((a=a) /\
    ((b=b) /\
    (0=(x1.1:Int))))) /\
  (∀ x1 : { i : Nat // i ≤ a.length ∧ i ≤ b.length ∧ comN a b = i + comN (List.drop i a) (List.drop i b) },
   (((↑x1.val:Int) < (↑a.length:Int) →
     (((↑x1.val:Int) < (↑b.length:Int) →
       ((0<=(x1.1:Int)/\(x1.1:Int)<(a.length:Int)) /\
       ((0<=(x1.1:Int)/\(x1.1:Int)<(b.length:Int)) /\
       ((a.getD x1.val 0=b.getD x1.val 0 →
         ((i64R ((x1.1:Int)+1)) /\
         (∃ x2 : { i : Nat // i ≤ a.length ∧ i ≤ b.length ∧ comN a b = i + comN (List.drop i a) (List.drop i b) },
          ((a.length-x2.1<a.length-x1.1) /\
          ((a=a) /\
          ((b=b) /\
          ((x1.1:Int)+1=(x2.1:Int)))))))) /\
       (¬a.getD x1.val 0 = b.getD x1.val 0 →
        ((x1.1:Int)=(↑(comN a b):Int))))))) /\
     (¬(↑x1.val : Int) < (↑b.length : Int) →
      ((x1.1:Int)=(↑(comN a b):Int))))) /\
   (¬(↑x1.val : Int) < (↑a.length : Int) →
    ((x1.1:Int)=(↑(comN a b):Int))))))) (by kernel_rfl) ?_
 refine ⟨⟨⟨0,Nat.zero_le _,Nat.zero_le _,by simp⟩,rfl,rfl,rfl⟩,?_⟩
 rintro ⟨i,h1,h2,h3⟩
 dsimp only
 refine ⟨fun ha=>⟨fun hb=>⟨by omega,by omega,fun he=>⟨by unfold i64R;omega,⟨i+1,by omega,by omega,?_⟩,by dsimp only;omega,rfl,rfl,by push_cast;rfl⟩,fun he=>?_⟩,fun hb=>?_⟩,fun ha=>?_⟩
 ·rw [h3,comN_step (by omega) (by omega),if_pos he];omega
 ·rw [h3,comN_step (by omega) (by omega),if_neg he];rfl
 ·rw [h3,comN_end (.inr (by omega))];rfl
 ·rw [h3,comN_end (.inl (by omega))];rfl
end Go.EA
end
