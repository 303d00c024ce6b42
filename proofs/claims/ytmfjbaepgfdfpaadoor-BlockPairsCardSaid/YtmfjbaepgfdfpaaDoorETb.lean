/- Layer 4: the reference's table, its distance and steps. Conditions: none. (Printed by a program of this project's own.) -/
import Derived.Test.YtmfjbaepgfdfpaaDoorEDi
import Derived.Test.YtmfjbaepgfdfpaaDoorEWk
import Derived.Test.YtmfjbaepgfdfpaaDoorEK9
import Derived.KernelRfl
set_option linter.unusedVariables false
set_option linter.unusedSimpArgs false
set_option maxRecDepth 100000
set_option maxHeartbeats 0
namespace Go.EA
open F
def Dt (a b:List Int) (i j:Nat):Int:=lev (rv a i) (rv b j)
def rowD (a b:List Int) (i:Nat):List Int:=tabl (Dt a b i) (b.length+1) (b.length+1)
def tabR (a b:List Int) (p:Nat):List (List Int):=(List.range (a.length+1)).map fun i=>if i < p then rowD a b i else []
def tabV (a b:List Int):List (List Int):=tabR a b (a.length+1)
theorem tabR_len (a b:List Int) (p:Nat):(tabR a b p).length=a.length+1:=by simp [tabR]
theorem rowD_len (a b:List Int) (i:Nat):(rowD a b i).length=b.length+1:=tabl_len _ _ _
theorem tabR_get {a b:List Int} {p i:Nat} (hi:i≤a.length):(tabR a b p).getD i []=if i < p then rowD a b i else []:=by
  rw [List.getD_eq_getElem?_getD,tabR,List.getElem?_map,List.getElem?_range (by omega)];rfl
theorem rowD_get {a b:List Int} {i j:Nat} (hj:j≤b.length):(rowD a b i).getD j 0=Dt a b i j:=by
  rw [rowD,tabl_get (by omega),if_pos (by omega)]
theorem tabR_zero (a b:List Int):tabR a b 0=List.replicate (a.length+1) []:=by
  apply List.ext_getElem?
  intro i
  rw [tabR,List.getElem?_map,List.getElem?_replicate]
  by_cases h:i < a.length+1
  · rw [List.getElem?_range h,if_pos h];rfl
  · rw [if_neg h,List.getElem?_eq_none (by simp;omega)];rfl
theorem tabR_set {a b:List Int} {p:Nat} (hp:p≤a.length):(tabR a b p).set p (rowD a b p)=tabR a b (p+1):=by
  apply List.ext_getElem?
  intro i
  by_cases e:i=p
  · subst e
    rw [List.getElem?_set_self (by rw [tabR_len];omega),tabR,List.getElem?_map,List.getElem?_range (by omega)]
    simp
  · rw [List.getElem?_set_ne (Ne.symm e),tabR,tabR,List.getElem?_map,List.getElem?_map]
    by_cases h:i < a.length+1
    · rw [List.getElem?_range h]
      simp only [Option.map_some,Option.some.injEq]
      by_cases h1:i < p
      · rw [if_pos h1,if_pos (by omega)]
      · rw [if_neg h1,if_neg (by omega)]
    · rw [List.getElem?_eq_none (by simp;omega)];rfl
theorem Dt_0 (a b:List Int) {j:Nat} (hj:j≤b.length):Dt a b 0 j=j:=by
  unfold Dt;rw [rv_zero,lev_nil_left,rv_len hj]
theorem Dt_00 (a b:List Int) {i:Nat} (hi:i≤a.length):Dt a b i 0=i:=by
  unfold Dt;rw [rv_zero,lev_nil_right,rv_len hi]
theorem Dt_ss {a b:List Int} {i j:Nat} (hi:i < a.length) (hj:j < b.length):Dt a b (i+1) (j+1)=min (Dt a b i j+if a.getD i 0=b.getD j 0 then 0 else 1) (min (Dt a b i (j+1)+1) (Dt a b (i+1) j+1)):=by
  unfold Dt
  rw [rv_succ hi,rv_succ hj,lev_cons]
  split <;> omega
theorem Dt_r (a b:List Int) {i j:Nat} (hi:i≤a.length) (hj:j≤b.length):0≤Dt a b i j∧Dt a b i j≤a.length+b.length:=by
  unfold Dt
  have:=lev_le (rv a i) (rv b j)
  rw [rv_len hi,rv_len hj] at this
  omega
def P242:List Int×List Int→List SV:=fun (a,b)=>[.one (.row (.int .i32) a),.one (.row (.int .i32) b)]
def R242:List Int×List Int→SV×List Prop:=fun (a,b)=>(.one (.row (.row (.int .i64)) (tabV a b)),[a.length≤1099511627776,b.length≤1099511627776])
def K242:Con:=⟨false,[some (.int .i32),some (.int .i32)],fun xs=>match xs with | [.one (.row (.int .i32) a),.one (.row (.int .i32) b)]=>some (R242 (a,b)) | _=>none⟩
noncomputable def G242:GP:=conG P242 R242
theorem P242_inj:∀ a b,(P242 a).map den0=(P242 b).map den0→a=b:=by
  rintro ⟨a0,a1⟩ ⟨b0,b1⟩ h
  simp only [P242,List.map_cons,List.map_nil,den0,den0L,List.cons.injEq,AV.one.injEq,AV.agg.injEq,Lf.int.injEq,Lf.str.injEq,Lf.bool.injEq,Lf.vrow.injEq,and_true,true_and,and_assoc] at h
  obtain ⟨h0,h1⟩:=h
  have h0:=row_inj h0
  have h1:=row_inj h1
  subst h0 h1
  rfl
theorem K242_ok:ConG G242 K242:=conG_of P242_inj (fun ⟨_,_⟩ ⟨_,_⟩=>rfl) (fun ⟨_,_⟩=>rfl) fun xs r h=>by
  simp only [K242] at h
  split at h
  · cases h;rename_i a b;exact ⟨(a,b),rfl,rfl⟩
  · cases h
theorem pr242 {S:SC} (hB:SB S)  (h242:S.has 242 f242):PrOk S 242 (pureP G242):=by
  refine prM hB [] [] trivial trivial h242 (fun ⟨a,b⟩=>⟨rfl,rfl,rfl⟩) (fun (a,b)=>fun f id T L=>match f,id with
      | 242,0=>some (.inv { p:Nat // p≤a.length+1 } (fun x=>([(15,.one (.int .i64 x.1))],[(0,.row (.row (.int .i64)) (tabR a b x.1))])) (fun x=>a.length+1 - x.1))
      | 242,2=>match T.getD 6 .junk with | .one (.int .i64 p)=>some (.inv { j:Nat // j≤b.length+1 } (fun x=>([(30,.one (.int .i64 x.1))],[(1,.row (.int .i64) (tabl (Dt a b p.toNat) (b.length+1) x.1))])) (fun x=>b.length+1 - x.1)) | _=>none
      | 242,2028=>some (.rnd 1)
      | 242,2087=>some (.rnd 1)
      | 242,2097=>some (.rnd 1)
      | 242,2037=>some (.rnd 0)
      | 242,2058=>some (.rnd 1)
      | 242,2065=>some (.rnd 0)
      | 242,2073=>some (.rnd 1)
      | _,_=>none) 1500 ?_
  rintro ⟨a,b⟩ hc
  have hc1:a.length≤1099511627776:=hc.1
  have hc2:b.length≤1099511627776:=hc.2.1
  refine VC.use (p:=
    ((i64R ((↑a.length:Int)+1)) ∧
    ((0≤(↑a.length:Int)+1∧(↑a.length:Int)+1=(↑a.length:Int)+1∧((↑a.length:Int)+1)*24≤140737488355328∧(↑a.length:Int)+1≤140737488355328) ∧
    ((∃ x1:{ p:Nat // p≤a.length+1 },
      ((a=a) ∧
      ((b=b) ∧
      (((↑((↑a.length:Int)+1).toNat:Int)=(↑((↑a.length:Int)+1).toNat:Int)) ∧
      ((0=(↑x1.val:Int)) ∧
      (tabR a b x1.val=List.replicate ((↑a.length:Int)+1).toNat [])))))) ∧
    (∀ x1 : { p : Nat // p ≤ a.length + 1 },
     (((↑x1.val:Int) < (↑((↑a.length:Int)+1).toNat:Int) →
       ((i64R ((↑b.length:Int)+1)) ∧
       ((0≤(↑b.length:Int)+1∧(↑b.length:Int)+1≤(↑b.length:Int)+1∧((↑b.length:Int)+1)*8≤140737488355328∧(↑b.length:Int)+1≤140737488355328) ∧
       ((0≤(↑x1.val:Int)∧(↑x1.val:Int) < (↑(tabR a b x1.val).length:Int)) ∧
       ((x1.val < (tabR a b x1.val).length) ∧
       ((0≤(↑x1.val:Int)∧(↑x1.val:Int) < (↑(tabR a b x1.val).length:Int)) ∧
       ((x1.val=x1.val) ∧
       ((x1.val < (tabR a b x1.val).length) ∧
       ((∃ x2:{ j:Nat // j≤b.length+1 },
         ((a=a) ∧
         ((b=b) ∧
         (((↑x1.val:Int)=(↑x1.val:Int)) ∧
         (((↑((↑a.length:Int)+1).toNat:Int)=(↑((↑a.length:Int)+1).toNat:Int)) ∧
         (((↑x1.val:Int)=(↑x1.val:Int)) ∧
         (((↑(List.replicate ((↑b.length:Int)+1).toNat (0:Int)).length:Int)=(↑(List.replicate ((↑b.length:Int)+1).toNat (0:Int)).length:Int)) ∧
         ((0=(↑x2.val:Int)) ∧
         ((tabR a b x1.val=tabR a b x1.val) ∧
         ((x1.val=x1.val) ∧
         (List.replicate ((↑b.length:Int)+1).toNat 0=tabl (Dt a b x1.val) (b.length+1) x2.val))))))))))) ∧
       (∀ x2 : { j : Nat // j ≤ b.length + 1 },
        (((↑x2.val:Int) < (↑(List.replicate ((↑b.length:Int)+1).toNat (0:Int)).length:Int) →
          (((↑x1.val:Int)=0 →
            ((0≤(↑x1.val:Int)∧(↑x1.val:Int) < (↑(tabR a b x1.val).length:Int)) ∧
            ((x1.val=x1.val) ∧
            ((x1.val < (tabR a b x1.val).length) ∧
            ((0≤(↑x2.val:Int)∧(↑x2.val:Int) < (↑(tabl (Dt a b x1.val) (b.length+1) x2.val).length:Int)) ∧
            ((x2.val < (tabl (Dt a b x1.val) (b.length+1) x2.val).length) ∧
            ((i64R ((↑x2.val:Int)+1)) ∧
            (∃ x3 : { j : Nat // j ≤ b.length + 1 },
             ((b.length+1 - x3.val < b.length+1 - x2.val) ∧
             ((a=a) ∧
             ((b=b) ∧
             (((↑x1.val:Int)=(↑x1.val:Int)) ∧
             (((↑((↑a.length:Int)+1).toNat:Int)=(↑((↑a.length:Int)+1).toNat:Int)) ∧
             (((↑x1.val:Int)=(↑x1.val:Int)) ∧
             (((↑(List.replicate ((↑b.length:Int)+1).toNat (0:Int)).length:Int)=(↑(List.replicate ((↑b.length:Int)+1).toNat (0:Int)).length:Int)) ∧
             (((↑x2.val:Int)+1=(↑x3.val:Int)) ∧
             ((tabR a b x1.val=tabR a b x1.val) ∧
             ((x1.val=x1.val) ∧
             ((tabl (Dt a b x1.val) (b.length+1) x2.val).set x2.val (↑x2.val:Int)=tabl (Dt a b x1.val) (b.length+1) x3.val))))))))))))))))))) ∧
          (¬(↑x1.val : Int) = 0 →
           (((↑x2.val:Int)=0 →
             ((0≤(↑x1.val:Int)∧(↑x1.val:Int) < (↑(tabR a b x1.val).length:Int)) ∧
             ((x1.val=x1.val) ∧
             ((x1.val < (tabR a b x1.val).length) ∧
             ((0≤(↑x2.val:Int)∧(↑x2.val:Int) < (↑(tabl (Dt a b x1.val) (b.length+1) x2.val).length:Int)) ∧
             ((x2.val < (tabl (Dt a b x1.val) (b.length+1) x2.val).length) ∧
             ((i64R ((↑x2.val:Int)+1)) ∧
             (∃ x3 : { j : Nat // j ≤ b.length + 1 },
              ((b.length+1 - x3.val < b.length+1 - x2.val) ∧
              ((a=a) ∧
              ((b=b) ∧
              (((↑x1.val:Int)=(↑x1.val:Int)) ∧
              (((↑((↑a.length:Int)+1).toNat:Int)=(↑((↑a.length:Int)+1).toNat:Int)) ∧
              (((↑x1.val:Int)=(↑x1.val:Int)) ∧
              (((↑(List.replicate ((↑b.length:Int)+1).toNat (0:Int)).length:Int)=(↑(List.replicate ((↑b.length:Int)+1).toNat (0:Int)).length:Int)) ∧
              (((↑x2.val:Int)+1=(↑x3.val:Int)) ∧
              ((tabR a b x1.val=tabR a b x1.val) ∧
              ((x1.val=x1.val) ∧
              ((tabl (Dt a b x1.val) (b.length+1) x2.val).set x2.val (↑x1.val:Int)=tabl (Dt a b x1.val) (b.length+1) x3.val))))))))))))))))))) ∧
           (¬(↑x2.val : Int) = 0 →
            ((i64R ((↑x1.val:Int) - 1)) ∧
            ((0≤(↑x1.val:Int) - 1∧(↑x1.val:Int) - 1 < (↑(tabR a b x1.val).length:Int)) ∧
            ((¬((↑x1.val:Int) - 1).toNat=x1.val) ∧
            ((((↑x1.val:Int) - 1).toNat < (tabR a b x1.val).length) ∧
            ((i64R ((↑x2.val:Int) - 1)) ∧
            ((0≤(↑x2.val:Int) - 1∧(↑x2.val:Int) - 1 < (↑((tabR a b x1.val).getD ((↑x1.val:Int) - 1).toNat []).length:Int)) ∧
            ((i64R ((↑x1.val:Int) - 1)) ∧
            ((0≤(↑x1.val:Int) - 1∧(↑x1.val:Int) - 1 < (↑a.length:Int)) ∧
            ((i64R ((↑x2.val:Int) - 1)) ∧
            ((0≤(↑x2.val:Int) - 1∧(↑x2.val:Int) - 1 < (↑b.length:Int)) ∧
            ((a.getD ((↑x1.val:Int) - 1).toNat 0=b.getD ((↑x2.val:Int) - 1).toNat 0 →
              ((0≤(↑x1.val:Int)∧(↑x1.val:Int) < (↑(tabR a b x1.val).length:Int)) ∧
              ((x1.val=x1.val) ∧
              ((x1.val < (tabR a b x1.val).length) ∧
              ((i64R ((↑x1.val:Int) - 1)) ∧
              ((0≤(↑x1.val:Int) - 1∧(↑x1.val:Int) - 1 < (↑(tabR a b x1.val).length:Int)) ∧
              ((¬((↑x1.val:Int) - 1).toNat=x1.val) ∧
              ((((↑x1.val:Int) - 1).toNat < (tabR a b x1.val).length) ∧
              ((0≤(↑x2.val:Int)∧(↑x2.val:Int) < (↑((tabR a b x1.val).getD ((↑x1.val:Int) - 1).toNat []).length:Int)) ∧
              ((i64R (((tabR a b x1.val).getD ((↑x1.val:Int) - 1).toNat []).getD x2.val 0+1)) ∧
              ((0≤(↑x1.val:Int)∧(↑x1.val:Int) < (↑(tabR a b x1.val).length:Int)) ∧
              ((x1.val=x1.val) ∧
              ((x1.val < (tabR a b x1.val).length) ∧
              ((i64R ((↑x2.val:Int) - 1)) ∧
              ((0≤(↑x2.val:Int) - 1∧(↑x2.val:Int) - 1 < (↑(tabl (Dt a b x1.val) (b.length+1) x2.val).length:Int)) ∧
              ((((↑x2.val:Int) - 1).toNat < (tabl (Dt a b x1.val) (b.length+1) x2.val).length) ∧
              ((i64R ((tabl (Dt a b x1.val) (b.length+1) x2.val).getD ((↑x2.val:Int) - 1).toNat 0+1)) ∧
              ((0≤(↑x2.val:Int)∧(↑x2.val:Int) < (↑(tabl (Dt a b x1.val) (b.length+1) x2.val).length:Int)) ∧
              ((x2.val < (tabl (Dt a b x1.val) (b.length+1) x2.val).length) ∧
              ((i64R ((↑x2.val:Int)+1)) ∧
              (∃ x3 : { j : Nat // j ≤ b.length + 1 },
               ((b.length+1 - x3.val < b.length+1 - x2.val) ∧
               ((a=a) ∧
               ((b=b) ∧
               (((↑x1.val:Int)=(↑x1.val:Int)) ∧
               (((↑((↑a.length:Int)+1).toNat:Int)=(↑((↑a.length:Int)+1).toNat:Int)) ∧
               (((↑x1.val:Int)=(↑x1.val:Int)) ∧
               (((↑(List.replicate ((↑b.length:Int)+1).toNat (0:Int)).length:Int)=(↑(List.replicate ((↑b.length:Int)+1).toNat (0:Int)).length:Int)) ∧
               (((↑x2.val:Int)+1=(↑x3.val:Int)) ∧
               ((tabR a b x1.val=tabR a b x1.val) ∧
               ((x1.val=x1.val) ∧
               ((tabl (Dt a b x1.val) (b.length+1) x2.val).set x2.val     ((if (tabl (Dt a b x1.val) (b.length+1) x2.val).getD ((↑x2.val:Int) - 1).toNat 0+1 < (if ((tabR a b x1.val).getD ((↑x1.val:Int) - 1).toNat []).getD x2.val 0+1 < ((tabR a b x1.val).getD ((↑x1.val:Int) - 1).toNat []).getD ((↑x2.val:Int) - 1).toNat 0 then ((tabR a b x1.val).getD ((↑x1.val:Int) - 1).toNat []).getD x2.val 0+1 else ((tabR a b x1.val).getD ((↑x1.val:Int) - 1).toNat []).getD ((↑x2.val:Int) - 1).toNat 0)then (tabl (Dt a b x1.val) (b.length+1) x2.val).getD ((↑x2.val:Int) - 1).toNat 0+1 else (if ((tabR a b x1.val).getD ((↑x1.val:Int) - 1).toNat []).getD x2.val 0+1 < ((tabR a b x1.val).getD ((↑x1.val:Int) - 1).toNat []).getD ((↑x2.val:Int) - 1).toNat 0 then ((tabR a b x1.val).getD ((↑x1.val:Int) - 1).toNat []).getD x2.val 0+1 else ((tabR a b x1.val).getD ((↑x1.val:Int) - 1).toNat []).getD ((↑x2.val:Int) - 1).toNat 0))) =   tabl (Dt a b x1.val) (b.length+1) x3.val)))))))))))))))))))))))))))))))) ∧
            (¬a.getD ((↑x1.val : Int) - 1).toNat 0 = b.getD ((↑x2.val : Int) - 1).toNat 0 →
             ((i64R (((tabR a b x1.val).getD ((↑x1.val:Int) - 1).toNat []).getD ((↑x2.val:Int) - 1).toNat 0+1)) ∧
             ((0≤(↑x1.val:Int)∧(↑x1.val:Int) < (↑(tabR a b x1.val).length:Int)) ∧
             ((x1.val=x1.val) ∧
             ((x1.val < (tabR a b x1.val).length) ∧
             ((i64R ((↑x1.val:Int) - 1)) ∧
             ((0≤(↑x1.val:Int) - 1∧(↑x1.val:Int) - 1 < (↑(tabR a b x1.val).length:Int)) ∧
             ((¬((↑x1.val:Int) - 1).toNat=x1.val) ∧
             ((((↑x1.val:Int) - 1).toNat < (tabR a b x1.val).length) ∧
             ((0≤(↑x2.val:Int)∧(↑x2.val:Int) < (↑((tabR a b x1.val).getD ((↑x1.val:Int) - 1).toNat []).length:Int)) ∧
             ((i64R (((tabR a b x1.val).getD ((↑x1.val:Int) - 1).toNat []).getD x2.val 0+1)) ∧
             ((0≤(↑x1.val:Int)∧(↑x1.val:Int) < (↑(tabR a b x1.val).length:Int)) ∧
             ((x1.val=x1.val) ∧
             ((x1.val < (tabR a b x1.val).length) ∧
             ((i64R ((↑x2.val:Int) - 1)) ∧
             ((0≤(↑x2.val:Int) - 1∧(↑x2.val:Int) - 1 < (↑(tabl (Dt a b x1.val) (b.length+1) x2.val).length:Int)) ∧
             ((((↑x2.val:Int) - 1).toNat < (tabl (Dt a b x1.val) (b.length+1) x2.val).length) ∧
             ((i64R ((tabl (Dt a b x1.val) (b.length+1) x2.val).getD ((↑x2.val:Int) - 1).toNat 0+1)) ∧
             ((0≤(↑x2.val:Int)∧(↑x2.val:Int) < (↑(tabl (Dt a b x1.val) (b.length+1) x2.val).length:Int)) ∧
             ((x2.val < (tabl (Dt a b x1.val) (b.length+1) x2.val).length) ∧
             ((i64R ((↑x2.val:Int)+1)) ∧
             (∃ x3 : { j : Nat // j ≤ b.length + 1 },
              ((b.length+1 - x3.val < b.length+1 - x2.val) ∧
              ((a=a) ∧
              ((b=b) ∧
              (((↑x1.val:Int)=(↑x1.val:Int)) ∧
              (((↑((↑a.length:Int)+1).toNat:Int)=(↑((↑a.length:Int)+1).toNat:Int)) ∧
              (((↑x1.val:Int)=(↑x1.val:Int)) ∧
              (((↑(List.replicate ((↑b.length:Int)+1).toNat (0:Int)).length:Int)=(↑(List.replicate ((↑b.length:Int)+1).toNat (0:Int)).length:Int)) ∧
              (((↑x2.val:Int)+1=(↑x3.val:Int)) ∧
              ((tabR a b x1.val=tabR a b x1.val) ∧
              ((x1.val=x1.val) ∧
              ((tabl (Dt a b x1.val) (b.length+1) x2.val).set x2.val     ((if (tabl (Dt a b x1.val) (b.length+1) x2.val).getD ((↑x2.val:Int) - 1).toNat 0+1 < (if ((tabR a b x1.val).getD ((↑x1.val:Int) - 1).toNat []).getD x2.val 0+1 < ((tabR a b x1.val).getD ((↑x1.val:Int) - 1).toNat []).getD ((↑x2.val:Int) - 1).toNat 0+1 then ((tabR a b x1.val).getD ((↑x1.val:Int) - 1).toNat []).getD x2.val 0+1 else ((tabR a b x1.val).getD ((↑x1.val:Int) - 1).toNat []).getD ((↑x2.val:Int) - 1).toNat 0+1)then (tabl (Dt a b x1.val) (b.length+1) x2.val).getD ((↑x2.val:Int) - 1).toNat 0+1 else (if ((tabR a b x1.val).getD ((↑x1.val:Int) - 1).toNat []).getD x2.val 0+1 < ((tabR a b x1.val).getD ((↑x1.val:Int) - 1).toNat []).getD ((↑x2.val:Int) - 1).toNat 0+1 then ((tabR a b x1.val).getD ((↑x1.val:Int) - 1).toNat []).getD x2.val 0+1 else ((tabR a b x1.val).getD ((↑x1.val:Int) - 1).toNat []).getD ((↑x2.val:Int) - 1).toNat 0+1))) =   tabl (Dt a b x1.val) (b.length+1) x3.val))))))))))))))))))))))))))))))))))))))))))))))))) ∧
        (¬(↑x2.val : Int) < (↑(List.replicate ((↑b.length : Int) + 1).toNat (0 : Int)).length : Int) →
         ((i64R ((↑x1.val:Int)+1)) ∧
         (∃ x3 : { p : Nat // p ≤ a.length + 1 },
          ((a.length+1 - x3.val < a.length+1 - x1.val) ∧
          ((a=a) ∧
          ((b=b) ∧
          (((↑((↑a.length:Int)+1).toNat:Int)=(↑((↑a.length:Int)+1).toNat:Int)) ∧
          (((↑x1.val:Int)+1=(↑x3.val:Int)) ∧
          ((tabR a b x1.val).set x1.val (tabl (Dt a b x1.val) (b.length+1) x2.val)=tabR a b x3.val)))))))))))))))))))) ∧
     (¬(↑x1.val : Int) < (↑((↑a.length : Int) + 1).toNat : Int) →
      (tabR a b x1.val=tabV a b)))))))) (by kernel_rfl) ?_
  have e0:((↑a.length:Int)+1).toNat=a.length+1:=by omega
  have e1:((↑b.length:Int)+1).toNat=b.length+1:=by omega
  refine ⟨by unfold i64R;omega,by omega,⟨⟨0,by omega⟩,rfl,rfl,rfl,rfl,by rw [tabR_zero,e0]⟩,?_⟩
  rintro ⟨p,hp⟩
  dsimp only at hp ⊢
  simp only [tabR_len,tabl_len,List.length_replicate,e0,e1]
  refine ⟨fun h=>⟨by unfold i64R;omega,by omega,by omega,by omega,by omega,trivial,by omega,⟨⟨0,by omega⟩,trivial,trivial,trivial,trivial,trivial,trivial,rfl,trivial,trivial,(tabl_zero _ _).symm⟩,?_⟩,fun h=>?_⟩
  rotate_left
  · obtain rfl:p=a.length+1:=by omega
    rfl
  rintro ⟨j,hj⟩
  dsimp only at hj ⊢
  refine ⟨fun h1=>⟨fun h2=>?_,fun h2=>⟨fun h3=>?_,fun h3=>?_⟩⟩,fun h1=>?_⟩
  · obtain rfl:p=0:=by omega
    exact ⟨by omega,trivial,by omega,by omega,by omega,by unfold i64R;omega,⟨j+1,by omega⟩,by dsimp only;omega,trivial,trivial,trivial,trivial,trivial,trivial,by push_cast;rfl,trivial,trivial,tabl_set (Dt_0 a b (by omega)).symm⟩
  · obtain rfl:j=0:=by omega
    exact ⟨by omega,trivial,by omega,by omega,by omega,by unfold i64R;omega,⟨1,by omega⟩,by dsimp only;omega,trivial,trivial,trivial,trivial,trivial,trivial,rfl,trivial,trivial,tabl_set (Dt_00 a b (by omega)).symm⟩
  · obtain ⟨p,rfl⟩:∃ q,p=q+1:=⟨p - 1,by omega⟩
    obtain ⟨j,rfl⟩:∃ q,j=q+1:=⟨j - 1,by omega⟩
    have t1:(((p+1:Nat):Int) - 1).toNat=p:=by omega
    have t2:(((j+1:Nat):Int) - 1).toNat=j:=by omega
    have g1:(tabR a b (p+1)).getD p []=rowD a b p:=by rw [tabR_get (by omega),if_pos (by omega)]
    have r1:(rowD a b p).getD j 0=Dt a b p j:=rowD_get (by omega)
    have r2:(rowD a b p).getD (j+1) 0=Dt a b p (j+1):=rowD_get (by omega)
    have r3:(tabl (Dt a b (p+1)) (b.length+1) (j+1)).getD j 0=Dt a b (p+1) j:=by rw [tabl_get (by omega),if_pos (by omega)]
    have m:=Dt_ss (a:=a) (b:=b) (i:=p) (j:=j) (by omega) (by omega)
    have b1:=Dt_r a b (i:=p) (j:=j) (by omega) (by omega)
    have b2:=Dt_r a b (i:=p) (j:=j+1) (by omega) (by omega)
    have b3:=Dt_r a b (i:=p+1) (j:=j) (by omega) (by omega)
    simp only [t1,t2,g1,r1,r2,r3,rowD_len]
    refine ⟨by unfold i64R;omega,by omega,by omega,by omega,by unfold i64R;omega,by omega,by unfold i64R;omega,by omega,by unfold i64R;omega,by omega,fun h4=>?_,fun h4=>?_⟩
    · rw [if_pos h4] at m
      exact ⟨by omega,trivial,by omega,by unfold i64R; omega,by omega,by omega,by omega,by omega,by unfold i64R; omega,by omega,trivial,by omega,by unfold i64R; omega,by omega,by omega,by unfold i64R; omega,by omega,by omega,by unfold i64R; omega,⟨j+2,by omega⟩,by dsimp only; omega,trivial,trivial,trivial,trivial,trivial,trivial,by push_cast; rfl,trivial,trivial,tabl_set (by rw [m]; split <;> split <;> omega)⟩
    · rw [if_neg h4] at m
      exact ⟨by unfold i64R; omega,by omega,trivial,by omega,by unfold i64R; omega,by omega,by omega,by omega,by omega,by unfold i64R; omega,by omega,trivial,by omega,by unfold i64R; omega,by omega,by omega,by unfold i64R; omega,by omega,by omega,by unfold i64R; omega,⟨j+2,by omega⟩,by dsimp only; omega,trivial,trivial,trivial,trivial,trivial,trivial,by push_cast; rfl,trivial,trivial,tabl_set (by rw [m]; split <;> split <;> omega)⟩
  · obtain rfl:j=b.length+1:=by omega
    exact ⟨by unfold i64R;omega,⟨p+1,by omega⟩,by dsimp only;omega,trivial,trivial,trivial,by push_cast;rfl,tabR_set (by omega)⟩
end Go.EA
