/- Layer 4: a grid. Conditions: none. (Printed by a program of this project's own.) -/
import Derived.Test.YtmfjbaepgfdfpaaDoorEAf4
import Derived.Test.YtmfjbaepgfdfpaaDoorEK9
import Derived.KernelRfl
set_option linter.unusedVariables false
set_option linter.unusedSimpArgs false
set_option maxRecDepth 100000
set_option maxHeartbeats 0
namespace Go.EA
open F
def tryS (s t:Int×Int):Int×Int:=if t.2 < s.2 then t else s
def bestOf (a b few:List Int) (i j:Int):Int×Int:=
  let g:=fun (x y:Int)=>few.getD (x*((b.length:Int)+1)+y).toNat 0
  let s1:=if 0 < i∧0 < j then tryS (0,255) (if a.getD (i - 1).toNat 0=b.getD (j - 1).toNat 0 then (0,g (i - 1) (j - 1)) else (1,IntKind.u8.wrap (g (i - 1) (j - 1)+1))) else (0,255)
  let s2:=if 0 < i then tryS s1 (2,IntKind.u8.wrap (g (i - 1) j+1)) else s1
  if 0 < j then tryS s2 (3,IntKind.u8.wrap (g i (j - 1)+1)) else s2
theorem grid_lt {m n x y:Int} (h1:0≤x) (h2:x≤m) (h3:0≤y) (h4:y≤n):0≤x*(n+1)+y∧x*(n+1)+y < (m+1)*(n+1):=by
  have h5:x*(n+1)≤m*(n+1):=Int.mul_le_mul_of_nonneg_right h2 (by omega)
  have h6:0≤x*(n+1):=Int.mul_nonneg h1 (by omega)
  rw [Int.add_mul m 1 (n+1)]
  omega
def P256:List (Int)×List (Int)×List (Int)×List (Int)×Int×Int→List SV:=fun (g0,g1,g2,g3,i,j)=>[.one (.vptr (.pair (.row (.int .i32)) (.pair (.row (.int .i32)) (.pair (.row (.int .u8)) (.row (.int .u8))))) (g0,g1,g2,g3) 0),.one (.int .i64 i),.one (.int .i64 j)]
def R256:List (Int)×List (Int)×List (Int)×List (Int)×Int×Int→SV×List Prop:=fun (g0,g1,g2,g3,i,j)=>(.one (.int .i64 (i*((g1.length:Int)+1)+j)),[0≤i∧i≤1048576,0≤j∧j≤1048576,g1.length≤1048576])
def K256:Con:=⟨true,[some (.pair (.row (.int .i32)) (.pair (.row (.int .i32)) (.pair (.row (.int .u8)) (.row (.int .u8))))),none,none],fun xs=>match xs with | [.one (.vptr (.pair (.row (.int .i32)) (.pair (.row (.int .i32)) (.pair (.row (.int .u8)) (.row (.int .u8))))) (g0,g1,g2,g3) 0),.one (.int .i64 i),.one (.int .i64 j)]=>some (R256 (g0,g1,g2,g3,i,j)) | _=>none⟩
noncomputable def G256:GP:=conG P256 R256
theorem P256_inj:∀ a b,(P256 a).map den0=(P256 b).map den0→a=b:=by
  rintro ⟨a0,a1,a2,a3,a4,a5⟩ ⟨b0,b1,b2,b3,b4,b5⟩ h
  simp only [P256,List.map_cons,List.map_nil,den0,den0L,List.drop_zero,List.cons.injEq,AV.one.injEq,AV.agg.injEq,Lf.int.injEq,Lf.str.injEq,Lf.bool.injEq,Lf.vrow.injEq,Lf.vptr.injEq,and_true,true_and,and_assoc] at h
  obtain ⟨h0,h1,h2⟩:=h
  have h0:=Ty.enc_inj _ h0
  simp only [Prod.mk.injEq] at h0
  obtain ⟨rfl,rfl,rfl,rfl⟩:=h0
  subst h1
  subst h2
  rfl
theorem K256_ok:ConG G256 K256:=conG_of P256_inj (fun ⟨_,_,_,_,_,_⟩ ⟨_,_,_,_,_,_⟩=>rfl) (fun ⟨_,_,_,_,_,_⟩=>rfl) fun xs r h=>by
  simp only [K256] at h
  split at h
  · cases h;rename_i g0 g1 g2 g3 i j;exact ⟨(g0,g1,g2,g3,i,j),rfl,rfl⟩
  · cases h
theorem pr256 {S:SC} (hB:SB S)  (h256:S.has 256 f256):PrOk S 256 (pureP G256):=by
  refine prM hB [] [] trivial trivial h256 (fun ⟨g0,g1,g2,g3,i,j⟩=>⟨rfl,rfl,rfl⟩) (fun (g0,g1,g2,g3,i,j)=>fun _ _ _ _=>none) 400 ?_
  rintro ⟨g0,g1,g2,g3,i,j⟩ hc
  have hc1:0≤i∧i≤1048576:=hc.1
  have hc2:0≤j∧j≤1048576:=hc.2.1
  have hc3:g1.length≤1048576:=hc.2.2.1
  refine VC.use (p:=
    ((i64R ((↑(List.length (g1,g2,g3).fst):Int)+1)) ∧
    ((i64R (i*((↑(List.length (g1,g2,g3).fst):Int)+1))) ∧
    ((i64R (i*((↑(List.length (g1,g2,g3).fst):Int)+1)+j)) ∧
    (i*((↑(List.length (g1,g2,g3).fst):Int)+1)+j=i*((↑g1.length:Int)+1)+j))))) (by kernel_rfl) ?_
  refine ⟨by unfold i64R;dsimp only;omega,?_,?_,rfl⟩
  · have h1:i*((g1.length:Int)+1)≤1048576*1048577:=Int.mul_le_mul (by omega) (by omega) (by omega) (by omega)
    have h2:0≤i*((g1.length:Int)+1):=Int.mul_nonneg (by omega) (by omega)
    unfold i64R;dsimp only;omega
  · have h1:i*((g1.length:Int)+1)≤1048576*1048577:=Int.mul_le_mul (by omega) (by omega) (by omega) (by omega)
    have h2:0≤i*((g1.length:Int)+1):=Int.mul_nonneg (by omega) (by omega)
    unfold i64R;dsimp only;omega
def P255:List (Int)×List (Int)×List (Int)×List (Int)×Int×Int→List SV:=fun (g0,g1,g2,g3,i,j)=>[.one (.vptr (.pair (.row (.int .i32)) (.pair (.row (.int .i32)) (.pair (.row (.int .u8)) (.row (.int .u8))))) (g0,g1,g2,g3) 0),.one (.int .i64 i),.one (.int .i64 j)]
def R255:List (Int)×List (Int)×List (Int)×List (Int)×Int×Int→SV×List Prop:=fun (g0,g1,g2,g3,i,j)=>(.tup [.o (.int .u8 (bestOf g0 g1 g2 i j).1),.o (.int .u8 (bestOf g0 g1 g2 i j).2)],[0≤i∧i≤g0.length,0≤j∧j≤g1.length,g0.length≤1048575∧g1.length≤1048575,(g2.length:Int)=((g0.length:Int)+1)*((g1.length:Int)+1)])
def K255:Con:=⟨true,[some (.pair (.row (.int .i32)) (.pair (.row (.int .i32)) (.pair (.row (.int .u8)) (.row (.int .u8))))),none,none],fun xs=>match xs with | [.one (.vptr (.pair (.row (.int .i32)) (.pair (.row (.int .i32)) (.pair (.row (.int .u8)) (.row (.int .u8))))) (g0,g1,g2,g3) 0),.one (.int .i64 i),.one (.int .i64 j)]=>some (R255 (g0,g1,g2,g3,i,j)) | _=>none⟩
noncomputable def G255:GP:=conG P255 R255
theorem P255_inj:∀ a b,(P255 a).map den0=(P255 b).map den0→a=b:=by
  rintro ⟨a0,a1,a2,a3,a4,a5⟩ ⟨b0,b1,b2,b3,b4,b5⟩ h
  simp only [P255,List.map_cons,List.map_nil,den0,den0L,List.drop_zero,List.cons.injEq,AV.one.injEq,AV.agg.injEq,Lf.int.injEq,Lf.str.injEq,Lf.bool.injEq,Lf.vrow.injEq,Lf.vptr.injEq,and_true,true_and,and_assoc] at h
  obtain ⟨h0,h1,h2⟩:=h
  have h0:=Ty.enc_inj _ h0
  simp only [Prod.mk.injEq] at h0
  obtain ⟨rfl,rfl,rfl,rfl⟩:=h0
  subst h1
  subst h2
  rfl
theorem K255_ok:ConG G255 K255:=conG_of P255_inj (fun ⟨_,_,_,_,_,_⟩ ⟨_,_,_,_,_,_⟩=>rfl) (fun ⟨_,_,_,_,_,_⟩=>rfl) fun xs r h=>by
  simp only [K255] at h
  split at h
  · cases h;rename_i g0 g1 g2 g3 i j;exact ⟨(g0,g1,g2,g3,i,j),rfl,rfl⟩
  · cases h
theorem pr255 {S:SC} (hB:SB S) (q256:PrOk S 256 (pureP G256)) (h262:S.has 262 f262) (h255:S.has 255 f255):PrOk S 255 (pureP G255):=by
  refine prM hB [(262,f262)] [⟨256,G256,K256⟩] ⟨h262,trivial⟩ ⟨⟨q256,K256_ok⟩,trivial⟩ h255 (fun ⟨g0,g1,g2,g3,i,j⟩=>⟨rfl,rfl,rfl⟩) (fun (g0,g1,g2,g3,i,j)=>fun _ _ _ _=>none) 900 ?_
  rintro ⟨g0,g1,g2,g3,i,j⟩ hc
  have hc1:0≤i∧i≤g0.length:=hc.1
  have hc2:0≤j∧j≤g1.length:=hc.2.1
  have hc3:g0.length≤1048575∧g1.length≤1048575:=hc.2.2.1
  have hc4:(g2.length:Int)=((g0.length:Int)+1)*((g1.length:Int)+1):=hc.2.2.2.1
  refine VC.use (p:=
    ((0 < i →
      ((0 < j →
        ((i64R (i - 1)) ∧
        ((i64R (j - 1)) ∧
        ((0≤i - 1∧i - 1≤1048576) ∧
        ((0≤j - 1∧j - 1≤1048576) ∧
        ((g1.length≤1048576) ∧
        ((0≤(i - 1)*((↑g1.length:Int)+1)+(j - 1)∧(i - 1)*((↑g1.length:Int)+1)+(j - 1) < (↑(List.length (g1,g2,g3).snd.fst):Int)) ∧
        ((i64R (i - 1)) ∧
        ((0≤i - 1∧i - 1 < (↑g0.length:Int)) ∧
        ((i64R (j - 1)) ∧
        ((0≤j - 1∧j - 1 < (↑(List.length (g1,g2,g3).fst):Int)) ∧
        ((g0.getD (i - 1).toNat 0=List.getD (g1,g2,g3).fst (j - 1).toNat 0 →
          ((List.getD (g1,g2,g3).snd.fst ((i - 1)*((↑g1.length:Int)+1)+(j - 1)).toNat 0 < 255 →
            ((0 < i →
              ((i64R (i - 1)) ∧
              ((0≤i - 1∧i - 1≤1048576) ∧
              ((0≤j∧j≤1048576) ∧
              ((g1.length≤1048576) ∧
              ((0≤(i - 1)*((↑g1.length:Int)+1)+j∧(i - 1)*((↑g1.length:Int)+1)+j < (↑(List.length (g1,g2,g3).snd.fst):Int)) ∧
              ((IntKind.u8.wrap (List.getD (g1,g2,g3).snd.fst ((i - 1)*((↑g1.length:Int)+1)+j).toNat 0+1) < List.getD (g1,g2,g3).snd.fst ((i - 1)*((↑g1.length:Int)+1)+(j - 1)).toNat 0 →
                ((0 < j →
                  ((i64R (j - 1)) ∧
                  ((0≤i∧i≤1048576) ∧
                  ((0≤j - 1∧j - 1≤1048576) ∧
                  ((g1.length≤1048576) ∧
                  ((0≤i*((↑g1.length:Int)+1)+(j - 1)∧i*((↑g1.length:Int)+1)+(j - 1) < (↑(List.length (g1,g2,g3).snd.fst):Int)) ∧
                  ((IntKind.u8.wrap (List.getD (g1,g2,g3).snd.fst (i*((↑g1.length:Int)+1)+(j - 1)).toNat 0+1) < IntKind.u8.wrap (List.getD (g1,g2,g3).snd.fst ((i - 1)*((↑g1.length:Int)+1)+j).toNat 0+1) →
                    (((3 = (bestOf g0 g1 g2 i j).fst) ∧
                     (IntKind.u8.wrap (List.getD (g1,g2,g3).snd.fst (i*((↑g1.length:Int)+1)+(j - 1)).toNat 0+1)=(bestOf g0 g1 g2 i j).snd)) ∧
                    ((3=(bestOf g0 g1 g2 i j).fst) ∧
                    (IntKind.u8.wrap (List.getD (g1,g2,g3).snd.fst (i*((↑g1.length:Int)+1)+(j - 1)).toNat 0+1)=(bestOf g0 g1 g2 i j).snd)))) ∧
                  (¬IntKind.u8.wrap (List.getD (g1, g2, g3).snd.fst (i * ((↑g1.length : Int) + 1) + (j - 1)).toNat 0 + 1) < IntKind.u8.wrap (List.getD (g1, g2, g3).snd.fst ((i - 1) * ((↑g1.length : Int) + 1) + j).toNat 0 + 1) →
                   (((2 = (bestOf g0 g1 g2 i j).fst) ∧
                    (IntKind.u8.wrap (List.getD (g1,g2,g3).snd.fst ((i - 1)*((↑g1.length:Int)+1)+j).toNat 0+1)=(bestOf g0 g1 g2 i j).snd)) ∧
                   ((2=(bestOf g0 g1 g2 i j).fst) ∧
                   (IntKind.u8.wrap (List.getD (g1,g2,g3).snd.fst ((i - 1)*((↑g1.length:Int)+1)+j).toNat 0+1)=(bestOf g0 g1 g2 i j).snd))))))))))) ∧
                (¬0 < j →
                 (((2 = (bestOf g0 g1 g2 i j).fst) ∧
                  (IntKind.u8.wrap (List.getD (g1,g2,g3).snd.fst ((i - 1)*((↑g1.length:Int)+1)+j).toNat 0+1)=(bestOf g0 g1 g2 i j).snd)) ∧
                 ((2=(bestOf g0 g1 g2 i j).fst) ∧
                 (IntKind.u8.wrap (List.getD (g1,g2,g3).snd.fst ((i - 1)*((↑g1.length:Int)+1)+j).toNat 0+1)=(bestOf g0 g1 g2 i j).snd)))))) ∧
              (¬IntKind.u8.wrap (List.getD (g1, g2, g3).snd.fst ((i - 1) * ((↑g1.length : Int) + 1) + j).toNat 0 + 1) < List.getD (g1, g2, g3).snd.fst ((i - 1) * ((↑g1.length : Int) + 1) + (j - 1)).toNat 0 →
               ((0 < j →
                 ((i64R (j - 1)) ∧
                 ((0≤i∧i≤1048576) ∧
                 ((0≤j - 1∧j - 1≤1048576) ∧
                 ((g1.length≤1048576) ∧
                 ((0≤i*((↑g1.length:Int)+1)+(j - 1)∧i*((↑g1.length:Int)+1)+(j - 1) < (↑(List.length (g1,g2,g3).snd.fst):Int)) ∧
                 ((IntKind.u8.wrap (List.getD (g1,g2,g3).snd.fst (i*((↑g1.length:Int)+1)+(j - 1)).toNat 0+1) < List.getD (g1,g2,g3).snd.fst ((i - 1)*((↑g1.length:Int)+1)+(j - 1)).toNat 0 →
                   (((3 = (bestOf g0 g1 g2 i j).fst) ∧
                    (IntKind.u8.wrap (List.getD (g1,g2,g3).snd.fst (i*((↑g1.length:Int)+1)+(j - 1)).toNat 0+1)=(bestOf g0 g1 g2 i j).snd)) ∧
                   ((3=(bestOf g0 g1 g2 i j).fst) ∧
                   (IntKind.u8.wrap (List.getD (g1,g2,g3).snd.fst (i*((↑g1.length:Int)+1)+(j - 1)).toNat 0+1)=(bestOf g0 g1 g2 i j).snd)))) ∧
                 (¬IntKind.u8.wrap (List.getD (g1, g2, g3).snd.fst (i * ((↑g1.length : Int) + 1) + (j - 1)).toNat 0 + 1) < List.getD (g1, g2, g3).snd.fst ((i - 1) * ((↑g1.length : Int) + 1) + (j - 1)).toNat 0 →
                  (((0 = (bestOf g0 g1 g2 i j).fst) ∧
                   (List.getD (g1,g2,g3).snd.fst ((i - 1)*((↑g1.length:Int)+1)+(j - 1)).toNat 0=(bestOf g0 g1 g2 i j).snd)) ∧
                  ((0=(bestOf g0 g1 g2 i j).fst) ∧
                  (List.getD (g1,g2,g3).snd.fst ((i - 1)*((↑g1.length:Int)+1)+(j - 1)).toNat 0=(bestOf g0 g1 g2 i j).snd))))))))))) ∧
               (¬0 < j →
                (((0 = (bestOf g0 g1 g2 i j).fst) ∧
                 (List.getD (g1,g2,g3).snd.fst ((i - 1)*((↑g1.length:Int)+1)+(j - 1)).toNat 0=(bestOf g0 g1 g2 i j).snd)) ∧
                ((0=(bestOf g0 g1 g2 i j).fst) ∧
                (List.getD (g1,g2,g3).snd.fst ((i - 1)*((↑g1.length:Int)+1)+(j - 1)).toNat 0=(bestOf g0 g1 g2 i j).snd))))))))))))) ∧
            (¬0 < i →
             ((0 < j →
               ((i64R (j - 1)) ∧
               ((0≤i∧i≤1048576) ∧
               ((0≤j - 1∧j - 1≤1048576) ∧
               ((g1.length≤1048576) ∧
               ((0≤i*((↑g1.length:Int)+1)+(j - 1)∧i*((↑g1.length:Int)+1)+(j - 1) < (↑(List.length (g1,g2,g3).snd.fst):Int)) ∧
               ((IntKind.u8.wrap (List.getD (g1,g2,g3).snd.fst (i*((↑g1.length:Int)+1)+(j - 1)).toNat 0+1) < List.getD (g1,g2,g3).snd.fst ((i - 1)*((↑g1.length:Int)+1)+(j - 1)).toNat 0 →
                 (((3 = (bestOf g0 g1 g2 i j).fst) ∧
                  (IntKind.u8.wrap (List.getD (g1,g2,g3).snd.fst (i*((↑g1.length:Int)+1)+(j - 1)).toNat 0+1)=(bestOf g0 g1 g2 i j).snd)) ∧
                 ((3=(bestOf g0 g1 g2 i j).fst) ∧
                 (IntKind.u8.wrap (List.getD (g1,g2,g3).snd.fst (i*((↑g1.length:Int)+1)+(j - 1)).toNat 0+1)=(bestOf g0 g1 g2 i j).snd)))) ∧
               (¬IntKind.u8.wrap (List.getD (g1, g2, g3).snd.fst (i * ((↑g1.length : Int) + 1) + (j - 1)).toNat 0 + 1) < List.getD (g1, g2, g3).snd.fst ((i - 1) * ((↑g1.length : Int) + 1) + (j - 1)).toNat 0 →
                (((0 = (bestOf g0 g1 g2 i j).fst) ∧
                 (List.getD (g1,g2,g3).snd.fst ((i - 1)*((↑g1.length:Int)+1)+(j - 1)).toNat 0=(bestOf g0 g1 g2 i j).snd)) ∧
                ((0=(bestOf g0 g1 g2 i j).fst) ∧
                (List.getD (g1,g2,g3).snd.fst ((i - 1)*((↑g1.length:Int)+1)+(j - 1)).toNat 0=(bestOf g0 g1 g2 i j).snd))))))))))) ∧
             (¬0 < j →
              (((0 = (bestOf g0 g1 g2 i j).fst) ∧
               (List.getD (g1,g2,g3).snd.fst ((i - 1)*((↑g1.length:Int)+1)+(j - 1)).toNat 0=(bestOf g0 g1 g2 i j).snd)) ∧
              ((0=(bestOf g0 g1 g2 i j).fst) ∧
              (List.getD (g1,g2,g3).snd.fst ((i - 1)*((↑g1.length:Int)+1)+(j - 1)).toNat 0=(bestOf g0 g1 g2 i j).snd)))))))) ∧
          (¬List.getD (g1, g2, g3).snd.fst ((i - 1) * ((↑g1.length : Int) + 1) + (j - 1)).toNat 0 < 255 →
           ((0 < i →
             ((i64R (i - 1)) ∧
             ((0≤i - 1∧i - 1≤1048576) ∧
             ((0≤j∧j≤1048576) ∧
             ((g1.length≤1048576) ∧
             ((0≤(i - 1)*((↑g1.length:Int)+1)+j∧(i - 1)*((↑g1.length:Int)+1)+j < (↑(List.length (g1,g2,g3).snd.fst):Int)) ∧
             ((IntKind.u8.wrap (List.getD (g1,g2,g3).snd.fst ((i - 1)*((↑g1.length:Int)+1)+j).toNat 0+1) < 255 →
               ((0 < j →
                 ((i64R (j - 1)) ∧
                 ((0≤i∧i≤1048576) ∧
                 ((0≤j - 1∧j - 1≤1048576) ∧
                 ((g1.length≤1048576) ∧
                 ((0≤i*((↑g1.length:Int)+1)+(j - 1)∧i*((↑g1.length:Int)+1)+(j - 1) < (↑(List.length (g1,g2,g3).snd.fst):Int)) ∧
                 ((IntKind.u8.wrap (List.getD (g1,g2,g3).snd.fst (i*((↑g1.length:Int)+1)+(j - 1)).toNat 0+1) < IntKind.u8.wrap (List.getD (g1,g2,g3).snd.fst ((i - 1)*((↑g1.length:Int)+1)+j).toNat 0+1) →
                   (((3 = (bestOf g0 g1 g2 i j).fst) ∧
                    (IntKind.u8.wrap (List.getD (g1,g2,g3).snd.fst (i*((↑g1.length:Int)+1)+(j - 1)).toNat 0+1)=(bestOf g0 g1 g2 i j).snd)) ∧
                   ((3=(bestOf g0 g1 g2 i j).fst) ∧
                   (IntKind.u8.wrap (List.getD (g1,g2,g3).snd.fst (i*((↑g1.length:Int)+1)+(j - 1)).toNat 0+1)=(bestOf g0 g1 g2 i j).snd)))) ∧
                 (¬IntKind.u8.wrap (List.getD (g1, g2, g3).snd.fst (i * ((↑g1.length : Int) + 1) + (j - 1)).toNat 0 + 1) < IntKind.u8.wrap (List.getD (g1, g2, g3).snd.fst ((i - 1) * ((↑g1.length : Int) + 1) + j).toNat 0 + 1) →
                  (((2 = (bestOf g0 g1 g2 i j).fst) ∧
                   (IntKind.u8.wrap (List.getD (g1,g2,g3).snd.fst ((i - 1)*((↑g1.length:Int)+1)+j).toNat 0+1)=(bestOf g0 g1 g2 i j).snd)) ∧
                  ((2=(bestOf g0 g1 g2 i j).fst) ∧
                  (IntKind.u8.wrap (List.getD (g1,g2,g3).snd.fst ((i - 1)*((↑g1.length:Int)+1)+j).toNat 0+1)=(bestOf g0 g1 g2 i j).snd))))))))))) ∧
               (¬0 < j →
                (((2 = (bestOf g0 g1 g2 i j).fst) ∧
                 (IntKind.u8.wrap (List.getD (g1,g2,g3).snd.fst ((i - 1)*((↑g1.length:Int)+1)+j).toNat 0+1)=(bestOf g0 g1 g2 i j).snd)) ∧
                ((2=(bestOf g0 g1 g2 i j).fst) ∧
                (IntKind.u8.wrap (List.getD (g1,g2,g3).snd.fst ((i - 1)*((↑g1.length:Int)+1)+j).toNat 0+1)=(bestOf g0 g1 g2 i j).snd)))))) ∧
             (¬IntKind.u8.wrap (List.getD (g1, g2, g3).snd.fst ((i - 1) * ((↑g1.length : Int) + 1) + j).toNat 0 + 1) < 255 →
              ((0 < j →
                ((i64R (j - 1)) ∧
                ((0≤i∧i≤1048576) ∧
                ((0≤j - 1∧j - 1≤1048576) ∧
                ((g1.length≤1048576) ∧
                ((0≤i*((↑g1.length:Int)+1)+(j - 1)∧i*((↑g1.length:Int)+1)+(j - 1) < (↑(List.length (g1,g2,g3).snd.fst):Int)) ∧
                ((IntKind.u8.wrap (List.getD (g1,g2,g3).snd.fst (i*((↑g1.length:Int)+1)+(j - 1)).toNat 0+1) < 255 →
                  (((3 = (bestOf g0 g1 g2 i j).fst) ∧
                   (IntKind.u8.wrap (List.getD (g1,g2,g3).snd.fst (i*((↑g1.length:Int)+1)+(j - 1)).toNat 0+1)=(bestOf g0 g1 g2 i j).snd)) ∧
                  ((3=(bestOf g0 g1 g2 i j).fst) ∧
                  (IntKind.u8.wrap (List.getD (g1,g2,g3).snd.fst (i*((↑g1.length:Int)+1)+(j - 1)).toNat 0+1)=(bestOf g0 g1 g2 i j).snd)))) ∧
                (¬IntKind.u8.wrap (List.getD (g1, g2, g3).snd.fst (i * ((↑g1.length : Int) + 1) + (j - 1)).toNat 0 + 1) < 255 →
                 (((0 = (bestOf g0 g1 g2 i j).fst) ∧
                  (255=(bestOf g0 g1 g2 i j).snd)) ∧
                 ((0=(bestOf g0 g1 g2 i j).fst) ∧
                 (255=(bestOf g0 g1 g2 i j).snd))))))))))) ∧
              (¬0 < j →
               (((0 = (bestOf g0 g1 g2 i j).fst) ∧
                (255=(bestOf g0 g1 g2 i j).snd)) ∧
               ((0=(bestOf g0 g1 g2 i j).fst) ∧
               (255=(bestOf g0 g1 g2 i j).snd))))))))))))) ∧
           (¬0 < i →
            ((0 < j →
              ((i64R (j - 1)) ∧
              ((0≤i∧i≤1048576) ∧
              ((0≤j - 1∧j - 1≤1048576) ∧
              ((g1.length≤1048576) ∧
              ((0≤i*((↑g1.length:Int)+1)+(j - 1)∧i*((↑g1.length:Int)+1)+(j - 1) < (↑(List.length (g1,g2,g3).snd.fst):Int)) ∧
              ((IntKind.u8.wrap (List.getD (g1,g2,g3).snd.fst (i*((↑g1.length:Int)+1)+(j - 1)).toNat 0+1) < 255 →
                (((3 = (bestOf g0 g1 g2 i j).fst) ∧
                 (IntKind.u8.wrap (List.getD (g1,g2,g3).snd.fst (i*((↑g1.length:Int)+1)+(j - 1)).toNat 0+1)=(bestOf g0 g1 g2 i j).snd)) ∧
                ((3=(bestOf g0 g1 g2 i j).fst) ∧
                (IntKind.u8.wrap (List.getD (g1,g2,g3).snd.fst (i*((↑g1.length:Int)+1)+(j - 1)).toNat 0+1)=(bestOf g0 g1 g2 i j).snd)))) ∧
              (¬IntKind.u8.wrap (List.getD (g1, g2, g3).snd.fst (i * ((↑g1.length : Int) + 1) + (j - 1)).toNat 0 + 1) < 255 →
               (((0 = (bestOf g0 g1 g2 i j).fst) ∧
                (255=(bestOf g0 g1 g2 i j).snd)) ∧
               ((0=(bestOf g0 g1 g2 i j).fst) ∧
               (255=(bestOf g0 g1 g2 i j).snd))))))))))) ∧
            (¬0 < j →
             (((0 = (bestOf g0 g1 g2 i j).fst) ∧
              (255=(bestOf g0 g1 g2 i j).snd)) ∧
             ((0=(bestOf g0 g1 g2 i j).fst) ∧
             (255=(bestOf g0 g1 g2 i j).snd)))))))))) ∧
        (¬g0.getD (i - 1).toNat 0 = List.getD (g1, g2, g3).fst (j - 1).toNat 0 →
         ((IntKind.u8.wrap (List.getD (g1,g2,g3).snd.fst ((i - 1)*((↑g1.length:Int)+1)+(j - 1)).toNat 0+1) < 255 →
           ((0 < i →
             ((i64R (i - 1)) ∧
             ((0≤i - 1∧i - 1≤1048576) ∧
             ((0≤j∧j≤1048576) ∧
             ((g1.length≤1048576) ∧
             ((0≤(i - 1)*((↑g1.length:Int)+1)+j∧(i - 1)*((↑g1.length:Int)+1)+j < (↑(List.length (g1,g2,g3).snd.fst):Int)) ∧
             ((IntKind.u8.wrap (List.getD (g1,g2,g3).snd.fst ((i - 1)*((↑g1.length:Int)+1)+j).toNat 0+1) < IntKind.u8.wrap (List.getD (g1,g2,g3).snd.fst ((i - 1)*((↑g1.length:Int)+1)+(j - 1)).toNat 0+1) →
               ((0 < j →
                 ((i64R (j - 1)) ∧
                 ((0≤i∧i≤1048576) ∧
                 ((0≤j - 1∧j - 1≤1048576) ∧
                 ((g1.length≤1048576) ∧
                 ((0≤i*((↑g1.length:Int)+1)+(j - 1)∧i*((↑g1.length:Int)+1)+(j - 1) < (↑(List.length (g1,g2,g3).snd.fst):Int)) ∧
                 ((IntKind.u8.wrap (List.getD (g1,g2,g3).snd.fst (i*((↑g1.length:Int)+1)+(j - 1)).toNat 0+1) < IntKind.u8.wrap (List.getD (g1,g2,g3).snd.fst ((i - 1)*((↑g1.length:Int)+1)+j).toNat 0+1) →
                   (((3 = (bestOf g0 g1 g2 i j).fst) ∧
                    (IntKind.u8.wrap (List.getD (g1,g2,g3).snd.fst (i*((↑g1.length:Int)+1)+(j - 1)).toNat 0+1)=(bestOf g0 g1 g2 i j).snd)) ∧
                   ((3=(bestOf g0 g1 g2 i j).fst) ∧
                   (IntKind.u8.wrap (List.getD (g1,g2,g3).snd.fst (i*((↑g1.length:Int)+1)+(j - 1)).toNat 0+1)=(bestOf g0 g1 g2 i j).snd)))) ∧
                 (¬IntKind.u8.wrap (List.getD (g1, g2, g3).snd.fst (i * ((↑g1.length : Int) + 1) + (j - 1)).toNat 0 + 1) < IntKind.u8.wrap (List.getD (g1, g2, g3).snd.fst ((i - 1) * ((↑g1.length : Int) + 1) + j).toNat 0 + 1) →
                  (((2 = (bestOf g0 g1 g2 i j).fst) ∧
                   (IntKind.u8.wrap (List.getD (g1,g2,g3).snd.fst ((i - 1)*((↑g1.length:Int)+1)+j).toNat 0+1)=(bestOf g0 g1 g2 i j).snd)) ∧
                  ((2=(bestOf g0 g1 g2 i j).fst) ∧
                  (IntKind.u8.wrap (List.getD (g1,g2,g3).snd.fst ((i - 1)*((↑g1.length:Int)+1)+j).toNat 0+1)=(bestOf g0 g1 g2 i j).snd))))))))))) ∧
               (¬0 < j →
                (((2 = (bestOf g0 g1 g2 i j).fst) ∧
                 (IntKind.u8.wrap (List.getD (g1,g2,g3).snd.fst ((i - 1)*((↑g1.length:Int)+1)+j).toNat 0+1)=(bestOf g0 g1 g2 i j).snd)) ∧
                ((2=(bestOf g0 g1 g2 i j).fst) ∧
                (IntKind.u8.wrap (List.getD (g1,g2,g3).snd.fst ((i - 1)*((↑g1.length:Int)+1)+j).toNat 0+1)=(bestOf g0 g1 g2 i j).snd)))))) ∧
             (¬IntKind.u8.wrap (List.getD (g1, g2, g3).snd.fst ((i - 1) * ((↑g1.length : Int) + 1) + j).toNat 0 + 1) < IntKind.u8.wrap (List.getD (g1, g2, g3).snd.fst ((i - 1) * ((↑g1.length : Int) + 1) + (j - 1)).toNat 0 + 1) →
              ((0 < j →
                ((i64R (j - 1)) ∧
                ((0≤i∧i≤1048576) ∧
                ((0≤j - 1∧j - 1≤1048576) ∧
                ((g1.length≤1048576) ∧
                ((0≤i*((↑g1.length:Int)+1)+(j - 1)∧i*((↑g1.length:Int)+1)+(j - 1) < (↑(List.length (g1,g2,g3).snd.fst):Int)) ∧
                ((IntKind.u8.wrap (List.getD (g1,g2,g3).snd.fst (i*((↑g1.length:Int)+1)+(j - 1)).toNat 0+1) < IntKind.u8.wrap (List.getD (g1,g2,g3).snd.fst ((i - 1)*((↑g1.length:Int)+1)+(j - 1)).toNat 0+1) →
                  (((3 = (bestOf g0 g1 g2 i j).fst) ∧
                   (IntKind.u8.wrap (List.getD (g1,g2,g3).snd.fst (i*((↑g1.length:Int)+1)+(j - 1)).toNat 0+1)=(bestOf g0 g1 g2 i j).snd)) ∧
                  ((3=(bestOf g0 g1 g2 i j).fst) ∧
                  (IntKind.u8.wrap (List.getD (g1,g2,g3).snd.fst (i*((↑g1.length:Int)+1)+(j - 1)).toNat 0+1)=(bestOf g0 g1 g2 i j).snd)))) ∧
                (¬IntKind.u8.wrap (List.getD (g1, g2, g3).snd.fst (i * ((↑g1.length : Int) + 1) + (j - 1)).toNat 0 + 1) < IntKind.u8.wrap (List.getD (g1, g2, g3).snd.fst ((i - 1) * ((↑g1.length : Int) + 1) + (j - 1)).toNat 0 + 1) →
                 (((1 = (bestOf g0 g1 g2 i j).fst) ∧
                  (IntKind.u8.wrap (List.getD (g1,g2,g3).snd.fst ((i - 1)*((↑g1.length:Int)+1)+(j - 1)).toNat 0+1)=(bestOf g0 g1 g2 i j).snd)) ∧
                 ((1=(bestOf g0 g1 g2 i j).fst) ∧
                 (IntKind.u8.wrap (List.getD (g1,g2,g3).snd.fst ((i - 1)*((↑g1.length:Int)+1)+(j - 1)).toNat 0+1)=(bestOf g0 g1 g2 i j).snd))))))))))) ∧
              (¬0 < j →
               (((1 = (bestOf g0 g1 g2 i j).fst) ∧
                (IntKind.u8.wrap (List.getD (g1,g2,g3).snd.fst ((i - 1)*((↑g1.length:Int)+1)+(j - 1)).toNat 0+1)=(bestOf g0 g1 g2 i j).snd)) ∧
               ((1=(bestOf g0 g1 g2 i j).fst) ∧
               (IntKind.u8.wrap (List.getD (g1,g2,g3).snd.fst ((i - 1)*((↑g1.length:Int)+1)+(j - 1)).toNat 0+1)=(bestOf g0 g1 g2 i j).snd))))))))))))) ∧
           (¬0 < i →
            ((0 < j →
              ((i64R (j - 1)) ∧
              ((0≤i∧i≤1048576) ∧
              ((0≤j - 1∧j - 1≤1048576) ∧
              ((g1.length≤1048576) ∧
              ((0≤i*((↑g1.length:Int)+1)+(j - 1)∧i*((↑g1.length:Int)+1)+(j - 1) < (↑(List.length (g1,g2,g3).snd.fst):Int)) ∧
              ((IntKind.u8.wrap (List.getD (g1,g2,g3).snd.fst (i*((↑g1.length:Int)+1)+(j - 1)).toNat 0+1) < IntKind.u8.wrap (List.getD (g1,g2,g3).snd.fst ((i - 1)*((↑g1.length:Int)+1)+(j - 1)).toNat 0+1) →
                (((3 = (bestOf g0 g1 g2 i j).fst) ∧
                 (IntKind.u8.wrap (List.getD (g1,g2,g3).snd.fst (i*((↑g1.length:Int)+1)+(j - 1)).toNat 0+1)=(bestOf g0 g1 g2 i j).snd)) ∧
                ((3=(bestOf g0 g1 g2 i j).fst) ∧
                (IntKind.u8.wrap (List.getD (g1,g2,g3).snd.fst (i*((↑g1.length:Int)+1)+(j - 1)).toNat 0+1)=(bestOf g0 g1 g2 i j).snd)))) ∧
              (¬IntKind.u8.wrap (List.getD (g1, g2, g3).snd.fst (i * ((↑g1.length : Int) + 1) + (j - 1)).toNat 0 + 1) < IntKind.u8.wrap (List.getD (g1, g2, g3).snd.fst ((i - 1) * ((↑g1.length : Int) + 1) + (j - 1)).toNat 0 + 1) →
               (((1 = (bestOf g0 g1 g2 i j).fst) ∧
                (IntKind.u8.wrap (List.getD (g1,g2,g3).snd.fst ((i - 1)*((↑g1.length:Int)+1)+(j - 1)).toNat 0+1)=(bestOf g0 g1 g2 i j).snd)) ∧
               ((1=(bestOf g0 g1 g2 i j).fst) ∧
               (IntKind.u8.wrap (List.getD (g1,g2,g3).snd.fst ((i - 1)*((↑g1.length:Int)+1)+(j - 1)).toNat 0+1)=(bestOf g0 g1 g2 i j).snd))))))))))) ∧
            (¬0 < j →
             (((1 = (bestOf g0 g1 g2 i j).fst) ∧
              (IntKind.u8.wrap (List.getD (g1,g2,g3).snd.fst ((i - 1)*((↑g1.length:Int)+1)+(j - 1)).toNat 0+1)=(bestOf g0 g1 g2 i j).snd)) ∧
             ((1=(bestOf g0 g1 g2 i j).fst) ∧
             (IntKind.u8.wrap (List.getD (g1,g2,g3).snd.fst ((i - 1)*((↑g1.length:Int)+1)+(j - 1)).toNat 0+1)=(bestOf g0 g1 g2 i j).snd)))))))) ∧
         (¬IntKind.u8.wrap (List.getD (g1, g2, g3).snd.fst ((i - 1) * ((↑g1.length : Int) + 1) + (j - 1)).toNat 0 + 1) < 255 →
          ((0 < i →
            ((i64R (i - 1)) ∧
            ((0≤i - 1∧i - 1≤1048576) ∧
            ((0≤j∧j≤1048576) ∧
            ((g1.length≤1048576) ∧
            ((0≤(i - 1)*((↑g1.length:Int)+1)+j∧(i - 1)*((↑g1.length:Int)+1)+j < (↑(List.length (g1,g2,g3).snd.fst):Int)) ∧
            ((IntKind.u8.wrap (List.getD (g1,g2,g3).snd.fst ((i - 1)*((↑g1.length:Int)+1)+j).toNat 0+1) < 255 →
              ((0 < j →
                ((i64R (j - 1)) ∧
                ((0≤i∧i≤1048576) ∧
                ((0≤j - 1∧j - 1≤1048576) ∧
                ((g1.length≤1048576) ∧
                ((0≤i*((↑g1.length:Int)+1)+(j - 1)∧i*((↑g1.length:Int)+1)+(j - 1) < (↑(List.length (g1,g2,g3).snd.fst):Int)) ∧
                ((IntKind.u8.wrap (List.getD (g1,g2,g3).snd.fst (i*((↑g1.length:Int)+1)+(j - 1)).toNat 0+1) < IntKind.u8.wrap (List.getD (g1,g2,g3).snd.fst ((i - 1)*((↑g1.length:Int)+1)+j).toNat 0+1) →
                  (((3 = (bestOf g0 g1 g2 i j).fst) ∧
                   (IntKind.u8.wrap (List.getD (g1,g2,g3).snd.fst (i*((↑g1.length:Int)+1)+(j - 1)).toNat 0+1)=(bestOf g0 g1 g2 i j).snd)) ∧
                  ((3=(bestOf g0 g1 g2 i j).fst) ∧
                  (IntKind.u8.wrap (List.getD (g1,g2,g3).snd.fst (i*((↑g1.length:Int)+1)+(j - 1)).toNat 0+1)=(bestOf g0 g1 g2 i j).snd)))) ∧
                (¬IntKind.u8.wrap (List.getD (g1, g2, g3).snd.fst (i * ((↑g1.length : Int) + 1) + (j - 1)).toNat 0 + 1) < IntKind.u8.wrap (List.getD (g1, g2, g3).snd.fst ((i - 1) * ((↑g1.length : Int) + 1) + j).toNat 0 + 1) →
                 (((2 = (bestOf g0 g1 g2 i j).fst) ∧
                  (IntKind.u8.wrap (List.getD (g1,g2,g3).snd.fst ((i - 1)*((↑g1.length:Int)+1)+j).toNat 0+1)=(bestOf g0 g1 g2 i j).snd)) ∧
                 ((2=(bestOf g0 g1 g2 i j).fst) ∧
                 (IntKind.u8.wrap (List.getD (g1,g2,g3).snd.fst ((i - 1)*((↑g1.length:Int)+1)+j).toNat 0+1)=(bestOf g0 g1 g2 i j).snd))))))))))) ∧
              (¬0 < j →
               (((2 = (bestOf g0 g1 g2 i j).fst) ∧
                (IntKind.u8.wrap (List.getD (g1,g2,g3).snd.fst ((i - 1)*((↑g1.length:Int)+1)+j).toNat 0+1)=(bestOf g0 g1 g2 i j).snd)) ∧
               ((2=(bestOf g0 g1 g2 i j).fst) ∧
               (IntKind.u8.wrap (List.getD (g1,g2,g3).snd.fst ((i - 1)*((↑g1.length:Int)+1)+j).toNat 0+1)=(bestOf g0 g1 g2 i j).snd)))))) ∧
            (¬IntKind.u8.wrap (List.getD (g1, g2, g3).snd.fst ((i - 1) * ((↑g1.length : Int) + 1) + j).toNat 0 + 1) < 255 →
             ((0 < j →
               ((i64R (j - 1)) ∧
               ((0≤i∧i≤1048576) ∧
               ((0≤j - 1∧j - 1≤1048576) ∧
               ((g1.length≤1048576) ∧
               ((0≤i*((↑g1.length:Int)+1)+(j - 1)∧i*((↑g1.length:Int)+1)+(j - 1) < (↑(List.length (g1,g2,g3).snd.fst):Int)) ∧
               ((IntKind.u8.wrap (List.getD (g1,g2,g3).snd.fst (i*((↑g1.length:Int)+1)+(j - 1)).toNat 0+1) < 255 →
                 (((3 = (bestOf g0 g1 g2 i j).fst) ∧
                  (IntKind.u8.wrap (List.getD (g1,g2,g3).snd.fst (i*((↑g1.length:Int)+1)+(j - 1)).toNat 0+1)=(bestOf g0 g1 g2 i j).snd)) ∧
                 ((3=(bestOf g0 g1 g2 i j).fst) ∧
                 (IntKind.u8.wrap (List.getD (g1,g2,g3).snd.fst (i*((↑g1.length:Int)+1)+(j - 1)).toNat 0+1)=(bestOf g0 g1 g2 i j).snd)))) ∧
               (¬IntKind.u8.wrap (List.getD (g1, g2, g3).snd.fst (i * ((↑g1.length : Int) + 1) + (j - 1)).toNat 0 + 1) < 255 →
                (((0 = (bestOf g0 g1 g2 i j).fst) ∧
                 (255=(bestOf g0 g1 g2 i j).snd)) ∧
                ((0=(bestOf g0 g1 g2 i j).fst) ∧
                (255=(bestOf g0 g1 g2 i j).snd))))))))))) ∧
             (¬0 < j →
              (((0 = (bestOf g0 g1 g2 i j).fst) ∧
               (255=(bestOf g0 g1 g2 i j).snd)) ∧
              ((0=(bestOf g0 g1 g2 i j).fst) ∧
              (255=(bestOf g0 g1 g2 i j).snd))))))))))))) ∧
          (¬0 < i →
           ((0 < j →
             ((i64R (j - 1)) ∧
             ((0≤i∧i≤1048576) ∧
             ((0≤j - 1∧j - 1≤1048576) ∧
             ((g1.length≤1048576) ∧
             ((0≤i*((↑g1.length:Int)+1)+(j - 1)∧i*((↑g1.length:Int)+1)+(j - 1) < (↑(List.length (g1,g2,g3).snd.fst):Int)) ∧
             ((IntKind.u8.wrap (List.getD (g1,g2,g3).snd.fst (i*((↑g1.length:Int)+1)+(j - 1)).toNat 0+1) < 255 →
               (((3 = (bestOf g0 g1 g2 i j).fst) ∧
                (IntKind.u8.wrap (List.getD (g1,g2,g3).snd.fst (i*((↑g1.length:Int)+1)+(j - 1)).toNat 0+1)=(bestOf g0 g1 g2 i j).snd)) ∧
               ((3=(bestOf g0 g1 g2 i j).fst) ∧
               (IntKind.u8.wrap (List.getD (g1,g2,g3).snd.fst (i*((↑g1.length:Int)+1)+(j - 1)).toNat 0+1)=(bestOf g0 g1 g2 i j).snd)))) ∧
             (¬IntKind.u8.wrap (List.getD (g1, g2, g3).snd.fst (i * ((↑g1.length : Int) + 1) + (j - 1)).toNat 0 + 1) < 255 →
              (((0 = (bestOf g0 g1 g2 i j).fst) ∧
               (255=(bestOf g0 g1 g2 i j).snd)) ∧
              ((0=(bestOf g0 g1 g2 i j).fst) ∧
              (255=(bestOf g0 g1 g2 i j).snd))))))))))) ∧
           (¬0 < j →
            (((0 = (bestOf g0 g1 g2 i j).fst) ∧
             (255=(bestOf g0 g1 g2 i j).snd)) ∧
            ((0=(bestOf g0 g1 g2 i j).fst) ∧
            (255=(bestOf g0 g1 g2 i j).snd)))))))))))))))))))))) ∧
      (¬0 < j →
       ((0 < i →
         ((i64R (i - 1)) ∧
         ((0≤i - 1∧i - 1≤1048576) ∧
         ((0≤j∧j≤1048576) ∧
         ((g1.length≤1048576) ∧
         ((0≤(i - 1)*((↑g1.length:Int)+1)+j∧(i - 1)*((↑g1.length:Int)+1)+j < (↑(List.length (g1,g2,g3).snd.fst):Int)) ∧
         ((IntKind.u8.wrap (List.getD (g1,g2,g3).snd.fst ((i - 1)*((↑g1.length:Int)+1)+j).toNat 0+1) < 255 →
           ((0 < j →
             ((i64R (j - 1)) ∧
             ((0≤i∧i≤1048576) ∧
             ((0≤j - 1∧j - 1≤1048576) ∧
             ((g1.length≤1048576) ∧
             ((0≤i*((↑g1.length:Int)+1)+(j - 1)∧i*((↑g1.length:Int)+1)+(j - 1) < (↑(List.length (g1,g2,g3).snd.fst):Int)) ∧
             ((IntKind.u8.wrap (List.getD (g1,g2,g3).snd.fst (i*((↑g1.length:Int)+1)+(j - 1)).toNat 0+1) < IntKind.u8.wrap (List.getD (g1,g2,g3).snd.fst ((i - 1)*((↑g1.length:Int)+1)+j).toNat 0+1) →
               (((3 = (bestOf g0 g1 g2 i j).fst) ∧
                (IntKind.u8.wrap (List.getD (g1,g2,g3).snd.fst (i*((↑g1.length:Int)+1)+(j - 1)).toNat 0+1)=(bestOf g0 g1 g2 i j).snd)) ∧
               ((3=(bestOf g0 g1 g2 i j).fst) ∧
               (IntKind.u8.wrap (List.getD (g1,g2,g3).snd.fst (i*((↑g1.length:Int)+1)+(j - 1)).toNat 0+1)=(bestOf g0 g1 g2 i j).snd)))) ∧
             (¬IntKind.u8.wrap (List.getD (g1, g2, g3).snd.fst (i * ((↑g1.length : Int) + 1) + (j - 1)).toNat 0 + 1) < IntKind.u8.wrap (List.getD (g1, g2, g3).snd.fst ((i - 1) * ((↑g1.length : Int) + 1) + j).toNat 0 + 1) →
              (((2 = (bestOf g0 g1 g2 i j).fst) ∧
               (IntKind.u8.wrap (List.getD (g1,g2,g3).snd.fst ((i - 1)*((↑g1.length:Int)+1)+j).toNat 0+1)=(bestOf g0 g1 g2 i j).snd)) ∧
              ((2=(bestOf g0 g1 g2 i j).fst) ∧
              (IntKind.u8.wrap (List.getD (g1,g2,g3).snd.fst ((i - 1)*((↑g1.length:Int)+1)+j).toNat 0+1)=(bestOf g0 g1 g2 i j).snd))))))))))) ∧
           (¬0 < j →
            (((2 = (bestOf g0 g1 g2 i j).fst) ∧
             (IntKind.u8.wrap (List.getD (g1,g2,g3).snd.fst ((i - 1)*((↑g1.length:Int)+1)+j).toNat 0+1)=(bestOf g0 g1 g2 i j).snd)) ∧
            ((2=(bestOf g0 g1 g2 i j).fst) ∧
            (IntKind.u8.wrap (List.getD (g1,g2,g3).snd.fst ((i - 1)*((↑g1.length:Int)+1)+j).toNat 0+1)=(bestOf g0 g1 g2 i j).snd)))))) ∧
         (¬IntKind.u8.wrap (List.getD (g1, g2, g3).snd.fst ((i - 1) * ((↑g1.length : Int) + 1) + j).toNat 0 + 1) < 255 →
          ((0 < j →
            ((i64R (j - 1)) ∧
            ((0≤i∧i≤1048576) ∧
            ((0≤j - 1∧j - 1≤1048576) ∧
            ((g1.length≤1048576) ∧
            ((0≤i*((↑g1.length:Int)+1)+(j - 1)∧i*((↑g1.length:Int)+1)+(j - 1) < (↑(List.length (g1,g2,g3).snd.fst):Int)) ∧
            ((IntKind.u8.wrap (List.getD (g1,g2,g3).snd.fst (i*((↑g1.length:Int)+1)+(j - 1)).toNat 0+1) < 255 →
              (((3 = (bestOf g0 g1 g2 i j).fst) ∧
               (IntKind.u8.wrap (List.getD (g1,g2,g3).snd.fst (i*((↑g1.length:Int)+1)+(j - 1)).toNat 0+1)=(bestOf g0 g1 g2 i j).snd)) ∧
              ((3=(bestOf g0 g1 g2 i j).fst) ∧
              (IntKind.u8.wrap (List.getD (g1,g2,g3).snd.fst (i*((↑g1.length:Int)+1)+(j - 1)).toNat 0+1)=(bestOf g0 g1 g2 i j).snd)))) ∧
            (¬IntKind.u8.wrap (List.getD (g1, g2, g3).snd.fst (i * ((↑g1.length : Int) + 1) + (j - 1)).toNat 0 + 1) < 255 →
             (((0 = (bestOf g0 g1 g2 i j).fst) ∧
              (255=(bestOf g0 g1 g2 i j).snd)) ∧
             ((0=(bestOf g0 g1 g2 i j).fst) ∧
             (255=(bestOf g0 g1 g2 i j).snd))))))))))) ∧
          (¬0 < j →
           (((0 = (bestOf g0 g1 g2 i j).fst) ∧
            (255=(bestOf g0 g1 g2 i j).snd)) ∧
           ((0=(bestOf g0 g1 g2 i j).fst) ∧
           (255=(bestOf g0 g1 g2 i j).snd))))))))))))) ∧
       (¬0 < i →
        ((0 < j →
          ((i64R (j - 1)) ∧
          ((0≤i∧i≤1048576) ∧
          ((0≤j - 1∧j - 1≤1048576) ∧
          ((g1.length≤1048576) ∧
          ((0≤i*((↑g1.length:Int)+1)+(j - 1)∧i*((↑g1.length:Int)+1)+(j - 1) < (↑(List.length (g1,g2,g3).snd.fst):Int)) ∧
          ((IntKind.u8.wrap (List.getD (g1,g2,g3).snd.fst (i*((↑g1.length:Int)+1)+(j - 1)).toNat 0+1) < 255 →
            (((3 = (bestOf g0 g1 g2 i j).fst) ∧
             (IntKind.u8.wrap (List.getD (g1,g2,g3).snd.fst (i*((↑g1.length:Int)+1)+(j - 1)).toNat 0+1)=(bestOf g0 g1 g2 i j).snd)) ∧
            ((3=(bestOf g0 g1 g2 i j).fst) ∧
            (IntKind.u8.wrap (List.getD (g1,g2,g3).snd.fst (i*((↑g1.length:Int)+1)+(j - 1)).toNat 0+1)=(bestOf g0 g1 g2 i j).snd)))) ∧
          (¬IntKind.u8.wrap (List.getD (g1, g2, g3).snd.fst (i * ((↑g1.length : Int) + 1) + (j - 1)).toNat 0 + 1) < 255 →
           (((0 = (bestOf g0 g1 g2 i j).fst) ∧
            (255=(bestOf g0 g1 g2 i j).snd)) ∧
           ((0=(bestOf g0 g1 g2 i j).fst) ∧
           (255=(bestOf g0 g1 g2 i j).snd))))))))))) ∧
        (¬0 < j →
         (((0 = (bestOf g0 g1 g2 i j).fst) ∧
          (255=(bestOf g0 g1 g2 i j).snd)) ∧
         ((0=(bestOf g0 g1 g2 i j).fst) ∧
         (255=(bestOf g0 g1 g2 i j).snd)))))))))) ∧
    (¬0 < i →
     ((0 < i →
       ((i64R (i - 1)) ∧
       ((0≤i - 1∧i - 1≤1048576) ∧
       ((0≤j∧j≤1048576) ∧
       ((g1.length≤1048576) ∧
       ((0≤(i - 1)*((↑g1.length:Int)+1)+j∧(i - 1)*((↑g1.length:Int)+1)+j < (↑(List.length (g1,g2,g3).snd.fst):Int)) ∧
       ((IntKind.u8.wrap (List.getD (g1,g2,g3).snd.fst ((i - 1)*((↑g1.length:Int)+1)+j).toNat 0+1) < 255 →
         ((0 < j →
           ((i64R (j - 1)) ∧
           ((0≤i∧i≤1048576) ∧
           ((0≤j - 1∧j - 1≤1048576) ∧
           ((g1.length≤1048576) ∧
           ((0≤i*((↑g1.length:Int)+1)+(j - 1)∧i*((↑g1.length:Int)+1)+(j - 1) < (↑(List.length (g1,g2,g3).snd.fst):Int)) ∧
           ((IntKind.u8.wrap (List.getD (g1,g2,g3).snd.fst (i*((↑g1.length:Int)+1)+(j - 1)).toNat 0+1) < IntKind.u8.wrap (List.getD (g1,g2,g3).snd.fst ((i - 1)*((↑g1.length:Int)+1)+j).toNat 0+1) →
             (((3 = (bestOf g0 g1 g2 i j).fst) ∧
              (IntKind.u8.wrap (List.getD (g1,g2,g3).snd.fst (i*((↑g1.length:Int)+1)+(j - 1)).toNat 0+1)=(bestOf g0 g1 g2 i j).snd)) ∧
             ((3=(bestOf g0 g1 g2 i j).fst) ∧
             (IntKind.u8.wrap (List.getD (g1,g2,g3).snd.fst (i*((↑g1.length:Int)+1)+(j - 1)).toNat 0+1)=(bestOf g0 g1 g2 i j).snd)))) ∧
           (¬IntKind.u8.wrap (List.getD (g1, g2, g3).snd.fst (i * ((↑g1.length : Int) + 1) + (j - 1)).toNat 0 + 1) < IntKind.u8.wrap (List.getD (g1, g2, g3).snd.fst ((i - 1) * ((↑g1.length : Int) + 1) + j).toNat 0 + 1) →
            (((2 = (bestOf g0 g1 g2 i j).fst) ∧
             (IntKind.u8.wrap (List.getD (g1,g2,g3).snd.fst ((i - 1)*((↑g1.length:Int)+1)+j).toNat 0+1)=(bestOf g0 g1 g2 i j).snd)) ∧
            ((2=(bestOf g0 g1 g2 i j).fst) ∧
            (IntKind.u8.wrap (List.getD (g1,g2,g3).snd.fst ((i - 1)*((↑g1.length:Int)+1)+j).toNat 0+1)=(bestOf g0 g1 g2 i j).snd))))))))))) ∧
         (¬0 < j →
          (((2 = (bestOf g0 g1 g2 i j).fst) ∧
           (IntKind.u8.wrap (List.getD (g1,g2,g3).snd.fst ((i - 1)*((↑g1.length:Int)+1)+j).toNat 0+1)=(bestOf g0 g1 g2 i j).snd)) ∧
          ((2=(bestOf g0 g1 g2 i j).fst) ∧
          (IntKind.u8.wrap (List.getD (g1,g2,g3).snd.fst ((i - 1)*((↑g1.length:Int)+1)+j).toNat 0+1)=(bestOf g0 g1 g2 i j).snd)))))) ∧
       (¬IntKind.u8.wrap (List.getD (g1, g2, g3).snd.fst ((i - 1) * ((↑g1.length : Int) + 1) + j).toNat 0 + 1) < 255 →
        ((0 < j →
          ((i64R (j - 1)) ∧
          ((0≤i∧i≤1048576) ∧
          ((0≤j - 1∧j - 1≤1048576) ∧
          ((g1.length≤1048576) ∧
          ((0≤i*((↑g1.length:Int)+1)+(j - 1)∧i*((↑g1.length:Int)+1)+(j - 1) < (↑(List.length (g1,g2,g3).snd.fst):Int)) ∧
          ((IntKind.u8.wrap (List.getD (g1,g2,g3).snd.fst (i*((↑g1.length:Int)+1)+(j - 1)).toNat 0+1) < 255 →
            (((3 = (bestOf g0 g1 g2 i j).fst) ∧
             (IntKind.u8.wrap (List.getD (g1,g2,g3).snd.fst (i*((↑g1.length:Int)+1)+(j - 1)).toNat 0+1)=(bestOf g0 g1 g2 i j).snd)) ∧
            ((3=(bestOf g0 g1 g2 i j).fst) ∧
            (IntKind.u8.wrap (List.getD (g1,g2,g3).snd.fst (i*((↑g1.length:Int)+1)+(j - 1)).toNat 0+1)=(bestOf g0 g1 g2 i j).snd)))) ∧
          (¬IntKind.u8.wrap (List.getD (g1, g2, g3).snd.fst (i * ((↑g1.length : Int) + 1) + (j - 1)).toNat 0 + 1) < 255 →
           (((0 = (bestOf g0 g1 g2 i j).fst) ∧
            (255=(bestOf g0 g1 g2 i j).snd)) ∧
           ((0=(bestOf g0 g1 g2 i j).fst) ∧
           (255=(bestOf g0 g1 g2 i j).snd))))))))))) ∧
        (¬0 < j →
         (((0 = (bestOf g0 g1 g2 i j).fst) ∧
          (255=(bestOf g0 g1 g2 i j).snd)) ∧
         ((0=(bestOf g0 g1 g2 i j).fst) ∧
         (255=(bestOf g0 g1 g2 i j).snd))))))))))))) ∧
     (¬0 < i →
      ((0 < j →
        ((i64R (j - 1)) ∧
        ((0≤i∧i≤1048576) ∧
        ((0≤j - 1∧j - 1≤1048576) ∧
        ((g1.length≤1048576) ∧
        ((0≤i*((↑g1.length:Int)+1)+(j - 1)∧i*((↑g1.length:Int)+1)+(j - 1) < (↑(List.length (g1,g2,g3).snd.fst):Int)) ∧
        ((IntKind.u8.wrap (List.getD (g1,g2,g3).snd.fst (i*((↑g1.length:Int)+1)+(j - 1)).toNat 0+1) < 255 →
          (((3 = (bestOf g0 g1 g2 i j).fst) ∧
           (IntKind.u8.wrap (List.getD (g1,g2,g3).snd.fst (i*((↑g1.length:Int)+1)+(j - 1)).toNat 0+1)=(bestOf g0 g1 g2 i j).snd)) ∧
          ((3=(bestOf g0 g1 g2 i j).fst) ∧
          (IntKind.u8.wrap (List.getD (g1,g2,g3).snd.fst (i*((↑g1.length:Int)+1)+(j - 1)).toNat 0+1)=(bestOf g0 g1 g2 i j).snd)))) ∧
        (¬IntKind.u8.wrap (List.getD (g1, g2, g3).snd.fst (i * ((↑g1.length : Int) + 1) + (j - 1)).toNat 0 + 1) < 255 →
         (((0 = (bestOf g0 g1 g2 i j).fst) ∧
          (255=(bestOf g0 g1 g2 i j).snd)) ∧
         ((0=(bestOf g0 g1 g2 i j).fst) ∧
         (255=(bestOf g0 g1 g2 i j).snd))))))))))) ∧
      (¬0 < j →
       (((0 = (bestOf g0 g1 g2 i j).fst) ∧
        (255=(bestOf g0 g1 g2 i j).snd)) ∧
       ((0=(bestOf g0 g1 g2 i j).fst) ∧
       (255=(bestOf g0 g1 g2 i j).snd)))))))))) (by kernel_rfl) ?_
  have k1:0 < i→0 < j→0≤(i - 1)*((↑g1.length:Int)+1)+(j - 1)∧(i - 1)*((↑g1.length:Int)+1)+(j - 1) < (g2.length:Int):=fun a b=>by rw [hc4];exact grid_lt (by omega) (by omega) (by omega) (by omega)
  have k2:0 < i→0≤(i - 1)*((↑g1.length:Int)+1)+j∧(i - 1)*((↑g1.length:Int)+1)+j < (g2.length:Int):=fun a=>by rw [hc4];exact grid_lt (by omega) (by omega) (by omega) (by omega)
  have k3:0 < j→0≤i*((↑g1.length:Int)+1)+(j - 1)∧i*((↑g1.length:Int)+1)+(j - 1) < (g2.length:Int):=fun a=>by rw [hc4];exact grid_lt (by omega) (by omega) (by omega) (by omega)
  dsimp only
  repeat' (first | intro _ | apply And.intro)
  all_goals first
    | omega
    | (unfold i64R;omega)
    | exact (k1 (by assumption) (by assumption)).1
    | exact (k1 (by assumption) (by assumption)).2
    | exact (k2 (by assumption)).1
    | exact (k2 (by assumption)).2
    | exact (k3 (by assumption)).1
    | exact (k3 (by assumption)).2
    | (simp only [bestOf,tryS, *,and_self,and_true,true_and,false_and,and_false,if_true,if_false];done)
    | (exfalso;omega)
end Go.EA
