/- Texts of the core, one behind the other. Conditions: none. -/
import Derived.Test.YtmfjbaepgfdfpaaDoorEGr
set_option linter.unusedVariables false
set_option linter.unusedSimpArgs false
section
namespace Go.EA
def levRow (x:Int) (f:List Int→Nat):List Int→Nat
  | []=>f []+1
  | y::b=>min (f b+if x=y then 0 else 1) (min (f (y::b)+1) (levRow x f b+1))
def lev:List Int→List Int→Nat
  | [],b=>b.length
  | x::a,b=>levRow x (lev a) b
theorem lev_nil_left (b:List Int):lev [] b=b.length:=rfl
theorem lev_nil_right:∀ (a:List Int),lev a []=a.length
  | []=>rfl
  | x::a=>by simp only [lev,levRow,lev_nil_right a,List.length_cons]
theorem lev_cons (x y:Int) (a b:List Int):lev (x::a) (y::b)=min (lev a b+if x=y then 0 else 1) (min (lev a (y::b)+1) (lev (x::a) b+1)):=rfl
theorem lev_le:∀ (a b:List Int),lev a b≤max a.length b.length
  | [],b=>by simp [lev]
  | x::a,[]=>by rw [lev_nil_right];simp
  | x::a,y::b=>by
    rw [lev_cons]
    have:=lev_le a b
    simp only [List.length_cons]
    split <;> omega
def kindL:List Int→List Int→Int
  | [],[]=>0
  | _::_,[]=>2
  | [],_::_=>3
  | x::a,y::b=>
    let m:=lev a b+if x=y then 0 else 1
    let d:=lev a (y::b)+1
    let i:=lev (x::a) b+1
    if i < min m d then 3 else if d < m then 2 else if x=y then 0 else 1
def tabl (f:Nat→Int) (N p:Nat):List Int:=(List.range N).map fun q=>if q < p then f q else 0
theorem tabl_len (f:Nat→Int) (N p:Nat):(tabl f N p).length=N:=by simp [tabl]
theorem tabl_get {f:Nat→Int} {N p q:Nat} (hq:q < N):(tabl f N p).getD q 0=if q < p then f q else 0:=by
  simp [tabl,List.getD_eq_getElem?_getD,hq]
theorem tabl_set {f:Nat→Int} {N p:Nat} {v:Int} (hv:v=f p):(tabl f N p).set p v=tabl f N (p+1):=by
  subst hv
  apply List.ext_getElem?
  intro q
  rw [List.getElem?_set]
  simp only [tabl,List.getElem?_map,List.length_map,List.length_range]
  by_cases hq:q < N
  · rw [List.getElem?_range hq]
    simp only [Option.map_some]
    by_cases he:p=q
    · subst he;simp [hq]
    · rw [if_neg he]
      by_cases h1:q < p
      · rw [if_pos h1,if_pos (by omega)]
      · rw [if_neg h1,if_neg (by omega)]
  · have hn:(List.range N)[q]?=none:=by rw [List.getElem?_eq_none_iff];simp;omega
    rw [hn]
    simp only [Option.map_none]
    split
    · rw [if_neg (by omega)]
    · rfl
theorem tabl_zero (f:Nat→Int) (N:Nat):tabl f N 0=List.replicate N 0:=by
  apply List.ext_getElem?
  intro q
  simp only [tabl,List.getElem?_map,List.getElem?_replicate]
  by_cases hq:q < N
  · rw [List.getElem?_range hq];simp [hq]
  · have hn:(List.range N)[q]?=none:=by rw [List.getElem?_eq_none_iff];simp;omega
    rw [hn];simp [hq]
theorem tabl_skip {f:Nat→Int} {N p:Nat} (h:f p=0):tabl f N p=tabl f N (p+1):=by
  rw [← tabl_set (v:=0) h.symm]
  apply List.ext_getElem?
  intro q
  rw [List.getElem?_set]
  simp only [tabl,List.getElem?_map,List.length_map,List.length_range]
  split
  · rename_i he;subst he
    by_cases hq:p < N
    · rw [List.getElem?_range hq];simp [hq]
    · have hn:(List.range N)[p]?=none:=by rw [List.getElem?_eq_none_iff];simp;omega
      rw [hn];simp [hq]
  · rfl
section
variable (a b:List Int)
def fewAt (q:Nat):Int:=lev (a.take (q / (b.length+1))).reverse (b.take (q % (b.length+1))).reverse
def kindAt (q:Nat):Int:=kindL (a.take (q / (b.length+1))).reverse (b.take (q % (b.length+1))).reverse
def rv (l:List Int) (n:Nat):List Int:=(l.take n).reverse
end
theorem div_at {n x y:Nat} (h:y < n):(x*n+y) / n=x:=by
  rw [Nat.mul_comm,Nat.mul_add_div (by omega),Nat.div_eq_of_lt h,Nat.add_zero]
theorem mod_at {n x y:Nat} (h:y < n):(x*n+y) % n=y:=by
  rw [Nat.mul_comm,Nat.mul_add_mod,Nat.mod_eq_of_lt h]
theorem fewAt_at {a b:List Int} {x y:Nat} (h:y≤b.length):fewAt a b (x*(b.length+1)+y)=lev (rv a x) (rv b y):=by
  unfold fewAt rv;rw [div_at (by omega),mod_at (by omega)]
theorem kindAt_at {a b:List Int} {x y:Nat} (h:y≤b.length):kindAt a b (x*(b.length+1)+y)=kindL (rv a x) (rv b y):=by
  unfold kindAt rv;rw [div_at (by omega),mod_at (by omega)]
theorem rv_succ {l:List Int} {n:Nat} (h:n < l.length):rv l (n+1)=l.getD n 0::rv l n:=by
  unfold rv
  rw [List.take_add_one,List.reverse_append,List.getD_eq_getElem?_getD,List.getElem?_eq_getElem h]
  rfl
theorem rv_zero (l:List Int):rv l 0=[]:=rfl
theorem rv_len {l:List Int} {n:Nat} (h:n≤l.length):(rv l n).length=n:=by simp [rv];omega
theorem rv_all (l:List Int):rv l l.length=l.reverse:=by simp [rv]
theorem u8_id {z:Int} (h:0≤z) (h1:z < 256):IntKind.u8.wrap z=z:=by
  show z % 256=z
  omega
theorem best_at {a b:List Int} (ha:a.length≤64) (hb:b.length≤64) {x y:Nat} (hx:x≤a.length) (hy:y≤b.length) (hp:0 < x+y) :
    bestOf a b (tabl (fewAt a b) ((a.length+1)*(b.length+1)) (x*(b.length+1)+y)) x y=(kindL (rv a x) (rv b y),(lev (rv a x) (rv b y):Int)):=by
  have hN:∀ {u v:Nat},u≤a.length→v≤b.length→u*(b.length+1)+v < (a.length+1)*(b.length+1):=fun {u v} hu hv=>by
    have:=Nat.mul_le_mul_right (b.length+1) hu
    rw [Nat.add_mul];omega
  have g:∀ {u v:Nat},u≤a.length→v≤b.length→u*(b.length+1)+v < x*(b.length+1)+y →
      (tabl (fewAt a b) ((a.length+1)*(b.length+1)) (x*(b.length+1)+y)).getD (u*(b.length+1)+v) 0=lev (rv a u) (rv b v):=fun {u v} hu hv h=>by
    rw [tabl_get (hN hu hv),if_pos h,fewAt_at hv]
  have bd:∀ {u v:Nat},u≤a.length→v≤b.length→lev (rv a u) (rv b v)≤64:=fun {u v} hu hv=>by
    have:=lev_le (rv a u) (rv b v)
    rw [rv_len hu,rv_len hv] at this
    omega
  cases x with
  | zero=>
    cases y with
    | zero=>omega
    | succ y=>
      have h3:=g (u:=0) (v:=y) (by omega) (by omega) (by omega)
      have e3:((((0:Nat):Int))*((b.length:Int)+1)+(((y+1:Nat):Int) - 1)).toNat=0*(b.length+1)+y:=by
        have:(((0:Nat):Int))*((b.length:Int)+1)=0:=by simp
        omega
      have hl:lev (rv a 0) (rv b y)=y:=by rw [rv_zero,lev_nil_left,rv_len (by omega)]
      have w3:IntKind.u8.wrap ((y:Int)+1)=(y:Int)+1:=u8_id (by omega) (by omega)
      have p1:¬ ((0:Int) < ((0:Nat):Int)):=by omega
      have p2:(0:Int) < ((y+1:Nat):Int):=by omega
      have p3:((y:Int)+1 < 255):=by omega
      unfold bestOf
      simp only [e3,h3,hl,w3,p1,p2,false_and,if_false,if_true]
      unfold tryS
      simp only [p3,if_true]
      rw [rv_succ (by omega),rv_zero]
      simp only [kindL,lev_nil_left,List.length_cons,rv_len (show y≤b.length by omega)]
      simp
  | succ x=>
    cases y with
    | zero=>
      have hlt:x*(b.length+1)+0 < (x+1)*(b.length+1)+0:=by rw [Nat.add_mul];omega
      have h2:=g (u:=x) (v:=0) (by omega) (by omega) hlt
      have e2:((((x+1:Nat):Int) - 1)*((b.length:Int)+1)+((0:Nat):Int)).toNat=x*(b.length+1)+0:=by
        have:(((x+1:Nat):Int) - 1)=(x:Int):=by omega
        rw [this]
        have:(x:Int)*((b.length:Int)+1)=((x*(b.length+1):Nat):Int):=by push_cast;rfl
        rw [this];omega
      have hl:lev (rv a x) (rv b 0)=x:=by rw [rv_zero,lev_nil_right,rv_len (by omega)]
      have w2:IntKind.u8.wrap ((x:Int)+1)=(x:Int)+1:=u8_id (by omega) (by omega)
      have p1:¬ ((0:Int) < ((0:Nat):Int)):=by omega
      have p2:(0:Int) < ((x+1:Nat):Int):=by omega
      have p3:((x:Int)+1 < 255):=by omega
      unfold bestOf
      simp only [e2,h2,hl,w2,p1,p2,and_false,if_false,if_true]
      unfold tryS
      simp only [p3,if_true]
      rw [rv_succ (by omega),rv_zero]
      simp only [kindL,lev_nil_right,List.length_cons,rv_len (show x≤a.length by omega)]
      simp
    | succ y=>
      have hr:(x+1)*(b.length+1)=x*(b.length+1)+(b.length+1):=by rw [Nat.add_mul];omega
      have h1:=g (u:=x) (v:=y) (by omega) (by omega) (by omega)
      have h2:=g (u:=x) (v:=y+1) (by omega) (by omega) (by omega)
      have h3:=g (u:=x+1) (v:=y) (by omega) (by omega) (by omega)
      have c1:(((x+1:Nat):Int) - 1)=(x:Int):=by omega
      have c2:(((y+1:Nat):Int) - 1)=(y:Int):=by omega
      have cm:∀ u v:Nat,((u:Int)*((b.length:Int)+1)+(v:Int)).toNat=u*(b.length+1)+v:=fun u v=>by
        have:(u:Int)*((b.length:Int)+1)=((u*(b.length+1):Nat):Int):=by push_cast;rfl
        rw [this];omega
      have b1:=bd (u:=x) (v:=y) (by omega) (by omega)
      have b2:=bd (u:=x) (v:=y+1) (by omega) (by omega)
      have b3:=bd (u:=x+1) (v:=y) (by omega) (by omega)
      have w1:IntKind.u8.wrap ((lev (rv a x) (rv b y):Int)+1)=(lev (rv a x) (rv b y):Int)+1:=u8_id (by omega) (by omega)
      have w2:IntKind.u8.wrap ((lev (rv a x) (rv b (y+1)):Int)+1)=(lev (rv a x) (rv b (y+1)):Int)+1:=u8_id (by omega) (by omega)
      have w3:IntKind.u8.wrap ((lev (rv a (x+1)) (rv b y):Int)+1)=(lev (rv a (x+1)) (rv b y):Int)+1:=u8_id (by omega) (by omega)
      have p1:(0:Int) < ((x+1:Nat):Int):=by omega
      have p2:(0:Int) < ((y+1:Nat):Int):=by omega
      unfold bestOf
      simp only [p1,p2,and_self,if_true,c1,c2,cm,h1,h2,h3,w1,w2,w3,Int.toNat_natCast]
      have ea:=rv_succ (l:=a) (n:=x) (by omega)
      have eb:=rv_succ (l:=b) (n:=y) (by omega)
      generalize a.getD x 0=p at *
      generalize b.getD y 0=q at *
      rw [ea,eb] at *
      simp only [kindL,lev_cons]
      generalize lev (rv a x) (rv b y)=n1 at *
      generalize lev (rv a x) (q::rv b y)=n2 at *
      generalize lev (p::rv a x) (rv b y)=n3 at *
      unfold tryS
      by_cases hpq:p=q
      · simp only [if_pos hpq]
        repeat' split
        all_goals (first | (exfalso; omega) | (refine Prod.ext ?_ ?_ <;> dsimp only <;> omega))
      · simp only [if_neg hpq]
        repeat' split
        all_goals (first | (exfalso; omega) | (refine Prod.ext ?_ ?_ <;> dsimp only <;> omega))
end Go.EA
end
section
namespace Go.EA
inductive Ed:List Int→List Int→Nat→Prop
  | nil:Ed [] [] 0
  | keep (x:Int) {a b n}:Ed a b n→Ed (x::a) (x::b) n
  | sub (x y:Int) {a b n}:Ed a b n→Ed (x::a) (y::b) (n+1)
  | del (x:Int) {a b n}:Ed a b n→Ed (x::a) b (n+1)
  | ins (y:Int) {a b n}:Ed a b n→Ed a (y::b) (n+1)
theorem Ed.insAll:∀ (b:List Int),Ed [] b b.length
  | []=>.nil
  | y::b=>.ins y (Ed.insAll b)
theorem Ed.delAll:∀ (a:List Int),Ed a [] a.length
  | []=>.nil
  | y::b=>.del y (Ed.delAll b)
theorem Ed.of_lev:∀ (a b:List Int),Ed a b (lev a b)
  | [],b=>Ed.insAll b
  | x::a,[]=>by rw [lev_nil_right];exact Ed.delAll _
  | x::a,y::b=>by
    rw [lev_cons]
    have h1:=Ed.of_lev a b
    have h2:=Ed.of_lev a (y::b)
    have h3:=Ed.of_lev (x::a) b
    rcases Nat.le_total (lev a b+if x=y then 0 else 1) (min (lev a (y::b)+1) (lev (x::a) b+1)) with h | h
    · rw [Nat.min_eq_left h]
      split
      · rename_i e;subst e;exact .keep x h1
      · exact .sub x y h1
    · rw [Nat.min_eq_right h]
      rcases Nat.le_total (lev a (y::b)+1) (lev (x::a) b+1) with h | h
      · rw [Nat.min_eq_left h];exact .del x h2
      · rw [Nat.min_eq_right h];exact .ins y h3
termination_by a b=>a.length+b.length
theorem Ed.lev_le {a b:List Int} {n:Nat} (h:Ed a b n):lev a b≤n:=by
  induction h with
  | nil=>exact Nat.le_refl _
  | keep x h ih=>rw [lev_cons,if_pos rfl];omega
  | sub x y h ih=>rw [lev_cons]; split <;> omega
  | @del x a b n h ih=>
    cases b with
    | nil=>rw [lev_nil_right] at *;simp only [List.length_cons];omega
    | cons y b=>rw [lev_cons];omega
  | @ins y a b n h ih=>
    cases a with
    | nil=>rw [lev_nil_left] at *;simp only [List.length_cons];omega
    | cons x a=>rw [lev_cons];omega
theorem Ed.symm {a b:List Int} {n:Nat} (h:Ed a b n):Ed b a n:=by
  induction h with
  | nil=>exact .nil
  | keep x h ih=>exact .keep x ih
  | sub x y h ih=>exact .sub y x ih
  | del x h ih=>exact .ins x ih
  | ins y h ih=>exact .del y ih
theorem Ed.len {a b:List Int} {n:Nat} (h:Ed a b n):a.length≤b.length+n∧b.length≤a.length+n:=by
  induction h with
  | nil=>simp
  | keep x h ih=>simp only [List.length_cons];omega
  | sub x y h ih=>simp only [List.length_cons];omega
  | del x h ih=>simp only [List.length_cons];omega
  | ins y h ih=>simp only [List.length_cons];omega
theorem Ed.same {a b:List Int} {n:Nat} (h:Ed a b n) (h0:n=0):a=b:=by
  induction h with
  | nil=>rfl
  | keep x h ih=>rw [ih h0]
  | sub x y h ih=>omega
  | del x h ih=>omega
  | ins y h ih=>omega
theorem Ed.refl:∀ (a:List Int),Ed a a 0
  | []=>.nil
  | x::a=>.keep x (Ed.refl a)
theorem Ed.trans:∀ (N:Nat) {a b c:List Int} {n m:Nat},a.length+b.length+c.length≤N→Ed a b n→Ed b c m→∃ k,k≤n+m∧Ed a c k
  | 0,a,b,c,n,m,hN,h,h'=>by
    obtain rfl:a=[]:=List.eq_nil_of_length_eq_zero (by omega)
    obtain rfl:c=[]:=List.eq_nil_of_length_eq_zero (by omega)
    exact ⟨0,by omega,.nil⟩
  | N+1,a,b,c,n,m,hN,h,h'=>by
    cases h' with
    | nil=>exact ⟨n,by omega,h⟩
    | @ins z _ c m h'=>
      obtain ⟨k,hk,he⟩:=Ed.trans N (by simp only [List.length_cons] at hN;omega) h h'
      exact ⟨k+1,by omega,.ins z he⟩
    | @keep y b c m h'=>
      cases h with
      | @keep _ a _ n h=>
        obtain ⟨k,hk,he⟩:=Ed.trans N (by simp only [List.length_cons] at hN;omega) h h'
        exact ⟨k,hk,.keep y he⟩
      | @sub x _ a _ n h=>
        obtain ⟨k,hk,he⟩:=Ed.trans N (by simp only [List.length_cons] at hN;omega) h h'
        exact ⟨k+1,by omega,.sub x y he⟩
      | @del x a _ n h=>
        obtain ⟨k,hk,he⟩:=Ed.trans N (by simp only [List.length_cons] at hN ⊢;omega) h (.keep y h')
        exact ⟨k+1,by omega,.del x he⟩
      | @ins _ _ _ n h=>
        obtain ⟨k,hk,he⟩:=Ed.trans N (by simp only [List.length_cons] at hN;omega) h h'
        exact ⟨k+1,by omega,.ins y he⟩
    | @sub y z b c m h'=>
      cases h with
      | @keep _ a _ n h=>
        obtain ⟨k,hk,he⟩:=Ed.trans N (by simp only [List.length_cons] at hN;omega) h h'
        exact ⟨k+1,by omega,.sub y z he⟩
      | @sub x _ a _ n h=>
        obtain ⟨k,hk,he⟩:=Ed.trans N (by simp only [List.length_cons] at hN;omega) h h'
        exact ⟨k+1,by omega,.sub x z he⟩
      | @del x a _ n h=>
        obtain ⟨k,hk,he⟩:=Ed.trans N (by simp only [List.length_cons] at hN ⊢;omega) h (.sub y z h')
        exact ⟨k+1,by omega,.del x he⟩
      | @ins _ _ _ n h=>
        obtain ⟨k,hk,he⟩:=Ed.trans N (by simp only [List.length_cons] at hN;omega) h h'
        exact ⟨k+1,by omega,.ins z he⟩
    | @del y b _ m h'=>
      cases h with
      | @keep _ a _ n h=>
        obtain ⟨k,hk,he⟩:=Ed.trans N (by simp only [List.length_cons] at hN;omega) h h'
        exact ⟨k+1,by omega,.del y he⟩
      | @sub x _ a _ n h=>
        obtain ⟨k,hk,he⟩:=Ed.trans N (by simp only [List.length_cons] at hN;omega) h h'
        exact ⟨k+1,by omega,.del x he⟩
      | @del x a _ n h=>
        obtain ⟨k,hk,he⟩:=Ed.trans N (by simp only [List.length_cons] at hN ⊢;omega) h (.del y h')
        exact ⟨k+1,by omega,.del x he⟩
      | @ins _ _ _ n h=>
        obtain ⟨k,hk,he⟩:=Ed.trans N (by simp only [List.length_cons] at hN;omega) h h'
        exact ⟨k,by omega,he⟩
theorem lev_zero {a b:List Int}:lev a b=0↔a=b:=⟨fun h=>(Ed.of_lev a b).same h,fun h=>by subst h;have:=Ed.lev_le (Ed.refl a);omega⟩
theorem lev_tri (a b c:List Int):lev a b≤lev a c+lev c b:=by
  obtain ⟨k,hk,he⟩:=Ed.trans _ (Nat.le_refl _) (Ed.of_lev a c) (Ed.of_lev c b)
  exact Nat.le_trans he.lev_le hk
theorem lev_keep (x:Int) (a b:List Int):lev (x::a) (x::b)=lev a b:=by
  rw [lev_cons,if_pos rfl]
  have h1:=lev_tri a b (x::b)
  have h2:=lev_tri a b (x::a)
  have h3:lev (x::b) b≤1:=Ed.lev_le (.del x (Ed.refl b))
  have h4:lev a (x::a)≤1:=Ed.lev_le (.ins x (Ed.refl a))
  omega
end Go.EA
end
