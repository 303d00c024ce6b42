/- How the model's code is read as "EA" code: a function that the kernel reckons. Conditions: none (definitions). -/
import Derived.Test.YtngcpifknomecaaDoorEDefs
import GoSem.Core.Code
import GoSem.Core.Layout
import GoSem.Core.Region
import GoSem.Dispatch
set_option linter.unusedVariables false
namespace Go.EA

/-- What reading needs: the program, functions' own numbers, the frame's size. -/
structure RCx where
  P : Program
  ren : FuncId → Option Nat

def compLf : Value → Option Lf
  | .int k n => some (.int k n)
  | .bool b => some (.bool b)
  | .string s => some (.str s.data.toList)
  | .pointer none => some .nilp
  | .slice none 0 0 => some .nils
  | .map none => some .nilm
  | .nilFunc => some .nilf
  | .nilIface => some .nili
  | _ => none

def compCells : List Value → Option (List Lf)
  | [] => some []
  | v :: r => match compLf v, compCells r with
    | some x, some l => some (x :: l)
    | _, _ => none

def compVal : Value → Option AV
  | .agg cs => (compCells cs.toList).map .agg
  | .tuple vs => if vs.isEmpty then some und else none
  | v => (compLf v).map .one

def compOpd (C : RCx) (nt : Nat) : Operand → Option Opd
  | .tmp t => if t < nt then some (.t t) else none
  | .const v => (compVal v).map .c
  | .func f => (C.ren f).map fun i => .c (.one (.fn i []))
  | .global _ => none

def compOpds (C : RCx) (nt : Nat) : List Operand → Option (List Opd)
  | [] => some []
  | x :: r => match compOpd C nt x, compOpds C nt r with
    | some y, some l => some (y :: l)
    | _, _ => none

def compOpt (C : RCx) (nt : Nat) : Option Operand → Option (Option Opd)
  | none => some none
  | some x => (compOpd C nt x).map some

def isAggT (P : Program) (t : TypeId) : Option Bool :=
  match P.underlying t with
  | some (.struct _) | some (.array _ _) => some true
  | some _ => some false
  | none => none

def sizeT (P : Program) (t : TypeId) : Option Nat := (P.info? t).map (·.size)
def bytesT (P : Program) (t : TypeId) : Option Nat := (P.info? t).map (·.bytes)
def zeroT (P : Program) (t : TypeId) : Option (List Lf) :=
  match P.info? t with
  | some i => match i.zero with
    | some v => compCells v.cells.toList
    | none => none
  | none => none

/-- A struct's parts: the field's place and size. -/
def compParts (C : RCx) (nt : Nat) (fs : Array Field) : List (Nat × Operand) → Option (List (Nat × Nat × Opd))
  | [] => some []
  | (i, x) :: r => match fs[i]? with
    | some f => match sizeT C.P f.type, compOpd C nt x, compParts C nt fs r with
      | some n, some y, some l => some ((f.offset, n, y) :: l)
      | _, _, _ => none
    | none => none

def compPartsA (C : RCx) (nt s : Nat) : List (Nat × Operand) → Option (List (Nat × Nat × Opd))
  | [] => some []
  | (i, x) :: r => match compOpd C nt x, compPartsA C nt s r with
    | some y, some l => some ((i * s, s, y) :: l)
    | _, _ => none

def compPartsE (C : RCx) (nt : Nat) : List (Nat × Operand) → Option (List (Nat × Opd))
  | [] => some []
  | (i, x) :: r => match compOpd C nt x, compPartsE C nt r with
    | some y, some l => some ((i, y) :: l)
    | _, _ => none

def pkT (P : Program) (t : TypeId) : Option PK :=
  match P.underlying t with
  | some .bool => some .bool
  | some (.int k) => some (.int k)
  | some .string => some .str
  | _ => none

/-- The sorts of a struct's fields, one cell each, from place j on, none blank. -/
def flatF (P : Program) : Nat → List Field → Option (List PK)
  | _, [] => some []
  | j, f :: r => match pkT P f.type, flatF P (j + 1) r with
    | some k, some l => if f.offset = j ∧ f.name ≠ "_" then some (k :: l) else none
    | _, _ => none

/-- A struct of numbers, bools, texts. -/
def flatT (P : Program) (t : TypeId) : Option (List PK) :=
  match P.underlying t with
  | some (.struct fs) => if P.stoodInHeld t = false ∧ P.eqGuardType P.depth t = false then flatF P 0 fs.toList else none
  | _ => none

def eqKind (P : Program) (t : TypeId) : Option EqK :=
  match P.underlying t with
  | some .bool => some .bool
  | some (.pointer _) => some .ptr
  | some (.slice _) => some .slc
  | some (.func _ _ _) => some .fnc
  | some (.map _ _) => some .map
  | _ => (flatT P t).map .cells

def isFieldOk (P : Program) (f : Field) : Bool :=
  match P.info? f.type with
  | some i => i.size != 0
  | none => false

def isTS : TypeDesc → Bool
  | .string | .slice _ => true
  | _ => false

def compBuiltin (C : RCx) (nt : Nat) (b : Builtin) (ts : Array TypeId) (xs : List Opd) : Option AOp :=
  match b, xs with
  | .len, [x] => match ts.toList with
    | [t] => match C.P.underlying t with
      | some .string => some (.len .str x)
      | some (.slice _) => some (.len .slc x)
      | _ => none
    | _ => none
  | .append, [x, y] => match ts.toList with
    | [t, t'] => match C.P.underlying t, C.P.underlying t' with
      | some (.slice e), some d => match sizeT C.P e, bytesT C.P e, zeroT C.P e with
        | some s, some b, some z => if isTS d && s != 0 && b != 0 && z.length == s then some (.app s b x y) else none
        | _, _, _ => none
      | _, _ => none
    | _ => none
  | .max, xs => some (.best true xs)
  | .min, xs => some (.best false xs)
  | _, _ => none

def compOp (C : RCx) (nt : Nat) (o : Oper) : Option AOp :=
  let d := compOpd C nt
  let P := C.P
  match o.op with
  | .move x | .assign x => (d x).map .mov
  | .pick c a b => match d c, d a, d b with
    | some c, some a, some b => some (.pick c a b)
    | _, _, _ => none
  | .alloc t => (zeroT P t).map .new
  | .box _ x => (d x).map .box
  | .build t ps => match zeroT P t, P.underlying t with
    | some z, some (.struct fs) => if fs.toList.all (fun f => (sizeT P f.type).isSome) then (compParts C nt fs ps.toList).map (.build z) else none
    | some z, some (.array _ e) => match sizeT P e with
      | some s => (compPartsA C nt s ps.toList).map (.build z)
      | none => none
    | _, _ => none
  | .buildSlice t n ps => match P.underlying t with
    | some (.slice e) => match sizeT P e, zeroT P e, compPartsE C nt ps.toList with
      | some s, some z, some l => if s != 0 && z.length == s && n * s ≤ 16777216 then some (.rowLit s z n l) else none
      | _, _, _ => none
    | _ => none
  | .load t a => match isAggT P t, sizeT P t, d a with
    | some g, some n, some a => some (.load g (if g then n else 1) a)
    | _, _, _ => none
  | .store t a x => match sizeT P t, d a, d x with
    | some n, some a, some x => some (.store n a x)
    | _, _, _ => none
  | .nilCheck x => (d x).map .nilck
  | .binOp op t x y _ => match d x, d y with
    | some x, some y =>
      if op = .eql ∨ op = .neq then
        match P.underlying t with
        | some (.int _) | some .string => some (.bin op x y)
        | _ => (eqKind P t).map fun k => .eqv k (op = .neq) x y
      else some (.bin op x y)
    | _, _ => none
  | .unOp op _ x => (d x).map (.un op)
  | .convert a b x => match P.underlying a, P.underlying b, d x with
    | some (.int _), some (.int k), some x => some (.wrapI k x)
    | some .string, some .string, some x => some (.s2s x)
    | some (.int _), some .string, some x => some (.i2s x)
    | some .string, some (.slice e), some x => match P.underlying e, sizeT P e with
      | some (.int .u8), some 1 => some (.s2b x)
      | _, _ => none
    | some (.slice e), some .string, some x => match P.underlying e with
      | some (.int .u8) => some (.b2s x)
      | _ => none
    | _, _, _ => none
  | .makeFunc fn first caps => match fn with
    | .func f => match C.ren f, compOpds C nt caps.toList with
      | some i, some l => if first.isEmpty then some (.mkfn i l) else none
      | _, _ => none
    | _ => none
  | .makeSlice t l c => match P.underlying t, d l, d c with
    | some (.slice e), some l, some c => match sizeT P e, bytesT P e, zeroT P e with
      | some s, some b, some z => if s != 0 && z.length == s then some (.mksl s z b l c) else none
      | _, _, _ => none
    | _, _, _ => none
  | .slice t x lo hi mx => match d x, compOpt C nt lo, compOpt C nt hi, compOpt C nt mx with
    | some x, some lo, some hi, some mx => match P.underlying t with
      | some .string => some (.slice .str 1 x lo hi mx)
      | some (.slice e) => if mx.isNone || hi.isSome then (sizeT P e).map fun s => .slice .slc s x lo hi mx else none
      | _ => none
    | _, _, _, _ => none
  | .fieldAddr t x f => match P.underlying t, d x with
    | some (.struct fs), some x => match fs[f]? with
      | some fd => if isFieldOk P fd then some (.faddr fd.offset x) else none
      | none => none
    | _, _ => none
  | .field t x f => match P.underlying t, d x with
    | some (.struct fs), some x => match fs[f]? with
      | some fd => match isAggT P fd.type, sizeT P fd.type with
        | some g, some n => some (.fld g fd.offset (if g then n else 1) x)
        | _, _ => none
      | none => none
    | _, _ => none
  | .indexAddr t x i => match P.underlying t, d x, d i with
    | some (.slice e), some x, some i => (sizeT P e).map fun s => .iaddr s x i
    | some (.array n e), some x, some i => (sizeT P e).map fun s => .aaddr n s x i
    | _, _, _ => none
  | .index t x i => match P.underlying t, d x, d i with
    | some .string, some x, some i => some (.sidx x i)
    | some (.array n e), some x, some i => match isAggT P e, sizeT P e with
      | some true, some s => some (.aidx true n s x i)
      | some false, some 1 => some (.aidx false n 1 x i)
      | _, _ => none
    | _, _, _ => none
  | .range t x => match P.underlying t, d x with
    | some .string, some x => some (.rng x)
    | _, _ => none
  | .next x b => if b then (d x).map .nxt else none
  | .extract x i => (d x).map fun x => .ext x i
  | .call c => match compOpds C nt c.args.toList with
    | some xs => match c.callee with
      | .value f => (d f).map fun f => .call f xs
      | .builtin b => compBuiltin C nt b c.argTypes xs
      | .invoke _ _ => none
    | none => none
  | _ => none

def compGuard (ops : Array Oper) (nt : Nat) : Option (Nat × Bool) → Option (Option (Nat × Bool))
  | none => some none
  | some (j, b) => match (ops[j]?).bind (·.dst) with
    | some d => if d < nt then some (some (d, b)) else none
    | none => none

def compI (C : RCx) (nt : Nat) (ops : Array Oper) (o : Oper) : Option AI :=
  match (match o.dst with | some d => decide (d < nt) | none => true), compOp C nt o, compGuard ops nt o.guard with
  | true, some op, some g => some ⟨o.dst, op, g⟩
  | _, _, _ => none

def compIs (C : RCx) (nt : Nat) (ops : Array Oper) : List Oper → Option (List AI)
  | [] => some []
  | o :: r => match compI C nt ops o, compIs C nt ops r with
    | some i, some l => some (i :: l)
    | _, _ => none

/-- No range over a function within. -/
def noR : AC → Bool
  | .seq a b | .cond _ a b => noR a && noR b
  | .block _ b | .loop b => noR b
  | .rangeF _ _ _ _ => false
  | _ => true

def compC (C : RCx) (nt : Nat) (drawOk : Array Oper → List AI → Bool) : Code → Option AC
  | .skip | .label _ => some .skip
  | .region _ ops draw =>
    match compIs C nt ops ops.toList with
    | some l => if draw then (if drawOk ops l then some (.dreg l) else none) else some (.reg l)
    | none => none
  | .seq a b => match compC C nt drawOk a, compC C nt drawOk b with
    | some a, some b => some (.seq a b)
    | _, _ => none
  | .cond c t e => match compOpd C nt c, compC C nt drawOk t, compC C nt drawOk e with
    | some c, some t, some e => some (.cond c t e)
    | _, _, _ => none
  | .block id b => (compC C nt drawOk b).map (.block id)
  | .loop b => (compC C nt drawOk b).map .loop
  | .rangeFunc f ps as bd => match compOpd C nt f, compC C nt drawOk as, compC C nt drawOk bd with
    | some f, some as, some bd => if ps.toList.all (· < nt) && noR as && noR bd then some (.rangeF f ps.toList as bd) else none
    | _, _, _ => none
  | .exit id => some (.exit id)
  | .ret => some .ret
  | .scope c => (compC C nt drawOk c).map (.seq .skip)
  | .goto _ | .refuse _ => none

def compRes (P : Program) (nt : Nat) : List ResultVar → Option (List ARes)
  | [] => some []
  | .tmp t :: r => match compRes P nt r with
    | some l => if t < nt then some (.t t :: l) else none
    | none => none
  | .cell a t :: r => match compRes P nt r, isAggT P t, sizeT P t with
    | some l, some g, some n => if a < nt then some (.cell a g (if g then n else 1) :: l) else none
    | _, _, _ => none

def compF (C : RCx) (drawOk : Array Oper → List AI → Bool) (fn : Func) : Option AF :=
  match fn.body with
  | some c => match compC C fn.ntmps drawOk c, compRes C.P fn.ntmps fn.results.toList with
    | some c, some r => if fn.params.size + fn.nfree ≤ fn.ntmps then some ⟨fn.params.size + fn.nfree, fn.ntmps, r, c⟩ else none
    | _, _ => none
  | none => none

end Go.EA
