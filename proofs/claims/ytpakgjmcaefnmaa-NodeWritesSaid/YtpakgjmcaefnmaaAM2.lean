/- An abstract machine for the model: abstract values, their relation to worlds, and the rules of its walk, each proved sound over the model; no condition. -/
import Derived.Test.YtpakgjmcaefnmaaAM1
import Derived.Laws.Entries
import Derived.ChangeKeysEq
set_option linter.unusedSimpArgs false
set_option linter.unusedVariables false
set_option autoImplicit false
namespace Go.AM
open Go Go.RowKit

/-- A byte as a cell. -/
def byteV (b : UInt8) : AV := .v (.int .u8 b.toNat)
def byteOf : AV → UInt8
  | .v (.int _ n) => UInt8.ofNat n.toNat
  | _ => 0
def isByte : AV → Bool
  | .v (.int .u8 _) => true
  | _ => false
def toBytes (cs : List AV) : ByteArray := ⟨(cs.map byteOf).toArray⟩
@[simp] theorem byteOf_byteV (b : UInt8) : byteOf (byteV b) = b := by simp [byteOf, byteV]
@[simp] theorem isByte_byteV (b : UInt8) : isByte (byteV b) = true := rfl
@[simp] theorem toBytes_map (l : List UInt8) : toBytes (l.map byteV) = ⟨l.toArray⟩ := by
  simp [toBytes, Function.comp_def]
@[simp] theorem all_isByte_map (l : List UInt8) : (l.map byteV).all isByte = true := by simp

def AV.cells : AV → List AV
  | .agg cs => cs
  | .v (.agg c) => c.toList.map .v
  | x => [x]
/-- One cell's value. -/
def AV.one : AV → Bool
  | .agg _ | .tup _ | .v (.agg _) | .v (.tuple _) => false
  | _ => true
@[simp] theorem one_byteV (b : UInt8) : (byteV b).one = true := rfl

def isAggT (P : Program) (t : TypeId) : Option Bool :=
  match P.underlying t with
  | some (.struct _) | some (.array _ _) => some true
  | some _ => some false
  | none => none
/-- A field's offset and type. -/
def fieldOf (P : Program) (t : TypeId) (i : Nat) : Option (Nat × TypeId) :=
  match P.underlying t with
  | some (.struct fs) => (fs[i]?).map fun f => (f.offset, f.type)
  | _ => none
/-- Has every field's type a row of its own? -/
def fieldsOk (P : Program) (t : TypeId) : Bool :=
  match P.underlying t with
  | some (.struct fs) => fs.all fun f => (P.info? f.type).isSome
  | _ => false
/-- A field's place. -/
def placeOf (P : Program) (t : TypeId) (i : Nat) : Option (Nat × Nat) :=
  match fieldOf P t i with
  | some (o, u) => some (o, P.cellsOf u)
  | none => none
def zcells (P : Program) (t : TypeId) : Option (List AV) :=
  ((P.info? t).bind (·.zero)).map fun z => z.cells.toList.map .v

/-- So many cells, the zero value's over and over. -/
def zrow (n : Nat) (z : List AV) : List AV := (List.range n).map fun i => z.getD (i % z.length) (.v default)
theorem zrow_one (n : Nat) (x : AV) : zrow n [x] = List.replicate n x := by
  apply List.ext_getElem
  · simp [zrow]
  · intro i h1 h2
    simp [zrow, Nat.mod_one]

def apart (P : Program) (t : TypeId) (cs : List AV) (off : Nat) : Option AV :=
  match isAggT P t with
  | some true => some (.agg ((cs.drop off).take (P.cellsOf t)))
  | some false => cs[off]?
  | none => none

def asetAll (cells : List AV) (off : Nat) : List AV → List AV
  | [] => cells
  | x :: xs => asetAll (cells.set off x) (off + 1) xs

/-- The parts of a composite value, laid in their places. -/
def afill (place : Nat → Option (Nat × Nat)) (cells : List AV) : List (Nat × AV) → Option (List AV)
  | [] => some cells
  | (i, v) :: rest =>
    match place i with
    | none => none
    | some (off, size) =>
      if v.cells.length ≠ size ∨ off + v.cells.length > cells.length then none
      else afill place (asetAll cells off v.cells) rest

def aload (P : Program) (t : TypeId) (cs : List AV) : Option AV :=
  match isAggT P t with
  | some true => if P.cellsOf t ≤ cs.length then some (.agg (cs.take (P.cellsOf t))) else none
  | some false => cs[0]?
  | none => none

/-- Whole numbers: the operations by name. -/
def iadd (k : IntKind) (a b : Int) : Int := k.wrap (a + b)
def isub (k : IntKind) (a b : Int) : Int := k.wrap (a - b)
def imul (k : IntKind) (a b : Int) : Int := k.wrap (a * b)
def iquo (k : IntKind) (a b : Int) : Int := k.wrap (a.tdiv b)
def irem (a b : Int) : Int := a.tmod b
def iand (k : IntKind) (a b : Int) : Int := k.wrap (BitVec.ofInt k.bits a &&& BitVec.ofInt k.bits b).toNat
def ior (k : IntKind) (a b : Int) : Int := k.wrap (BitVec.ofInt k.bits a ||| BitVec.ofInt k.bits b).toNat
def ixor (k : IntKind) (a b : Int) : Int := k.wrap (BitVec.ofInt k.bits a ^^^ BitVec.ofInt k.bits b).toNat
def iandnot (k : IntKind) (a b : Int) : Int := k.wrap (BitVec.ofInt k.bits a &&& ~~~ BitVec.ofInt k.bits b).toNat
def ishl (k : IntKind) (a b : Int) : Int := k.wrap (a * 2 ^ (min b.toNat k.bits))
def ishr (k : IntKind) (a b : Int) : Int := a.fdiv (2 ^ (min b.toNat k.bits))
def ineg (k : IntKind) (a : Int) : Int := k.wrap (0 - a)
def inot (k : IntKind) (a : Int) : Int := k.wrap (BitVec.ofInt k.bits (if k.signed then -1 else k.max) ^^^ BitVec.ofInt k.bits a).toNat
def iconv (k : IntKind) (a : Int) : Int := k.wrap a

def aint (op : BinOp) (k : IntKind) (a b : Int) : Option AV :=
  match op with
  | .add => some (.v (.int k (iadd k a b)))
  | .sub => some (.v (.int k (isub k a b)))
  | .mul => some (.v (.int k (imul k a b)))
  | .quo => if b = 0 then none else some (.v (.int k (iquo k a b)))
  | .rem => if b = 0 then none else some (.v (.int k (irem a b)))
  | .and => some (.v (.int k (iand k a b)))
  | .or => some (.v (.int k (ior k a b)))
  | .xor => some (.v (.int k (ixor k a b)))
  | .andNot => some (.v (.int k (iandnot k a b)))
  | .eql => some (.v (.bool (a == b)))
  | .neq => some (.v (.bool (a != b)))
  | .lss => some (.v (.bool (a < b)))
  | .leq => some (.v (.bool (a ≤ b)))
  | .gtr => some (.v (.bool (a > b)))
  | .geq => some (.v (.bool (a ≥ b)))
  | _ => none

def ashift (op : BinOp) (k : IntKind) (a b : Int) : Option AV :=
  if b < 0 then none else
  match op with
  | .shl => some (.v (.int k (ishl k a b)))
  | .shr => some (.v (.int k (ishr k a b)))
  | _ => none

def astr (op : BinOp) (x y : ByteArray) : Option AV :=
  match op with
  | .add => if ((x.size + y.size : Nat) : Int) > IntKind.i64.max then none else some (.v (.string (x ++ y)))
  | .eql => some (.v (.bool (x.toList == y.toList)))
  | .neq => some (.v (.bool !(x.toList == y.toList)))
  | _ => none

def abool (P : Program) (T : TypeId) (op : BinOp) (x y : Bool) : Option AV :=
  match op, P.underlying T with
  | .eql, some .bool => some (.v (.bool (x == y)))
  | .neq, some .bool => some (.v (.bool !(x == y)))
  | _, _ => none

/-- Is it nil? -/
def anil (op : BinOp) (t : Bool) : Option AV :=
  match op with
  | .eql => some (.v (.bool t))
  | .neq => some (.v (.bool !t))
  | _ => none

def isSliceT (P : Program) (t : TypeId) : Bool := match P.underlying t with | some (.slice _) => true | _ => false
def isPtrT (P : Program) (t : TypeId) : Bool := match P.underlying t with | some (.pointer _) => true | _ => false

def abin (P : Program) (op : BinOp) (T : TypeId) : AV → AV → Option AV
  | .v (.int k a), .v (.int k' b) =>
    match op with
    | .shl => ashift .shl k a b
    | .shr => ashift .shr k a b
    | op => if k = k' then aint op k a b else none
  | .v (.bool a), .v (.bool b) => abool P T op a b
  | .v (.string a), .v (.string b) => astr op a b
  | .v (.slice none _ _), .v (.slice none _ _) => if isSliceT P T = true then anil op true else none
  | .sl _ n _ sp, .v (.slice none _ _) => if isSliceT P T = true ∧ ¬ (n = 0 ∧ sp.isAny = true) then anil op false else none
  | .osl _ _ _ _ _, .v (.slice none _ _) => if isSliceT P T = true then anil op false else none
  | .v (.pointer none), .v (.pointer none) => if isPtrT P T = true then anil op true else none
  | .ptr _ _, .v (.pointer none) => if isPtrT P T = true then anil op false else none
  | _, _ => none

def aun (op : UnOp) : AV → Option AV
  | .v (.int k n) =>
    match op with
    | .neg => some (.v (.int k (ineg k n)))
    | .xor => some (.v (.int k (inot k n)))
    | _ => none
  | .v (.bool b) => match op with | .not => some (.v (.bool !b)) | _ => none
  | _ => none

def aconv (P : Program) (src dst : TypeId) (x : AV) : Option AV :=
  match P.underlying src, P.underlying dst, x with
  | some (.int _), some (.int k), .v (.int _ n) => some (.v (.int k (iconv k n)))
  | some .string, some .string, .v (.string s) => some (.v (.string s))
  | some (.slice e), some .string, .sl sz _ cs _ =>
    match P.underlying e with
    | some (.int .u8) => if sz = 1 ∧ cs.all isByte = true then some (.v (.string (toBytes cs))) else none
    | _ => none
  | some (.slice e), some .string, .v (.slice none _ _) =>
    match P.underlying e with
    | some (.int .u8) => some (.v (.string .empty))
    | _ => none
  | some .string, some (.slice e), .v (.string s) =>
    match P.underlying e with
    | some (.int .u8) => some (.sl 1 s.size (s.data.toList.map byteV) .no)
    | _ => none
  | some (.slice _), some (.slice e), .sl sz n cs .new =>
    match P.underlying e with
    | some (.int .u8) => if src = dst then some (.sl sz n cs .new) else none
    | _ => none
  | _, _, _ => none

def aindexAddr (P : Program) (T : TypeId) (x i : AV) : Option AV :=
  match P.underlying T, x, i with
  | some (.slice e), .sl sz n cs _, .v (.int _ j) =>
    if 0 ≤ j ∧ j < n ∧ P.cellsOf e = sz ∧ sz ≠ 0 then some (.rop ((cs.drop (j.toNat * sz)).take sz)) else none
  | some (.slice e), .osl o off sz n _, .v (.int _ j) =>
    if 0 ≤ j ∧ j < n ∧ P.cellsOf e = sz ∧ sz ≠ 0 then some (.ptr o (off + j.toNat * sz)) else none
  | some (.array n e), .ptr o off, .v (.int _ j) =>
    if 0 ≤ j ∧ j < n ∧ P.cellsOf e ≠ 0 then some (.ptr o (off + j.toNat * P.cellsOf e)) else none
  | some (.array n e), .rop cs, .v (.int _ j) =>
    if 0 ≤ j ∧ j < n ∧ P.cellsOf e ≠ 0 then some (.rop (cs.drop (j.toNat * P.cellsOf e))) else none
  | _, _, _ => none

def aindex (P : Program) (T : TypeId) (x i : AV) : Option AV :=
  match P.underlying T, x, i with
  | some (.array n e), .agg cs, .v (.int _ j) =>
    if 0 ≤ j ∧ j < n ∧ P.cellsOf e ≠ 0 then apart P e cs (j.toNat * P.cellsOf e) else none
  | some .string, .v (.string s), .v (.int _ j) =>
    if 0 ≤ j then (match s[j.toNat]? with | some b => some (byteV b) | none => none) else none
  | _, _, _ => none

def optInt (d : Int) : Option AV → Option Int
  | none => some d
  | some (.v (.int _ j)) => some j
  | _ => none

def aslice (P : Program) (T : TypeId) (x : AV) (lo hi mx : Option AV) : Option AV :=
  match P.underlying T, x with
  | some (.slice e), .sl sz n cs sp =>
    match optInt 0 lo, optInt n hi, optInt n mx with
    | some l, some h, some m =>
      if 0 ≤ l ∧ l ≤ h ∧ h ≤ n ∧ (mx.isSome = true → h = m) ∧ (mx.isSome = true → hi.isSome = true) ∧ P.cellsOf e = sz ∧ sz ≠ 0 then
        some (.sl sz (h.toNat - l.toNat) ((cs.take (h.toNat * sz)).drop (l.toNat * sz))
          (match sp with
            | .any => .any
            | .no => if mx.isSome = true then .full else .no
            | .full => if mx.isSome = true then .full else if h = n then .full else .no
            | .new => if mx.isSome = true then .full else if h = n then .new else .no
            | .own t g => if mx.isSome = true then .full else if h = n then (if l = 0 then .own t g else .no) else .no))
      else none
    | _, _, _ => none
  | some (.slice e), .v (.slice none 0 0) =>
    match optInt 0 lo, optInt 0 hi, optInt 0 mx with
    | some l, some h, some m => if l = 0 ∧ h = 0 ∧ m = 0 ∧ P.cellsOf e ≠ 0 ∧ (mx.isSome = true → hi.isSome = true) then some (.v (.slice none 0 0)) else none
    | _, _, _ => none
  | some (.slice e), .osl o off sz n cap =>
    match optInt 0 lo, optInt n hi, mx with
    | some l, some h, none =>
      if 0 ≤ l ∧ l ≤ h ∧ h ≤ cap ∧ P.cellsOf e = sz ∧ sz ≠ 0 then
        some (.osl o (if (cap : Int) = l then off else off + l.toNat * sz) sz (h.toNat - l.toNat) (cap - l.toNat))
      else none
    | _, _, _ => none
  | some (.array n e), .ptr o off =>
    match optInt 0 lo, optInt n hi, mx with
    | some l, some h, none =>
      if 0 ≤ l ∧ l ≤ h ∧ h ≤ n ∧ P.cellsOf e ≠ 0 then
        some (.osl o (if (n : Int) = l then off else off + l.toNat * P.cellsOf e) (P.cellsOf e) (h.toNat - l.toNat) (n - l.toNat))
      else none
    | _, _, _ => none
  | some .string, .v (.string s) =>
    match optInt 0 lo, optInt s.size hi, mx with
    | some l, some h, none => if 0 ≤ l ∧ l ≤ h ∧ h ≤ s.size then some (.v (.string (s.extract l.toNat h.toNat))) else none
    | _, _, _ => none
  | _, _ => none

def abuiltin (P : Program) (b : Builtin) (argTypes : Array TypeId) (args : List AV) : Option AV :=
  match b, args with
  | .len, [x] =>
    match (argTypes[0]?).bind P.underlying, x with
    | some (.slice _), .sl _ n _ _ => some (.v (.int .i64 n))
    | some (.slice _), .osl _ _ _ n _ => some (.v (.int .i64 n))
    | some (.slice _), .v (.slice none n _) => some (.v (.int .i64 n))
    | some .string, .v (.string s) => some (.v (.int .i64 s.size))
    | some (.array n _), _ => some (.v (.int .i64 n))
    | _, _ => none
  | .cap, [x] =>
    match (argTypes[0]?).bind P.underlying, x with
    | some (.slice _), .osl _ _ _ _ c => some (.v (.int .i64 c))
    | some (.slice _), .v (.slice none _ c) => some (.v (.int .i64 c))
    | some (.slice _), .sl _ n _ .full => some (.v (.int .i64 n))
    | some (.slice _), .sl _ n _ .new => some (.v (.int .i64 n))
    | _, _ => none
  | .min, [.v (.int k x), .v (.int k' y)] => if k = k' then some (.v (.int k (if y < x then y else x))) else none
  | .max, [.v (.int k x), .v (.int k' y)] => if k = k' then some (.v (.int k (if y > x then y else x))) else none
  | _, _ => none

/-- What an operation comes to that neither looks at objects nor makes any. -/
def aval (P : Program) (ρ : Operand → AV) : Op → Option AV
  | .move x => some (ρ x)
  | .assign x => some (ρ x)
  | .pick c a b => match ρ c with | .v (.bool t) => some (if t = true then ρ a else ρ b) | _ => none
  | .binOp op T x y _ => abin P op T (ρ x) (ρ y)
  | .unOp op _ x => aun op (ρ x)
  | .convert src dst x => aconv P src dst (ρ x)
  | .nilCheck x =>
    match ρ x with
    | .ptr o off => some (.ptr o off)
    | .rop cs => some (.rop cs)
    | .clo f cs => some (.clo f cs)
    | .v (.func (.func f) a b) => some (.v (.func (.func f) a b))
    | _ => none
  | .fieldAddr S x i =>
    match fieldOf P S i with
    | some (off, T) =>
      if P.cellsOf T = 0 then none else
      match ρ x with
      | .ptr o a => some (.ptr o (a + off))
      | .rop cs => some (.rop (cs.drop off))
      | _ => none
    | none => none
  | .field S x i =>
    match fieldOf P S i, ρ x with
    | some (off, T), .agg cs => if P.cellsOf T = 0 then none else apart P T cs off
    | _, _ => none
  | .indexAddr T x i => aindexAddr P T (ρ x) (ρ i)
  | .index T x i => aindex P T (ρ x) (ρ i)
  | .load T x => match ρ x with | .rop cs => if P.cellsOf T = 0 then none else aload P T cs | _ => none
  | .slice T x lo hi mx => aslice P T (ρ x) (lo.map ρ) (hi.map ρ) (mx.map ρ)
  | .extract t i => match ρ t with | .tup cs => cs[i]? | _ => none
  | .build T parts =>
    match P.underlying T, zcells P T with
    | some (.struct _), some z =>
      if fieldsOk P T = true then (afill (placeOf P T) z (parts.toList.map fun p => (p.1, ρ p.2))).map .agg else none
    | some (.array _ e), some z =>
      if P.cellsOf e = 0 then none else (afill (fun i => some (i * P.cellsOf e, P.cellsOf e)) z (parts.toList.map fun p => (p.1, ρ p.2))).map .agg
    | _, _ => none
  | .buildSlice T len parts =>
    match P.underlying T with
    | some (.slice e) =>
      match zcells P e with
      | some z =>
        if P.cellsOf e = 0 ∨ len * P.cellsOf e > 2 ^ 24 ∨ z.length ≠ P.cellsOf e then none else
        (afill (fun i => some (i * P.cellsOf e, P.cellsOf e)) (zrow (len * P.cellsOf e) z) (parts.toList.map fun p => (p.1, ρ p.2))).map
          fun cs => .sl (P.cellsOf e) len cs .new
      | none => none
    | _ => none
  | .makeFunc (.func f) first captured => if first.isEmpty = true then some (.clo f (captured.toList.map ρ)) else none
  | .call { callee := .builtin b, args, argTypes } => abuiltin P b argTypes (args.toList.map ρ)
  | _ => none

end Go.AM
