/- Contracts of the program's functions, each walked once; the conditions stand in each theorem. -/
import Derived.Test.YtooeklnbdgoneaaDoorProg
import Derived.Test.YtooeklnbdgoneaaDoorAMp4
import Derived.Test.YtooeklnbdgoneaaDoorAMp5
import Derived.Test.YtooeklnbdgoneaaDoorAMp6
set_option linter.unusedSimpArgs false
set_option linter.unusedVariables false
open Nat renaming reduceLT → nLT, reduceLeDiff → nLE, reduceEqDiff → nEQ, reduceAdd → nAdd, reduceMul → nMul, reducePow → nPow, reduceSub → nSub
open Int renaming reduceLT → zLT, reduceLE → zLE, reduceToNat → zNat
open Go.AM renaming ashift → qSh, aconv → qCv, aindexAddr → qIA, aindex → qIx, aslice → qSl, abuiltin → qBu
open Go.AM.AV renaming cells → qCe, one → qOn
set_option autoImplicit false
namespace Go.Proofs.YtooeklnbdgoneaaDoor
open Go Go.AM Go.Proofs
theorem T.c2 : Tryd.prog.cellsOf 2 = 1 := by kernel_rfl
theorem T.b2 : Tryd.prog.bytesOf 2 = 8 := by kernel_rfl
theorem T.g2 : isAggT Tryd.prog 2 = some false := by kernel_rfl
theorem T.z2 : zcells Tryd.prog 2 = some [.v (.int .i64 0)] := by kernel_rfl
theorem T.c3 : Tryd.prog.cellsOf 3 = 1 := by kernel_rfl
theorem T.b3 : Tryd.prog.bytesOf 3 = 8 := by kernel_rfl
theorem T.g3 : isAggT Tryd.prog 3 = some false := by kernel_rfl
theorem T.z3 : zcells Tryd.prog 3 = some [.v (.int .i64 0)] := by kernel_rfl
theorem T.c4 : Tryd.prog.cellsOf 4 = 1 := by kernel_rfl
theorem T.b4 : Tryd.prog.bytesOf 4 = 1 := by kernel_rfl
theorem T.g4 : isAggT Tryd.prog 4 = some false := by kernel_rfl
theorem T.z4 : zcells Tryd.prog 4 = some [.v (.bool false)] := by kernel_rfl
theorem T.c5 : Tryd.prog.cellsOf 5 = 1 := by kernel_rfl
theorem T.b5 : Tryd.prog.bytesOf 5 = 1 := by kernel_rfl
theorem T.g5 : isAggT Tryd.prog 5 = some false := by kernel_rfl
theorem T.z5 : zcells Tryd.prog 5 = some [.v (.int .u8 0)] := by kernel_rfl
theorem T.c6 : Tryd.prog.cellsOf 6 = 1 := by kernel_rfl
theorem T.g6 : isAggT Tryd.prog 6 = some false := by kernel_rfl
theorem T.z6 : zcells Tryd.prog 6 = some [.v (.int .u8 0)] := by kernel_rfl
theorem T.g7 : isAggT Tryd.prog 7 = some true := by kernel_rfl
theorem T.h7 : fieldsOk Tryd.prog 7 = true := by kernel_rfl
theorem T.c8 : Tryd.prog.cellsOf 8 = 4 := by kernel_rfl
theorem T.g8 : isAggT Tryd.prog 8 = some true := by kernel_rfl
theorem T.h8 : fieldsOk Tryd.prog 8 = true := by kernel_rfl
theorem T.c9 : Tryd.prog.cellsOf 9 = 1 := by kernel_rfl
theorem T.b9 : Tryd.prog.bytesOf 9 = 16 := by kernel_rfl
theorem T.g9 : isAggT Tryd.prog 9 = some false := by kernel_rfl
theorem T.z9 : zcells Tryd.prog 9 = some [.v (.string ByteArray.empty)] := by kernel_rfl
theorem T.g10 : isAggT Tryd.prog 10 = some false := by kernel_rfl
theorem T.g11 : isAggT Tryd.prog 11 = some false := by kernel_rfl
theorem T.g12 : isAggT Tryd.prog 12 = some false := by kernel_rfl
theorem T.g13 : isAggT Tryd.prog 13 = some true := by kernel_rfl
theorem T.h13 : fieldsOk Tryd.prog 13 = true := by kernel_rfl
theorem T.g14 : isAggT Tryd.prog 14 = some true := by kernel_rfl
theorem T.z16 : zcells Tryd.prog 16 = some [.v (.pointer none)] := by kernel_rfl
theorem T.g17 : isAggT Tryd.prog 17 = some false := by kernel_rfl
theorem T.p17 : isPtrT Tryd.prog 17 = true := by kernel_rfl
theorem T.g19 : isAggT Tryd.prog 19 = some true := by kernel_rfl
theorem T.g21 : isAggT Tryd.prog 21 = some false := by kernel_rfl
theorem T.c22 : Tryd.prog.cellsOf 22 = 1 := by kernel_rfl
theorem T.b22 : Tryd.prog.bytesOf 22 = 24 := by kernel_rfl
theorem T.g22 : isAggT Tryd.prog 22 = some false := by kernel_rfl
theorem T.z22 : zcells Tryd.prog 22 = some [.v (.slice none 0 0)] := by kernel_rfl
theorem T.s22 : isSliceT Tryd.prog 22 = true := by kernel_rfl
theorem T.g27 : isAggT Tryd.prog 27 = some true := by kernel_rfl
theorem T.c30 : Tryd.prog.cellsOf 30 = 1 := by kernel_rfl
theorem T.b30 : Tryd.prog.bytesOf 30 = 8 := by kernel_rfl
theorem T.g30 : isAggT Tryd.prog 30 = some false := by kernel_rfl
theorem T.z30 : zcells Tryd.prog 30 = some [.v (.int .i64 0)] := by kernel_rfl
theorem T.c41 : Tryd.prog.cellsOf 41 = 1 := by kernel_rfl
theorem T.b41 : Tryd.prog.bytesOf 41 = 8 := by kernel_rfl
theorem T.g41 : isAggT Tryd.prog 41 = some false := by kernel_rfl
theorem T.z41 : zcells Tryd.prog 41 = some [.v (.int .u64 0)] := by kernel_rfl
theorem T.h42 : fieldsOk Tryd.prog 42 = true := by kernel_rfl
theorem T.c43 : Tryd.prog.cellsOf 43 = 4 := by kernel_rfl
theorem T.b43 : Tryd.prog.bytesOf 43 = 96 := by kernel_rfl
theorem T.g43 : isAggT Tryd.prog 43 = some true := by kernel_rfl
theorem T.h43 : fieldsOk Tryd.prog 43 = true := by kernel_rfl
theorem T.f43_0 : fieldOf Tryd.prog 43 0 = some (0, 22) := by kernel_rfl
theorem T.f43_1 : fieldOf Tryd.prog 43 1 = some (1, 22) := by kernel_rfl
theorem T.f43_2 : fieldOf Tryd.prog 43 2 = some (2, 22) := by kernel_rfl
theorem T.f43_3 : fieldOf Tryd.prog 43 3 = some (3, 22) := by kernel_rfl
theorem T.z43 : zcells Tryd.prog 43 = some [.v (.slice none 0 0), .v (.slice none 0 0), .v (.slice none 0 0), .v (.slice none 0 0)] := by kernel_rfl
theorem T.c46 : Tryd.prog.cellsOf 46 = 2 := by kernel_rfl
theorem T.b46 : Tryd.prog.bytesOf 46 = 32 := by kernel_rfl
theorem T.g46 : isAggT Tryd.prog 46 = some true := by kernel_rfl
theorem T.h46 : fieldsOk Tryd.prog 46 = true := by kernel_rfl
theorem T.f46_0 : fieldOf Tryd.prog 46 0 = some (0, 41) := by kernel_rfl
theorem T.f46_1 : fieldOf Tryd.prog 46 1 = some (1, 22) := by kernel_rfl
theorem T.z46 : zcells Tryd.prog 46 = some [.v (.int .u64 0), .v (.slice none 0 0)] := by kernel_rfl
theorem T.c61 : Tryd.prog.cellsOf 61 = 1 := by kernel_rfl
theorem T.b61 : Tryd.prog.bytesOf 61 = 8 := by kernel_rfl
theorem T.g61 : isAggT Tryd.prog 61 = some false := by kernel_rfl
theorem T.z61 : zcells Tryd.prog 61 = some [.v (.pointer none)] := by kernel_rfl
theorem T.p61 : isPtrT Tryd.prog 61 = true := by kernel_rfl
theorem T.c66 : Tryd.prog.cellsOf 66 = 1 := by kernel_rfl
theorem T.b66 : Tryd.prog.bytesOf 66 = 8 := by kernel_rfl
theorem T.g66 : isAggT Tryd.prog 66 = some false := by kernel_rfl
theorem T.z66 : zcells Tryd.prog 66 = some [.v (.pointer none)] := by kernel_rfl
theorem T.p66 : isPtrT Tryd.prog 66 = true := by kernel_rfl
theorem T.c77 : Tryd.prog.cellsOf 77 = 1 := by kernel_rfl
theorem T.b77 : Tryd.prog.bytesOf 77 = 24 := by kernel_rfl
theorem T.g77 : isAggT Tryd.prog 77 = some false := by kernel_rfl
theorem T.z77 : zcells Tryd.prog 77 = some [.v (.slice none 0 0)] := by kernel_rfl
theorem T.s77 : isSliceT Tryd.prog 77 = true := by kernel_rfl
theorem T.c79 : Tryd.prog.cellsOf 79 = 64 := by kernel_rfl
theorem T.b79 : Tryd.prog.bytesOf 79 = 64 := by kernel_rfl
theorem T.g79 : isAggT Tryd.prog 79 = some true := by kernel_rfl
theorem T.c81 : Tryd.prog.cellsOf 81 = 1 := by kernel_rfl
theorem T.b81 : Tryd.prog.bytesOf 81 = 4 := by kernel_rfl
theorem T.g81 : isAggT Tryd.prog 81 = some false := by kernel_rfl
theorem T.z81 : zcells Tryd.prog 81 = some [.v (.int .u32 0)] := by kernel_rfl
theorem T.c82 : Tryd.prog.cellsOf 82 = 1 := by kernel_rfl
theorem T.b82 : Tryd.prog.bytesOf 82 = 24 := by kernel_rfl
theorem T.g82 : isAggT Tryd.prog 82 = some false := by kernel_rfl
theorem T.z82 : zcells Tryd.prog 82 = some [.v (.slice none 0 0)] := by kernel_rfl
theorem T.s82 : isSliceT Tryd.prog 82 = true := by kernel_rfl
theorem T.c85 : Tryd.prog.cellsOf 85 = 1 := by kernel_rfl
theorem T.b85 : Tryd.prog.bytesOf 85 = 8 := by kernel_rfl
theorem T.g85 : isAggT Tryd.prog 85 = some false := by kernel_rfl
theorem T.z85 : zcells Tryd.prog 85 = some [.v (.int .u64 0)] := by kernel_rfl
theorem T.c105 : Tryd.prog.cellsOf 105 = 2 := by kernel_rfl
theorem T.b105 : Tryd.prog.bytesOf 105 = 32 := by kernel_rfl
theorem T.g105 : isAggT Tryd.prog 105 = some true := by kernel_rfl
theorem T.h105 : fieldsOk Tryd.prog 105 = true := by kernel_rfl
theorem T.f105_0 : fieldOf Tryd.prog 105 0 = some (0, 22) := by kernel_rfl
theorem T.f105_1 : fieldOf Tryd.prog 105 1 = some (1, 4) := by kernel_rfl
theorem T.z105 : zcells Tryd.prog 105 = some [.v (.slice none 0 0), .v (.bool false)] := by kernel_rfl
theorem T.c108 : Tryd.prog.cellsOf 108 = 2 := by kernel_rfl
theorem T.b108 : Tryd.prog.bytesOf 108 = 32 := by kernel_rfl
theorem T.g108 : isAggT Tryd.prog 108 = some true := by kernel_rfl
theorem T.h108 : fieldsOk Tryd.prog 108 = true := by kernel_rfl
theorem T.f108_0 : fieldOf Tryd.prog 108 0 = some (0, 22) := by kernel_rfl
theorem T.f108_1 : fieldOf Tryd.prog 108 1 = some (1, 30) := by kernel_rfl
theorem T.z108 : zcells Tryd.prog 108 = some [.v (.slice none 0 0), .v (.int .i64 0)] := by kernel_rfl
theorem T.c114 : Tryd.prog.cellsOf 114 = 8 := by kernel_rfl
theorem T.b114 : Tryd.prog.bytesOf 114 = 32 := by kernel_rfl
theorem T.g114 : isAggT Tryd.prog 114 = some true := by kernel_rfl
theorem T.z114 : zcells Tryd.prog 114 = some [.v (.int .u32 0), .v (.int .u32 0), .v (.int .u32 0), .v (.int .u32 0), .v (.int .u32 0), .v (.int .u32 0), .v (.int .u32 0), .v (.int .u32 0)] := by kernel_rfl
theorem T.c133 : Tryd.prog.cellsOf 133 = 64 := by kernel_rfl
theorem T.b133 : Tryd.prog.bytesOf 133 = 256 := by kernel_rfl
theorem T.g133 : isAggT Tryd.prog 133 = some true := by kernel_rfl
theorem T.c138 : Tryd.prog.cellsOf 138 = 16 := by kernel_rfl
theorem T.b138 : Tryd.prog.bytesOf 138 = 16 := by kernel_rfl
theorem T.g138 : isAggT Tryd.prog 138 = some true := by kernel_rfl
theorem T.z138 : zcells Tryd.prog 138 = some [.v (.int .u8 0), .v (.int .u8 0), .v (.int .u8 0), .v (.int .u8 0), .v (.int .u8 0), .v (.int .u8 0), .v (.int .u8 0), .v (.int .u8 0), .v (.int .u8 0), .v (.int .u8 0), .v (.int .u8 0), .v (.int .u8 0), .v (.int .u8 0), .v (.int .u8 0), .v (.int .u8 0), .v (.int .u8 0)] := by kernel_rfl
theorem T.c147 : Tryd.prog.cellsOf 147 = 256 := by kernel_rfl
theorem T.b147 : Tryd.prog.bytesOf 147 = 256 := by kernel_rfl
theorem T.g147 : isAggT Tryd.prog 147 = some true := by kernel_rfl
theorem T.c149 : Tryd.prog.cellsOf 149 = 176 := by kernel_rfl
theorem T.b149 : Tryd.prog.bytesOf 149 = 176 := by kernel_rfl
theorem T.g149 : isAggT Tryd.prog 149 = some true := by kernel_rfl
theorem T.c156 : Tryd.prog.cellsOf 156 = 4 := by kernel_rfl
theorem T.b156 : Tryd.prog.bytesOf 156 = 4 := by kernel_rfl
theorem T.g156 : isAggT Tryd.prog 156 = some true := by kernel_rfl
theorem T.z156 : zcells Tryd.prog 156 = some [.v (.int .u8 0), .v (.int .u8 0), .v (.int .u8 0), .v (.int .u8 0)] := by kernel_rfl
theorem T.z165 : zcells Tryd.prog 165 = some [] := by kernel_rfl
theorem T.z167 : zcells Tryd.prog 167 = some [.v (.int .u8 0)] := by kernel_rfl
theorem T.k3 : callable Tryd.prog 3 = true := by kernel_rfl
theorem T.k4 : callable Tryd.prog 4 = true := by kernel_rfl
theorem T.k5 : callable Tryd.prog 5 = true := by kernel_rfl
theorem T.k6 : callable Tryd.prog 6 = true := by kernel_rfl
theorem T.k7 : callable Tryd.prog 7 = true := by kernel_rfl
theorem T.k8 : callable Tryd.prog 8 = true := by kernel_rfl
theorem T.k9 : callable Tryd.prog 9 = true := by kernel_rfl
theorem T.k10 : callable Tryd.prog 10 = true := by kernel_rfl
theorem T.k11 : callable Tryd.prog 11 = true := by kernel_rfl
theorem T.k12 : callable Tryd.prog 12 = true := by kernel_rfl
theorem T.k13 : callable Tryd.prog 13 = true := by kernel_rfl
theorem T.k14 : callable Tryd.prog 14 = true := by kernel_rfl
theorem T.k15 : callable Tryd.prog 15 = true := by kernel_rfl
theorem T.k25 : callable Tryd.prog 25 = true := by kernel_rfl
theorem T.k26 : callable Tryd.prog 26 = true := by kernel_rfl
theorem T.k27 : callable Tryd.prog 27 = true := by kernel_rfl
theorem T.k28 : callable Tryd.prog 28 = true := by kernel_rfl
theorem T.k29 : callable Tryd.prog 29 = true := by kernel_rfl
theorem T.k30 : callable Tryd.prog 30 = true := by kernel_rfl
theorem T.k31 : callable Tryd.prog 31 = true := by kernel_rfl
theorem T.k32 : callable Tryd.prog 32 = true := by kernel_rfl
theorem T.k33 : callable Tryd.prog 33 = true := by kernel_rfl
theorem T.k34 : callable Tryd.prog 34 = true := by kernel_rfl
theorem T.k36 : callable Tryd.prog 36 = true := by kernel_rfl
theorem T.k37 : callable Tryd.prog 37 = true := by kernel_rfl
theorem T.k44 : callable Tryd.prog 44 = true := by kernel_rfl
theorem T.k45 : callable Tryd.prog 45 = true := by kernel_rfl
theorem T.k46 : callable Tryd.prog 46 = true := by kernel_rfl
theorem T.k47 : callable Tryd.prog 47 = true := by kernel_rfl
theorem T.k48 : callable Tryd.prog 48 = true := by kernel_rfl
theorem T.k49 : callable Tryd.prog 49 = true := by kernel_rfl
theorem T.k51 : callable Tryd.prog 51 = true := by kernel_rfl
theorem T.k53 : callable Tryd.prog 53 = true := by kernel_rfl
theorem T.k54 : callable Tryd.prog 54 = true := by kernel_rfl
theorem T.k56 : callable Tryd.prog 56 = true := by kernel_rfl
theorem T.k57 : callable Tryd.prog 57 = true := by kernel_rfl
theorem T.k58 : callable Tryd.prog 58 = true := by kernel_rfl
theorem T.k59 : callable Tryd.prog 59 = true := by kernel_rfl
theorem T.k60 : callable Tryd.prog 60 = true := by kernel_rfl
theorem T.k61 : callable Tryd.prog 61 = true := by kernel_rfl
theorem T.k62 : callable Tryd.prog 62 = true := by kernel_rfl
theorem T.k63 : callable Tryd.prog 63 = true := by kernel_rfl
theorem T.k64 : callable Tryd.prog 64 = true := by kernel_rfl
theorem T.k67 : callable Tryd.prog 67 = true := by kernel_rfl
theorem T.k68 : callable Tryd.prog 68 = true := by kernel_rfl
theorem T.k69 : callable Tryd.prog 69 = true := by kernel_rfl
theorem T.k70 : callable Tryd.prog 70 = true := by kernel_rfl
theorem T.k71 : callable Tryd.prog 71 = true := by kernel_rfl
theorem T.k77 : callable Tryd.prog 77 = true := by kernel_rfl
theorem T.k78 : callable Tryd.prog 78 = true := by kernel_rfl
theorem T.k79 : callable Tryd.prog 79 = true := by kernel_rfl
theorem T.k80 : callable Tryd.prog 80 = true := by kernel_rfl
theorem T.k81 : callable Tryd.prog 81 = true := by kernel_rfl
theorem T.k82 : callable Tryd.prog 82 = true := by kernel_rfl
theorem T.k83 : callable Tryd.prog 83 = true := by kernel_rfl
theorem T.k84 : callable Tryd.prog 84 = true := by kernel_rfl
theorem T.k87 : callable Tryd.prog 87 = true := by kernel_rfl
theorem T.k88 : callable Tryd.prog 88 = true := by kernel_rfl
theorem T.k89 : callable Tryd.prog 89 = true := by kernel_rfl
theorem T.k90 : callable Tryd.prog 90 = true := by kernel_rfl
theorem T.k91 : callable Tryd.prog 91 = true := by kernel_rfl
theorem T.k92 : callable Tryd.prog 92 = true := by kernel_rfl
theorem T.k93 : callable Tryd.prog 93 = true := by kernel_rfl
theorem T.k94 : callable Tryd.prog 94 = true := by kernel_rfl
theorem T.k96 : callable Tryd.prog 96 = true := by kernel_rfl
theorem T.k97 : callable Tryd.prog 97 = true := by kernel_rfl
theorem T.k100 : callable Tryd.prog 100 = true := by kernel_rfl
theorem T.k101 : callable Tryd.prog 101 = true := by kernel_rfl
theorem T.k102 : callable Tryd.prog 102 = true := by kernel_rfl
theorem T.k103 : callable Tryd.prog 103 = true := by kernel_rfl
theorem T.k104 : callable Tryd.prog 104 = true := by kernel_rfl
theorem T.k105 : callable Tryd.prog 105 = true := by kernel_rfl
theorem T.k106 : callable Tryd.prog 106 = true := by kernel_rfl
theorem T.k111 : callable Tryd.prog 111 = true := by kernel_rfl
theorem T.k112 : callable Tryd.prog 112 = true := by kernel_rfl
theorem T.k113 : callable Tryd.prog 113 = true := by kernel_rfl
theorem T.k114 : callable Tryd.prog 114 = true := by kernel_rfl
theorem T.k115 : callable Tryd.prog 115 = true := by kernel_rfl
theorem T.k117 : callable Tryd.prog 117 = true := by kernel_rfl
theorem T.k118 : callable Tryd.prog 118 = true := by kernel_rfl
theorem T.k119 : callable Tryd.prog 119 = true := by kernel_rfl
theorem T.k120 : callable Tryd.prog 120 = true := by kernel_rfl
theorem T.k121 : callable Tryd.prog 121 = true := by kernel_rfl
theorem T.k122 : callable Tryd.prog 122 = true := by kernel_rfl
theorem T.k124 : callable Tryd.prog 124 = true := by kernel_rfl
theorem T.k125 : callable Tryd.prog 125 = true := by kernel_rfl
theorem T.k126 : callable Tryd.prog 126 = true := by kernel_rfl
theorem T.k127 : callable Tryd.prog 127 = true := by kernel_rfl
theorem T.k128 : callable Tryd.prog 128 = true := by kernel_rfl
theorem T.k129 : callable Tryd.prog 129 = true := by kernel_rfl
theorem T.k130 : callable Tryd.prog 130 = true := by kernel_rfl
theorem T.k131 : callable Tryd.prog 131 = true := by kernel_rfl
theorem T.mixed : Tryd.prog.follows .mixedOrders = true := by kernel_rfl
end Go.Proofs.YtooeklnbdgoneaaDoor


set_option autoImplicit false
namespace Go.AM

/-! ### The digest, in plain Lean: words are natural numbers below 2 ^ 32 -/
namespace Sha
def add32 (a b : Nat) : Nat := (a + b) % 4294967296
def rotr (x n : Nat) : Nat := (x / 2 ^ n) ||| ((x * 2 ^ (32 - n)) % 4294967296)
def sig3 (x a b c : Nat) : Nat := (rotr x a ^^^ rotr x b) ^^^ rotr x c
def sig2 (x a b c : Nat) : Nat := (rotr x a ^^^ rotr x b) ^^^ (x / 2 ^ c)
def be32 (a b c d : Nat) : Nat := ((a * 256 + b) * 256 + c) * 256 + d

/-- The next word of a block's row. -/
def word (c : List UInt8) (p : List Nat) (i : Nat) : Nat :=
  if i < 16 then be32 ((c.getD (4 * i) 0).toNat) ((c.getD (4 * i + 1) 0).toNat) ((c.getD (4 * i + 2) 0).toNat) ((c.getD (4 * i + 3) 0).toNat)
  else add32 (add32 (add32 (sig2 (p.getD (i - 2) 0) 17 19 10) (p.getD (i - 7) 0)) (sig2 (p.getD (i - 15) 0) 7 18 3)) (p.getD (i - 16) 0)
/-- The first n words of a block's row. -/
def sch (c : List UInt8) : Nat → List Nat
  | 0 => []
  | n + 1 => sch c n ++ [word c (sch c n) n]
theorem sch_length (c : List UInt8) (n : Nat) : (sch c n).length = n := by
  induction n with
  | zero => rfl
  | succ n ih => simp [sch, ih]

def t1 (e f g h k w : Nat) : Nat := add32 (add32 (add32 (add32 h (sig3 e 6 11 25)) ((e &&& f) ^^^ ((4294967295 - e) &&& g))) k) w
def t2 (a b c : Nat) : Nat := add32 (sig3 a 2 13 22) (((a &&& b) ^^^ (a &&& c)) ^^^ (b &&& c))
structure St where
  a : Nat
  b : Nat
  c : Nat
  d : Nat
  e : Nat
  f : Nat
  g : Nat
  h : Nat
def St.step (s : St) (k w : Nat) : St :=
  ⟨add32 (t1 s.e s.f s.g s.h k w) (t2 s.a s.b s.c), s.a, s.b, s.c, add32 s.d (t1 s.e s.f s.g s.h k w), s.e, s.f, s.g⟩
def St.add (s t : St) : St := ⟨add32 s.a t.a, add32 s.b t.b, add32 s.c t.c, add32 s.d t.d, add32 s.e t.e, add32 s.f t.f, add32 s.g t.g, add32 s.h t.h⟩
def St.list (s : St) : List Nat := [s.a, s.b, s.c, s.d, s.e, s.f, s.g, s.h]
structure St.ok (s : St) : Prop where
  a : s.a < 4294967296
  b : s.b < 4294967296
  c : s.c < 4294967296
  d : s.d < 4294967296
  e : s.e < 4294967296
  f : s.f < 4294967296
  g : s.g < 4294967296
  h : s.h < 4294967296

def K : List Nat := [
  0x428a2f98, 0x71374491, 0xb5c0fbcf, 0xe9b5dba5, 0x3956c25b, 0x59f111f1, 0x923f82a4, 0xab1c5ed5,
  0xd807aa98, 0x12835b01, 0x243185be, 0x550c7dc3, 0x72be5d74, 0x80deb1fe, 0x9bdc06a7, 0xc19bf174,
  0xe49b69c1, 0xefbe4786, 0x0fc19dc6, 0x240ca1cc, 0x2de92c6f, 0x4a7484aa, 0x5cb0a9dc, 0x76f988da,
  0x983e5152, 0xa831c66d, 0xb00327c8, 0xbf597fc7, 0xc6e00bf3, 0xd5a79147, 0x06ca6351, 0x14292967,
  0x27b70a85, 0x2e1b2138, 0x4d2c6dfc, 0x53380d13, 0x650a7354, 0x766a0abb, 0x81c2c92e, 0x92722c85,
  0xa2bfe8a1, 0xa81a664b, 0xc24b8b70, 0xc76c51a3, 0xd192e819, 0xd6990624, 0xf40e3585, 0x106aa070,
  0x19a4c116, 0x1e376c08, 0x2748774c, 0x34b0bcb5, 0x391c0cb3, 0x4ed8aa4a, 0x5b9cca4f, 0x682e6ff3,
  0x748f82ee, 0x78a5636f, 0x84c87814, 0x8cc70208, 0x90befffa, 0xa4506ceb, 0xbef9a3f7, 0xc67178f2]
def H0 : St := ⟨0x6a09e667, 0xbb67ae85, 0x3c6ef372, 0xa54ff53a, 0x510e527f, 0x9b05688c, 0x1f83d9ab, 0x5be0cd19⟩

/-- The first n rounds over a row of words. -/
def rounds (w : List Nat) (s : St) : Nat → St
  | 0 => s
  | n + 1 => (rounds w s n).step (K.getD n 0) (w.getD n 0)
def mix (s : St) (c : List UInt8) : St := s.add (rounds (sch c 64) s 64)

def blk (l : List UInt8) (i : Nat) : List UInt8 := (l.drop (64 * i)).take 64
/-- The state behind the first n blocks. -/
def hash (l : List UInt8) : Nat → St
  | 0 => H0
  | n + 1 => mix (hash l n) (blk l n)

def zeros (n : Nat) : Nat := (119 - n % 64) % 64
def lenB (n : Nat) : List UInt8 := [UInt8.ofNat (8 * n / 2 ^ 56), UInt8.ofNat (8 * n / 2 ^ 48), UInt8.ofNat (8 * n / 2 ^ 40), UInt8.ofNat (8 * n / 2 ^ 32), UInt8.ofNat (8 * n / 2 ^ 24), UInt8.ofNat (8 * n / 2 ^ 16), UInt8.ofNat (8 * n / 2 ^ 8), UInt8.ofNat (8 * n)]
def pad (l : List UInt8) : List UInt8 := l ++ (128 :: (List.replicate (zeros l.length) 0 ++ lenB l.length))
theorem pad_length (l : List UInt8) : (pad l).length = l.length + 9 + zeros l.length := by simp [pad, lenB]; omega
theorem pad_mod (l : List UInt8) : (pad l).length % 64 = 0 := by rw [pad_length, zeros]; omega

def be (x : Nat) : List UInt8 := [UInt8.ofNat (x / 2 ^ 24), UInt8.ofNat (x / 2 ^ 16), UInt8.ofNat (x / 2 ^ 8), UInt8.ofNat x]
def St.bytes (s : St) : List UInt8 := be s.a ++ be s.b ++ be s.c ++ be s.d ++ be s.e ++ be s.f ++ be s.g ++ be s.h
/-- The digest. -/
def sum (l : List UInt8) : List UInt8 := (hash (pad l) ((pad l).length / 64)).bytes

theorem sum_length (l : List UInt8) : (sum l).length = 32 := rfl

/-! ### Bounds -/
theorem add32_lt (a b : Nat) : add32 a b < 4294967296 := Nat.mod_lt _ (by decide)
theorem rotr_lt {x : Nat} (n : Nat) (h : x < 4294967296) : rotr x n < 4294967296 :=
  Nat.or_lt_two_pow (n := 32) (Nat.lt_of_le_of_lt (Nat.div_le_self _ _) h) (Nat.mod_lt _ (by decide))
theorem be32_lt (a b c d : UInt8) : be32 a.toNat b.toNat c.toNat d.toNat < 4294967296 := by
  have := a.toNat_lt; have := b.toNat_lt; have := c.toNat_lt; have := d.toNat_lt
  simp only [be32]; omega
theorem word_lt (c : List UInt8) (p : List Nat) (i : Nat) : word c p i < 4294967296 := by
  unfold word
  split
  · exact be32_lt _ _ _ _
  · exact add32_lt _ _
theorem sch_lt (c : List UInt8) (n : Nat) : ∀ x ∈ sch c n, x < 4294967296 := by
  induction n with
  | zero => intro x hx; simp [sch] at hx
  | succ n ih =>
    intro x hx
    simp only [sch, List.mem_append, List.mem_singleton] at hx
    rcases hx with hx | rfl
    · exact ih x hx
    · exact word_lt _ _ _
theorem sch_getD_lt (c : List UInt8) (n i : Nat) : (sch c n).getD i 0 < 4294967296 := by
  rw [List.getD_eq_getElem?_getD]
  cases h : (sch c n)[i]? with
  | none => simp
  | some x => exact sch_lt c n x (List.mem_of_getElem? h)
theorem H0_ok : H0.ok := by constructor <;> decide
theorem St.ok.step {s : St} (h : s.ok) (k w : Nat) : (s.step k w).ok := ⟨add32_lt _ _, h.a, h.b, h.c, add32_lt _ _, h.e, h.f, h.g⟩
theorem St.ok.add (s t : St) : (s.add t).ok := ⟨add32_lt _ _, add32_lt _ _, add32_lt _ _, add32_lt _ _, add32_lt _ _, add32_lt _ _, add32_lt _ _, add32_lt _ _⟩
theorem rounds_ok {w : List Nat} {s : St} (h : s.ok) : ∀ n, (rounds w s n).ok
  | 0 => h
  | n + 1 => (rounds_ok h n).step _ _
theorem mix_ok (s : St) (c : List UInt8) : (mix s c).ok := St.ok.add _ _
theorem hash_ok (l : List UInt8) : ∀ n, (hash l n).ok
  | 0 => H0_ok
  | n + 1 => mix_ok _ _
end Sha
end Go.AM


set_option autoImplicit false
namespace Go.Proofs.YtooeklnbdgoneaaDoor
open Go Go.AM Go.Proofs

theorem RSha1118 : type_of% (And.intro (And.intro (And.intro (And.intro @Tryd.underlying3 (And.intro T.c3 T.g3)) (And.intro (And.intro T.b3 T.z3) (And.intro @Tryd.underlying81 T.c81))) (And.intro (And.intro (And.intro T.g81 T.b81) (And.intro T.z81 @Tryd.underlying85)) (And.intro (And.intro T.c85 T.g85) (And.intro T.b85 T.z85)))) Tryd.ntmps118) :=
  (And.intro (And.intro (And.intro (And.intro @Tryd.underlying3 (And.intro T.c3 T.g3)) (And.intro (And.intro T.b3 T.z3) (And.intro @Tryd.underlying81 T.c81))) (And.intro (And.intro (And.intro T.g81 T.b81) (And.intro T.z81 @Tryd.underlying85)) (And.intro (And.intro T.c85 T.g85) (And.intro T.b85 T.z85)))) Tryd.ntmps118)
theorem RSha1101 : type_of% (And.intro (And.intro (And.intro (And.intro @Tryd.underlying3 T.c3) (And.intro T.g3 (And.intro T.b3 T.z3))) (And.intro (And.intro @Tryd.underlying81 (And.intro T.c81 T.g81)) (And.intro T.b81 (And.intro T.z81 T.k118)))) Tryd.ntmps101) :=
  (And.intro (And.intro (And.intro (And.intro @Tryd.underlying3 T.c3) (And.intro T.g3 (And.intro T.b3 T.z3))) (And.intro (And.intro @Tryd.underlying81 (And.intro T.c81 T.g81)) (And.intro T.b81 (And.intro T.z81 T.k118)))) Tryd.ntmps101)
theorem RSha1117 : type_of% (And.intro (And.intro (And.intro (And.intro @Tryd.underlying3 T.c3) (And.intro T.g3 (And.intro T.b3 T.z3))) (And.intro (And.intro @Tryd.underlying81 (And.intro T.c81 T.g81)) (And.intro T.b81 (And.intro T.z81 T.k118)))) Tryd.ntmps117) :=
  (And.intro (And.intro (And.intro (And.intro @Tryd.underlying3 T.c3) (And.intro T.g3 (And.intro T.b3 T.z3))) (And.intro (And.intro @Tryd.underlying81 (And.intro T.c81 T.g81)) (And.intro T.b81 (And.intro T.z81 T.k118)))) Tryd.ntmps117)
theorem RSha149 : type_of% (And.intro (And.intro (And.intro (And.intro @Tryd.underlying3 T.c3) (And.intro T.g3 (And.intro T.b3 T.z3))) (And.intro (And.intro @Tryd.underlying81 T.c81) (And.intro T.g81 (And.intro T.b81 T.z81)))) Tryd.ntmps49) :=
  (And.intro (And.intro (And.intro (And.intro @Tryd.underlying3 T.c3) (And.intro T.g3 (And.intro T.b3 T.z3))) (And.intro (And.intro @Tryd.underlying81 T.c81) (And.intro T.g81 (And.intro T.b81 T.z81)))) Tryd.ntmps49)
theorem RSha147 : type_of% (And.intro (And.intro (And.intro (And.intro @Tryd.underlying81 T.c81) (And.intro T.g81 (And.intro T.b81 T.z81))) (And.intro (And.intro @Tryd.underlying82 (And.intro T.c82 T.g82)) (And.intro T.b82 (And.intro T.z82 T.s82)))) Tryd.ntmps47) :=
  (And.intro (And.intro (And.intro (And.intro @Tryd.underlying81 T.c81) (And.intro T.g81 (And.intro T.b81 T.z81))) (And.intro (And.intro @Tryd.underlying82 (And.intro T.c82 T.g82)) (And.intro T.b82 (And.intro T.z82 T.s82)))) Tryd.ntmps47)

variable {Γ : Nat → List AV}

/-- A word. -/
abbrev wV (x : Nat) : AV := .v (.int .u32 (x : Int))

theorem neg_i64 (a : Nat) (h : a < 32) : ineg .i64 (a : Int) = -(a : Int) := by
  rw [ineg, IntWalk.i64_in _ (by omega)]
  omega
theorem rot_count (a : Nat) (h0 : 0 < a) (h : a < 32) : iand .u64 (iconv .u64 (-(a : Int))) 31 = ((32 - a : Nat) : Int) := by
  have e : iconv .u64 (-(a : Int)) = ((18446744073709551616 - a : Nat) : Int) := by
    rw [iconv, wrap_u rfl]
    simp only [IntKind.bits]
    omega
  rw [e, show (31 : Int) = ((31 : Nat) : Int) from rfl, iand_u rfl _ _ (by simp only [IntKind.bits]; omega) (by decide)]
  congr 1
  have : (18446744073709551616 - a) &&& 31 = (18446744073709551616 - a) % 2 ^ 5 := Nat.and_two_pow_sub_one_eq_mod _ 5
  rw [this]
  omega

theorem nat_not_neg (a : Nat) : ¬ ((a : Nat) : Int) < 0 := by omega
theorem rot_sub (a : Nat) (h0 : 0 < a) (h : a < 32) : isub .u64 32 ((32 - a : Nat) : Int) = ((a : Nat) : Int) := by
  have := isub_u_le (k := .u64) rfl 32 (32 - a) (by omega) (by decide)
  rw [show (32 : Int) = ((32 : Nat) : Int) from rfl, this]
  congr 1
  omega
theorem rot_val (x a : Nat) (hx : x < 4294967296) (h0 : 0 < a) (h : a < 32) : ior .u32 (ishl .u32 (x : Int) ((32 - a : Nat) : Int)) (ishr .u32 (x : Int) ((a : Nat) : Int)) = ((Sha.rotr x a : Nat) : Int) := by
  rw [ishl_u rfl, ishr_u]
  rw [ior_u rfl _ _ (Nat.mod_lt _ (by decide)) (by simp only [IntKind.bits]; exact Nat.lt_of_le_of_lt (Nat.div_le_self _ _) hx)]
  rw [Sha.rotr, Nat.or_comm]
  simp only [IntKind.bits]
  rw [Nat.min_eq_left (by omega), Nat.min_eq_left (by omega)]
theorem wxor (a b : Nat) (ha : a < 4294967296) (hb : b < 4294967296) : ixor .u32 (a : Int) (b : Int) = ((a ^^^ b : Nat) : Int) := ixor_u rfl a b ha hb
theorem wand (a b : Nat) (ha : a < 4294967296) (hb : b < 4294967296) : iand .u32 (a : Int) (b : Int) = ((a &&& b : Nat) : Int) := iand_u rfl a b ha hb
theorem wor (a b : Nat) (ha : a < 4294967296) (hb : b < 4294967296) : ior .u32 (a : Int) (b : Int) = ((a ||| b : Nat) : Int) := ior_u rfl a b ha hb
theorem wadd (a b : Nat) : iadd .u32 (a : Int) (b : Int) = ((Sha.add32 a b : Nat) : Int) := iadd_u rfl a b
theorem wnot (a : Nat) (ha : a < 4294967296) : inot .u32 (a : Int) = ((4294967295 - a : Nat) : Int) := inot_u rfl a ha
theorem wshr (a c : Nat) (hc : c < 32) : ishr .u32 (a : Int) ((c : Nat) : Int) = ((a / 2 ^ c : Nat) : Int) := by
  rw [ishr_u]
  simp only [IntKind.bits]
  rw [Nat.min_eq_left (by omega)]
theorem wshl (a c : Nat) (hc : c < 32) : ishl .u32 (a : Int) ((c : Nat) : Int) = (((a * 2 ^ c) % 4294967296 : Nat) : Int) := by
  rw [ishl_u rfl]
  simp only [IntKind.bits]
  rw [Nat.min_eq_left (by omega)]

set_option maxHeartbeats 1000000 in
theorem rotl_calls (x a : Nat) (hx : x < 4294967296) (h0 : 0 < a) (h : a < 32) (s : AS) :
    ACalls Tryd.prog Γ 118 [wV x, .v (.int .i64 (-(a : Int)))] s (fun r s' => r = wV (Sha.rotr x a) ∧ s' = s) := by
  refine acalls_body Tryd.func118 rfl Tryd.ntmps118 Tryd.results118 (by simp) ?_
  refine awp_reg_seq ?_
  intro K hK
  simp only [↓DN, UP, DF, qSh, qCv, qIA, qIx, qSl, qBu, qCe, qOn, reduceCtorEq, ↓reduceIte, nLT, nLE, nEQ, nAdd, nMul, nPow, nSub, zLT, zLE, zNat, RSha1118]
  refine hK _ _ ?_
  clear hK K
  refine awp_reg_seq ?_
  intro K hK
  simp only [↓DN, UP, DF, qSh, qCv, qIA, qIx, qSl, qBu, qCe, qOn, reduceCtorEq, ↓reduceIte, nLT, nLE, nEQ, nAdd, nMul, nPow, nSub, zLT, zLE, zNat, RSha1118, rot_count a h0 h]
  refine hK _ _ ?_
  clear hK K
  refine awp_reg_seq ?_
  intro K hK
  simp only [↓DN, UP, DF, qSh, qCv, qIA, qIx, qSl, qBu, qCe, qOn, reduceCtorEq, ↓reduceIte, nLT, nLE, nEQ, nAdd, nMul, nPow, nSub, zLT, zLE, zNat, RSha1118, nat_not_neg, rot_sub a h0 h, rot_val x a hx h0 h]
  refine hK _ _ ?_
  clear hK K
  refine awp_ret ?_
  simp only [retQ, AEnds, aresL, ares, List.toList_toArray, ↓upd_same]; try simp only [↓DN, UP, DF, qSh, qCv, qIA, qIx, qSl, qBu, qCe, qOn, reduceCtorEq, ↓reduceIte, nLT, nLE, nEQ, nAdd, nMul, nPow, nSub, zLT, zLE, zNat, RSha1118, DT]
  exact ⟨_, s, AV.weak.refl _, AS.le.refl s, rfl, rfl⟩

set_option maxHeartbeats 1000000 in
theorem turned_calls (x a b c : Nat) (hx : x < 4294967296) (ha0 : 0 < a) (ha : a < 32) (hb0 : 0 < b) (hb : b < 32) (hc0 : 0 < c) (hc : c < 32) (s : AS) :
    ACalls Tryd.prog Γ 101 [wV x, .v (.int .i64 (a : Int)), .v (.int .i64 (b : Int)), .v (.int .i64 (c : Int))] s (fun r s' => r = wV (Sha.sig3 x a b c) ∧ s' = s) := by
  refine acalls_body Tryd.func101 rfl Tryd.ntmps101 Tryd.results101 (by simp) ?_
  refine awp_reg_seq ?_
  intro K hK
  simp only [↓DN, UP, DF, qSh, qCv, qIA, qIx, qSl, qBu, qCe, qOn, reduceCtorEq, ↓reduceIte, nLT, nLE, nEQ, nAdd, nMul, nPow, nSub, zLT, zLE, zNat, RSha1101]
  refine hK _ _ ?_
  clear hK K
  refine awp_reg_seq ?_
  intro K hK
  simp only [↓DN, UP, DF, qSh, qCv, qIA, qIx, qSl, qBu, qCe, qOn, reduceCtorEq, ↓reduceIte, nLT, nLE, nEQ, nAdd, nMul, nPow, nSub, zLT, zLE, zNat, RSha1101, neg_i64 a ha]
  refine acallk (rotl_calls x a hx ha0 ha _) ?_
  rintro r s1 ⟨rfl, rfl⟩
  simp only [↓AXq_nil, ↓AXq_cons, pval, DX, Nat.reduceBEq, ↓DN, UP, DF, qSh, qCv, qIA, qIx, qSl, qBu, qCe, qOn, reduceCtorEq, ↓reduceIte, nLT, nLE, nEQ, nAdd, nMul, nPow, nSub, zLT, zLE, zNat, RSha1101, neg_i64 b hb]
  refine acallk (rotl_calls x b hx hb0 hb _) ?_
  rintro r s2 ⟨rfl, rfl⟩
  simp only [↓AXq_nil, ↓AXq_cons, pval, DX, Nat.reduceBEq, ↓DN, UP, DF, qSh, qCv, qIA, qIx, qSl, qBu, qCe, qOn, reduceCtorEq, ↓reduceIte, nLT, nLE, nEQ, nAdd, nMul, nPow, nSub, zLT, zLE, zNat, RSha1101, neg_i64 c hc, wxor _ _ (Sha.rotr_lt a hx) (Sha.rotr_lt b hx)]
  refine acallk (rotl_calls x c hx hc0 hc _) ?_
  rintro r s3 ⟨rfl, rfl⟩
  simp only [↓AXq_nil, ↓AXq_cons, pval, DX, Nat.reduceBEq, ↓DN, UP, DF, qSh, qCv, qIA, qIx, qSl, qBu, qCe, qOn, reduceCtorEq, ↓reduceIte, nLT, nLE, nEQ, nAdd, nMul, nPow, nSub, zLT, zLE, zNat, RSha1101, wxor _ _ (Nat.xor_lt_two_pow (n := 32) (Sha.rotr_lt a hx) (Sha.rotr_lt b hx)) (Sha.rotr_lt c hx)]
  refine hK _ _ ?_
  clear hK K
  refine awp_ret ?_
  simp only [retQ, AEnds, aresL, ares, List.toList_toArray, ↓upd_same]; try simp only [↓DN, UP, DF, qSh, qCv, qIA, qIx, qSl, qBu, qCe, qOn, reduceCtorEq, ↓reduceIte, nLT, nLE, nEQ, nAdd, nMul, nPow, nSub, zLT, zLE, zNat, RSha1101, DT]
  exact ⟨_, _, AV.weak.refl _, AS.le.refl _, rfl, rfl⟩

set_option maxHeartbeats 1000000 in
theorem shifted_calls (x a b c : Nat) (hx : x < 4294967296) (ha0 : 0 < a) (ha : a < 32) (hb0 : 0 < b) (hb : b < 32) (hc0 : 0 < c) (hc : c < 32) (s : AS) :
    ACalls Tryd.prog Γ 117 [wV x, .v (.int .i64 (a : Int)), .v (.int .i64 (b : Int)), .v (.int .i64 (c : Int))] s (fun r s' => r = wV (Sha.sig2 x a b c) ∧ s' = s) := by
  refine acalls_body Tryd.func117 rfl Tryd.ntmps117 Tryd.results117 (by simp) ?_
  refine awp_reg_seq ?_
  intro K hK
  simp only [↓DN, UP, DF, qSh, qCv, qIA, qIx, qSl, qBu, qCe, qOn, reduceCtorEq, ↓reduceIte, nLT, nLE, nEQ, nAdd, nMul, nPow, nSub, zLT, zLE, zNat, RSha1117]
  refine hK _ _ ?_
  clear hK K
  refine awp_drw_seq T.mixed [3, 7] (by kernel_rfl) ?_
  intro K hK
  simp only [↓AXq_nil, ↓AXq_cons, pval, DX, Nat.reduceBEq, ↓DN, UP, DF, qSh, qCv, qIA, qIx, qSl, qBu, qCe, qOn, reduceCtorEq, ↓reduceIte, nLT, nLE, nEQ, nAdd, nMul, nPow, nSub, zLT, zLE, zNat, RSha1117, neg_i64 a ha]
  refine acallk (rotl_calls x a hx ha0 ha _) ?_
  rintro r s1 ⟨rfl, rfl⟩
  simp only [↓AXq_nil, ↓AXq_cons, pval, DX, Nat.reduceBEq, ↓DN, UP, DF, qSh, qCv, qIA, qIx, qSl, qBu, qCe, qOn, reduceCtorEq, ↓reduceIte, nLT, nLE, nEQ, nAdd, nMul, nPow, nSub, zLT, zLE, zNat, RSha1117, neg_i64 b hb]
  refine acallk (rotl_calls x b hx hb0 hb _) ?_
  rintro r s2 ⟨rfl, rfl⟩
  simp only [↓AXq_nil, ↓AXq_cons, pval, DX, Nat.reduceBEq, ↓DN, UP, DF, qSh, qCv, qIA, qIx, qSl, qBu, qCe, qOn, reduceCtorEq, ↓reduceIte, nLT, nLE, nEQ, nAdd, nMul, nPow, nSub, zLT, zLE, zNat, RSha1117, wxor _ _ (Sha.rotr_lt a hx) (Sha.rotr_lt b hx), nat_not_neg, wshr x c hc, wxor _ _ (Nat.xor_lt_two_pow (n := 32) (Sha.rotr_lt a hx) (Sha.rotr_lt b hx)) (Nat.lt_of_le_of_lt (Nat.div_le_self x (2 ^ c)) hx)]
  refine hK _ _ ?_
  clear hK K
  refine awp_ret ?_
  simp only [retQ, AEnds, aresL, ares, List.toList_toArray, ↓upd_same]; try simp only [↓DN, UP, DF, qSh, qCv, qIA, qIx, qSl, qBu, qCe, qOn, reduceCtorEq, ↓reduceIte, nLT, nLE, nEQ, nAdd, nMul, nPow, nSub, zLT, zLE, zNat, RSha1117, DT]
  exact ⟨_, _, AV.weak.refl _, AS.le.refl _, rfl, rfl⟩

theorem right_sub (a : Nat) (h : a < 32) : isub .i64 32 ((a : Nat) : Int) = ((32 - a : Nat) : Int) := by
  rw [isub_i64 (by omega)]
  omega
theorem right_val (x a : Nat) (hx : x < 4294967296) (h0 : 0 < a) (h : a < 32) : ior .u32 (ishr .u32 (x : Int) ((a : Nat) : Int)) (ishl .u32 (x : Int) ((32 - a : Nat) : Int)) = ((Sha.rotr x a : Nat) : Int) := by
  rw [wshl x (32 - a) (by omega), wshr x a h, wor _ _ (Nat.lt_of_le_of_lt (Nat.div_le_self _ _) hx) (Nat.mod_lt _ (by decide)), Sha.rotr]

set_option maxHeartbeats 1000000 in
theorem right_calls (x a : Nat) (hx : x < 4294967296) (h0 : 0 < a) (h : a < 32) (s : AS) :
    ACalls Tryd.prog Γ 49 [wV x, .v (.int .i64 (a : Int))] s (fun r s' => r = wV (Sha.rotr x a) ∧ s' = s) := by
  refine acalls_body Tryd.func49 rfl Tryd.ntmps49 Tryd.results49 (by simp) ?_
  refine awp_reg_seq ?_
  intro K hK
  simp only [↓DN, UP, DF, qSh, qCv, qIA, qIx, qSl, qBu, qCe, qOn, reduceCtorEq, ↓reduceIte, nLT, nLE, nEQ, nAdd, nMul, nPow, nSub, zLT, zLE, zNat, RSha149]
  refine hK _ _ ?_
  clear hK K
  refine awp_drw_seq T.mixed [] (by kernel_rfl) ?_
  intro K hK
  simp only [↓AXq_nil, ↓AXq_cons, pval, DX, Nat.reduceBEq, ↓DN, UP, DF, qSh, qCv, qIA, qIx, qSl, qBu, qCe, qOn, reduceCtorEq, ↓reduceIte, nLT, nLE, nEQ, nAdd, nMul, nPow, nSub, zLT, zLE, zNat, RSha149, nat_not_neg, right_sub a h, right_val x a hx h0 h]
  refine hK _ _ ?_
  clear hK K
  refine awp_ret ?_
  simp only [retQ, AEnds, aresL, ares, List.toList_toArray, ↓upd_same]; try simp only [↓DN, UP, DF, qSh, qCv, qIA, qIx, qSl, qBu, qCe, qOn, reduceCtorEq, ↓reduceIte, nLT, nLE, nEQ, nAdd, nMul, nPow, nSub, zLT, zLE, zNat, RSha149, DT]
  exact ⟨_, s, AV.weak.refl _, AS.le.refl s, rfl, rfl⟩

set_option maxHeartbeats 1000000 in
set_option maxRecDepth 100000 in
theorem refK_calls (s : AS) :
    ACalls Tryd.prog Γ 47 [] s (fun r s' => r = .sl 1 64 (Sha.K.map wV) .no ∧ s' = s) := by
  refine acalls_body Tryd.func47 rfl Tryd.ntmps47 Tryd.results47 (by simp) ?_
  refine awp_reg_seq ?_
  intro K hK
  simp only [↓DN, UP, DF, qSh, qCv, qIA, qIx, qSl, qBu, qCe, qOn, reduceCtorEq, ↓reduceIte, nLT, nLE, nEQ, nAdd, nMul, nPow, nSub, zLT, zLE, zNat, RSha147]
  refine hK _ _ ?_
  clear hK K
  refine awp_reg_seq ?_
  intro K hK
  simp only [↓DN, UP, DF, qSh, qCv, qIA, qIx, qSl, qBu, qCe, qOn, reduceCtorEq, ↓reduceIte, nLT, nLE, nEQ, nAdd, nMul, nPow, nSub, zLT, zLE, zNat, RSha147]
  refine hK _ _ ?_
  clear hK K
  refine awp_ret ?_
  simp only [retQ, AEnds, aresL, ares, List.toList_toArray, ↓upd_same]; try simp only [↓DN, UP, DF, qSh, qCv, qIA, qIx, qSl, qBu, qCe, qOn, reduceCtorEq, ↓reduceIte, nLT, nLE, nEQ, nAdd, nMul, nPow, nSub, zLT, zLE, zNat, RSha147, DT]
  exact ⟨_, s, AV.weak_sl rfl, AS.le.refl s, rfl, rfl⟩

end Go.Proofs.YtooeklnbdgoneaaDoor


set_option autoImplicit false
namespace Go.Proofs.YtooeklnbdgoneaaDoor
open Go Go.AM Go.Proofs

theorem RSha2100 : type_of% (And.intro (And.intro (And.intro (And.intro (And.intro @Tryd.underlying3 (And.intro T.c3 T.g3)) (And.intro T.b3 (And.intro T.z3 @Tryd.underlying5))) (And.intro (And.intro T.c5 (And.intro T.g5 T.b5)) (And.intro (And.intro T.z5 @Tryd.underlying22) (And.intro T.c22 T.g22)))) (And.intro (And.intro (And.intro T.b22 (And.intro T.z22 T.s22)) (And.intro @Tryd.underlying81 (And.intro T.c81 T.g81))) (And.intro (And.intro T.b81 (And.intro T.z81 @Tryd.underlying133)) (And.intro (And.intro T.c133 T.g133) (And.intro T.b133 T.k117))))) Tryd.ntmps100) :=
  (And.intro (And.intro (And.intro (And.intro (And.intro @Tryd.underlying3 (And.intro T.c3 T.g3)) (And.intro T.b3 (And.intro T.z3 @Tryd.underlying5))) (And.intro (And.intro T.c5 (And.intro T.g5 T.b5)) (And.intro (And.intro T.z5 @Tryd.underlying22) (And.intro T.c22 T.g22)))) (And.intro (And.intro (And.intro T.b22 (And.intro T.z22 T.s22)) (And.intro @Tryd.underlying81 (And.intro T.c81 T.g81))) (And.intro (And.intro T.b81 (And.intro T.z81 @Tryd.underlying133)) (And.intro (And.intro T.c133 T.g133) (And.intro T.b133 T.k117))))) Tryd.ntmps100)

variable {Γ : Nat → List AV}

/-- A row of words that is being filled. -/
def row (c : List UInt8) (i : Nat) : List AV := (Sha.sch c i).map wV ++ List.replicate (64 - i) (wV 0)
theorem row_zero (c : List UInt8) : row c 0 = List.replicate 64 (wV 0) := rfl
theorem row_full (c : List UInt8) : row c 64 = (Sha.sch c 64).map wV := by simp [row]
theorem row_len (c : List UInt8) (i : Nat) (h : i ≤ 64) : (row c i).length = 64 := by
  simp [row, Sha.sch_length]; omega
theorem drop_cons {α : Type} (l : List α) (j : Nat) (x : α) (h : l[j]? = some x) : List.drop j l = x :: List.drop (j + 1) l := by
  obtain ⟨h1, h2⟩ := List.getElem?_eq_some_iff.1 h
  rw [List.drop_eq_getElem_cons h1, h2]
theorem row_drop (c : List UInt8) (i j : Nat) (h : j < i) : List.drop j (row c i) = wV ((Sha.sch c i).getD j 0) :: List.drop (j + 1) (row c i) := by
  apply drop_cons
  have hl : j < (Sha.sch c i).length := by rw [Sha.sch_length]; exact h
  rw [row, List.getElem?_append_left (by simpa using hl), List.getElem?_map, List.getElem?_eq_getElem hl]
  simp [List.getD, List.getElem?_eq_getElem hl]
/-- .. with a part of the next word. -/
def rowP (c : List UInt8) (i v : Nat) : List AV := (row c i).set i (wV v)
theorem rowP_zero (c : List UInt8) (i : Nat) (h : i < 64) : rowP c i 0 = row c i := by
  unfold rowP
  apply List.ext_getElem?
  intro k
  by_cases e : k = i
  · subst e
    rw [List.getElem?_set_self (by rw [row_len c k (by omega)]; exact h), row, List.getElem?_append_right (by simp [Sha.sch_length])]
    simp [Sha.sch_length, List.getElem?_replicate]
    omega
  · rw [List.getElem?_set_ne (by omega)]
theorem rowP_drop (c : List UInt8) (i v : Nat) (h : i < 64) : List.drop i (rowP c i v) = wV v :: List.drop (i + 1) (rowP c i v) := by
  apply drop_cons
  rw [rowP, List.getElem?_set_self (by rw [row_len c i (by omega)]; exact h)]
theorem rowP_set (c : List UInt8) (i v u : Nat) : (rowP c i v).set i (wV u) = rowP c i u := by simp [rowP]
theorem rowP_len (c : List UInt8) (i v : Nat) (h : i ≤ 64) : (rowP c i v).length = 64 := by simp [rowP, row_len c i h]
theorem row_set (c : List UInt8) (i : Nat) (h : i < 64) : (row c i).set i (wV (Sha.word c (Sha.sch c i) i)) = row c (i + 1) := by
  apply List.ext_getElem?
  intro k
  by_cases e : k = i
  · subst e
    rw [List.getElem?_set_self (by rw [row_len c k (by omega)]; exact h), row, List.getElem?_append_left (by simp [Sha.sch_length])]
    simp [Sha.sch, Sha.sch_length, List.getElem?_append_right]
  · rw [List.getElem?_set_ne (by omega), row, row]
    by_cases hk : k < i
    · rw [List.getElem?_append_left (by simp [Sha.sch_length]; omega), List.getElem?_append_left (by simp [Sha.sch_length]; omega)]
      simp [Sha.sch, List.getElem?_append_left, Sha.sch_length, hk]
    · rw [List.getElem?_append_right (by simp [Sha.sch_length]; omega), List.getElem?_append_right (by simp [Sha.sch_length]; omega)]
      simp only [List.length_map, Sha.sch_length, List.getElem?_replicate]
      by_cases h2 : k < 64
      · rw [if_pos (by omega), if_pos (by omega)]
      · rw [if_neg (by omega), if_neg (by omega)]
/-- The octets of a word, the first k of them. -/
def partW (c : List UInt8) (i k : Nat) : Nat := ((c.drop (4 * i)).take k).foldl (fun x b => x * 256 + b.toNat) 0
theorem partW_zero (c : List UInt8) (i : Nat) : partW c i 0 = 0 := rfl
theorem partW_succ (c : List UInt8) (i k : Nat) (b : UInt8) (h : c[4 * i + k]? = some b) : partW c i (k + 1) = partW c i k * 256 + b.toNat := by
  unfold partW
  have : (c.drop (4 * i))[k]? = some b := by rw [List.getElem?_drop]; exact h
  obtain ⟨h1, h2⟩ := List.getElem?_eq_some_iff.1 this
  rw [List.take_succ_eq_append_getElem h1, List.foldl_append, h2]
  rfl
theorem partW_lt (c : List UInt8) (i k : Nat) (hk : k ≤ 3) : partW c i k < 16777216 := by
  have key : ∀ (l : List UInt8) (x : Nat), l.foldl (fun x b => x * 256 + b.toNat) x < (x + 1) * 256 ^ l.length := by
    intro l
    induction l with
    | nil => intro x; simp
    | cons b l ih =>
      intro x
      rw [List.foldl_cons]
      have h1 := ih (x * 256 + b.toNat)
      have hb := b.toNat_lt
      have h2 : (x * 256 + b.toNat + 1) * 256 ^ l.length ≤ ((x + 1) * 256) * 256 ^ l.length := Nat.mul_le_mul_right _ (by omega)
      rw [List.length_cons, Nat.pow_succ, Nat.mul_comm (256 ^ l.length), ← Nat.mul_assoc]
      omega
  have h := key ((c.drop (4 * i)).take k) 0
  have hl : ((c.drop (4 * i)).take k).length ≤ 3 := by simp; omega
  have : 256 ^ ((c.drop (4 * i)).take k).length ≤ 256 ^ 3 := Nat.pow_le_pow_right (by decide) hl
  unfold partW
  omega
theorem partW_word (c : List UInt8) (p : List Nat) (i : Nat) (hi : i < 16) (hc : c.length = 64) : partW c i 4 = Sha.word c p i := by
  have g : ∀ j, j < 4 → c[4 * i + j]? = some (c.getD (4 * i + j) 0) := fun j hj => by
    rw [List.getD_eq_getElem?_getD, List.getElem?_eq_getElem (by omega)]
    rfl
  rw [partW_succ c i 3 _ (g 3 (by omega)), partW_succ c i 2 _ (g 2 (by omega)), partW_succ c i 1 _ (g 1 (by omega)), partW_succ c i 0 _ (g 0 (by omega)), partW_zero]
  unfold Sha.word
  rw [if_pos hi]
  simp only [Sha.be32, Nat.add_zero, Nat.zero_mul, Nat.zero_add]
theorem w_shl8 (x : Nat) (b : UInt8) (h : x < 16777216) : ior .u32 (ishl .u32 (x : Int) 8) (iconv .u32 (b.toNat : Int)) = ((x * 256 + b.toNat : Nat) : Int) := by
  have hb := b.toNat_lt
  rw [show (8 : Int) = ((8 : Nat) : Int) from rfl, wshl x 8 (by decide), iconv_u rfl]
  have e1 : x * 2 ^ 8 % 4294967296 = x * 256 := by omega
  have e2 : b.toNat % 2 ^ IntKind.u32.bits = b.toNat := by simp only [IntKind.bits]; omega
  rw [e1, e2, wor _ _ (by omega) (by omega)]
  have := Nat.shiftLeft_add_eq_or_of_lt (b := b.toNat) (i := 8) (by omega) x
  rw [Nat.shiftLeft_eq] at this
  rw [show x * 256 = x * 2 ^ 8 from rfl, ← this]

theorem asetAll_at : ∀ (xs cs : List AV) (off : Nat), off + xs.length ≤ cs.length → asetAll cs off xs = cs.take off ++ xs ++ cs.drop (off + xs.length)
  | [], cs, off, _ => by simp [asetAll]
  | x :: xs, cs, off, h => by
    simp only [List.length_cons] at h
    rw [asetAll, asetAll_at xs _ _ (by simp; omega)]
    have e1 : List.take (off + 1) (cs.set off x) = List.take off cs ++ [x] := by
      rw [List.take_succ_eq_append_getElem (by simp; omega)]
      simp [List.take_set_of_le]
    have e2 : List.drop (off + 1 + xs.length) (cs.set off x) = List.drop (off + (xs.length + 1)) cs := by
      rw [List.drop_set_of_lt (by omega), show off + 1 + xs.length = off + (xs.length + 1) from by omega]
    rw [e1, e2]
    simp
theorem asetAll_whole (cs xs : List AV) (h : cs.length = xs.length) : asetAll cs 0 xs = xs := by
  rw [asetAll_at xs cs 0 (by omega)]
  simp [← h]
theorem z138 : zcells Tryd.prog 133 = some (List.replicate 64 (wV 0)) := by kernel_rfl
theorem all_wV (l : List Nat) : (l.map wV).all AV.one = true := by
  rw [List.all_eq_true]
  intro x hx
  obtain ⟨n, _, rfl⟩ := List.mem_map.1 hx
  rfl
theorem q64 : iquo .i64 ((64 : Nat) : Int) 4 = 16 := by decide
theorem w_succ (i : Nat) (h : i < 2 ^ 62) : iadd .i64 (i : Int) 1 = ((i + 1 : Nat) : Int) := by
  rw [iadd_i64 (by omega)]
  rfl
theorem i64_mul4 (i : Nat) (h : i < 64) : imul .i64 4 (i : Int) = ((4 * i : Nat) : Int) := by
  rw [imul_i64 (by omega)]
  omega
theorem i64_add (a b : Nat) (h : a + b < 9223372036854775808) : iadd .i64 (a : Int) (b : Int) = ((a + b : Nat) : Int) := by
  rw [iadd_i64 (by omega)]
  omega
theorem i64_add4 (a : Nat) (h : a < 2 ^ 62) : iadd .i64 (a : Int) 4 = ((a + 4 : Nat) : Int) := i64_add a 4 (by omega)
theorem i64_sub (a b : Nat) (hb : b ≤ a) (h : a < 9223372036854775808) : isub .i64 (a : Int) (b : Int) = ((a - b : Nat) : Int) := by
  rw [isub_i64 (by omega)]
  omega

set_option maxHeartbeats 2000000 in
set_option maxRecDepth 100000 in
theorem spread_calls (c : List UInt8) (hc : c.length = 64) (s : AS) :
    ACalls Tryd.prog Γ 100 [bytesV c .any] s (fun r s' => r = .agg ((Sha.sch c 64).map wV) ∧ s' = s) := by
  refine acalls_body Tryd.func100 rfl Tryd.ntmps100 Tryd.results100 (by simp) ?_
  refine awp_reg_seq ?_
  intro K hK
  simp only [↓DN, UP, DF, qSh, qCv, qIA, qIx, qSl, qBu, qCe, qOn, reduceCtorEq, ↓reduceIte, nLT, nLE, nEQ, nAdd, nMul, nPow, nSub, zLT, zLE, zNat, RSha2100, z138]
  intro o2 ho2
  refine hK _ _ ?_
  clear hK K
  refine awp_reg_seq ?_
  intro K hK
  simp only [↓DN, UP, DF, qSh, qCv, qIA, qIx, qSl, qBu, qCe, qOn, reduceCtorEq, ↓reduceIte, nLT, nLE, nEQ, nAdd, nMul, nPow, nSub, zLT, zLE, zNat, RSha2100, z138]
  intro o3 ho3
  refine hK _ _ ?_
  clear hK K
  obtain ⟨h32, ho3'⟩ := AS.fresh_set ho3
  clear ho3
  rw [← row_zero c]
  refine awp_seq_k ?_
  intro K hK
  refine awp_reg_seq ?_
  intro K hK
  simp only [↓DN, UP, DF, qSh, qCv, qIA, qIx, qSl, qBu, qCe, qOn, reduceCtorEq, ↓reduceIte, nLT, nLE, nEQ, nAdd, nMul, nPow, nSub, zLT, zLE, zNat, RSha2100]
  refine hK _ _ ?_
  clear hK K
  refine awp_block ?_
  have hcl : (bytesV c .any : AV) = .sl 1 64 (c.map byteV) .any := by rw [bytesV, hc]
  refine awp_loop (fun E s1 => ∃ i : Nat, i ≤ 64 ∧ E 0 = .sl 1 64 (c.map byteV) .any ∧ E 2 = .ptr o2 0 ∧ E 3 = .ptr o3 0 ∧ E 7 = .v (.int .i64 i) ∧ s1 = (s.set o2 (row c 0)).set o3 (row c i))
    (fun E _ => match E 7 with | .v (.int _ i) => 64 - i.toNat | _ => 0) ?_ ?_
  · exact ⟨0, by omega, by simp [upd, initE, hc], by simp [upd], by simp [upd], by simp [upd], rfl⟩
  · rintro E1 s1 ⟨i, hi, e0, e2, e3, e7, rfl⟩ -
    by_cases hi' : i < 64
    · have hi2 : (i : Int) < 64 := by omega
      have hi3 : (i : Int) < ((64 : Nat) : Int) := by omega
      refine awp_reg_seq ?_
      intro K hK
      simp only [↓DN, UP, DF, qSh, qCv, qIA, qIx, qSl, qBu, qCe, qOn, reduceCtorEq, ↓reduceIte, nLT, nLE, nEQ, nAdd, nMul, nPow, nSub, zLT, zLE, zNat, RSha2100, e7, decide_eq_true hi2]
      refine hK _ _ ?_
      clear hK K
      refine awp_seq_k ?_
      intro K2 hK2
      refine awp_cond_k ?_
      intro X Y hX hY
      simp only [↓DN, UP, DF, qSh, qCv, qIA, qIx, qSl, qBu, qCe, qOn, reduceCtorEq, ↓reduceIte, nLT, nLE, nEQ, nAdd, nMul, nPow, nSub, zLT, zLE, zNat, RSha2100, DB]
      refine hX ?_
      clear hX hY X Y
      refine awp_skip ?_
      refine hK2 _ _ ?_
      clear hK2 K2
      refine awp_seq_k ?_
      intro K3 hK3
      refine awp_block ?_
      refine awp_reg_seq ?_
      intro K hK
      simp only [↓DN, UP, DF, qSh, qCv, qIA, qIx, qSl, qBu, qCe, qOn, reduceCtorEq, ↓reduceIte, nLT, nLE, nEQ, nAdd, nMul, nPow, nSub, zLT, zLE, zNat, RSha2100, e7]
      refine hK _ _ ?_
      clear hK K
      have hnext : ∀ E4 : Env, E4 0 = .sl 1 64 (c.map byteV) .any → E4 2 = .ptr o2 0 → E4 3 = .ptr o3 0 → E4 7 = .v (.int .i64 i) → K3 E4 ((s.set o2 (row c 0)).set o3 (row c (i + 1))) := by
        intro E4 f0 f2 f3 f7
        refine hK3 _ _ ?_
        clear hK3 K3
        refine awp_reg_end ?_
        intro K hK
        simp only [↓DN, UP, DF, qSh, qCv, qIA, qIx, qSl, qBu, qCe, qOn, reduceCtorEq, ↓reduceIte, nLT, nLE, nEQ, nAdd, nMul, nPow, nSub, zLT, zLE, zNat, RSha2100, f7, w_succ i (by omega)]
        refine hK _ _ ?_
        clear hK K
        refine ⟨⟨i + 1, by omega, by simp only [upd, f0, nEQ, ↓reduceIte], by simp only [upd, f2, nEQ, ↓reduceIte], by simp only [upd, f3, nEQ, ↓reduceIte], by simp only [upd, ↓reduceIte], rfl⟩, ?_⟩
        simp only [e7, upd, ↓reduceIte]
        omega
      clear hK3
      refine awp_seq_k ?_
      intro K4 hK4
      by_cases h16 : i < 16
      · have hlt16 : (i : Int) < 16 := by omega
        refine awp_reg_seq ?_
        intro K hK
        simp only [↓DN, UP, DF, qSh, qCv, qIA, qIx, qSl, qBu, qCe, qOn, reduceCtorEq, ↓reduceIte, nLT, nLE, nEQ, nAdd, nMul, nPow, nSub, zLT, zLE, zNat, RSha2100, e0, e7, q64]
        refine hK _ _ ?_
        clear hK K
        refine awp_cond_k ?_
        intro X Y hX hY
        simp only [↓DN, UP, DF, qSh, qCv, qIA, qIx, qSl, qBu, qCe, qOn, reduceCtorEq, ↓reduceIte, nLT, nLE, nEQ, nAdd, nMul, nPow, nSub, zLT, zLE, zNat, RSha2100, DB]
        refine ⟨fun _ => hX ?_, fun h => absurd hlt16 h⟩
        clear hX hY X Y
        have hlo : (0 : Int) ≤ ((4 * i : Nat) : Int) := by omega
        have hlh : ((4 * i : Nat) : Int) ≤ ((4 * i + 4 : Nat) : Int) := by omega
        have hh64 : ((4 * i + 4 : Nat) : Int) ≤ ((64 : Nat) : Int) := by omega
        refine awp_seq_k ?_
        intro K5 hK5
        refine awp_reg_seq ?_
        intro K hK
        simp only [↓DN, UP, DF, qSh, qCv, qIA, qIx, qSl, qBu, qCe, qOn, reduceCtorEq, ↓reduceIte, nLT, nLE, nEQ, nAdd, nMul, nPow, nSub, zLT, zLE, zNat, RSha2100, e0, e7, i64_mul4 i hi', i64_add4 (4 * i) (by omega), hlo, hlh, hh64, Nat.add_sub_cancel_left]
        refine hK _ _ ?_
        clear hK K
        refine awp_block ?_
        obtain ⟨Xs, hXs⟩ : ∃ Xs, Xs = List.map byteV (List.drop (4 * i) (List.take (4 * i + 4) c)) := ⟨_, rfl⟩
        have hXk : ∀ k, k < 4 → List.take 1 (List.drop k Xs) = [byteV (c.getD (4 * i + k) 0)] := by
          intro k hk
          have : Xs[k]? = some (byteV (c.getD (4 * i + k) 0)) := by
            rw [hXs, List.getElem?_map, List.getElem?_drop, List.getElem?_take, if_pos (by omega), List.getElem?_eq_getElem (by omega)]
            simp only [Option.map_some, List.getD, List.getElem?_eq_getElem (show 4 * i + k < c.length by omega), Option.getD_some]
          rw [drop_cons _ _ _ this]
          rfl
        rw [← hXs]
        refine awp_loop (fun E s2 => ∃ k : Nat, k ≤ 4 ∧ E 0 = .sl 1 64 (c.map byteV) .any ∧ E 2 = .ptr o2 0 ∧ E 3 = .ptr o3 0 ∧ E 7 = .v (.int .i64 i) ∧ E 4 = .v (.int .i64 i) ∧ E 21 = .sl 1 4 Xs .any ∧ E 22 = .v (.int .i64 4) ∧ E 23 = .v (.int .i64 k) ∧ s2 = (s.set o2 (row c 0)).set o3 (rowP c i (partW c i k)))
          (fun E _ => match E 23 with | .v (.int _ k) => 4 - k.toNat | _ => 0) ?_ ?_
        · refine ⟨0, by omega, by simp only [upd, e0, nEQ, ↓reduceIte], by simp only [upd, e2, nEQ, ↓reduceIte], by simp only [upd, e3, nEQ, ↓reduceIte], by simp only [upd, e7, nEQ, ↓reduceIte], by simp only [upd, nEQ, ↓reduceIte], by simp only [upd, nEQ, ↓reduceIte], by simp only [upd, nEQ, ↓reduceIte]; rfl, by simp only [upd, ↓reduceIte]; rfl, by rw [partW_zero, rowP_zero c i hi']⟩
        · rintro E2 s2 ⟨k, hk, g0, g2, g3, g7, g4, g21, g22, g23, rfl⟩ -
          by_cases hk' : k < 4
          · have hk2 : (k : Int) < 4 := by omega
            have hk0 : (0 : Int) ≤ (k : Int) := by omega
            have hk3 : (k : Int) < ((4 : Nat) : Int) := by omega
            have hi0 : (0 : Int) ≤ (i : Int) := by omega
            refine awp_reg_seq ?_
            intro K hK
            simp only [↓DN, UP, DF, qSh, qCv, qIA, qIx, qSl, qBu, qCe, qOn, reduceCtorEq, ↓reduceIte, nLT, nLE, nEQ, nAdd, nMul, nPow, nSub, zLT, zLE, zNat, RSha2100, g23, g22, decide_eq_true hk2]
            refine hK _ _ ?_
            clear hK K
            refine awp_seq_k ?_
            intro K6 hK6
            refine awp_cond_k ?_
            intro X Y hX hY
            simp only [↓DN, UP, DF, qSh, qCv, qIA, qIx, qSl, qBu, qCe, qOn, reduceCtorEq, ↓reduceIte, nLT, nLE, nEQ, nAdd, nMul, nPow, nSub, zLT, zLE, zNat, RSha2100, DB]
            refine hX ?_
            clear hX hY X Y
            refine awp_skip ?_
            refine hK6 _ _ ?_
            clear hK6 K6
            refine awp_seq_k ?_
            intro K7 hK7
            refine awp_block ?_
            obtain ⟨b, hb⟩ : ∃ b, b = c.getD (4 * i + k) 0 := ⟨_, rfl⟩
            have hbk : c[4 * i + k]? = some b := by
              rw [hb, List.getD_eq_getElem?_getD, List.getElem?_eq_getElem (by omega)]
              rfl
            have hXk' := hXk k hk'
            rw [← hb] at hXk'
            refine awp_reg_seq ?_
            intro K hK
            simp only [↓DN, UP, DF, qSh, qCv, qIA, qIx, qSl, qBu, qCe, qOn, reduceCtorEq, ↓reduceIte, nLT, nLE, nEQ, nAdd, nMul, nPow, nSub, zLT, zLE, zNat, RSha2100, g21, g23, hk0, hk2, hk3, hXk']
            refine hK _ _ ?_
            clear hK K
            obtain ⟨v, hv⟩ : ∃ v, v = partW c i k := ⟨_, rfl⟩
            have hv3 : v < 16777216 := by rw [hv]; exact partW_lt c i k (by omega)
            rw [← hv]
            have hd := rowP_drop c i v hi'
            have hset : (rowP c i v).set i (wV (v * 256 + b.toNat)) = rowP c i (partW c i (k + 1)) := by rw [rowP_set, partW_succ c i k b hbk, hv]
            have hlen := rowP_len c i v hi
            obtain ⟨R, hR⟩ : ∃ R, R = rowP c i v := ⟨_, rfl⟩
            rw [← hR] at hd hset hlen ⊢
            refine awp_reg_end ?_
            intro K hK
            simp only [↓DN, UP, DF, qSh, qCv, qIA, qIx, qSl, qBu, qCe, qOn, reduceCtorEq, ↓reduceIte, nLT, nLE, nEQ, nAdd, nMul, nPow, nSub, zLT, zLE, zNat, RSha2100, g3, g4, hi0, hi2, hi3, hd, byteV, w_shl8 v b hv3, hset, hlen, hi']
            refine ⟨by omega, hK _ _ ?_⟩
            clear hK K
            simp only [blockQ, thenQ, if_true, if_false]
            refine hK7 _ _ ?_
            clear hK7 K7
            refine awp_reg_end ?_
            intro K hK
            simp only [↓DN, UP, DF, qSh, qCv, qIA, qIx, qSl, qBu, qCe, qOn, reduceCtorEq, ↓reduceIte, nLT, nLE, nEQ, nAdd, nMul, nPow, nSub, zLT, zLE, zNat, RSha2100, g23, w_succ k (by omega)]
            refine hK _ _ ?_
            clear hK K
            refine ⟨⟨k + 1, by omega, by simp only [upd, g0, nEQ, ↓reduceIte], by simp only [upd, g2, nEQ, ↓reduceIte], by simp only [upd, g3, nEQ, ↓reduceIte], by simp only [upd, g7, nEQ, ↓reduceIte], by simp only [upd, g4, nEQ, ↓reduceIte], by simp only [upd, g21, nEQ, ↓reduceIte], by simp only [upd, g22, nEQ, ↓reduceIte], by simp only [upd, ↓reduceIte], rfl⟩, ?_⟩
            simp only [g23, upd, ↓reduceIte]
            omega
          · have hk2 : ¬ (k : Int) < 4 := by omega
            obtain rfl : k = 4 := by omega
            refine awp_reg_seq ?_
            intro K hK
            simp only [↓DN, UP, DF, qSh, qCv, qIA, qIx, qSl, qBu, qCe, qOn, reduceCtorEq, ↓reduceIte, nLT, nLE, nEQ, nAdd, nMul, nPow, nSub, zLT, zLE, zNat, RSha2100, g23, g22, decide_eq_false hk2]
            refine hK _ _ ?_
            clear hK K
            refine awp_seq_k ?_
            intro K6 hK6
            refine awp_cond_k ?_
            intro X Y hX hY
            simp only [↓DN, UP, DF, qSh, qCv, qIA, qIx, qSl, qBu, qCe, qOn, reduceCtorEq, ↓reduceIte, nLT, nLE, nEQ, nAdd, nMul, nPow, nSub, zLT, zLE, zNat, RSha2100, DB]
            refine hY ?_
            clear hX hY X Y
            refine awp_exit ?_
            simp only [thenQ, blockQ, if_true]
            clear hK6 K6
            refine hK5 _ _ ?_
            clear hK5 K5
            refine awp_exit ?_
            simp only [thenQ, blockQ, if_true]
            rw [partW_word c (Sha.sch c i) i h16 hc]
            have : rowP c i (Sha.word c (Sha.sch c i) i) = row c (i + 1) := row_set c i hi'
            rw [this]
            exact hnext _ (by simp only [upd, g0, nEQ, ↓reduceIte]) (by simp only [upd, g2, nEQ, ↓reduceIte]) (by simp only [upd, g3, nEQ, ↓reduceIte]) (by simp only [upd, g7, nEQ, ↓reduceIte])
      · have hlt16 : ¬ (i : Int) < 16 := by omega
        have hi0 : (0 : Int) ≤ (i : Int) := by omega
        refine awp_reg_seq ?_
        intro K hK
        simp only [↓DN, UP, DF, qSh, qCv, qIA, qIx, qSl, qBu, qCe, qOn, reduceCtorEq, ↓reduceIte, nLT, nLE, nEQ, nAdd, nMul, nPow, nSub, zLT, zLE, zNat, RSha2100, e0, e7, q64]
        refine hK _ _ ?_
        clear hK K
        refine awp_cond_k ?_
        intro X Y hX hY
        simp only [↓DN, UP, DF, qSh, qCv, qIA, qIx, qSl, qBu, qCe, qOn, reduceCtorEq, ↓reduceIte, nLT, nLE, nEQ, nAdd, nMul, nPow, nSub, zLT, zLE, zNat, RSha2100, DB]
        refine ⟨fun h => absurd h hlt16, fun _ => hY ?_⟩
        clear hX hY X Y
        refine awp_skip ?_
        refine hK4 _ _ ?_
        clear hK4 K4
        have n2 : (0 : Int) ≤ ((i - 2 : Nat) : Int) := by omega
        have n7 : (0 : Int) ≤ ((i - 7 : Nat) : Int) := by omega
        have n15 : (0 : Int) ≤ ((i - 15 : Nat) : Int) := by omega
        have n16 : (0 : Int) ≤ ((i - 16 : Nat) : Int) := by omega
        have m2 : ((i - 2 : Nat) : Int) < ((64 : Nat) : Int) := by omega
        have m7 : ((i - 7 : Nat) : Int) < ((64 : Nat) : Int) := by omega
        have m15 : ((i - 15 : Nat) : Int) < ((64 : Nat) : Int) := by omega
        have m16 : ((i - 16 : Nat) : Int) < ((64 : Nat) : Int) := by omega
        have s2 : isub .i64 (i : Int) 2 = ((i - 2 : Nat) : Int) := i64_sub i 2 (by omega) (by omega)
        have s7 : isub .i64 (i : Int) 7 = ((i - 7 : Nat) : Int) := i64_sub i 7 (by omega) (by omega)
        have s15 : isub .i64 (i : Int) 15 = ((i - 15 : Nat) : Int) := i64_sub i 15 (by omega) (by omega)
        have s16 : isub .i64 (i : Int) 16 = ((i - 16 : Nat) : Int) := i64_sub i 16 (by omega) (by omega)
        have d2 := row_drop c i (i - 2) (by omega)
        have d7 := row_drop c i (i - 7) (by omega)
        have d15 := row_drop c i (i - 15) (by omega)
        have d16 := row_drop c i (i - 16) (by omega)
        have hw : Sha.word c (Sha.sch c i) i = Sha.add32 (Sha.add32 (Sha.add32 (Sha.sig2 ((Sha.sch c i).getD (i - 2) 0) 17 19 10) ((Sha.sch c i).getD (i - 7) 0)) (Sha.sig2 ((Sha.sch c i).getD (i - 15) 0) 7 18 3)) ((Sha.sch c i).getD (i - 16) 0) := by rw [Sha.word, if_neg h16]
        have hset := row_set c i hi'
        rw [hw] at hset
        have hlen := row_len c i hi
        have l2 := Sha.sch_getD_lt c i (i - 2)
        have l15 := Sha.sch_getD_lt c i (i - 15)
        generalize (Sha.sch c i).getD (i - 2) 0 = x2 at *
        generalize (Sha.sch c i).getD (i - 7) 0 = x7 at *
        generalize (Sha.sch c i).getD (i - 15) 0 = x15 at *
        generalize (Sha.sch c i).getD (i - 16) 0 = x16 at *
        obtain ⟨R, hR⟩ : ∃ R, R = row c i := ⟨_, rfl⟩
        rw [← hR] at d2 d7 d15 d16 hset hlen ⊢
        refine awp_mrk_end T.mixed [(o3, R)] [5, 15] [4, 9, 14, 20] [23] (by kernel_rfl) (by simp only [Pres_cons, Pres_nil, and_true]; simp [AS.set, upd]) ?_
        intro K hK
        simp only [↓AXr_nil, ↓AXr_cons, gval, lval, fzGet_cons, fzGet_nil, Pres_cons, Pres_nil, List.any_cons, List.any_nil, List.contains_cons, List.contains_nil, Nat.reduceBEq, Bool.or_false, Bool.or_true, Bool.or_self, Bool.false_or, ↓DN, UP, DF, qSh, qCv, qIA, qIx, qSl, qBu, qCe, qOn, reduceCtorEq, ↓reduceIte, nLT, nLE, nEQ, nAdd, nMul, nPow, nSub, zLT, zLE, zNat, RSha2100, e3, e7, hi0, hi3, n2, n7, n15, n16, m2, m7, m15, m16, s2, s7, s15, s16, d2, d7, d15, d16, h32]
        refine acallk (shifted_calls x2 17 19 10 l2 (by omega) (by omega) (by omega) (by omega) (by omega) (by omega) _) ?_
        rintro r sa ⟨rfl, rfl⟩
        simp only [↓AXq_nil, ↓AXq_cons, pval, ↓AXr_nil, ↓AXr_cons, gval, lval, fzGet_cons, fzGet_nil, Pres_cons, Pres_nil, List.any_cons, List.any_nil, DX, Nat.reduceBEq, ↓DN, UP, DF, qSh, qCv, qIA, qIx, qSl, qBu, qCe, qOn, reduceCtorEq, ↓reduceIte, nLT, nLE, nEQ, nAdd, nMul, nPow, nSub, zLT, zLE, zNat, RSha2100, e3, e7, hi0, hi3, n2, n7, n15, n16, m2, m7, m15, m16, s2, s7, s15, s16, d2, d7, d15, d16, h32, wadd]
        refine acallk (shifted_calls x15 7 18 3 l15 (by omega) (by omega) (by omega) (by omega) (by omega) (by omega) _) ?_
        rintro r sb ⟨rfl, rfl⟩
        simp only [↓AXq_nil, ↓AXq_cons, pval, ↓AXr_nil, ↓AXr_cons, gval, lval, fzGet_cons, fzGet_nil, Pres_cons, Pres_nil, List.any_cons, List.any_nil, DX, Nat.reduceBEq, ↓DN, UP, DF, qSh, qCv, qIA, qIx, qSl, qBu, qCe, qOn, reduceCtorEq, ↓reduceIte, nLT, nLE, nEQ, nAdd, nMul, nPow, nSub, zLT, zLE, zNat, RSha2100, e3, e7, hi0, hi3, n2, n7, n15, n16, m2, m7, m15, m16, s2, s7, s15, s16, d2, d7, d15, d16, h32, wadd, hset, hlen]
        refine ⟨by omega, hK _ _ ?_⟩
        clear hK K
        simp only [blockQ, thenQ, if_true, if_false]
        exact hnext _ (by simp only [upd, e0, nEQ, ↓reduceIte]) (by simp only [upd, e2, nEQ, ↓reduceIte]) (by simp only [upd, e3, nEQ, ↓reduceIte]) (by simp only [upd, e7, nEQ, ↓reduceIte])
    · have hi2 : ¬ (i : Int) < 64 := by omega
      obtain rfl : i = 64 := by omega
      refine awp_reg_seq ?_
      intro K hK
      simp only [↓DN, UP, DF, qSh, qCv, qIA, qIx, qSl, qBu, qCe, qOn, reduceCtorEq, ↓reduceIte, nLT, nLE, nEQ, nAdd, nMul, nPow, nSub, zLT, zLE, zNat, RSha2100, e7, decide_eq_false hi2]
      refine hK _ _ ?_
      clear hK K
      refine awp_seq_k ?_
      intro K2 hK2
      refine awp_cond_k ?_
      intro X Y hX hY
      simp only [↓DN, UP, DF, qSh, qCv, qIA, qIx, qSl, qBu, qCe, qOn, reduceCtorEq, ↓reduceIte, nLT, nLE, nEQ, nAdd, nMul, nPow, nSub, zLT, zLE, zNat, RSha2100, DB]
      refine hY ?_
      clear hX hY X Y
      refine awp_exit ?_
      simp only [thenQ, blockQ, if_true]
      clear hK2 K2
      refine hK _ _ ?_
      clear hK K
      rw [row_full c]
      have hwl : ((Sha.sch c 64).map wV).length = 64 := by simp [Sha.sch_length]
      have hall := all_wV (Sha.sch c 64)
      have htk : List.take 64 ((Sha.sch c 64).map wV) = (Sha.sch c 64).map wV := List.take_of_length_le (by omega)
      obtain ⟨X, hX⟩ : ∃ X, X = (Sha.sch c 64).map wV := ⟨_, rfl⟩
      rw [← hX] at hwl hall htk ⊢
      refine awp_reg_seq ?_
      intro K hK
      simp only [↓DN, UP, DF, qSh, qCv, qIA, qIx, qSl, qBu, qCe, qOn, reduceCtorEq, ↓reduceIte, nLT, nLE, nEQ, nAdd, nMul, nPow, nSub, zLT, zLE, zNat, RSha2100, e2, e3, hwl, htk, hall, h32, h32.symm]
      have hr0 : (row c 0).length = 64 := row_len c 0 (by omega)
      rw [asetAll_whole (row c 0) X (by omega)]
      refine ⟨by omega, hK _ _ ?_⟩
      clear hK K
      refine awp_ret ?_
      refine aends_cell (v := .agg X) (o := o2) (off := 0) (by simp only [upd, e2, nEQ, ↓reduceIte]) (AS.set_objs_same _ _ _) (by rw [T.c133]; decide) (by simp only [↓DN, UP, DF, qSh, qCv, qIA, qIx, qSl, qBu, qCe, qOn, reduceCtorEq, ↓reduceIte, nLT, nLE, nEQ, nAdd, nMul, nPow, nSub, zLT, zLE, zNat, RSha2100, hwl, htk]) ?_
      exact ⟨_, s, AV.weak.refl _, AS.le_set (AS.le_set (AS.le_set (AS.le.refl s) ho2 _) ho3' _) ho2 _, rfl, rfl⟩

end Go.Proofs.YtooeklnbdgoneaaDoor


set_option autoImplicit false
namespace Go.Proofs.YtooeklnbdgoneaaDoor
open Go Go.AM Go.Proofs

theorem RSha379 : type_of% (And.intro (And.intro (And.intro (And.intro (And.intro (And.intro @Tryd.underlying3 T.c3) (And.intro T.g3 T.b3)) (And.intro (And.intro T.z3 @Tryd.underlying5) (And.intro T.c5 T.g5))) (And.intro (And.intro (And.intro T.b5 T.z5) (And.intro @Tryd.underlying22 T.c22)) (And.intro (And.intro T.g22 T.b22) (And.intro T.z22 T.s22)))) (And.intro (And.intro (And.intro (And.intro @Tryd.underlying81 T.c81) (And.intro T.g81 T.b81)) (And.intro (And.intro T.z81 @Tryd.underlying114) (And.intro T.c114 T.g114))) (And.intro (And.intro (And.intro T.b114 T.z114) (And.intro @Tryd.underlying133 T.c133)) (And.intro (And.intro T.g133 T.b133) (And.intro T.k101 T.k100))))) Tryd.ntmps79) :=
  (And.intro (And.intro (And.intro (And.intro (And.intro (And.intro @Tryd.underlying3 T.c3) (And.intro T.g3 T.b3)) (And.intro (And.intro T.z3 @Tryd.underlying5) (And.intro T.c5 T.g5))) (And.intro (And.intro (And.intro T.b5 T.z5) (And.intro @Tryd.underlying22 T.c22)) (And.intro (And.intro T.g22 T.b22) (And.intro T.z22 T.s22)))) (And.intro (And.intro (And.intro (And.intro @Tryd.underlying81 T.c81) (And.intro T.g81 T.b81)) (And.intro (And.intro T.z81 @Tryd.underlying114) (And.intro T.c114 T.g114))) (And.intro (And.intro (And.intro T.b114 T.z114) (And.intro @Tryd.underlying133 T.c133)) (And.intro (And.intro T.g133 T.b133) (And.intro T.k101 T.k100))))) Tryd.ntmps79)

variable {Γ : Nat → List AV}

/-- A state's words. -/
abbrev stC (t : Sha.St) : List AV := [wV t.a, wV t.b, wV t.c, wV t.d, wV t.e, wV t.f, wV t.g, wV t.h]
theorem c8 : ((8 : Nat) : Int) = 8 := rfl
theorem map_getD (l : List Nat) (i : Nat) (h : i < l.length) : (l.map wV)[i]? = some (wV (l.getD i 0)) := by
  rw [List.getElem?_map, List.getElem?_eq_getElem h]
  simp [List.getD, List.getElem?_eq_getElem h]

/-- The state's words, i of them added up. -/
def addL (t u : Sha.St) (i : Nat) : List AV := (stC (t.add u)).take i ++ (stC t).drop i
theorem addL_zero (t u : Sha.St) : addL t u 0 = stC t := rfl
theorem addL_full (t u : Sha.St) : addL t u 8 = stC (t.add u) := rfl
theorem addL_len (t u : Sha.St) (i : Nat) (h : i ≤ 8) : (addL t u i).length = 8 := by
  simp [addL]; omega
theorem at8 {i : Nat} (h : i < 8) : i = 0 ∨ i = 1 ∨ i = 2 ∨ i = 3 ∨ i = 4 ∨ i = 5 ∨ i = 6 ∨ i = 7 := by omega
theorem addL_drop (t u : Sha.St) (i : Nat) (h : i < 8) : List.drop i (addL t u i) = wV (t.list.getD i 0) :: (stC t).drop (i + 1) := by
  rcases at8 h with rfl | rfl | rfl | rfl | rfl | rfl | rfl | rfl <;> rfl
theorem addL_set (t u : Sha.St) (i : Nat) (h : i < 8) : (addL t u i).set i (wV (Sha.add32 (t.list.getD i 0) (u.list.getD i 0))) = addL t u (i + 1) := by
  rcases at8 h with rfl | rfl | rfl | rfl | rfl | rfl | rfl | rfl <;> rfl
theorem stC_drop (u : Sha.St) (i : Nat) (h : i < 8) : List.drop i (stC u) = wV (u.list.getD i 0) :: (stC u).drop (i + 1) := by
  rcases at8 h with rfl | rfl | rfl | rfl | rfl | rfl | rfl | rfl <;> rfl
theorem stC_all (u : Sha.St) : (stC u).all AV.one = true := rfl

set_option maxHeartbeats 4000000 in
set_option maxRecDepth 100000 in
theorem mix_calls (hG : Γ 1 = Sha.K.map wV) (t : Sha.St) (ht : t.ok) (c : List UInt8) (hc : c.length = 64) (s : AS) :
    ACalls Tryd.prog Γ 79 [.agg (stC t), bytesV c .any] s (fun r s' => r = .agg (stC (Sha.mix t c)) ∧ s' = s) := by
  refine acalls_body Tryd.func79 rfl Tryd.ntmps79 Tryd.results79 (by simp) ?_
  refine awp_reg_seq ?_
  intro K hK
  simp only [↓DN, UP, DF, qSh, qCv, qIA, qIx, qSl, qBu, qCe, qOn, reduceCtorEq, ↓reduceIte, nLT, nLE, nEQ, nAdd, nMul, nPow, nSub, zLT, zLE, zNat, RSha379]
  intro o2 ho2 o4 ho4
  refine hK _ _ ?_
  clear hK K
  obtain ⟨h42, ho4'⟩ := AS.fresh_set ho4
  clear ho4
  refine awp_reg_seq ?_
  intro K hK
  simp only [↓DN, UP, DF, qSh, qCv, qIA, qIx, qSl, qBu, qCe, qOn, reduceCtorEq, ↓reduceIte, nLT, nLE, nEQ, nAdd, nMul, nPow, nSub, zLT, zLE, zNat, RSha379, h42, h42.symm]
  intro o5 ho5
  have h54 : o5 ≠ o4 := by intro e; simp [e] at ho5
  have h52 : o5 ≠ o2 := by intro e; subst e; simp [h54] at ho5
  have ho5' : s.objs o5 = none := by simpa [h54, h52] using ho5
  clear ho5
  refine hK _ _ ?_
  clear hK K
  obtain ⟨Z, hZ⟩ : ∃ Z : List AV, Z = [wV 0, wV 0, wV 0, wV 0, wV 0, wV 0, wV 0, wV 0] := ⟨_, rfl⟩
  have hZl : Z.length = 8 := by rw [hZ]; rfl
  rw [show ([AV.v (.int .u32 0), AV.v (.int .u32 0), AV.v (.int .u32 0), AV.v (.int .u32 0), AV.v (.int .u32 0), AV.v (.int .u32 0), AV.v (.int .u32 0), AV.v (.int .u32 0)] : List AV) = Z from hZ.symm]
  refine awp_seq_k ?_
  intro K hK
  refine awp_reg_seq ?_
  intro K hK
  simp only [↓DN, UP, DF, qSh, qCv, qIA, qIx, qSl, qBu, qCe, qOn, reduceCtorEq, ↓reduceIte, nLT, nLE, nEQ, nAdd, nMul, nPow, nSub, zLT, zLE, zNat, RSha379]
  rw [show AV.sl 1 c.length (List.map byteV c) .any = bytesV c .any from rfl]
  refine acallk (spread_calls c hc _) ?_
  rintro r sa ⟨rfl, rfl⟩
  simp only [↓AXq_nil, ↓AXq_cons, pval, DX, Nat.reduceBEq, ↓DN, UP, DF, qSh, qCv, qIA, qIx, qSl, qBu, qCe, qOn, reduceCtorEq, ↓reduceIte, nLT, nLE, nEQ, nAdd, nMul, nPow, nSub, zLT, zLE, zNat, RSha379]
  refine hK _ _ ?_
  clear hK K
  obtain ⟨W, hW⟩ : ∃ W, W = Sha.sch c 64 := ⟨_, rfl⟩
  have hWl : W.length = 64 := by rw [hW, Sha.sch_length]
  rw [← hW]
  refine awp_block ?_
  refine awp_loop (fun E s1 => ∃ i : Nat, i ≤ 64 ∧ E 2 = .ptr o2 0 ∧ E 4 = .ptr o4 0 ∧ E 5 = .ptr o5 0 ∧ E 15 = .agg (W.map wV) ∧ E 16 = .v (.int .i64 i) ∧ s1 = ((s.set o2 (stC t)).set o4 Z).set o5 (stC (Sha.rounds W t i)))
    (fun E _ => match E 16 with | .v (.int _ i) => 64 - i.toNat | _ => 0) ?_ ?_
  · exact ⟨0, by omega, by simp [upd], by simp [upd], by simp [upd], by simp [upd], by simp [upd], rfl⟩
  · rintro E1 s1 ⟨i, hi, e2, e4, e5, e15, e16, rfl⟩ -
    by_cases hi' : i < 64
    · have hi2 : (i : Int) < 64 := by omega
      have hi3 : (i : Int) < ((64 : Nat) : Int) := by omega
      have hi0 : (0 : Int) ≤ (i : Int) := by omega
      refine awp_reg_seq ?_
      intro K hK
      simp only [↓DN, UP, DF, qSh, qCv, qIA, qIx, qSl, qBu, qCe, qOn, reduceCtorEq, ↓reduceIte, nLT, nLE, nEQ, nAdd, nMul, nPow, nSub, zLT, zLE, zNat, RSha379, e16, decide_eq_true hi2]
      refine hK _ _ ?_
      clear hK K
      refine awp_seq_k ?_
      intro K2 hK2
      refine awp_cond_k ?_
      intro X Y hX hY
      simp only [↓DN, UP, DF, qSh, qCv, qIA, qIx, qSl, qBu, qCe, qOn, reduceCtorEq, ↓reduceIte, nLT, nLE, nEQ, nAdd, nMul, nPow, nSub, zLT, zLE, zNat, RSha379, DB]
      refine hX ?_
      clear hX hY X Y
      refine awp_skip ?_
      refine hK2 _ _ ?_
      clear hK2 K2
      refine awp_seq_k ?_
      intro K3 hK3
      refine awp_block ?_
      have hwi := map_getD W i (by omega)
      have hki := map_getD Sha.K i (by rw [show Sha.K.length = 64 from rfl]; omega)
      have hst := Sha.rounds_ok (w := W) ht i
      have hnx : Sha.rounds W t (i + 1) = (Sha.rounds W t i).step (Sha.K.getD i 0) (W.getD i 0) := rfl
      generalize W.getD i 0 = wi at *
      generalize Sha.K.getD i 0 = ki at *
      generalize hu : Sha.rounds W t i = u at *
      have hkd : List.drop i (Sha.K.map wV) = wV ki :: List.drop (i + 1) (Sha.K.map wV) := drop_cons _ _ _ hki
      refine awp_reg_seq ?_
      intro K hK
      simp only [↓DN, UP, DF, qSh, qCv, qIA, qIx, qSl, qBu, qCe, qOn, reduceCtorEq, ↓reduceIte, nLT, nLE, nEQ, nAdd, nMul, nPow, nSub, zLT, zLE, zNat, RSha379, e15, e16, hi0, hi2, hi3, hwi]
      refine hK _ _ ?_
      clear hK K
      refine awp_mrk_seq T.mixed [(o5, stC u)] [] [1, 3] [] (by kernel_rfl) (by simp only [Pres_cons, Pres_nil, and_true]; simp [AS.set, upd]) ?_
      intro K hK
      simp only [↓AXr_nil, ↓AXr_cons, gval, lval, fzGet_cons, fzGet_nil, Pres_cons, Pres_nil, List.any_cons, List.any_nil, List.contains_cons, List.contains_nil, Nat.reduceBEq, Bool.or_false, Bool.or_true, Bool.or_self, Bool.false_or, ↓DN, UP, DF, qSh, qCv, qIA, qIx, qSl, qBu, qCe, qOn, reduceCtorEq, ↓reduceIte, nLT, nLE, nEQ, nAdd, nMul, nPow, nSub, zLT, zLE, zNat, RSha379, e5, c8]
      refine hK _ _ ?_
      clear hK K
      refine awp_mrk_seq T.mixed [(o5, stC u)] [3] [1, 7, 12] [] (by kernel_rfl) (by simp only [Pres_cons, Pres_nil, and_true]; simp [AS.set, upd]) ?_
      intro K hK
      simp only [↓AXr_nil, ↓AXr_cons, gval, lval, fzGet_cons, fzGet_nil, Pres_cons, Pres_nil, List.any_cons, List.any_nil, List.contains_cons, List.contains_nil, Nat.reduceBEq, Bool.or_false, Bool.or_true, Bool.or_self, Bool.false_or, ↓DN, UP, DF, qSh, qCv, qIA, qIx, qSl, qBu, qCe, qOn, reduceCtorEq, ↓reduceIte, nLT, nLE, nEQ, nAdd, nMul, nPow, nSub, zLT, zLE, zNat, RSha379, e5, e16, c8]
      have lt2 : ∀ {a b : Nat}, a < 4294967296 → b < 4294967296 → a &&& b < 4294967296 := fun {a b} ha hb => Nat.lt_of_le_of_lt Nat.and_le_left ha
      have lx2 : ∀ {a b : Nat}, a < 4294967296 → b < 4294967296 → a ^^^ b < 4294967296 := fun {a b} ha hb => Nat.xor_lt_two_pow (n := 32) ha hb
      have hn : 4294967295 - u.e < 4294967296 := by omega
      refine acallk (turned_calls u.e 6 11 25 hst.e (by omega) (by omega) (by omega) (by omega) (by omega) (by omega) _) ?_
      rintro r sb ⟨rfl, rfl⟩
      simp only [↓AXq_nil, ↓AXq_cons, pval, ↓AXr_nil, ↓AXr_cons, gval, lval, fzGet_cons, fzGet_nil, Pres_cons, Pres_nil, List.any_cons, List.any_nil, DX, Nat.reduceBEq, ↓DN, UP, DF, qSh, qCv, qIA, qIx, qSl, qBu, qCe, qOn, reduceCtorEq, ↓reduceIte, nLT, nLE, nEQ, nAdd, nMul, nPow, nSub, zLT, zLE, zNat, RSha379, e5, e16, c8, hG, hkd, hi0, hi3, wadd, wand u.e u.f hst.e hst.f, wnot u.e hst.e, wand (4294967295 - u.e) u.g hn hst.g, wxor (u.e &&& u.f) ((4294967295 - u.e) &&& u.g) (lt2 hst.e hst.f) (lt2 hn hst.g)]
      refine hK _ _ ?_
      clear hK K
      refine awp_mrk_seq T.mixed [(o5, stC u)] [1] [4, 8, 12, 14] [] (by kernel_rfl) (by simp only [Pres_cons, Pres_nil, and_true]; simp [AS.set, upd]) ?_
      intro K hK
      simp only [↓AXr_nil, ↓AXr_cons, gval, lval, fzGet_cons, fzGet_nil, Pres_cons, Pres_nil, List.any_cons, List.any_nil, List.contains_cons, List.contains_nil, Nat.reduceBEq, Bool.or_false, Bool.or_true, Bool.or_self, Bool.false_or, ↓DN, UP, DF, qSh, qCv, qIA, qIx, qSl, qBu, qCe, qOn, reduceCtorEq, ↓reduceIte, nLT, nLE, nEQ, nAdd, nMul, nPow, nSub, zLT, zLE, zNat, RSha379, e5, c8]
      refine acallk (turned_calls u.a 2 13 22 hst.a (by omega) (by omega) (by omega) (by omega) (by omega) (by omega) _) ?_
      rintro r sb ⟨rfl, rfl⟩
      simp only [↓AXq_nil, ↓AXq_cons, pval, ↓AXr_nil, ↓AXr_cons, gval, lval, fzGet_cons, fzGet_nil, Pres_cons, Pres_nil, List.any_cons, List.any_nil, DX, Nat.reduceBEq, ↓DN, UP, DF, qSh, qCv, qIA, qIx, qSl, qBu, qCe, qOn, reduceCtorEq, ↓reduceIte, nLT, nLE, nEQ, nAdd, nMul, nPow, nSub, zLT, zLE, zNat, RSha379, e5, c8, wadd, wand u.a u.b hst.a hst.b, wand u.a u.c hst.a hst.c, wand u.b u.c hst.b hst.c, wxor (u.a &&& u.b) (u.a &&& u.c) (lt2 hst.a hst.b) (lt2 hst.a hst.c), wxor ((u.a &&& u.b) ^^^ (u.a &&& u.c)) (u.b &&& u.c) (lx2 (lt2 hst.a hst.b) (lt2 hst.a hst.c)) (lt2 hst.b hst.c)]
      refine hK _ _ ?_
      clear hK K
      refine awp_reg_end ?_
      intro K hK
      simp only [↓DN, UP, DF, qSh, qCv, qIA, qIx, qSl, qBu, qCe, qOn, reduceCtorEq, ↓reduceIte, nLT, nLE, nEQ, nAdd, nMul, nPow, nSub, zLT, zLE, zNat, RSha379, e5, c8, wadd]
      refine hK _ _ ?_
      clear hK K
      simp only [blockQ, thenQ, if_true, if_false]
      refine hK3 _ _ ?_
      clear hK3 K3
      refine awp_reg_end ?_
      intro K hK
      simp only [↓DN, UP, DF, qSh, qCv, qIA, qIx, qSl, qBu, qCe, qOn, reduceCtorEq, ↓reduceIte, nLT, nLE, nEQ, nAdd, nMul, nPow, nSub, zLT, zLE, zNat, RSha379, e16, w_succ i (by omega)]
      refine hK _ _ ?_
      clear hK K
      refine ⟨⟨i + 1, by omega, by simp only [upd, e2, nEQ, ↓reduceIte], by simp only [upd, e4, nEQ, ↓reduceIte], by simp only [upd, e5, nEQ, ↓reduceIte], by simp only [upd, e15, nEQ, ↓reduceIte], by simp only [upd, ↓reduceIte], ?_⟩, ?_⟩
      · rw [hnx]
        simp only [stC, Sha.St.step, Sha.t1, Sha.t2]
      · simp only [e16, upd, ↓reduceIte]
        omega
    · have hi2 : ¬ (i : Int) < 64 := by omega
      obtain rfl : i = 64 := by omega
      refine awp_reg_seq ?_
      intro K hK
      simp only [↓DN, UP, DF, qSh, qCv, qIA, qIx, qSl, qBu, qCe, qOn, reduceCtorEq, ↓reduceIte, nLT, nLE, nEQ, nAdd, nMul, nPow, nSub, zLT, zLE, zNat, RSha379, e16, decide_eq_false hi2]
      refine hK _ _ ?_
      clear hK K
      refine awp_seq_k ?_
      intro K2 hK2
      refine awp_cond_k ?_
      intro X Y hX hY
      simp only [↓DN, UP, DF, qSh, qCv, qIA, qIx, qSl, qBu, qCe, qOn, reduceCtorEq, ↓reduceIte, nLT, nLE, nEQ, nAdd, nMul, nPow, nSub, zLT, zLE, zNat, RSha379, DB]
      refine hY ?_
      clear hX hY X Y
      refine awp_exit ?_
      simp only [thenQ, blockQ, if_true]
      clear hK2 K2
      refine hK _ _ ?_
      clear hK K
      have hmix : Sha.mix t c = t.add (Sha.rounds W t 64) := by rw [hW]; rfl
      rw [hmix]
      generalize Sha.rounds W t 64 = u
      rw [← addL_zero t u]
      refine awp_seq_k ?_
      intro K hK
      refine awp_reg_seq ?_
      intro K hK
      simp only [↓DN, UP, DF, qSh, qCv, qIA, qIx, qSl, qBu, qCe, qOn, reduceCtorEq, ↓reduceIte, nLT, nLE, nEQ, nAdd, nMul, nPow, nSub, zLT, zLE, zNat, RSha379]
      refine hK _ _ ?_
      clear hK K
      refine awp_block ?_
      refine awp_loop (fun E s1 => ∃ i : Nat, i ≤ 8 ∧ E 2 = .ptr o2 0 ∧ E 4 = .ptr o4 0 ∧ E 5 = .ptr o5 0 ∧ E 83 = .v (.int .i64 i) ∧ s1.objs o2 = some (addL t u i) ∧ s1.objs o5 = some (stC u) ∧ s1.objs o4 = some Z ∧ s.le s1)
        (fun E _ => match E 83 with | .v (.int _ i) => 8 - i.toNat | _ => 0) ?_ ?_
      · refine ⟨0, by omega, by simp only [upd, e2, nEQ, ↓reduceIte], by simp only [upd, e4, nEQ, ↓reduceIte], by simp only [upd, e5, nEQ, ↓reduceIte], by simp only [upd, ↓reduceIte]; rfl, ?_, AS.set_objs_same _ _ _, ?_, AS.le_set (AS.le_set (AS.le_set (AS.le.refl s) ho2 _) ho4' _) ho5' _⟩
        · rw [AS.set_objs_ne _ h52.symm, AS.set_objs_ne _ h42.symm, AS.set_objs_same]
        · rw [AS.set_objs_ne _ h54.symm, AS.set_objs_same]
      · rintro E2 s2 ⟨i, hi, g2, g4, g5, g83, j2, j5, j4, hle⟩ -
        by_cases hi' : i < 8
        · have hi2 : (i : Int) < 8 := by omega
          have hi0 : (0 : Int) ≤ (i : Int) := by omega
          refine awp_reg_seq ?_
          intro K hK
          simp only [↓DN, UP, DF, qSh, qCv, qIA, qIx, qSl, qBu, qCe, qOn, reduceCtorEq, ↓reduceIte, nLT, nLE, nEQ, nAdd, nMul, nPow, nSub, zLT, zLE, zNat, RSha379, g83, decide_eq_true hi2]
          refine hK _ _ ?_
          clear hK K
          refine awp_seq_k ?_
          intro K2 hK2
          refine awp_cond_k ?_
          intro X Y hX hY
          simp only [↓DN, UP, DF, qSh, qCv, qIA, qIx, qSl, qBu, qCe, qOn, reduceCtorEq, ↓reduceIte, nLT, nLE, nEQ, nAdd, nMul, nPow, nSub, zLT, zLE, zNat, RSha379, DB]
          refine hX ?_
          clear hX hY X Y
          refine awp_skip ?_
          refine hK2 _ _ ?_
          clear hK2 K2
          refine awp_seq_k ?_
          intro K3 hK3
          refine awp_block ?_
          refine awp_reg_seq ?_
          intro K hK
          simp only [↓DN, UP, DF, qSh, qCv, qIA, qIx, qSl, qBu, qCe, qOn, reduceCtorEq, ↓reduceIte, nLT, nLE, nEQ, nAdd, nMul, nPow, nSub, zLT, zLE, zNat, RSha379, g83]
          refine hK _ _ ?_
          clear hK K
          have d2 := addL_drop t u i hi'
          have d5 := stC_drop u i hi'
          have hset := addL_set t u i hi'
          have hlen := addL_len t u i hi
          generalize t.list.getD i 0 = x at *
          generalize u.list.getD i 0 = y at *
          obtain ⟨X, hX⟩ : ∃ X, X = addL t u i := ⟨_, rfl⟩
          rw [← hX] at d2 hset hlen j2
          obtain ⟨Y, hY⟩ : ∃ Y, Y = stC u := ⟨_, rfl⟩
          rw [← hY] at d5 j5
          refine awp_mrk_end T.mixed [(o2, X), (o5, Y)] [] [2, 5] [8] (by kernel_rfl) (by simp only [Pres_cons, Pres_nil, and_true]; simp [AS.set, upd, j2, j5]) ?_
          intro K hK
          simp only [↓AXr_nil, ↓AXr_cons, gval, lval, fzGet_cons, fzGet_nil, Pres_cons, Pres_nil, List.any_cons, List.any_nil, List.contains_cons, List.contains_nil, Nat.reduceBEq, Bool.or_false, Bool.or_true, Bool.or_self, Bool.false_or, ↓DN, UP, DF, qSh, qCv, qIA, qIx, qSl, qBu, qCe, qOn, reduceCtorEq, ↓reduceIte, nLT, nLE, nEQ, nAdd, nMul, nPow, nSub, zLT, zLE, zNat, RSha379, g2, g5, g83, c8, hi0, hi2, d2, d5, h52, h52.symm, j2, j5, wadd, hset, hlen]
          refine ⟨by omega, hK _ _ ?_⟩
          clear hK K
          simp only [blockQ, thenQ, if_true, if_false]
          refine hK3 _ _ ?_
          clear hK3 K3
          refine awp_reg_end ?_
          intro K hK
          simp only [↓DN, UP, DF, qSh, qCv, qIA, qIx, qSl, qBu, qCe, qOn, reduceCtorEq, ↓reduceIte, nLT, nLE, nEQ, nAdd, nMul, nPow, nSub, zLT, zLE, zNat, RSha379, g83, w_succ i (by omega)]
          refine hK _ _ ?_
          clear hK K
          refine ⟨⟨i + 1, by omega, by simp only [upd, g2, nEQ, ↓reduceIte], by simp only [upd, g4, nEQ, ↓reduceIte], by simp only [upd, g5, nEQ, ↓reduceIte], by simp only [upd, ↓reduceIte], AS.set_objs_same _ _ _, by rw [AS.set_objs_ne _ h52, j5, hY], by rw [AS.set_objs_ne _ h42]; exact j4, AS.le_set hle ho2 _⟩, ?_⟩
          simp only [g83, upd, ↓reduceIte]
          omega
        · have hi2 : ¬ (i : Int) < 8 := by omega
          obtain rfl : i = 8 := by omega
          refine awp_reg_seq ?_
          intro K hK
          simp only [↓DN, UP, DF, qSh, qCv, qIA, qIx, qSl, qBu, qCe, qOn, reduceCtorEq, ↓reduceIte, nLT, nLE, nEQ, nAdd, nMul, nPow, nSub, zLT, zLE, zNat, RSha379, g83, decide_eq_false hi2]
          refine hK _ _ ?_
          clear hK K
          refine awp_seq_k ?_
          intro K2 hK2
          refine awp_cond_k ?_
          intro X Y hX hY
          simp only [↓DN, UP, DF, qSh, qCv, qIA, qIx, qSl, qBu, qCe, qOn, reduceCtorEq, ↓reduceIte, nLT, nLE, nEQ, nAdd, nMul, nPow, nSub, zLT, zLE, zNat, RSha379, DB]
          refine hY ?_
          clear hX hY X Y
          refine awp_exit ?_
          simp only [thenQ, blockQ, if_true]
          clear hK2 K2
          refine hK _ _ ?_
          clear hK K
          rw [addL_full] at j2
          have hall := stC_all (t.add u)
          have hlen : (stC (t.add u)).length = 8 := rfl
          have htk : List.take 8 (stC (t.add u)) = stC (t.add u) := rfl
          obtain ⟨X, hX⟩ : ∃ X, X = stC (t.add u) := ⟨_, rfl⟩
          rw [← hX] at j2 hall hlen htk ⊢
          refine awp_reg_seq ?_
          intro K hK
          simp only [↓DN, UP, DF, qSh, qCv, qIA, qIx, qSl, qBu, qCe, qOn, reduceCtorEq, ↓reduceIte, nLT, nLE, nEQ, nAdd, nMul, nPow, nSub, zLT, zLE, zNat, RSha379, g2, g4, j2, j4, hlen, htk, hall]
          rw [asetAll_whole Z X (by omega)]
          refine ⟨by omega, hK _ _ ?_⟩
          clear hK K
          refine awp_ret ?_
          refine aends_cell (v := .agg X) (o := o4) (off := 0) (by simp only [upd, g4, nEQ, ↓reduceIte]) (AS.set_objs_same _ _ _) (by rw [T.c114]; decide) (by simp only [↓DN, UP, DF, qSh, qCv, qIA, qIx, qSl, qBu, qCe, qOn, reduceCtorEq, ↓reduceIte, nLT, nLE, nEQ, nAdd, nMul, nPow, nSub, zLT, zLE, zNat, RSha379, hlen, htk]) ?_
          exact ⟨_, s, AV.weak.refl _, AS.le_set hle ho4' _, rfl, rfl⟩

end Go.Proofs.YtooeklnbdgoneaaDoor


