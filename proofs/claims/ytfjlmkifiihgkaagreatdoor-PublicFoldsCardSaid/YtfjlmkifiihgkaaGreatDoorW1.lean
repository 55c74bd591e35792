/- Contracts of the program's functions, each walked once; the conditions stand in each theorem. -/
import Derived.Test.YtfjlmkifiihgkaaGreatDoorProg
import Derived.Test.YtfjlmkifiihgkaaGreatDoorAMp4
import Derived.Test.YtfjlmkifiihgkaaGreatDoorAMp6
import Derived.Test.YtfjlmkifiihgkaaGreatDoorAMp5
import Derived.Test.YtfjlmkifiihgkaaGreatDoorAMp3
set_option linter.unusedSimpArgs false
set_option linter.unusedVariables false
open Nat renaming reduceLT → Na, reduceLeDiff → Nb, reduceEqDiff → Nc, reduceAdd → Nk, reduceMul → Nf, reducePow → Ng, reduceSub → Nh, reduceBEq → Nz
open Int renaming reduceLT → Za, reduceLE → Zb, reduceToNat → Zc
open And renaming intro → Ai
open Go.AM renaming ashift → Qa, aconv → Qb, aindexAddr → Qc, aindex → Qd, aslice → Qe, abuiltin → Qf, awp_reg_seq → wS, awp_reg_end → wE, awp_seq_k → wK, awp_cond_k → wC
open Go.AM.AV renaming cells → Qg, one → Qh
set_option maxRecDepth 100000
set_option maxHeartbeats 8000000
set_option autoImplicit false
namespace Go.Proofs.YtfjlmkifiihgkaaGreatDoor
open Go Go.AM Go.Proofs
theorem T.c2 : Tryz.prog.cellsOf 2 = 1:=by kernel_rfl
theorem T.b2 : Tryz.prog.bytesOf 2 = 8:=by kernel_rfl
theorem T.g2 : isAggT Tryz.prog 2 = some false:=by kernel_rfl
theorem T.z2 : zcells Tryz.prog 2 = some [.v (.int .i64 0)]:=by kernel_rfl
theorem T.c3 : Tryz.prog.cellsOf 3 = 1:=by kernel_rfl
theorem T.b3 : Tryz.prog.bytesOf 3 = 8:=by kernel_rfl
theorem T.g3 : isAggT Tryz.prog 3 = some false:=by kernel_rfl
theorem T.z3 : zcells Tryz.prog 3 = some [.v (.int .i64 0)]:=by kernel_rfl
theorem T.c4 : Tryz.prog.cellsOf 4 = 1:=by kernel_rfl
theorem T.b4 : Tryz.prog.bytesOf 4 = 1:=by kernel_rfl
theorem T.g4 : isAggT Tryz.prog 4 = some false:=by kernel_rfl
theorem T.z4 : zcells Tryz.prog 4 = some [.v (.bool false)]:=by kernel_rfl
theorem T.c5 : Tryz.prog.cellsOf 5 = 1:=by kernel_rfl
theorem T.b5 : Tryz.prog.bytesOf 5 = 1:=by kernel_rfl
theorem T.g5 : isAggT Tryz.prog 5 = some false:=by kernel_rfl
theorem T.z5 : zcells Tryz.prog 5 = some [.v (.int .u8 0)]:=by kernel_rfl
theorem T.c6 : Tryz.prog.cellsOf 6 = 1:=by kernel_rfl
theorem T.g6 : isAggT Tryz.prog 6 = some false:=by kernel_rfl
theorem T.g7 : isAggT Tryz.prog 7 = some true:=by kernel_rfl
theorem T.h7 : fieldsOk Tryz.prog 7 = true:=by kernel_rfl
theorem T.c8 : Tryz.prog.cellsOf 8 = 4:=by kernel_rfl
theorem T.g8 : isAggT Tryz.prog 8 = some true:=by kernel_rfl
theorem T.h8 : fieldsOk Tryz.prog 8 = true:=by kernel_rfl
theorem T.c9 : Tryz.prog.cellsOf 9 = 1:=by kernel_rfl
theorem T.b9 : Tryz.prog.bytesOf 9 = 16:=by kernel_rfl
theorem T.g9 : isAggT Tryz.prog 9 = some false:=by kernel_rfl
theorem T.z9 : zcells Tryz.prog 9 = some [.v (.string ByteArray.empty)]:=by kernel_rfl
theorem T.g10 : isAggT Tryz.prog 10 = some false:=by kernel_rfl
theorem T.g11 : isAggT Tryz.prog 11 = some false:=by kernel_rfl
theorem T.g12 : isAggT Tryz.prog 12 = some false:=by kernel_rfl
theorem T.g13 : isAggT Tryz.prog 13 = some true:=by kernel_rfl
theorem T.h13 : fieldsOk Tryz.prog 13 = true:=by kernel_rfl
theorem T.g14 : isAggT Tryz.prog 14 = some true:=by kernel_rfl
theorem T.g15 : isAggT Tryz.prog 15 = some false:=by kernel_rfl
theorem T.p17 : isPtrT Tryz.prog 17 = true:=by kernel_rfl
theorem T.g20 : isAggT Tryz.prog 20 = some false:=by kernel_rfl
theorem T.g21 : isAggT Tryz.prog 21 = some false:=by kernel_rfl
theorem T.c22 : Tryz.prog.cellsOf 22 = 1:=by kernel_rfl
theorem T.b22 : Tryz.prog.bytesOf 22 = 24:=by kernel_rfl
theorem T.g22 : isAggT Tryz.prog 22 = some false:=by kernel_rfl
theorem T.z22 : zcells Tryz.prog 22 = some [.v (.slice none 0 0)]:=by kernel_rfl
theorem T.s22 : isSliceT Tryz.prog 22 = true:=by kernel_rfl
theorem T.c23 : Tryz.prog.cellsOf 23 = 1:=by kernel_rfl
theorem T.b23 : Tryz.prog.bytesOf 23 = 8:=by kernel_rfl
theorem T.g23 : isAggT Tryz.prog 23 = some false:=by kernel_rfl
theorem T.z23 : zcells Tryz.prog 23 = some [.v (.int .u64 0)]:=by kernel_rfl
theorem T.s24 : isSliceT Tryz.prog 24 = true:=by kernel_rfl
theorem T.c26 : Tryz.prog.cellsOf 26 = 1:=by kernel_rfl
theorem T.b26 : Tryz.prog.bytesOf 26 = 24:=by kernel_rfl
theorem T.g26 : isAggT Tryz.prog 26 = some false:=by kernel_rfl
theorem T.z26 : zcells Tryz.prog 26 = some [.v (.slice none 0 0)]:=by kernel_rfl
theorem T.s26 : isSliceT Tryz.prog 26 = true:=by kernel_rfl
theorem T.c27 : Tryz.prog.cellsOf 27 = 1:=by kernel_rfl
theorem T.b27 : Tryz.prog.bytesOf 27 = 8:=by kernel_rfl
theorem T.g27 : isAggT Tryz.prog 27 = some false:=by kernel_rfl
theorem T.z27 : zcells Tryz.prog 27 = some [.v (.int .i64 0)]:=by kernel_rfl
theorem T.c39 : Tryz.prog.cellsOf 39 = 1:=by kernel_rfl
theorem T.b39 : Tryz.prog.bytesOf 39 = 24:=by kernel_rfl
theorem T.g39 : isAggT Tryz.prog 39 = some false:=by kernel_rfl
theorem T.z39 : zcells Tryz.prog 39 = some [.v (.slice none 0 0)]:=by kernel_rfl
theorem T.s39 : isSliceT Tryz.prog 39 = true:=by kernel_rfl
theorem T.h47 : fieldsOk Tryz.prog 47 = true:=by kernel_rfl
theorem T.c48 : Tryz.prog.cellsOf 48 = 5:=by kernel_rfl
theorem T.b48 : Tryz.prog.bytesOf 48 = 104:=by kernel_rfl
theorem T.g48 : isAggT Tryz.prog 48 = some true:=by kernel_rfl
theorem T.h48 : fieldsOk Tryz.prog 48 = true:=by kernel_rfl
theorem T.f48_0 : fieldOf Tryz.prog 48 0 = some (0,22):=by kernel_rfl
theorem T.f48_1 : fieldOf Tryz.prog 48 1 = some (1,3):=by kernel_rfl
theorem T.f48_2 : fieldOf Tryz.prog 48 2 = some (2,26):=by kernel_rfl
theorem T.f48_3 : fieldOf Tryz.prog 48 3 = some (3,22):=by kernel_rfl
theorem T.f48_4 : fieldOf Tryz.prog 48 4 = some (4,22):=by kernel_rfl
theorem T.z48 : zcells Tryz.prog 48 = some [.v (.slice none 0 0),.v (.int .i64 0),.v (.slice none 0 0),.v (.slice none 0 0),.v (.slice none 0 0)]:=by kernel_rfl
theorem T.c49 : Tryz.prog.cellsOf 49 = 1:=by kernel_rfl
theorem T.b49 : Tryz.prog.bytesOf 49 = 24:=by kernel_rfl
theorem T.g49 : isAggT Tryz.prog 49 = some false:=by kernel_rfl
theorem T.z49 : zcells Tryz.prog 49 = some [.v (.slice none 0 0)]:=by kernel_rfl
theorem T.s49 : isSliceT Tryz.prog 49 = true:=by kernel_rfl
theorem T.c50 : Tryz.prog.cellsOf 50 = 1:=by kernel_rfl
theorem T.b50 : Tryz.prog.bytesOf 50 = 24:=by kernel_rfl
theorem T.g50 : isAggT Tryz.prog 50 = some false:=by kernel_rfl
theorem T.z50 : zcells Tryz.prog 50 = some [.v (.slice none 0 0)]:=by kernel_rfl
theorem T.s50 : isSliceT Tryz.prog 50 = true:=by kernel_rfl
theorem T.c52 : Tryz.prog.cellsOf 52 = 3:=by kernel_rfl
theorem T.b52 : Tryz.prog.bytesOf 52 = 56:=by kernel_rfl
theorem T.g52 : isAggT Tryz.prog 52 = some true:=by kernel_rfl
theorem T.h52 : fieldsOk Tryz.prog 52 = true:=by kernel_rfl
theorem T.f52_0 : fieldOf Tryz.prog 52 0 = some (0,23):=by kernel_rfl
theorem T.f52_1 : fieldOf Tryz.prog 52 1 = some (1,22):=by kernel_rfl
theorem T.f52_2 : fieldOf Tryz.prog 52 2 = some (2,50):=by kernel_rfl
theorem T.z52 : zcells Tryz.prog 52 = some [.v (.int .u64 0),.v (.slice none 0 0),.v (.slice none 0 0)]:=by kernel_rfl
theorem T.c54 : Tryz.prog.cellsOf 54 = 10:=by kernel_rfl
theorem T.b54 : Tryz.prog.bytesOf 54 = 176:=by kernel_rfl
theorem T.g54 : isAggT Tryz.prog 54 = some true:=by kernel_rfl
theorem T.h54 : fieldsOk Tryz.prog 54 = true:=by kernel_rfl
theorem T.f54_0 : fieldOf Tryz.prog 54 0 = some (0,22):=by kernel_rfl
theorem T.f54_1 : fieldOf Tryz.prog 54 1 = some (1,3):=by kernel_rfl
theorem T.f54_2 : fieldOf Tryz.prog 54 2 = some (2,3):=by kernel_rfl
theorem T.f54_3 : fieldOf Tryz.prog 54 3 = some (3,49):=by kernel_rfl
theorem T.f54_4 : fieldOf Tryz.prog 54 4 = some (4,4):=by kernel_rfl
theorem T.f54_5 : fieldOf Tryz.prog 54 5 = some (5,52):=by kernel_rfl
theorem T.f54_6 : fieldOf Tryz.prog 54 6 = some (8,22):=by kernel_rfl
theorem T.f54_7 : fieldOf Tryz.prog 54 7 = some (9,22):=by kernel_rfl
theorem T.z54 : zcells Tryz.prog 54 = some [.v (.slice none 0 0),.v (.int .i64 0),.v (.int .i64 0),.v (.slice none 0 0),.v (.bool false),.v (.int .u64 0),.v (.slice none 0 0),.v (.slice none 0 0),.v (.slice none 0 0),.v (.slice none 0 0)]:=by kernel_rfl
theorem T.c67 : Tryz.prog.cellsOf 67 = 1:=by kernel_rfl
theorem T.b67 : Tryz.prog.bytesOf 67 = 24:=by kernel_rfl
theorem T.g67 : isAggT Tryz.prog 67 = some false:=by kernel_rfl
theorem T.z67 : zcells Tryz.prog 67 = some [.v (.slice none 0 0)]:=by kernel_rfl
theorem T.s67 : isSliceT Tryz.prog 67 = true:=by kernel_rfl
theorem T.c69 : Tryz.prog.cellsOf 69 = 5:=by kernel_rfl
theorem T.b69 : Tryz.prog.bytesOf 69 = 88:=by kernel_rfl
theorem T.g69 : isAggT Tryz.prog 69 = some true:=by kernel_rfl
theorem T.h69 : fieldsOk Tryz.prog 69 = true:=by kernel_rfl
theorem T.f69_0 : fieldOf Tryz.prog 69 0 = some (0,3):=by kernel_rfl
theorem T.f69_1 : fieldOf Tryz.prog 69 1 = some (1,22):=by kernel_rfl
theorem T.f69_2 : fieldOf Tryz.prog 69 2 = some (2,23):=by kernel_rfl
theorem T.f69_3 : fieldOf Tryz.prog 69 3 = some (3,22):=by kernel_rfl
theorem T.f69_4 : fieldOf Tryz.prog 69 4 = some (4,39):=by kernel_rfl
theorem T.z69 : zcells Tryz.prog 69 = some [.v (.int .i64 0),.v (.slice none 0 0),.v (.int .u64 0),.v (.slice none 0 0),.v (.slice none 0 0)]:=by kernel_rfl
theorem T.c71 : Tryz.prog.cellsOf 71 = 5:=by kernel_rfl
theorem T.b71 : Tryz.prog.bytesOf 71 = 56:=by kernel_rfl
theorem T.g71 : isAggT Tryz.prog 71 = some true:=by kernel_rfl
theorem T.h71 : fieldsOk Tryz.prog 71 = true:=by kernel_rfl
theorem T.f71_0 : fieldOf Tryz.prog 71 0 = some (0,3):=by kernel_rfl
theorem T.f71_1 : fieldOf Tryz.prog 71 1 = some (1,3):=by kernel_rfl
theorem T.f71_2 : fieldOf Tryz.prog 71 2 = some (2,22):=by kernel_rfl
theorem T.f71_3 : fieldOf Tryz.prog 71 3 = some (3,23):=by kernel_rfl
theorem T.f71_4 : fieldOf Tryz.prog 71 4 = some (4,23):=by kernel_rfl
theorem T.z71 : zcells Tryz.prog 71 = some [.v (.int .i64 0),.v (.int .i64 0),.v (.slice none 0 0),.v (.int .u64 0),.v (.int .u64 0)]:=by kernel_rfl
theorem T.c83 : Tryz.prog.cellsOf 83 = 1:=by kernel_rfl
theorem T.b83 : Tryz.prog.bytesOf 83 = 24:=by kernel_rfl
theorem T.g83 : isAggT Tryz.prog 83 = some false:=by kernel_rfl
theorem T.z83 : zcells Tryz.prog 83 = some [.v (.slice none 0 0)]:=by kernel_rfl
theorem T.s83 : isSliceT Tryz.prog 83 = true:=by kernel_rfl
theorem T.c124 : Tryz.prog.cellsOf 124 = 1:=by kernel_rfl
theorem T.b124 : Tryz.prog.bytesOf 124 = 24:=by kernel_rfl
theorem T.g124 : isAggT Tryz.prog 124 = some false:=by kernel_rfl
theorem T.z124 : zcells Tryz.prog 124 = some [.v (.slice none 0 0)]:=by kernel_rfl
theorem T.s124 : isSliceT Tryz.prog 124 = true:=by kernel_rfl
theorem T.c126 : Tryz.prog.cellsOf 126 = 2:=by kernel_rfl
theorem T.b126 : Tryz.prog.bytesOf 126 = 32:=by kernel_rfl
theorem T.g126 : isAggT Tryz.prog 126 = some true:=by kernel_rfl
theorem T.h126 : fieldsOk Tryz.prog 126 = true:=by kernel_rfl
theorem T.f126_0 : fieldOf Tryz.prog 126 0 = some (0,23):=by kernel_rfl
theorem T.f126_1 : fieldOf Tryz.prog 126 1 = some (1,124):=by kernel_rfl
theorem T.z126 : zcells Tryz.prog 126 = some [.v (.int .u64 0),.v (.slice none 0 0)]:=by kernel_rfl
theorem T.c128 : Tryz.prog.cellsOf 128 = 2:=by kernel_rfl
theorem T.b128 : Tryz.prog.bytesOf 128 = 32:=by kernel_rfl
theorem T.g128 : isAggT Tryz.prog 128 = some true:=by kernel_rfl
theorem T.h128 : fieldsOk Tryz.prog 128 = true:=by kernel_rfl
theorem T.f128_0 : fieldOf Tryz.prog 128 0 = some (0,23):=by kernel_rfl
theorem T.f128_1 : fieldOf Tryz.prog 128 1 = some (1,22):=by kernel_rfl
theorem T.z128 : zcells Tryz.prog 128 = some [.v (.int .u64 0),.v (.slice none 0 0)]:=by kernel_rfl
theorem T.c213 : Tryz.prog.cellsOf 213 = 1:=by kernel_rfl
theorem T.b213 : Tryz.prog.bytesOf 213 = 4:=by kernel_rfl
theorem T.g213 : isAggT Tryz.prog 213 = some false:=by kernel_rfl
theorem T.z213 : zcells Tryz.prog 213 = some [.v (.int .u32 0)]:=by kernel_rfl
theorem T.c214 : Tryz.prog.cellsOf 214 = 8:=by kernel_rfl
theorem T.b214 : Tryz.prog.bytesOf 214 = 32:=by kernel_rfl
theorem T.g214 : isAggT Tryz.prog 214 = some true:=by kernel_rfl
theorem T.z214 : zcells Tryz.prog 214 = some [.v (.int .u32 0),.v (.int .u32 0),.v (.int .u32 0),.v (.int .u32 0),.v (.int .u32 0),.v (.int .u32 0),.v (.int .u32 0),.v (.int .u32 0)]:=by kernel_rfl
theorem T.c219 : Tryz.prog.cellsOf 219 = 1:=by kernel_rfl
theorem T.b219 : Tryz.prog.bytesOf 219 = 8:=by kernel_rfl
theorem T.g219 : isAggT Tryz.prog 219 = some false:=by kernel_rfl
theorem T.z219 : zcells Tryz.prog 219 = some [.v (.int .u64 0)]:=by kernel_rfl
theorem T.c265 : Tryz.prog.cellsOf 265 = 64:=by kernel_rfl
theorem T.b265 : Tryz.prog.bytesOf 265 = 256:=by kernel_rfl
theorem T.g265 : isAggT Tryz.prog 265 = some true:=by kernel_rfl
theorem T.c284 : Tryz.prog.cellsOf 284 = 64:=by kernel_rfl
theorem T.b284 : Tryz.prog.bytesOf 284 = 64:=by kernel_rfl
theorem T.g284 : isAggT Tryz.prog 284 = some true:=by kernel_rfl
theorem T.k3 : callable Tryz.prog 3 = true:=by kernel_rfl
theorem T.k4 : callable Tryz.prog 4 = true:=by kernel_rfl
theorem T.k5 : callable Tryz.prog 5 = true:=by kernel_rfl
theorem T.k6 : callable Tryz.prog 6 = true:=by kernel_rfl
theorem T.k7 : callable Tryz.prog 7 = true:=by kernel_rfl
theorem T.k8 : callable Tryz.prog 8 = true:=by kernel_rfl
theorem T.k9 : callable Tryz.prog 9 = true:=by kernel_rfl
theorem T.k10 : callable Tryz.prog 10 = true:=by kernel_rfl
theorem T.k11 : callable Tryz.prog 11 = true:=by kernel_rfl
theorem T.k12 : callable Tryz.prog 12 = true:=by kernel_rfl
theorem T.k13 : callable Tryz.prog 13 = true:=by kernel_rfl
theorem T.k14 : callable Tryz.prog 14 = true:=by kernel_rfl
theorem T.k15 : callable Tryz.prog 15 = true:=by kernel_rfl
theorem T.k20 : callable Tryz.prog 20 = true:=by kernel_rfl
theorem T.k21 : callable Tryz.prog 21 = true:=by kernel_rfl
theorem T.k22 : callable Tryz.prog 22 = true:=by kernel_rfl
theorem T.k24 : callable Tryz.prog 24 = true:=by kernel_rfl
theorem T.k25 : callable Tryz.prog 25 = true:=by kernel_rfl
theorem T.k26 : callable Tryz.prog 26 = true:=by kernel_rfl
theorem T.k27 : callable Tryz.prog 27 = true:=by kernel_rfl
theorem T.k28 : callable Tryz.prog 28 = true:=by kernel_rfl
theorem T.k30 : callable Tryz.prog 30 = true:=by kernel_rfl
theorem T.k33 : callable Tryz.prog 33 = true:=by kernel_rfl
theorem T.k36 : callable Tryz.prog 36 = true:=by kernel_rfl
theorem T.k53 : callable Tryz.prog 53 = true:=by kernel_rfl
theorem T.k54 : callable Tryz.prog 54 = true:=by kernel_rfl
theorem T.k56 : callable Tryz.prog 56 = true:=by kernel_rfl
theorem T.k57 : callable Tryz.prog 57 = true:=by kernel_rfl
theorem T.k62 : callable Tryz.prog 62 = true:=by kernel_rfl
theorem T.k69 : callable Tryz.prog 69 = true:=by kernel_rfl
theorem T.k82 : callable Tryz.prog 82 = true:=by kernel_rfl
theorem T.k83 : callable Tryz.prog 83 = true:=by kernel_rfl
theorem T.k84 : callable Tryz.prog 84 = true:=by kernel_rfl
theorem T.k85 : callable Tryz.prog 85 = true:=by kernel_rfl
theorem T.k86 : callable Tryz.prog 86 = true:=by kernel_rfl
theorem T.k87 : callable Tryz.prog 87 = true:=by kernel_rfl
theorem T.k88 : callable Tryz.prog 88 = true:=by kernel_rfl
theorem T.k89 : callable Tryz.prog 89 = true:=by kernel_rfl
theorem T.k91 : callable Tryz.prog 91 = true:=by kernel_rfl
theorem T.k92 : callable Tryz.prog 92 = true:=by kernel_rfl
theorem T.k93 : callable Tryz.prog 93 = true:=by kernel_rfl
theorem T.k94 : callable Tryz.prog 94 = true:=by kernel_rfl
theorem T.k95 : callable Tryz.prog 95 = true:=by kernel_rfl
theorem T.k99 : callable Tryz.prog 99 = true:=by kernel_rfl
theorem T.k116 : callable Tryz.prog 116 = true:=by kernel_rfl
theorem T.k130 : callable Tryz.prog 130 = true:=by kernel_rfl
theorem T.k131 : callable Tryz.prog 131 = true:=by kernel_rfl
theorem T.k132 : callable Tryz.prog 132 = true:=by kernel_rfl
theorem T.k133 : callable Tryz.prog 133 = true:=by kernel_rfl
theorem T.k134 : callable Tryz.prog 134 = true:=by kernel_rfl
theorem T.k135 : callable Tryz.prog 135 = true:=by kernel_rfl
theorem T.k136 : callable Tryz.prog 136 = true:=by kernel_rfl
theorem T.k137 : callable Tryz.prog 137 = true:=by kernel_rfl
theorem T.k141 : callable Tryz.prog 141 = true:=by kernel_rfl
theorem T.k143 : callable Tryz.prog 143 = true:=by kernel_rfl
theorem T.k147 : callable Tryz.prog 147 = true:=by kernel_rfl
theorem T.k152 : callable Tryz.prog 152 = true:=by kernel_rfl
theorem T.k153 : callable Tryz.prog 153 = true:=by kernel_rfl
theorem T.k155 : callable Tryz.prog 155 = true:=by kernel_rfl
theorem T.k156 : callable Tryz.prog 156 = true:=by kernel_rfl
theorem T.k157 : callable Tryz.prog 157 = true:=by kernel_rfl
theorem T.k158 : callable Tryz.prog 158 = true:=by kernel_rfl
theorem T.k159 : callable Tryz.prog 159 = true:=by kernel_rfl
theorem T.k160 : callable Tryz.prog 160 = true:=by kernel_rfl
theorem T.k163 : callable Tryz.prog 163 = true:=by kernel_rfl
theorem T.k164 : callable Tryz.prog 164 = true:=by kernel_rfl
theorem T.k172 : callable Tryz.prog 172 = true:=by kernel_rfl
theorem T.k173 : callable Tryz.prog 173 = true:=by kernel_rfl
theorem T.k174 : callable Tryz.prog 174 = true:=by kernel_rfl
theorem T.k175 : callable Tryz.prog 175 = true:=by kernel_rfl
theorem T.k197 : callable Tryz.prog 197 = true:=by kernel_rfl
theorem T.k204 : callable Tryz.prog 204 = true:=by kernel_rfl
theorem T.k210 : callable Tryz.prog 210 = true:=by kernel_rfl
theorem T.k212 : callable Tryz.prog 212 = true:=by kernel_rfl
theorem T.k217 : callable Tryz.prog 217 = true:=by kernel_rfl
theorem T.k218 : callable Tryz.prog 218 = true:=by kernel_rfl
theorem T.k219 : callable Tryz.prog 219 = true:=by kernel_rfl
theorem T.k220 : callable Tryz.prog 220 = true:=by kernel_rfl
theorem T.k232 : callable Tryz.prog 232 = true:=by kernel_rfl
theorem T.k233 : callable Tryz.prog 233 = true:=by kernel_rfl
theorem T.k234 : callable Tryz.prog 234 = true:=by kernel_rfl
theorem T.k249 : callable Tryz.prog 249 = true:=by kernel_rfl
theorem T.k256 : callable Tryz.prog 256 = true:=by kernel_rfl
theorem T.k257 : callable Tryz.prog 257 = true:=by kernel_rfl
theorem T.k261 : callable Tryz.prog 261 = true:=by kernel_rfl
theorem T.k262 : callable Tryz.prog 262 = true:=by kernel_rfl
theorem T.mixed : Tryz.prog.follows .mixedOrders = true:=by kernel_rfl
end Go.Proofs.YtfjlmkifiihgkaaGreatDoor
set_option maxRecDepth 100000
namespace Go.Proofs.YtfjlmkifiihgkaaGreatDoor
open Go Go.AM Go.Proofs
open And renaming intro→Ai
theorem TT : type_of% (Ai (Ai UP DF) (Ai (Ai (Ai (Ai (Ai (Ai (Ai (Ai @Tryz.underlying3 T.c3) (Ai T.g3 T.b3)) (Ai (Ai T.z3 Tryz.ntmps217) (Ai @Tryz.underlying5 (Ai T.c5 T.g5)))) (Ai (Ai (Ai T.b5 T.z5) (Ai @Tryz.underlying23 (Ai T.c23 T.g23))) (Ai (Ai T.b23 T.z23) (Ai @Tryz.underlying284 (Ai T.c284 T.g284))))) (Ai (Ai (Ai (Ai T.b284 Tryz.ntmps262) (Ai @Tryz.underlying213 T.c213)) (Ai (Ai T.g213 T.b213) (Ai T.z213 (Ai @Tryz.underlying219 T.c219)))) (Ai (Ai (Ai T.g219 T.b219) (Ai T.z219 (Ai T.k261 T.k262))) (Ai (Ai Tryz.ntmps249 @Tryz.underlying4) (Ai T.c4 (Ai T.g4 T.b4)))))) (Ai (Ai (Ai (Ai (Ai T.z4 T.k249) (Ai T.k217 Tryz.ntmps218)) (Ai (Ai T.k218 Tryz.ntmps153) (Ai Tryz.ntmps152 (Ai T.k152 Tryz.ntmps134)))) (Ai (Ai (Ai T.k134 Tryz.ntmps204) (Ai @Tryz.underlying39 (Ai T.c39 T.g39))) (Ai (Ai T.b39 T.z39) (Ai T.s39 (Ai T.k204 Tryz.ntmps130))))) (Ai (Ai (Ai (Ai Tryz.ntmps141 @Tryz.underlying9) (Ai T.c9 (Ai T.g9 T.b9))) (Ai (Ai T.z9 @Tryz.underlying22) (Ai T.c22 (Ai T.g22 T.b22)))) (Ai (Ai (Ai T.z22 T.s22) (Ai Tryz.ntmps88 (Ai Tryz.ntmps197 @Tryz.underlying69))) (Ai (Ai T.c69 T.g69) (Ai T.b69 (Ai T.z69 T.h69))))))) (Ai (Ai (Ai (Ai (Ai (Ai T.f69_0 T.f69_1) (Ai T.f69_2 T.f69_3)) (Ai (Ai T.f69_4 T.k88) (Ai T.k197 (Ai Tryz.ntmps116 Tryz.ntmps137)))) (Ai (Ai (Ai T.k141 Tryz.ntmps136) (Ai T.k137 (Ai T.k136 T.k116))) (Ai (Ai Tryz.ntmps57 @Tryz.underlying26) (Ai T.c26 (Ai T.g26 T.b26))))) (Ai (Ai (Ai (Ai T.z26 T.s26) (Ai Tryz.ntmps82 (Ai T.k82 Tryz.ntmps84))) (Ai (Ai T.k84 Tryz.ntmps86) (Ai Tryz.ntmps85 (Ai Tryz.ntmps219 T.k219)))) (Ai (Ai (Ai Tryz.ntmps155 Tryz.ntmps154) (Ai T.k57 (Ai T.k155 T.k153))) (Ai (Ai Tryz.ntmps83 T.k83) (Ai T.k85 (Ai T.k86 Tryz.ntmps24)))))) (Ai (Ai (Ai (Ai (Ai Tryz.ntmps95 Tryz.ntmps257) (Ai T.k257 Tryz.ntmps234)) (Ai (Ai Tryz.ntmps256 @Tryz.underlying265) (Ai T.c265 (Ai T.g265 T.b265)))) (Ai (Ai (Ai T.k256 Tryz.ntmps233) (Ai @Tryz.underlying214 (Ai T.c214 T.g214))) (Ai (Ai T.b214 T.z214) (Ai T.k234 (Ai T.k233 Tryz.ntmps175))))) (Ai (Ai (Ai (Ai Tryz.ntmps232 @Tryz.underlying83) (Ai T.c83 (Ai T.g83 T.b83))) (Ai (Ai T.z83 T.s83) (Ai T.k232 (Ai Tryz.ntmps174 Tryz.ntmps173)))) (Ai (Ai (Ai Tryz.ntmps231 Tryz.ntmps172) (Ai T.k175 (Ai T.k173 T.k172))) (Ai (Ai T.k174 Tryz.ntmps94) (Ai Tryz.ntmps212 (Ai T.k212 Tryz.ntmps147)))))))) (Ai (Ai (Ai (Ai (Ai (Ai (Ai Tryz.ntmps210 T.k95) (Ai T.k210 Tryz.ntmps143)) (Ai (Ai T.k143 Tryz.ntmps69) (Ai Tryz.ntmps56 (Ai T.k56 Tryz.ntmps11)))) (Ai (Ai (Ai T.k132 T.k24) (Ai T.k131 (Ai T.k69 T.k130))) (Ai (Ai Tryz.ntmps53 Tryz.ntmps133) (Ai T.k133 (Ai Tryz.ntmps62 Tryz.ntmps135))))) (Ai (Ai (Ai (Ai T.k135 Tryz.ntmps54) (Ai Tryz.ntmps99 (Ai @Tryz.underlying48 T.c48))) (Ai (Ai T.g48 T.b48) (Ai T.z48 (Ai T.h48 T.f48_0)))) (Ai (Ai (Ai T.f48_1 T.f48_2) (Ai T.f48_3 (Ai T.f48_4 T.k99))) (Ai (Ai Tryz.ntmps33 @Tryz.underlying27) (Ai T.c27 (Ai T.g27 T.b27)))))) (Ai (Ai (Ai (Ai (Ai T.z27 T.k94) (Ai T.k11 Tryz.ntmps36)) (Ai (Ai Tryz.ntmps157 Tryz.ntmps158) (Ai @Tryz.underlying71 (Ai T.c71 T.g71)))) (Ai (Ai (Ai T.b71 T.z71) (Ai T.h71 (Ai T.f71_0 T.f71_1))) (Ai (Ai T.f71_2 T.f71_3) (Ai T.f71_4 (Ai T.k157 T.k158))))) (Ai (Ai (Ai (Ai Tryz.ntmps156 @Tryz.underlying124) (Ai T.c124 (Ai T.g124 T.b124))) (Ai (Ai T.z124 T.s124) (Ai @Tryz.underlying126 (Ai T.c126 T.g126)))) (Ai (Ai (Ai T.b126 T.z126) (Ai T.h126 (Ai @Tryz.underlying128 T.c128))) (Ai (Ai T.g128 T.b128) (Ai T.z128 (Ai T.h128 T.f126_0))))))) (Ai (Ai (Ai (Ai (Ai (Ai T.f126_1 T.f128_0) (Ai T.f128_1 Tryz.ntmps220)) (Ai (Ai @Tryz.underlying49 T.c49) (Ai T.g49 (Ai T.b49 T.z49)))) (Ai (Ai (Ai T.s49 @Tryz.underlying50) (Ai T.c50 (Ai T.g50 T.b50))) (Ai (Ai T.z50 T.s50) (Ai @Tryz.underlying52 (Ai T.c52 T.g52))))) (Ai (Ai (Ai (Ai T.b52 T.z52) (Ai T.h52 (Ai @Tryz.underlying54 T.c54))) (Ai (Ai T.g54 T.b54) (Ai T.z54 (Ai T.h54 T.f52_0)))) (Ai (Ai (Ai T.f52_1 T.f52_2) (Ai T.f54_4 (Ai T.f54_5 T.k220))) (Ai (Ai Tryz.ntmps159 T.f54_0) (Ai T.f54_1 (Ai T.f54_2 T.f54_3)))))) (Ai (Ai (Ai (Ai (Ai T.f54_6 T.f54_7) (Ai T.k156 T.k159)) (Ai (Ai Tryz.ntmps87 T.k147) (Ai T.k160 (Ai Tryz.ntmps89 T.k89)))) (Ai (Ai (Ai T.k33 T.k87) (Ai Tryz.ntmps28 (Ai T.k163 T.k164))) (Ai (Ai Tryz.ntmps91 T.k28) (Ai T.k92 (Ai T.k93 T.k91))))) (Ai (Ai (Ai (Ai Tryz.ntmps30 T.k36) (Ai T.k30 (Ai Tryz.ntmps25 T.k53))) (Ai (Ai T.k62 T.k54) (Ai Tryz.ntmps160 (Ai Tryz.ntmps26 Tryz.ntmps27)))) (Ai (Ai (Ai @Tryz.underlying67 T.c67) (Ai T.g67 (Ai T.b67 T.z67))) (Ai (Ai T.s67 T.k27) (Ai T.k26 (Ai T.k25 Tryz.ntmps6)))))))))) :=
  (Ai (Ai UP DF) (Ai (Ai (Ai (Ai (Ai (Ai (Ai (Ai @Tryz.underlying3 T.c3) (Ai T.g3 T.b3)) (Ai (Ai T.z3 Tryz.ntmps217) (Ai @Tryz.underlying5 (Ai T.c5 T.g5)))) (Ai (Ai (Ai T.b5 T.z5) (Ai @Tryz.underlying23 (Ai T.c23 T.g23))) (Ai (Ai T.b23 T.z23) (Ai @Tryz.underlying284 (Ai T.c284 T.g284))))) (Ai (Ai (Ai (Ai T.b284 Tryz.ntmps262) (Ai @Tryz.underlying213 T.c213)) (Ai (Ai T.g213 T.b213) (Ai T.z213 (Ai @Tryz.underlying219 T.c219)))) (Ai (Ai (Ai T.g219 T.b219) (Ai T.z219 (Ai T.k261 T.k262))) (Ai (Ai Tryz.ntmps249 @Tryz.underlying4) (Ai T.c4 (Ai T.g4 T.b4)))))) (Ai (Ai (Ai (Ai (Ai T.z4 T.k249) (Ai T.k217 Tryz.ntmps218)) (Ai (Ai T.k218 Tryz.ntmps153) (Ai Tryz.ntmps152 (Ai T.k152 Tryz.ntmps134)))) (Ai (Ai (Ai T.k134 Tryz.ntmps204) (Ai @Tryz.underlying39 (Ai T.c39 T.g39))) (Ai (Ai T.b39 T.z39) (Ai T.s39 (Ai T.k204 Tryz.ntmps130))))) (Ai (Ai (Ai (Ai Tryz.ntmps141 @Tryz.underlying9) (Ai T.c9 (Ai T.g9 T.b9))) (Ai (Ai T.z9 @Tryz.underlying22) (Ai T.c22 (Ai T.g22 T.b22)))) (Ai (Ai (Ai T.z22 T.s22) (Ai Tryz.ntmps88 (Ai Tryz.ntmps197 @Tryz.underlying69))) (Ai (Ai T.c69 T.g69) (Ai T.b69 (Ai T.z69 T.h69))))))) (Ai (Ai (Ai (Ai (Ai (Ai T.f69_0 T.f69_1) (Ai T.f69_2 T.f69_3)) (Ai (Ai T.f69_4 T.k88) (Ai T.k197 (Ai Tryz.ntmps116 Tryz.ntmps137)))) (Ai (Ai (Ai T.k141 Tryz.ntmps136) (Ai T.k137 (Ai T.k136 T.k116))) (Ai (Ai Tryz.ntmps57 @Tryz.underlying26) (Ai T.c26 (Ai T.g26 T.b26))))) (Ai (Ai (Ai (Ai T.z26 T.s26) (Ai Tryz.ntmps82 (Ai T.k82 Tryz.ntmps84))) (Ai (Ai T.k84 Tryz.ntmps86) (Ai Tryz.ntmps85 (Ai Tryz.ntmps219 T.k219)))) (Ai (Ai (Ai Tryz.ntmps155 Tryz.ntmps154) (Ai T.k57 (Ai T.k155 T.k153))) (Ai (Ai Tryz.ntmps83 T.k83) (Ai T.k85 (Ai T.k86 Tryz.ntmps24)))))) (Ai (Ai (Ai (Ai (Ai Tryz.ntmps95 Tryz.ntmps257) (Ai T.k257 Tryz.ntmps234)) (Ai (Ai Tryz.ntmps256 @Tryz.underlying265) (Ai T.c265 (Ai T.g265 T.b265)))) (Ai (Ai (Ai T.k256 Tryz.ntmps233) (Ai @Tryz.underlying214 (Ai T.c214 T.g214))) (Ai (Ai T.b214 T.z214) (Ai T.k234 (Ai T.k233 Tryz.ntmps175))))) (Ai (Ai (Ai (Ai Tryz.ntmps232 @Tryz.underlying83) (Ai T.c83 (Ai T.g83 T.b83))) (Ai (Ai T.z83 T.s83) (Ai T.k232 (Ai Tryz.ntmps174 Tryz.ntmps173)))) (Ai (Ai (Ai Tryz.ntmps231 Tryz.ntmps172) (Ai T.k175 (Ai T.k173 T.k172))) (Ai (Ai T.k174 Tryz.ntmps94) (Ai Tryz.ntmps212 (Ai T.k212 Tryz.ntmps147)))))))) (Ai (Ai (Ai (Ai (Ai (Ai (Ai Tryz.ntmps210 T.k95) (Ai T.k210 Tryz.ntmps143)) (Ai (Ai T.k143 Tryz.ntmps69) (Ai Tryz.ntmps56 (Ai T.k56 Tryz.ntmps11)))) (Ai (Ai (Ai T.k132 T.k24) (Ai T.k131 (Ai T.k69 T.k130))) (Ai (Ai Tryz.ntmps53 Tryz.ntmps133) (Ai T.k133 (Ai Tryz.ntmps62 Tryz.ntmps135))))) (Ai (Ai (Ai (Ai T.k135 Tryz.ntmps54) (Ai Tryz.ntmps99 (Ai @Tryz.underlying48 T.c48))) (Ai (Ai T.g48 T.b48) (Ai T.z48 (Ai T.h48 T.f48_0)))) (Ai (Ai (Ai T.f48_1 T.f48_2) (Ai T.f48_3 (Ai T.f48_4 T.k99))) (Ai (Ai Tryz.ntmps33 @Tryz.underlying27) (Ai T.c27 (Ai T.g27 T.b27)))))) (Ai (Ai (Ai (Ai (Ai T.z27 T.k94) (Ai T.k11 Tryz.ntmps36)) (Ai (Ai Tryz.ntmps157 Tryz.ntmps158) (Ai @Tryz.underlying71 (Ai T.c71 T.g71)))) (Ai (Ai (Ai T.b71 T.z71) (Ai T.h71 (Ai T.f71_0 T.f71_1))) (Ai (Ai T.f71_2 T.f71_3) (Ai T.f71_4 (Ai T.k157 T.k158))))) (Ai (Ai (Ai (Ai Tryz.ntmps156 @Tryz.underlying124) (Ai T.c124 (Ai T.g124 T.b124))) (Ai (Ai T.z124 T.s124) (Ai @Tryz.underlying126 (Ai T.c126 T.g126)))) (Ai (Ai (Ai T.b126 T.z126) (Ai T.h126 (Ai @Tryz.underlying128 T.c128))) (Ai (Ai T.g128 T.b128) (Ai T.z128 (Ai T.h128 T.f126_0))))))) (Ai (Ai (Ai (Ai (Ai (Ai T.f126_1 T.f128_0) (Ai T.f128_1 Tryz.ntmps220)) (Ai (Ai @Tryz.underlying49 T.c49) (Ai T.g49 (Ai T.b49 T.z49)))) (Ai (Ai (Ai T.s49 @Tryz.underlying50) (Ai T.c50 (Ai T.g50 T.b50))) (Ai (Ai T.z50 T.s50) (Ai @Tryz.underlying52 (Ai T.c52 T.g52))))) (Ai (Ai (Ai (Ai T.b52 T.z52) (Ai T.h52 (Ai @Tryz.underlying54 T.c54))) (Ai (Ai T.g54 T.b54) (Ai T.z54 (Ai T.h54 T.f52_0)))) (Ai (Ai (Ai T.f52_1 T.f52_2) (Ai T.f54_4 (Ai T.f54_5 T.k220))) (Ai (Ai Tryz.ntmps159 T.f54_0) (Ai T.f54_1 (Ai T.f54_2 T.f54_3)))))) (Ai (Ai (Ai (Ai (Ai T.f54_6 T.f54_7) (Ai T.k156 T.k159)) (Ai (Ai Tryz.ntmps87 T.k147) (Ai T.k160 (Ai Tryz.ntmps89 T.k89)))) (Ai (Ai (Ai T.k33 T.k87) (Ai Tryz.ntmps28 (Ai T.k163 T.k164))) (Ai (Ai Tryz.ntmps91 T.k28) (Ai T.k92 (Ai T.k93 T.k91))))) (Ai (Ai (Ai (Ai Tryz.ntmps30 T.k36) (Ai T.k30 (Ai Tryz.ntmps25 T.k53))) (Ai (Ai T.k62 T.k54) (Ai Tryz.ntmps160 (Ai Tryz.ntmps26 Tryz.ntmps27)))) (Ai (Ai (Ai @Tryz.underlying67 T.c67) (Ai T.g67 (Ai T.b67 T.z67))) (Ai (Ai T.s67 T.k27) (Ai T.k26 (Ai T.k25 Tryz.ntmps6))))))))))
theorem DM : type_of% (Ai @AXq_nil @AXq_cons) :=
  (Ai @AXq_nil @AXq_cons)
section
variable {P : Program} {Γ : Nat→List AV} {N : Nat} {Q : Exit→Env→AS→Prop} {E E' : Env} {s s' : AS} {id : Nat} {L : List Oper} {x y : Code} {c : Operand} {H Z : Prop} {O : Array Oper} {W : Env→AS→Prop} {M : (Env→AS→Prop)→Prop} {f : FuncId} {ags : List AV} {v : AV} {s0 s2 : AS} {E2 : AS→Env} {s3 : AS→AS}
theorem jA (k : AWp P Γ N y Q E' s') (h : ∀ K : Env→AS→Prop,K E' s'→AY P Γ N L.toArray L K E s:=by (intro K hK; simp only [↓DN,Qa,Qb,Qc,Qd,Qe,Qf,Qg,Qh,reduceCtorEq,↓reduceIte,Na,Nb,Nc,Nk,Nf,Ng,Nh,Za,Zb,Zc,TT]; exact hK)) : AWp P Γ N (.seq (.region id L.toArray false) y) Q E s:=wS fun K hK=>h K (hK _ _ k)
theorem jB (a : H) (k : AWp P Γ N y Q E' s') (h : H→∀ K : Env→AS→Prop,K E' s'→AY P Γ N L.toArray L K E s:=by (intro a K hK; simp only [↓DN,Qa,Qb,Qc,Qd,Qe,Qf,Qg,Qh,reduceCtorEq,↓reduceIte,Na,Nb,Nc,Nk,Nf,Ng,Nh,Za,Zb,Zc,TT,a]; exact hK)) : AWp P Γ N (.seq (.region id L.toArray false) y) Q E s:=wS fun K hK=>h a K (hK _ _ k)
theorem jC (k : Q .normal E' s') (h : ∀ K : Env→AS→Prop,K E' s'→AY P Γ N L.toArray L K E s:=by (intro K hK; simp only [↓DN,Qa,Qb,Qc,Qd,Qe,Qf,Qg,Qh,reduceCtorEq,↓reduceIte,Na,Nb,Nc,Nk,Nf,Ng,Nh,Za,Zb,Zc,TT]; exact hK)) : AWp P Γ N (.region id L.toArray false) Q E s:=wE fun K hK=>h K (hK _ _ k)
theorem jD (a : H) (k : Q .normal E' s') (h : H→∀ K : Env→AS→Prop,K E' s'→AY P Γ N L.toArray L K E s:=by (intro a K hK; simp only [↓DN,Qa,Qb,Qc,Qd,Qe,Qf,Qg,Qh,reduceCtorEq,↓reduceIte,Na,Nb,Nc,Nk,Nf,Ng,Nh,Za,Zb,Zc,TT,a]; exact hK)) : AWp P Γ N (.region id L.toArray false) Q E s:=wE fun K hK=>h a K (hK _ _ k)
theorem jE (k : AWp P Γ N x Q E s) (h : ∀ X Y : Prop,X→match aeval Γ E c with | .v (.bool t)=>(t = true→X)∧(t = false→Y) | _=>False:=by (intro X Y hX; simp only [UP,DF,Nc,↓reduceIte,DB]; exact hX)) : AWp P Γ N (.cond c x y) Q E s:=wC fun X Y hX hY=>h X Y (hX k)
theorem jF (k : AWp P Γ N y Q E s) (h : ∀ X Y : Prop,Y→match aeval Γ E c with | .v (.bool t)=>(t = true→X)∧(t = false→Y) | _=>False:=by (intro X Y hX; simp only [UP,DF,Nc,↓reduceIte,DB]; exact hX)) : AWp P Γ N (.cond c x y) Q E s:=wC fun X Y hX hY=>h X Y (hY k)
theorem jG (a : H) (k : AWp P Γ N x Q E s) (h : H→∀ X Y : Prop,X→match aeval Γ E c with | .v (.bool t)=>(t = true→X)∧(t = false→Y) | _=>False:=by (intro a X Y hX; simp only [UP,DF,Nc,↓reduceIte,DB,a]; exact hX)) : AWp P Γ N (.cond c x y) Q E s:=wC fun X Y hX hY=>h a X Y (hX k)
theorem jH (a : H) (k : AWp P Γ N y Q E s) (h : H→∀ X Y : Prop,Y→match aeval Γ E c with | .v (.bool t)=>(t = true→X)∧(t = false→Y) | _=>False:=by (intro a X Y hX; simp only [UP,DF,Nc,↓reduceIte,DB,a]; exact hX)) : AWp P Γ N (.cond c x y) Q E s:=wC fun X Y hX hY=>h a X Y (hY k)
theorem jI (k : Z) (h : Z→Q .ret E s:=by (intro hz; (try simp only [thenQ,blockQ]); simp only [retQ,AEnds,aresL,ares,List.toList_toArray,↓upd_same]; (try simp only [UP,DF,Nc,↓reduceIte,DT]); exact hz)) : AWp P Γ N .ret Q E s:=awp_ret (h k)
theorem jJ (h : Q .ret E s:=by ((try simp only [thenQ,blockQ]); simp only [retQ,AEnds,aresL,ares,List.toList_toArray,↓upd_same]; (try simp only [UP,DF,Nc,↓reduceIte,DT]); exact ⟨_,_,AV.weak.refl _,AS.le.refl _,rfl,rfl⟩)) : AWp P Γ N .ret Q E s:=awp_ret h
theorem jK (a : ACalls P Γ f ags s0 fun r s'=>r = v∧s' = s2) (k : ∀ s1,s1 = s2→AWp P Γ N y Q (E2 s1) (s3 s1)) (h : (ACalls P Γ f ags s0 fun r s'=>r = v∧s' = s2)→∀ K : Env→AS→Prop,(∀ s1,s1 = s2→K (E2 s1) (s3 s1))→AY P Γ N L.toArray L K E s:=by (intro a K hK; simp only [↓DN,Qa,Qb,Qc,Qd,Qe,Qf,Qg,Qh,reduceCtorEq,↓reduceIte,Na,Nb,Nc,Nk,Nf,Ng,Nh,Za,Zb,Zc,TT]; refine acallk a ?_; rintro _ s1 ⟨rfl,e⟩; simp only [↓DM,pval,DX,Nz,↓DN,Qa,Qb,Qc,Qd,Qe,Qf,Qg,Qh,reduceCtorEq,↓reduceIte,Na,Nb,Nc,Nk,Nf,Ng,Nh,Za,Zb,Zc,TT]; exact hK s1 e)) : AWp P Γ N (.seq (.region id L.toArray false) y) Q E s:=wS fun K hK=>h a K fun s1 e=>hK _ _ (k s1 e)
theorem jL (a : ACalls P Γ f ags s0 fun r s'=>r = v∧s' = s2) (k : ∀ s1,s1 = s2→Q .normal (E2 s1) (s3 s1)) (h : (ACalls P Γ f ags s0 fun r s'=>r = v∧s' = s2)→∀ K : Env→AS→Prop,(∀ s1,s1 = s2→K (E2 s1) (s3 s1))→AY P Γ N L.toArray L K E s:=by (intro a K hK; simp only [↓DN,Qa,Qb,Qc,Qd,Qe,Qf,Qg,Qh,reduceCtorEq,↓reduceIte,Na,Nb,Nc,Nk,Nf,Ng,Nh,Za,Zb,Zc,TT]; refine acallk a ?_; rintro _ s1 ⟨rfl,e⟩; simp only [↓DM,pval,DX,Nz,↓DN,Qa,Qb,Qc,Qd,Qe,Qf,Qg,Qh,reduceCtorEq,↓reduceIte,Na,Nb,Nc,Nk,Nf,Ng,Nh,Za,Zb,Zc,TT]; exact hK s1 e)) : AWp P Γ N (.region id L.toArray false) Q E s:=wE fun K hK=>h a K fun s1 e=>hK _ _ (k s1 e)
theorem jQ (k : ∀ K : Env→AS→Prop,(∀ E s,AWp P Γ N y Q E s→K E s)→M K) (h : ∀ K : Env→AS→Prop,M K→AY P Γ N L.toArray L K E s:=by (intro K hz; simp only [↓DN,Qa,Qb,Qc,Qd,Qe,Qf,Qg,Qh,reduceCtorEq,↓reduceIte,Na,Nb,Nc,Nk,Nf,Ng,Nh,Za,Zb,Zc,TT]; exact hz)) : AWp P Γ N (.seq (.region id L.toArray false) y) Q E s:=wS fun K hK=>h K (k K hK)
theorem jS (a : H) (k : ∀ K : Env→AS→Prop,(∀ E s,AWp P Γ N y Q E s→K E s)→M K) (h : H→∀ K : Env→AS→Prop,M K→AY P Γ N L.toArray L K E s:=by (intro a K hz; simp only [↓DN,Qa,Qb,Qc,Qd,Qe,Qf,Qg,Qh,reduceCtorEq,↓reduceIte,Na,Nb,Nc,Nk,Nf,Ng,Nh,Za,Zb,Zc,TT,a]; exact hz)) : AWp P Γ N (.seq (.region id L.toArray false) y) Q E s:=wS fun K hK=>h a K (k K hK)
theorem jT (k : ∀ K : Env→AS→Prop,(∀ E s,Q .normal E s→K E s)→M K) (h : ∀ K : Env→AS→Prop,M K→AY P Γ N L.toArray L K E s:=by (intro K hz; simp only [↓DN,Qa,Qb,Qc,Qd,Qe,Qf,Qg,Qh,reduceCtorEq,↓reduceIte,Na,Nb,Nc,Nk,Nf,Ng,Nh,Za,Zb,Zc,TT]; exact hz)) : AWp P Γ N (.region id L.toArray false) Q E s:=wE fun K hK=>h K (k K hK)
theorem jU (a : H) (k : ∀ K : Env→AS→Prop,(∀ E s,Q .normal E s→K E s)→M K) (h : H→∀ K : Env→AS→Prop,M K→AY P Γ N L.toArray L K E s:=by (intro a K hz; simp only [↓DN,Qa,Qb,Qc,Qd,Qe,Qf,Qg,Qh,reduceCtorEq,↓reduceIte,Na,Nb,Nc,Nk,Nf,Ng,Nh,Za,Zb,Zc,TT,a]; exact hz)) : AWp P Γ N (.region id L.toArray false) Q E s:=wE fun K hK=>h a K (k K hK)
theorem jR {K : Env→AS→Prop} (hK : ∀ E s,W E s→K E s) (k : W E' s') (h : K E' s'→Z:=by (intro hK; simp only [↓DM,pval,DX,Nz,↓DN,Qa,Qb,Qc,Qd,Qe,Qf,Qg,Qh,reduceCtorEq,↓reduceIte,Na,Nb,Nc,Nk,Nf,Ng,Nh,Za,Zb,Zc,TT]; exact hK)) : Z:=h (hK _ _ k)
theorem jV {K : Env→AS→Prop} (a : H) (hK : ∀ E s,W E s→K E s) (k : W E' s') (h : H→K E' s'→Z:=by (intro a hK; simp only [↓DM,pval,DX,Nz,↓DN,Qa,Qb,Qc,Qd,Qe,Qf,Qg,Qh,reduceCtorEq,↓reduceIte,Na,Nb,Nc,Nk,Nf,Ng,Nh,Za,Zb,Zc,TT,a]; exact hK)) : Z:=h a (hK _ _ k)
end
end Go.Proofs.YtfjlmkifiihgkaaGreatDoor
namespace Go.AM
open Go
def intC (n : Int) : AV:=.v (.int .i64 n)
def intsV (l : List Int) (sp : Sp) : AV:=.sl 1 l.length (l.map intC) sp
theorem eat_int {l : List Int} {i : Nat} (h : i < l.length) : List.take 1 (List.drop i (l.map intC)) = [.v (.int .i64 l[i])]:=by
  rw [List.drop_eq_getElem_cons (by simpa using h)]
  simp [intC]
theorem IsTy.ints {avs : List AV} (h : IsTy (.slice 1 tyI) avs) : ∃ l : List Int,avs = [intsV l .any]:=by
  obtain ⟨els,rfl,_,hall⟩:=IsTy.rows h
  have key : ∀ els : List (List AV),(∀ el ∈ els,el.length = 1∧IsTy tyI el)→∃ l : List Int,l.length = els.length∧els.flatten = l.map intC:=by
    intro els
    induction els with
    | nil=>intro _; exact ⟨[],rfl,rfl⟩
    | cons e els ih =>
      intro h
      obtain ⟨l,h1,h2⟩:=ih (fun el hel=>h el (by simp [hel]))
      obtain ⟨_,t⟩:=h e (by simp)
      obtain ⟨n,rfl,_⟩:=isTy_int t
      exact ⟨n :: l,by simp [h1],by simp [h2,intC]⟩
  obtain ⟨l,h1,h2⟩:=key els hall
  exact ⟨l,by rw [← h1,h2]; rfl⟩
theorem take_eq_succ {α : Type} {a b : List α} {i : Nat} (ha : i < a.length) (hb : i < b.length) (h : a.take i = b.take i) (e : a[i] = b[i]) : a.take (i + 1) = b.take (i + 1):=by
  rw [List.take_succ_eq_append_getElem ha,List.take_succ_eq_append_getElem hb,h,e]
structure NodeV where
  kind : Int
  name : List UInt8
  key : Nat
  parent : List UInt8
  unm : List Int
  deriving DecidableEq
def NodeV.cells (n : NodeV) : List AV:=[.v (.int .i64 n.kind),bytesV n.name .any,.v (.int .u64 n.key),bytesV n.parent .any,intsV n.unm .any]
def NodeV.nought : NodeV:=⟨0,[],0,[],[]⟩
theorem node_eq_bool (k k' : Int) (m m' p p' : List UInt8) (y y' : Nat) (u u' : List Int) :
    decide ((⟨k,m,y,p,u⟩ : NodeV) = ⟨k',m',y',p',u'⟩) = ((k == k') && (((y : Int) == (y' : Int)) && (decide (m = m') && (decide (p = p') && decide (u = u'))))):=by
  rw [Bool.eq_iff_iff,decide_eq_true_iff]
  simp only [NodeV.mk.injEq,Bool.and_eq_true,beq_iff_eq,decide_eq_true_eq,Int.natCast_inj]
  constructor
  · rintro ⟨h1,h2,h3,h4,h5⟩
    exact ⟨h1,h3,h2,h4,h5⟩
  · rintro ⟨h1,h3,h2,h4,h5⟩
    exact ⟨h1,h2,h3,h4,h5⟩
theorem IsTy.node {avs : List AV} (h : IsTy (.struct (.cons tyI (.cons tyB (.cons (.int .u64) (.cons tyB (.cons (.slice 1 tyI) .nil)))))) avs) : ∃ N : NodeV,avs = N.cells∧N.key < 2 ^ 64:=by
  obtain ⟨x1,y1,rfl,t1,h⟩:=isF_cons (isTy_struct h)
  obtain ⟨x2,y2,rfl,t2,h⟩:=isF_cons h
  obtain ⟨x3,y3,rfl,t3,h⟩:=isF_cons h
  obtain ⟨x4,y4,rfl,t4,h⟩:=isF_cons h
  obtain ⟨x5,y5,rfl,t5,h⟩:=isF_cons h
  obtain rfl:=isF_nil h
  obtain ⟨n1,rfl,_⟩:=isTy_int t1
  obtain ⟨l2,rfl,_⟩:=t2.bytes
  obtain ⟨n3,rfl,w3⟩:=isTy_int t3
  obtain ⟨m3,rfl,h3⟩:=nat_u64 w3
  obtain ⟨l4,rfl,_⟩:=t4.bytes
  obtain ⟨l5,rfl⟩:=t5.ints
  exact ⟨⟨n1,l2,m3,l4,l5⟩,rfl,h3⟩
def okAt (l : List Int) (i : Nat) : Prop:=0≤l.getD i 0∧l.getD i 0 < 32∧(0 < i→l.getD (i - 1) 0 < l.getD i 0)
instance decOkAt (l : List Int) (i : Nat) : Decidable (okAt l i):=by unfold okAt; infer_instance
def Rising (l : List Int) : Prop:=∀ i,i < l.length→okAt l i
instance decRising (l : List Int) : Decidable (Rising l):=by unfold Rising; infer_instance
theorem okAt_of {l : List Int} {i : Nat} (h : i < l.length) (h1 : 0≤l[i]) (h2 : l[i] < 32) (h3 : ∀ k : 0 < i,l[i - 1] < l[i]) : okAt l i:=by
  unfold okAt
  have e : l.getD i 0 = l[i]:=by simp [List.getD,h]
  refine ⟨by rw [e]; exact h1,by rw [e]; exact h2,fun k=>?_⟩
  have e2 : l.getD (i - 1) 0 = l[i - 1]:=by simp [List.getD,show i - 1 < l.length by omega]
  rw [e,e2]
  exact h3 k
theorem okAt_get {l : List Int} {i : Nat} (h : i < l.length) (k : okAt l i) : 0≤l[i]∧l[i] < 32∧(∀ q : 0 < i,l[i - 1] < l[i]):=by
  unfold okAt at k
  have e : l.getD i 0 = l[i]:=by simp [List.getD,h]
  rw [e] at k
  refine ⟨k.1,k.2.1,fun q=>?_⟩
  have e2 : l.getD (i - 1) 0 = l[i - 1]:=by simp [List.getD,show i - 1 < l.length by omega]
  have:=k.2.2 q
  rwa [e2] at this
def NodeV.held (N : NodeV) : Prop:=2≤N.key∧N.key≤2305843009213693949∧(N.parent.length = 0∨N.parent.length = 32)
instance decNodeHeld (N : NodeV) : Decidable N.held:=by unfold NodeV.held; infer_instance
def NodeV.right (N : NodeV) : Prop :=
  if N.kind = 0 then N = NodeV.nought
  else if N.kind = 1 then (1≤N.name.length∧N.name.length≤16∧N.held∧N.unm.length = 0)
  else if N.kind = 2 then (N.name.length = 0∧N.held∧Rising N.unm)
  else False
instance decNodeRight (N : NodeV) : Decidable N.right:=by unfold NodeV.right; infer_instance
theorem right_zero {N : NodeV} (h : N.kind = 0) : N.right↔N = NodeV.nought:=by unfold NodeV.right; rw [if_pos h]
theorem right_one {N : NodeV} (h : N.kind = 1) : N.right↔(1≤N.name.length∧N.name.length≤16∧N.held∧N.unm.length = 0):=by unfold NodeV.right; rw [if_neg (by omega),if_pos h]
theorem right_two {N : NodeV} (h : N.kind = 2) : N.right↔(N.name.length = 0∧N.held∧Rising N.unm):=by unfold NodeV.right; rw [if_neg (by omega),if_neg (by omega),if_pos h]
theorem right_else {N : NodeV} (h0 : N.kind≠0) (h1 : N.kind≠1) (h2 : N.kind≠2) : ¬ N.right:=by unfold NodeV.right; rw [if_neg h0,if_neg h1,if_neg h2]; exact id
end Go.AM
namespace Go.AM
open Go
structure Rec where
  kind : Int
  group : List UInt8
  epoch : Int
  time : Int
  bucket : Int
  body : List UInt8
  tree : List UInt8
  script : List UInt8
  wrapped : List UInt8
  deriving DecidableEq
def Rec.cells (r : Rec) : List AV:=[.v (.int .i64 r.kind),bytesV r.group .any,.v (.int .i64 r.epoch),.v (.int .i64 r.time),.v (.int .i64 r.bucket),bytesV r.body .any,bytesV r.tree .any,bytesV r.script .any,bytesV r.wrapped .any]
def Rec.nought : Rec:=⟨0,[],0,0,0,[],[],[],[]⟩
def Rec.right (r : Rec) : Prop :=
  1≤r.kind∧r.kind≤3∧1≤r.group.length∧r.group.length≤16∧0≤r.epoch∧r.epoch≤1048576∧0≤r.time∧r.time≤1099511627776∧0≤r.bucket∧r.bucket≤1099511627776∧r.body.length≤60000 ∧
    r.tree.length = (if r.kind = 3 then 0 else 32)∧r.script.length = (if r.kind = 3 then 0 else 32)∧r.wrapped.length = (if r.kind = 3 then 0 else 48)
instance (r : Rec) : Decidable r.right:=by unfold Rec.right; infer_instance
def Rec.text (r : Rec) : List UInt8 :=
  be 1 r.kind.toNat ++ (be 1 r.group.length ++ r.group ++ (be 8 r.epoch.toNat ++ (be 8 r.time.toNat ++ (be 8 r.bucket.toNat ++
    (be 2 r.body.length ++ r.body ++ (be 1 r.tree.length ++ r.tree ++ (be 1 r.script.length ++ r.script ++ (be 1 r.wrapped.length ++ r.wrapped ++ []))))))))
end Go.AM
namespace Go.AM
open Go
def intsText (l : List Int) : List UInt8:=(l.map fun x=>be 1 x.toNat).flatten
def NodeV.text (N : NodeV) : List UInt8 :=
  if N.kind = 0 then be 1 0
  else if N.kind = 1 then be 1 1 ++ (be 1 N.name.length ++ N.name) ++ be 8 N.key ++ (be 1 N.parent.length ++ N.parent)
  else be 1 2 ++ be 8 N.key ++ (be 1 N.parent.length ++ N.parent) ++ be 1 N.unm.length ++ intsText N.unm
theorem rising_at {l : List Int} (h : Rising l) : ∀ i,i < l.length→(i : Int)≤l.getD i 0
  | 0,k=>(h 0 k).1
  | i + 1,k=>by
    have:=rising_at h i (by omega)
    have h3:=(h (i + 1) k).2.2 (by omega)
    simp only [Nat.add_sub_cancel] at h3
    omega
theorem rising_len {l : List Int} (h : Rising l) : l.length≤32:=by
  by_cases k : l.length = 0
  · omega
  · have h1:=rising_at h (l.length - 1) (by omega)
    have h2:=(h (l.length - 1) (by omega)).2.1
    omega
theorem rising_mem {l : List Int} (h : Rising l) {x : Int} (hx : x ∈ l) : 0≤x∧x < 32:=by
  obtain ⟨i,hi,rfl⟩:=List.getElem_of_mem hx
  have:=okAt_get hi (h i hi)
  exact ⟨this.1,this.2.1⟩
theorem nought_right : NodeV.nought.right:=by decide
theorem node_kind {N : NodeV} (h : N.right) : N.kind = 0∨N.kind = 1∨N.kind = 2:=by
  unfold NodeV.right at h
  split at h
  · left; assumption
  · split at h
    · right; left; assumption
    · split at h
      · right; right; assumption
      · exact h.elim
structure RdS (s s1 : AS) (p o2 o3 : Nat) (ce z cs : List AV) : Prop where
  le : (s.drop p).le s1
  eye : s1.objs p = some ce
  res : s1.objs o2 = some z
  var : s1.objs o3 = some cs
  n2 : s.objs o2 = none
  n3 : s.objs o3 = none
  p2 : p≠o2
  p3 : p≠o3
  d : o2≠o3
theorem RdS.gain {s s1 : AS} {p o2 o3 : Nat} {ce z cs : List AV} (h : RdS s s1 p o2 o3 ce z cs) {t : Nat} (ht : s.own t = none) (e : Nat) : RdS s (s1.gain t e) p o2 o3 ce z cs :=
  ⟨AS.le_gain h.le (by simpa [AS.drop] using ht) e,h.eye,h.res,h.var,h.n2,h.n3,h.p2,h.p3,h.d⟩
theorem RdS.out {s s1 : AS} {p o2 o3 : Nat} {ce z cs : List AV} (h : RdS s s1 p o2 o3 ce z cs) : (s.set p ce).le s1:=AS.set_le_of h.le h.eye
theorem RdS.own_none {s s1 : AS} {p o2 o3 : Nat} {ce z cs : List AV} (h : RdS s s1 p o2 o3 ce z cs) {t : Nat} (ht : s1.own t = none) : s.own t = none:=by
  cases h0 : s.own t with
  | none=>rfl
  | some e =>
    have:=h.le.own t e (by simpa [AS.drop] using h0)
    rw [ht] at this
    cases this
def IBuf (s0 s : AS) (x : AV) (l : List Int) : Prop:=(x = nilS∧l = [])∨∃ t e,x = intsV l (.own t e)∧s.own t = some e∧s0.own t = none
theorem IBuf.weak {s0 s : AS} {x : AV} {l : List Int} (h : IBuf s0 s x l) : x.weak (intsV l .any):=by
  rcases h with ⟨rfl,rfl⟩ | ⟨t,e,rfl,_,_⟩
  · exact AV.weak_nil
  · exact AV.weak_any
end Go.AM
namespace Go.AM
open Go
theorem some_neO {s : AS} {p o : Nat} {cs : List AV} (h : s.objs p = some cs) (k : s.objs o = none) : p≠o:=by
  rintro rfl
  rw [h] at k
  cases k
structure Rd4 (s s1 : AS) (p o2 o3 o4 : Nat) (ce z cs ds : List AV) : Prop where
  rd : RdS s s1 p o2 o3 ce z cs
  obj : s1.objs o4 = some ds
  n4 : s.objs o4 = none
  p4 : p≠o4
  d2 : o2≠o4
  d3 : o3≠o4
theorem RdS.setNew {s s1 : AS} {p o2 o3 o4 : Nat} {ce z cs : List AV} (h : RdS s s1 p o2 o3 ce z cs) (h4 : s1.objs o4 = none) (ds : List AV) : Rd4 s (s1.set o4 ds) p o2 o3 o4 ce z cs ds:=by
  have hp : p≠o4:=by rintro rfl; rw [h.eye] at h4; cases h4
  have h2 : o2≠o4:=by rintro rfl; rw [h.res] at h4; cases h4
  have h3 : o3≠o4:=by rintro rfl; rw [h.var] at h4; cases h4
  have hn : (s.drop p).objs o4 = none:=by
    cases e : (s.drop p).objs o4 with
    | none=>rfl
    | some x=>have:=h.le.objs _ _ e; rw [h4] at this; cases this
  have hn' : s.objs o4 = none:=by simpa [AS.drop,upd,hp.symm] using hn
  refine ⟨⟨AS.le_set h.le hn _,?_,?_,?_,h.n2,h.n3,h.p2,h.p3,h.d⟩,AS.set_objs_same _ _ _,hn',hp,h2,h3⟩
  · rw [AS.set_objs_ne _ hp]; exact h.eye
  · rw [AS.set_objs_ne _ h2]; exact h.res
  · rw [AS.set_objs_ne _ h3]; exact h.var
theorem Rd4.gain {s s1 : AS} {p o2 o3 o4 : Nat} {ce z cs ds : List AV} (h : Rd4 s s1 p o2 o3 o4 ce z cs ds) {t : Nat} (ht : s.own t = none) (e : Nat) : Rd4 s (s1.gain t e) p o2 o3 o4 ce z cs ds :=
  ⟨h.rd.gain ht e,h.obj,h.n4,h.p4,h.d2,h.d3⟩
theorem own_none_le {a b : AS} (h : a.le b) {t : Nat} (k : b.own t = none) : a.own t = none:=by
  cases e : a.own t with
  | none=>rfl
  | some x=>rw [h.own t x e] at k; cases k
theorem RdS.fresh {s s1 : AS} {p o2 o3 o5 : Nat} {ce z cs : List AV} (h : RdS s s1 p o2 o3 ce z cs) (h5 : s1.objs o5 = none) (ds : List AV) : RdS s (s1.set o5 ds) p o2 o3 ce z cs:=(h.setNew h5 ds).rd
theorem Rd4.fresh {s s1 : AS} {p o2 o3 o4 o5 : Nat} {ce z cs ds : List AV} (h : Rd4 s s1 p o2 o3 o4 ce z cs ds) (h5 : s1.objs o5 = none) (es : List AV) : Rd4 s (s1.set o5 es) p o2 o3 o4 ce z cs ds :=
  ⟨h.rd.fresh h5 es,by rw [AS.set_objs_ne _ (some_neO h.obj h5)]; exact h.obj,h.n4,h.p4,h.d2,h.d3⟩
end Go.AM
namespace Go.AM
open Go
def lvT : List Nat:=[0,1,0,2,0,1,0,3,0,1,0,2,0,1,0,4,0,1,0,2,0,1,0,3,0,1,0,2,0,1,0,5,0,1,0,2,0,1,0,3,0,1,0,2,0,1,0,4,0,1,0,2,0,1,0,3,0,1,0,2,0,1,0]
def lv (n : Nat) : Nat:=lvT.getD n 0
def lvI (x : Int) : Nat:=if 0≤x∧x < 63 then lv x.toNat else 0
def hf (n : Nat) : Nat:=2 ^ lv n / 2
def lo (n : Nat) : Nat:=(n - (2 ^ lv n - 1)) / 2
def hi (n : Nat) : Nat:=(n + (2 ^ lv n - 1)) / 2
def Fit (n : Nat) : Prop:=n = 1∨n = 2∨n = 4∨n = 8∨n = 16∨n = 32
instance (n : Nat) : Decidable (Fit n):=by unfold Fit; infer_instance
theorem Fit.le {n : Nat} (h : Fit n) : 1≤n∧n≤32:=by rcases h with h | h | h | h | h | h <;> omega
theorem lv_le (n : Nat) : lv n≤5:=by
  by_cases h : n < 63
  · exact (by decide : ∀ n < 63,lv n≤5) n h
  · have : lv n = 0:=by simp [lv,List.getD,lvT,show 63≤n by omega]
    omega
def up1 (n : Nat) : Nat:=if n / 2 ^ (lv n + 1) % 2 = 0 then n + 2 ^ lv n else n - 2 ^ lv n
def climbL : Nat→Nat→Nat→List Nat
  | 0,_,_=>[]
  | k + 1,n,leaves=>if n = leaves - 1 then [] else up1 n :: climbL k (up1 n) leaves
def pathL (leaf leaves : Nat) : List Nat:=climbL 6 (2 * leaf) leaves
def dB64 : List Nat:=[0,1,56,2,57,49,28,3,61,58,42,50,38,29,17,4,62,47,59,36,45,43,51,22,53,39,33,30,24,18,12,5,63,55,48,27,60,41,37,16,46,35,44,21,52,32,23,11,54,26,40,15,34,20,31,10,25,14,19,9,13,8,7,6]
def u8C (n : Nat) : AV:=.v (.int .u8 n)
def fitI (x : Int) : Prop:=0≤x∧Fit x.toNat
instance (x : Int) : Decidable (fitI x):=by unfold fitI; infer_instance
theorem tz_idx : ∀ n < 63,∃ k < 64,ishr .u64 (imul .u64 (iand .u64 ((n + 1 : Nat) : Int) (ineg .u64 ((n + 1 : Nat) : Int))) 285870213051353865) 58 = ((k : Nat) : Int)∧(List.drop k (dB64.map u8C))[0]? = some (u8C (lv n)):=by
  have key : ∀ n < 63,∃ k < 64,ishr .u64 (imul .u64 (iand .u64 ((n + 1 : Nat) : Int) (ineg .u64 ((n + 1 : Nat) : Int))) 285870213051353865) 58 = ((k : Nat) : Int)∧dB64[k]? = some (lv n):=by decide +kernel
  intro n hn
  obtain ⟨k,h1,h2,h3⟩:=key n hn
  refine ⟨k,h1,h2,?_⟩
  rw [List.getElem?_drop,Nat.add_zero,List.getElem?_map,h3]
  rfl
theorem lvI_nat {n : Nat} (h : n < 63) : lvI (n : Int) = lv n:=by
  unfold lvI
  rw [if_pos (by omega),Int.toNat_natCast]
theorem sh_one {l : Nat} (h : l≤5) : ishl .i64 1 (l : Int) = ((2 ^ l : Nat) : Int):=(by decide : ∀ l≤5,ishl .i64 1 ((l : Nat) : Int) = ((2 ^ l : Nat) : Int)) l h
theorem pow_le5 {l : Nat} (h : l≤5) : 1≤2 ^ l∧2 ^ l≤32:=(by decide : ∀ l≤5,1≤2 ^ l∧2 ^ l≤32) l h
def undI (x : Int) : Int × Int:=if 0≤x∧x < 63 then ((lo x.toNat : Int),(hi x.toNat : Int)) else (0,-1)
theorem und_eq : ∀ n : Nat,n < 63→iquo .i64 (isub .i64 (n : Int) (isub .i64 ((2 ^ lv n : Nat) : Int) 1)) 2 = (lo n : Int)∧iquo .i64 (iadd .i64 (n : Int) (isub .i64 ((2 ^ lv n : Nat) : Int) 1)) 2 = (hi n : Int):=by decide +kernel
end Go.AM
namespace Go.Proofs.YtfjlmkifiihgkaaGreatDoor
open Go Go.AM Go.Proofs
variable {Γ : Nat→List AV}
theorem is18_calls (x : Int) (s : AS) : ACalls Tryz.prog Γ 217 [.v (.int .i64 x)] s (fun r s'=>r = .v (.bool (decide (0≤x∧x < 63)))∧s' = s):=by
 refine acalls_body Tryz.func217 rfl Tryz.ntmps217 Tryz.results217 (by simp) ?_
 refine jA ?_
 by_cases h : 0≤x
 ·refine jB (decide_eq_true h) ?_
  refine jI ?_
  exact ⟨_,_,AV.weak.refl _,AS.le.refl _,by simp [h],rfl⟩
 ·refine jB (decide_eq_false h) ?_
  refine jI ?_
  exact ⟨_,_,AV.weak.refl _,AS.le.refl _,by simp [h],rfl⟩
theorem tz64_calls (hG : Γ 3 = dB64.map u8C) (n : Nat) (hn : n < 63) (s : AS) : ACalls Tryz.prog Γ 262 [.v (.int .u64 ((n + 1 : Nat) : Int))] s (fun r s'=>r = .v (.int .i64 (lv n))∧s' = s):=by
 refine acalls_body Tryz.func262 rfl Tryz.ntmps262 Tryz.results262 (by simp) ?_
 have h0 : (((n + 1 : Nat) : Int) == 0) = false:=by simp; omega
 refine jA ?_
 refine wK fun K hK=>?_
 refine jB @h0 ?_
 refine jF ?_
 refine awp_skip ?_
 refine hK _ _ ?_;clear hK K
 obtain ⟨k,hk,hidx,hget⟩:=tz_idx n hn
 have hl:=lv_le n
 have hk0 : ((0 : Int)≤(k : Int)) = True:=eq_true (by omega)
 have hk1 : ((k : Int) < ((64 : Nat) : Int)) = True:=eq_true (by omega)
 refine wS fun K hK=>?_
 simp only [↓DN,Qa,Qb,Qc,Qd,Qe,Qf,Qg,Qh,reduceCtorEq,↓reduceIte,Na,Nb,Nc,Nk,Nf,Ng,Nh,Za,Zb,Zc,TT,hG,hidx,hk0,hk1,hget,u8C,i64_conv (show lv n < 2 ^ 62 by omega)]
 refine hK _ _ ?_;clear hK K
 exact jJ
theorem tz_calls (hG : Γ 3 = dB64.map u8C) (n : Nat) (hn : n < 63) (s : AS) : ACalls Tryz.prog Γ 249 [.v (.int .u64 ((n + 1 : Nat) : Int))] s (fun r s'=>r = .v (.int .i64 (lv n))∧s' = s):=by
 refine acalls_body Tryz.func249 rfl Tryz.ntmps249 Tryz.results249 (by simp) ?_
 refine jA ?_
 refine wK fun K hK=>?_
 refine jF ?_
 refine awp_skip ?_
 refine hK _ _ ?_;clear hK K
 refine jK (tz64_calls hG n hn _) ?_;rintro s1 rfl
 exact jJ
theorem level_calls (hG : Γ 3 = dB64.map u8C) (x : Int) (s : AS) : ACalls Tryz.prog Γ 218 [.v (.int .i64 x)] s (fun r s'=>r = .v (.int .i64 (lvI x))∧s' = s):=by
 refine acalls_body Tryz.func218 rfl Tryz.ntmps218 Tryz.results218 (by simp) ?_
 refine jA ?_
 refine wK fun K hK=>?_
 refine jQ fun K hK=>?_
 refine acallk (is18_calls x _) ?_
 rintro r s1 ⟨rfl,rfl⟩
 by_cases h : 0≤x∧x < 63
 ·obtain ⟨n,rfl⟩:=Int.eq_ofNat_of_zero_le h.1
  have hn : n < 63:=by omega
  rw [decide_eq_true h]
  refine jR hK ?_;clear hK K
  refine jF ?_
  refine awp_skip ?_
  refine hK _ _ ?_;clear hK K
  have e1 : iconv .u64 (iadd .i64 (n : Int) 1) = ((n + 1 : Nat) : Int):=by rw [eye_succ n (by omega),u64_conv (by omega)]
  refine jS @e1 fun K hK=>?_
  refine acallk (tz_calls hG n hn _) ?_
  rintro r s2 ⟨rfl,rfl⟩
  refine jR hK ?_;clear hK K
  refine jI ?_
  rw [lvI_nat hn]
  exact ⟨_,_,AV.weak.refl _,AS.le.refl _,rfl,rfl⟩
 ·rw [decide_eq_false h]
  refine jR hK ?_;clear hK K
  refine jE ?_
  refine jA ?_
  refine jI ?_
  rw [show lvI x = 0 from if_neg h]
  exact ⟨_,_,AV.weak.refl _,AS.le.refl _,rfl,rfl⟩
theorem under18_calls (hG : Γ 3 = dB64.map u8C) (x : Int) (s : AS) : ACalls Tryz.prog Γ 153 [.v (.int .i64 x)] s (fun r s'=>r = .tup [.v (.int .i64 (undI x).1),.v (.int .i64 (undI x).2)]∧s' = s):=by
 refine acalls_body Tryz.func153 rfl Tryz.ntmps153 Tryz.results153 (by simp) ?_
 refine jA ?_
 refine wK fun K hK=>?_
 refine jQ fun K hK=>?_
 refine acallk (is18_calls x _) ?_
 rintro r s1 ⟨rfl,rfl⟩
 by_cases h : 0≤x∧x < 63
 ·obtain ⟨n,rfl⟩:=Int.eq_ofNat_of_zero_le h.1
  have hn : n < 63:=by omega
  have hl:=lv_le n
  have hp:=pow_le5 hl
  obtain ⟨u1,u2⟩:=und_eq n hn
  rw [decide_eq_true h]
  refine jR hK ?_;clear hK K
  refine jF ?_
  refine awp_skip ?_
  refine hK _ _ ?_;clear hK K
  refine jQ fun K hK=>?_
  refine acallk (level_calls hG n _) ?_
  rintro r s2 ⟨rfl,rfl⟩
  refine jV (Ai (lvI_nat hn) (sh_one hl)) hK ?_;clear hK K
  refine jB (Ai @u1 @u2) ?_
  refine jI ?_
  rw [show undI (n : Int) = ((lo n : Int),(hi n : Int)) from if_pos h]
  exact ⟨_,_,AV.weak.refl _,AS.le.refl _,rfl,rfl⟩
 ·rw [decide_eq_false h]
  refine jR hK ?_;clear hK K
  refine jE ?_
  refine jA ?_
  refine jI ?_
  rw [show undI x = (0,-1) from if_neg h]
  exact ⟨_,_,AV.weak.refl _,AS.le.refl _,rfl,rfl⟩
end Go.Proofs.YtfjlmkifiihgkaaGreatDoor
namespace Go.AM
open Go
theorem yesI {a b : Int} (h : a = b) : (a == b) = true:=by simpa using h
theorem notI {a b : Int} (h : a≠b) : (a == b) = false:=by simpa using h
theorem two0 : ((2 : Int) = 0) = False:=by decide
theorem nat0 {a : Nat} (h : a = 0) : ((a : Int) == 0) = true:=by subst h; rfl
theorem nat0F {a : Nat} (h : a≠0) : ((a : Int) == 0) = false:=by simpa using h
theorem natN {a k : Nat} (h : a = k) : ((a : Int) == (k : Int)) = true:=by subst h; simp
theorem natF {a k : Nat} (h : a≠k) : ((a : Int) == (k : Int)) = false:=by simp only [beq_eq_false_iff_ne,ne_eq]; omega
theorem natNe {a b : Nat} (h : a≠b) : ((a : Int) != (b : Int)) = true:=by simp only [bne_iff_ne,ne_eq]; omega
theorem natEq {a b : Nat} (h : a = b) : ((a : Int) != (b : Int)) = false:=by subst h; simp
theorem eye_succM (i : Nat) (h : i < 9223372036854775807) : iadd .i64 (i : Int) 1 = ((i + 1 : Nat) : Int):=by
  rw [iadd_i64 (by omega)]; omega
theorem iquo_nat (m : Nat) (h : m < 9223372036854775807) : iquo .i64 (m : Int) 2 = ((m / 2 : Nat) : Int):=by
  have e : (m : Int).tdiv 2 = ((m / 2 : Nat) : Int):=(Int.ofNat_tdiv m 2).symm
  unfold iquo
  rw [e]
  exact IntWalk.i64_in _ (by omega)
theorem imul2_nat (m : Nat) (h : m < 4611686018427387904) : imul .i64 2 (m : Int) = ((2 * m : Nat) : Int):=by
  rw [imul_i64 (by omega)]; omega
end Go.AM
namespace Go.AM
open Go
theorem fit_and : ∀ n : Nat,n≤32→1≤n→(iand .i64 (n : Int) (isub .i64 (n : Int) 1) == 0) = decide (Fit n):=by decide +kernel
theorem fitI_nat {n : Nat} : fitI (n : Int)↔Fit n:=by unfold fitI; rw [Int.toNat_natCast]; exact ⟨fun h=>h.2,fun h=>⟨by omega,h⟩⟩
theorem fitI_bounds {x : Int} (h : fitI x) : 1≤x∧x≤32:=by have:=h.2.le; have:=h.1; omega
def widI (x : Int) : Int:=if fitI x then 2 * x - 1 else 0
def aboveN (n l : Nat) : Option Nat:=if n = l - 1 then none else some (up1 n)
theorem above_and : ∀ n : Nat,n < 63→(iand .i64 (n : Int) (imul .i64 2 ((2 ^ lv n : Nat) : Int)) == 0) = decide (n / 2 ^ (lv n + 1) % 2 = 0)∧iadd .i64 (n : Int) ((2 ^ lv n : Nat) : Int) = ((n + 2 ^ lv n : Nat) : Int) ∧
    (¬ n / 2 ^ (lv n + 1) % 2 = 0→isub .i64 (n : Int) ((2 ^ lv n : Nat) : Int) = ((n - 2 ^ lv n : Nat) : Int)):=by decide +kernel
def nodeAt (leaf l : Nat) : Nat→Nat
  | 0=>2 * leaf
  | i + 1=>(pathL leaf l).getD i 0
theorem Fit.pow {n : Nat} (h : Fit n) : ∃ m,m≤5∧n = 2 ^ m:=by
  rcases h with rfl | rfl | rfl | rfl | rfl | rfl
  · exact ⟨0,by decide,rfl⟩
  · exact ⟨1,by decide,rfl⟩
  · exact ⟨2,by decide,rfl⟩
  · exact ⟨3,by decide,rfl⟩
  · exact ⟨4,by decide,rfl⟩
  · exact ⟨5,by decide,rfl⟩
theorem path_steps {leaf l : Nat} (hl : Fit l) (h : leaf < l) {i : Nat} (hi : i≤(pathL leaf l).length) : nodeAt leaf l i < 2 * l - 1∧aboveN (nodeAt leaf l i) l = (pathL leaf l)[i]?:=by
  obtain ⟨m,hm,rfl⟩:=hl.pow
  exact (by decide +kernel : ∀ m≤5,∀ leaf < 2 ^ m,∀ i≤(pathL leaf (2 ^ m)).length,nodeAt leaf (2 ^ m) i < 2 * 2 ^ m - 1∧aboveN (nodeAt leaf (2 ^ m) i) (2 ^ m) = (pathL leaf (2 ^ m))[i]?) m hm leaf h i hi
theorem path_len {leaf l : Nat} (hl : Fit l) (h : leaf < l) : (pathL leaf l).length≤5:=by
  obtain ⟨m,hm,rfl⟩:=hl.pow
  exact (by decide +kernel : ∀ m≤5,∀ leaf < 2 ^ m,(pathL leaf (2 ^ m)).length≤5) m hm leaf h
theorem path_mem {leaf l : Nat} (hl : Fit l) (h : leaf < l) : ∀ x ∈ pathL leaf l,x < 2 * l - 1∧x % 2 = 1∧lo x≤leaf∧leaf≤hi x:=by
  obtain ⟨m,hm,rfl⟩:=hl.pow
  exact (by decide +kernel : ∀ m≤5,∀ leaf < 2 ^ m,∀ x ∈ pathL leaf (2 ^ m),x < 2 * 2 ^ m - 1∧x % 2 = 1∧lo x≤leaf∧leaf≤hi x) m hm leaf h
def natsI (l : List Nat) : List Int:=l.map fun (n : Nat)=>(n : Int)
theorem natsI_len (l : List Nat) : (natsI l).length = l.length:=by simp [natsI]
end Go.AM
namespace Go.Proofs.YtfjlmkifiihgkaaGreatDoor
open Go Go.AM Go.Proofs
variable {Γ : Nat→List AV}
theorem fits18_calls (x : Int) (s : AS) : ACalls Tryz.prog Γ 152 [.v (.int .i64 x)] s (fun r s'=>r = .v (.bool (decide (fitI x)))∧s' = s):=by
 refine acalls_body Tryz.func152 rfl Tryz.ntmps152 Tryz.results152 (by simp) ?_
 refine jA ?_
 by_cases h1 : 1≤x
 ·by_cases h2 : x≤32
  ·obtain ⟨n,rfl⟩:=Int.eq_ofNat_of_zero_le (show 0≤x by omega)
   refine jB (Ai (decide_eq_true h1) (Ai (decide_eq_true h2) (fit_and n (by omega) (by omega)))) ?_
   refine jI ?_
   exact ⟨_,_,AV.weak.refl _,AS.le.refl _,by simp only [fitI_nat],rfl⟩
  ·have hn : decide (fitI x) = false:=decide_eq_false fun h=>by have:=fitI_bounds h; omega
   refine jB (Ai (decide_eq_true h1) (decide_eq_false h2)) ?_
   refine jI ?_
   rw [hn]
   exact ⟨_,_,AV.weak.refl _,AS.le.refl _,rfl,rfl⟩
 ·have hn : decide (fitI x) = false:=decide_eq_false fun h=>by have:=fitI_bounds h; omega
  refine jB (decide_eq_false h1) ?_
  refine jI ?_
  rw [hn]
  exact ⟨_,_,AV.weak.refl _,AS.le.refl _,rfl,rfl⟩
theorem width18_calls (x : Int) (s : AS) : ACalls Tryz.prog Γ 134 [.v (.int .i64 x)] s (fun r s'=>r = .v (.int .i64 (widI x))∧s' = s):=by
 refine acalls_body Tryz.func134 rfl Tryz.ntmps134 Tryz.results134 (by simp) ?_
 refine jA ?_
 refine wK fun K hK=>?_
 refine jQ fun K hK=>?_
 refine acallk (fits18_calls x _) ?_
 rintro r s1 ⟨rfl,rfl⟩
 by_cases h : fitI x
 ·have hb:=fitI_bounds h
  rw [decide_eq_true h]
  refine jR hK ?_;clear hK K
  refine jF ?_
  refine awp_skip ?_
  refine hK _ _ ?_;clear hK K
  refine jA ?_
  refine jI ?_
  rw [imul_i64 (a:=2) (b:=x) (by omega),isub_i64 (a:=2 * x) (b:=1) (by omega),show widI x = 2 * x - 1 from if_pos h]
  exact ⟨_,_,AV.weak.refl _,AS.le.refl _,rfl,rfl⟩
 ·rw [decide_eq_false h]
  refine jR hK ?_;clear hK K
  refine jE ?_
  refine jA ?_
  refine jI ?_
  rw [show widI x = 0 from if_neg h]
  exact ⟨_,_,AV.weak.refl _,AS.le.refl _,rfl,rfl⟩
theorem widI_nat {l : Nat} (h : Fit l) : widI (l : Int) = ((2 * l - 1 : Nat) : Int):=by
 have:=h.le
 unfold widI
 rw [if_pos (fitI_nat.2 h)]
 omega
theorem above18_calls (hG : Γ 3 = dB64.map u8C) (n l : Nat) (hl : Fit l) (hn : n < 2 * l - 1) (s : AS) : ACalls Tryz.prog Γ 204 [.v (.int .i64 n),.v (.int .i64 l)] s
  (fun r s'=>r = .tup [.v (.int .i64 ((aboveN n l).getD 0)),.v (.bool (aboveN n l).isSome)]∧s' = s):=by
 refine acalls_body Tryz.func204 rfl Tryz.ntmps204 Tryz.results204 (by simp) ?_
 have hl':=hl.le
 have hn63 : n < 63:=by omega
 have h0 : decide ((n : Int) < 0) = false:=decide_eq_false (by omega)
 have h1 : decide (((2 * l - 1 : Nat) : Int)≤(n : Int)) = false:=decide_eq_false (by omega)
 have hw:=widI_nat hl
 have hp:=pow_le5 (lv_le n)
 obtain ⟨a1,a2,a3⟩:=above_and n hn63
 refine jA ?_
 refine wK fun K hK=>?_
 refine jS @h0 fun K hK=>?_
 refine acallk (width18_calls l _) ?_
 rintro r s1 ⟨rfl,rfl⟩
 by_cases he : n = l - 1
 ·have h2 : (((n : Nat) : Int) == isub .i64 (l : Int) 1) = true:=by rw [isub_i64 (by omega),beq_iff_eq]; omega
  refine jV (Ai @hw (Ai @h1 @h2)) hK ?_;clear hK K
  refine jE ?_
  refine jA ?_
  refine jI ?_
  rw [show aboveN n l = none from if_pos he]
  exact ⟨_,_,AV.weak.refl _,AS.le.refl _,rfl,rfl⟩
 ·have h2 : (((n : Nat) : Int) == isub .i64 (l : Int) 1) = false:=by rw [isub_i64 (by omega),beq_eq_false_iff_ne]; omega
  have ha : aboveN n l = some (up1 n):=if_neg he
  refine jV (Ai @hw (Ai @h1 @h2)) hK ?_;clear hK K
  refine jF ?_
  refine awp_skip ?_
  refine hK _ _ ?_;clear hK K
  refine jQ fun K hK=>?_
  refine acallk (level_calls hG n _) ?_
  rintro r s2 ⟨rfl,rfl⟩
  refine jV (Ai (lvI_nat hn63) (sh_one (lv_le n))) hK ?_;clear hK K
  refine wK fun K hK=>?_
  by_cases hb : n / 2 ^ (lv n + 1) % 2 = 0
  ·rw [decide_eq_true hb] at a1
   refine jB @a1 ?_
   refine jE ?_
   refine jB @a2 ?_
   refine jI ?_
   rw [ha,show up1 n = n + 2 ^ lv n from if_pos hb]
   exact ⟨_,_,AV.weak.refl _,AS.le.refl _,rfl,rfl⟩
  ·rw [decide_eq_false hb] at a1
   refine jB @a1 ?_
   refine jF ?_
   refine awp_skip ?_
   refine hK _ _ ?_;clear hK K
   refine jB (a3 hb) ?_
   refine jI ?_
   rw [ha,show up1 n = n - 2 ^ lv n from if_neg hb]
   exact ⟨_,_,AV.weak.refl _,AS.le.refl _,rfl,rfl⟩
def cellN : AV→Nat
 | .sl _ n _ _=>n
 | _=>0
theorem path18_calls (hG : Γ 3 = dB64.map u8C) (leaf l : Nat) (hl : Fit l) (hn : leaf < l) (s : AS) : ACalls Tryz.prog Γ 130 [.v (.int .i64 leaf),.v (.int .i64 l)] s
  (fun r s'=>r = intsV (natsI (pathL leaf l)) .any∧s' = s):=by
 refine acalls_body Tryz.func130 rfl Tryz.ntmps130 Tryz.results130 (by simp) ?_
 have hl':=hl.le
 have hpl:=path_len hl hn
 have h0 : decide ((leaf : Int) < 0) = false:=decide_eq_false (by omega)
 have h1 : decide ((l : Int)≤(leaf : Int)) = false:=decide_eq_false (by omega)
 have hst:=fun (i : Nat) (h : i≤(pathL leaf l).length)=>path_steps hl hn h
 have hnx : ∀ i,i < (pathL leaf l).length→nodeAt leaf l (i + 1) = (pathL leaf l).getD i 0:=fun i _=>rfl
 have hna : nodeAt leaf l 0 = 2 * leaf:=rfl
 generalize pathL leaf l = P at *
 refine jA ?_
 refine wK fun K hK=>?_
 refine jB (Ai @h0 @h1) ?_
 refine jF ?_
 refine awp_skip ?_
 refine hK _ _ ?_;clear hK K
 refine jA ?_
 refine wK fun K hK=>?_
 refine jQ fun K hK=>?_
 obtain ⟨w0,w1⟩:=hst 0 (Nat.zero_le _)
 rw [hna] at w0 w1
 have e0 : imul .i64 2 (leaf : Int) = ((2 * leaf : Nat) : Int):=by rw [imul_i64 (by omega)]; omega
 rw [e0]
 refine acallk (above18_calls hG (2 * leaf) l hl w0 _) ?_
 rintro r s1 ⟨rfl,rfl⟩
 rw [w1]
 refine jR hK ?_;clear hK K
 refine awp_block ?_
 refine awp_loop (fun E s2=>∃ (i : Nat) (x : AV),i≤P.length∧E 6 = .v (.int .i64 (((P[i]?).getD 0 : Nat) : Int))∧E 7 = .v (.bool (P[i]?).isSome)∧E 1 = .v (.int .i64 l)∧E 5 = x∧RBuf 1 s1 s2 x i ((natsI (P.take i)).map intC)∧s1.le s2)
  (fun E _=>P.length + 1 - cellN (E 5)) ?_ ?_
 ·exact ⟨0,nilS,Nat.zero_le _,by simp only [upd,Nc,↓reduceIte],by simp only [upd,Nc,↓reduceIte],by simp only [upd,initE,List.getD_cons_zero,List.getD_cons_succ,Nc,↓reduceIte],by simp only [upd,Nc,↓reduceIte]; rfl,RBuf.nil _ _ _,AS.le.refl _⟩
 ·rintro E1 s2 ⟨i,x,hi,g6,g7,g1,g5,hx,hle⟩ -
  refine wK fun K2 hK2=>?_
  by_cases hi' : i < P.length
  ·have hp : P[i]? = some P[i]:=List.getElem?_eq_getElem hi'
   rw [hp] at g6 g7
   simp only [Option.getD_some,Option.isSome_some] at g6 g7
   refine jB @g7 ?_
   refine jE ?_
   refine awp_skip ?_
   refine hK2 _ _ ?_;clear hK2 K2
   refine wK fun K3 hK3=>?_
   refine awp_block ?_
   have hnode : nodeAt leaf l (i + 1) = P[i]:=by rw [hnx i hi',List.getD,hp]; rfl
   obtain ⟨w2,w3⟩:=hst (i + 1) hi'
   rw [hnode] at w2 w3
   have htk : natsI (P.take (i + 1)) = natsI (P.take i) ++ [((P[i] : Nat) : Int)]:=by unfold natsI; rw [List.take_succ_eq_append_getElem hi',List.map_append]; rfl
   have hend : ∀ (E : Env) (s3 : AS) (x3 : AV),E 6 = .v (.int .i64 (P[i] : Nat))→E 1 = .v (.int .i64 l)→E 5 = x3→RBuf 1 s1 s3 x3 (i + 1) ((natsI (P.take (i + 1))).map intC)→s1.le s3→K3 E s3:=by
    intro E s3 x3 f6 f1 f5 fx fle
    refine hK3 _ _ ?_;clear hK3 K3
    refine jU (Ai @f6 @f1) fun K hK=>?_
    refine acallk (above18_calls hG (P[i]) l hl w2 _) ?_
    rintro r s4 ⟨rfl,rfl⟩
    rw [w3]
    simp only [↓DM,pval,DX,Nz,↓DN,Qa,Qb,Qc,Qd,Qe,Qf,Qg,Qh,reduceCtorEq,↓reduceIte,Na,Nb,Nc,Nk,Nf,Ng,Nh,Za,Zb,Zc,TT]
    refine hK _ _ ⟨⟨i + 1,x3,hi',by simp only [upd,Nc,↓reduceIte],by simp only [upd,Nc,↓reduceIte],by simp only [upd,f1,Nc,↓reduceIte],by simp only [upd,f5,Nc,↓reduceIte],fx,fle⟩,?_⟩
    have m1 : cellN (E1 5) = i:=by
     rw [g5]
     rcases hx with ⟨rfl,rfl,_⟩ | ⟨t,e,rfl,_⟩ <;> rfl
    have m2 : cellN (E 5) = i + 1:=by
     rw [f5]
     rcases fx with ⟨rfl,h,_⟩ | ⟨t,e,rfl,_⟩
     ·omega
     ·rfl
    simp only [upd,Nc,↓reduceIte,m1,m2]
    omega
   clear hK3
   rcases hx with ⟨rfl,hi0,hL0⟩ | ⟨t,e,rfl,ht,ht0⟩
   ·refine wE fun K hK=>?_
    simp only [↓DN,Qa,Qb,Qc,Qd,Qe,Qf,Qg,Qh,reduceCtorEq,↓reduceIte,Na,Nb,Nc,Nk,Nf,Ng,Nh,Za,Zb,Zc,TT,g5,g6,nilS,List.replicate_succ]
    intro t ht
    refine hK _ _ (hend _ _ (.sl 1 1 [.v (.int .i64 ((P[i] : Nat) : Int))] (.own t 0)) (by simp only [upd,g6,Nc,↓reduceIte]) (by simp only [upd,g1,Nc,↓reduceIte]) (by simp only [upd,Nc,↓reduceIte]) ?_ ?_)
    ·refine .inr ⟨t,0,?_,by simp [AS.gain],own_none_le hle ht⟩
     rw [htk,List.map_append,hL0]
     subst hi0
     rfl
    ·exact AS.le_gain hle (own_none_le hle ht) 0
   ·refine wE fun K hK=>?_
    simp only [↓DN,Qa,Qb,Qc,Qd,Qe,Qf,Qg,Qh,reduceCtorEq,↓reduceIte,Na,Nb,Nc,Nk,Nf,Ng,Nh,Za,Zb,Zc,TT,g5,g6,ht,List.replicate_succ]
    have hln : (natsI (P.take i)).length = i:=by rw [natsI_len,List.length_take]; omega
    refine ⟨by omega,by omega,hK _ _ (hend _ _ (.sl 1 (i + 1) ((natsI (P.take i)).map intC ++ [.v (.int .i64 ((P[i] : Nat) : Int))]) (.own t (e + 1))) (by simp only [upd,g6,Nc,↓reduceIte]) (by simp only [upd,g1,Nc,↓reduceIte]) (by simp only [upd,Nc,↓reduceIte]) ?_ ?_)⟩
    ·exact .inr ⟨t,e + 1,by rw [htk,List.map_append]; rfl,by simp [AS.gain],ht0⟩
    ·exact AS.le_gain hle ht0 (e + 1)
  ·have hp : P[i]? = none:=List.getElem?_eq_none (by omega)
   rw [hp] at g7
   simp only [Option.isSome_none] at g7
   refine jB @g7 ?_
   refine jF ?_
   refine awp_exit ?_
   simp only [thenQ,blockQ,if_true]
   refine hK _ _ ?_;clear hK hK2 K2 K
   obtain rfl : i = P.length:=by omega
   rw [List.take_of_length_le (Nat.le_refl _)] at hx
   have hw:=hx.weak
   refine jB @g5 ?_
   refine jI ?_
   refine ⟨_,_,?_,hle,rfl,rfl⟩
   have hln:=natsI_len P
   unfold intsV
   rw [hln]
   exact hw
end Go.Proofs.YtfjlmkifiihgkaaGreatDoor
namespace Go.Proofs.YtfjlmkifiihgkaaGreatDoor
open Go Go.AM Go.Proofs
variable {Γ : Nat→List AV}
theorem powerRight_calls (n : Nat) (s : AS) : ACalls Tryz.prog Γ 141 [.v (.int .u64 n)] s (fun r s'=>r = .v (.bool (decide (2≤(n : Int)) && decide ((n : Int)≤2305843009213693949)))∧s' = s):=by
 refine acalls_body Tryz.func141 rfl Tryz.ntmps141 Tryz.results141 (by simp) ?_
 rcases ff2 (decide (2≤(n : Int))) (decide ((n : Int)≤2305843009213693949)) with hd | hd | hd
 all_goals
  refine jA ?_
  refine jB @hd ?_
  refine jI ?_
  refine ⟨_,_,AV.weak.refl _,AS.le.refl _,?_,rfl⟩
  simp only [hd,Bool.and_true,Bool.true_and,Bool.false_and,Bool.and_false]
theorem bytesEqual_calls (a b : List UInt8) (s : AS) : ACalls Tryz.prog Γ 88 [bytesV a .any,bytesV b .any] s (fun r s'=>r = .v (.bool (decide (a = b)))∧s' = s):=by
 refine acalls_body Tryz.func88 rfl Tryz.ntmps88 Tryz.results88 (by simp) ?_
 refine jA ?_
 refine jB @beq_list ?_
 exact jJ
theorem len_bne_false {a b : Nat} (h : a = b) : (((a : Int) != (b : Int))) = false:=by subst h; simp
theorem len_bne_true {a b : Nat} (h : a≠b) : (((a : Int) != (b : Int))) = true:=by simp; omega
theorem int_bne_false {a b : Int} (h : a = b) : (a != b) = false:=by subst h; simp
theorem int_bne_true {a b : Int} (h : a≠b) : (a != b) = true:=by simpa using h
theorem slicesEqual_calls (a b : List Int) (hl : a.length≤2 ^ 61) (s : AS) : ACalls Tryz.prog Γ 197 [intsV a .any,intsV b .any] s (fun r s'=>r = .v (.bool (decide (a = b)))∧s' = s):=by
 refine acalls_body Tryz.func197 rfl Tryz.ntmps197 Tryz.results197 (by simp) ?_
 unfold intsV
 refine jA ?_
 refine wK fun K hK=>?_
 by_cases h0 : a.length = b.length
 ·refine jB (len_bne_false h0) ?_
  refine jF ?_
  refine awp_skip ?_
  refine hK _ _ ?_;clear hK K
  refine wK fun K hK=>?_
  refine jA ?_
  refine awp_block ?_
  refine awp_loop (fun E s1=>∃ i : Nat,i≤a.length∧E 13 = .v (.int .i64 i)∧E 12 = .v (.int .i64 a.length)∧E 0 = .sl 1 a.length (a.map intC) .any∧E 1 = .sl 1 b.length (b.map intC) .any∧a.take i = b.take i∧s1 = s)
   (fun E _=>match E 13 with | .v (.int _ i)=>a.length - i.toNat | _=>0) ?_ ?_
  ·exact ⟨0,Nat.zero_le _,by simp [upd],by simp [upd],by simp [upd,initE],by simp [upd,initE],rfl,rfl⟩
  ·rintro E1 s1 ⟨i,hi,h13,h12,h00,h1,he,rfl⟩ -
   by_cases hi' : i < a.length
   ·have hib : i < b.length:=by omega
    refine jB (Ai @h13 (Ai @h12 (Ai @eye_lt_nat (decide_eq_true hi')))) ?_
    refine wK fun K2 hK2=>?_
    refine jE ?_
    refine awp_skip ?_
    refine hK2 _ _ ?_;clear hK2 K2
    refine wK fun K3 hK3=>?_
    refine awp_block ?_
    refine jB @h13 ?_
    have hge : (0 : Int)≤(i : Int):=by omega
    have hat:=eat_int hi'
    have hbt:=eat_int hib
    by_cases hx : a[i] = b[i]
    ·refine awp_drw_seq T.mixed [] (by kernel_rfl) ?_
     intro K hK
     refine jV (Ai @h13 (Ai @h00 (Ai @h1 (Ai @hge (Ai @eye_lt_nat (Ai @hi' (Ai @hib (Ai @hat (Ai @hbt (int_bne_false hx)))))))))) hK ?_;clear hK K
     refine jF ?_
     refine awp_skip ?_
     simp only [blockQ,thenQ,if_true,if_false]
     refine hK3 _ _ ?_;clear hK3 K3
     refine jD (Ai @h13 (eye_succ i (by omega))) ?_
     refine ⟨⟨i + 1,by omega,by simp only [upd,↓reduceIte],by simp only [upd,h12,Nc,↓reduceIte],by simp only [upd,h00,Nc,↓reduceIte],by simp only [upd,h1,Nc,↓reduceIte],take_eq_succ hi' hib he hx,rfl⟩,?_⟩
     simp only [h13,upd,↓reduceIte]
     omega
    ·refine awp_drw_seq T.mixed [] (by kernel_rfl) ?_
     intro K hK
     refine jV (Ai @h13 (Ai @h00 (Ai @h1 (Ai @hge (Ai @eye_lt_nat (Ai @hi' (Ai @hib (Ai @hat (Ai @hbt (int_bne_true hx)))))))))) hK ?_;clear hK K
     refine jE ?_
     refine jA ?_
     refine awp_ret ?_
     simp only [thenQ,blockQ]
     simp only [retQ,AEnds,aresL,ares,List.toList_toArray,↓upd_same]; try simp only [UP,DF,Nc,↓reduceIte,DT]
     refine ⟨_,_,AV.weak.refl _,AS.le.refl _,?_,rfl⟩
     rw [decide_eq_false]
     intro e
     subst e
     exact hx rfl
   ·refine jB (Ai @h13 (Ai @h12 (Ai @eye_lt_nat (decide_eq_false hi')))) ?_
    refine wK fun K2 hK2=>?_
    refine jF ?_
    refine awp_exit ?_
    simp only [thenQ,blockQ,if_true]
    refine hK _ _ ?_;clear hK hK2 K K2
    refine jA ?_
    refine jI ?_
    refine ⟨_,_,AV.weak.refl _,AS.le.refl _,?_,rfl⟩
    rw [List.take_of_length_le (by omega),List.take_of_length_le (by omega)] at he
    rw [decide_eq_true he]
 ·refine jB (len_bne_true h0) ?_
  refine jE ?_
  refine jA ?_
  refine jI ?_
  refine ⟨_,_,AV.weak.refl _,AS.le.refl _,?_,rfl⟩
  rw [decide_eq_false (fun e=>h0 (by rw [e]))]
  try rfl
theorem nodeSame_calls (N M : NodeV) (hl : N.unm.length≤2 ^ 61) (s : AS) : ACalls Tryz.prog Γ 116 [.agg N.cells,.agg M.cells] s (fun r s'=>r = .v (.bool (decide (N = M)))∧s' = s):=by
 refine acalls_body Tryz.func116 rfl Tryz.ntmps116 Tryz.results116 (by simp) ?_
 unfold NodeV.cells
 obtain ⟨k,m,y,p,u⟩:=N
 obtain ⟨k',m',y',p',u'⟩:=M
 rw [node_eq_bool]
 refine jS @intsV.eq_1 fun K hK=>?_
 intro o ho
 intro o' ho'
 have hne : o≠o':=by
  intro e
  subst e
  simp [AS.set] at ho'
 have hle : s.le ((s.set o [.v (.int .i64 k),bytesV m .any,.v (.int .u64 y),bytesV p .any,intsV u .any]).set o' [.v (.int .i64 k'),bytesV m' .any,.v (.int .u64 y'),bytesV p' .any,intsV u' .any]):=AS.le_set (AS.le_set (AS.le.refl s) ho _) (by simpa [AS.set,upd,hne.symm] using ho') _
 refine hK _ _ ?_;clear hK K
 rcases ff5 (k == k') ((y : Int) == (y' : Int)) (decide (m = m')) (decide (p = p')) (decide (u = u')) with hd | hd | hd | hd | hd | hd
 ·refine jB (Ai @hne (Ai @hd @intsV.eq_1)) ?_
  refine jI ?_
  refine ⟨_,s,AV.weak.refl _,hle,?_,rfl⟩
  simp only [hd,Bool.and_true,Bool.true_and,Bool.false_and,Bool.and_false]
  try rfl
 ·refine jB (Ai @hne (Ai @hd @intsV.eq_1)) ?_
  refine jI ?_
  refine ⟨_,s,AV.weak.refl _,hle,?_,rfl⟩
  simp only [hd,Bool.and_true,Bool.true_and,Bool.false_and,Bool.and_false]
  try rfl
 ·refine jS (Ai @hne (Ai @hd @intsV.eq_1)) fun K hK=>?_
  refine acallk (bytesEqual_calls m m' _) ?_
  rintro r s' ⟨rfl,rfl⟩
  refine jV (Ai @hne (Ai @hd @intsV.eq_1)) hK ?_;clear hK K
  refine jI ?_
  refine ⟨_,s,AV.weak.refl _,hle,?_,rfl⟩
  simp only [hd,Bool.and_true,Bool.true_and,Bool.false_and,Bool.and_false]
  try rfl
 ·refine jS (Ai @hne (Ai @hd @intsV.eq_1)) fun K hK=>?_
  refine acallk (bytesEqual_calls m m' _) ?_
  rintro r s' ⟨rfl,rfl⟩
  simp only [↓DM,pval,DX,Nz,↓DN,Qa,Qb,Qc,Qd,Qe,Qf,Qg,Qh,reduceCtorEq,↓reduceIte,Na,Nb,Nc,Nk,Nf,Ng,Nh,Za,Zb,Zc,TT,hne,hd,intsV]
  refine acallk (bytesEqual_calls p p' _) ?_
  rintro r s' ⟨rfl,rfl⟩
  refine jV (Ai @hne (Ai @hd @intsV.eq_1)) hK ?_;clear hK K
  refine jI ?_
  refine ⟨_,s,AV.weak.refl _,hle,?_,rfl⟩
  simp only [hd,Bool.and_true,Bool.true_and,Bool.false_and,Bool.and_false]
  try rfl
 all_goals
  refine jS (Ai @hne (Ai @hd @intsV.eq_1)) fun K hK=>?_
  refine acallk (bytesEqual_calls m m' _) ?_
  rintro r s' ⟨rfl,rfl⟩
  simp only [↓DM,pval,DX,Nz,↓DN,Qa,Qb,Qc,Qd,Qe,Qf,Qg,Qh,reduceCtorEq,↓reduceIte,Na,Nb,Nc,Nk,Nf,Ng,Nh,Za,Zb,Zc,TT,hne,hd,intsV]
  refine acallk (bytesEqual_calls p p' _) ?_
  rintro r s' ⟨rfl,rfl⟩
  simp only [↓DM,pval,DX,Nz,↓DN,Qa,Qb,Qc,Qd,Qe,Qf,Qg,Qh,reduceCtorEq,↓reduceIte,Na,Nb,Nc,Nk,Nf,Ng,Nh,Za,Zb,Zc,TT,hne,hd,intsV]
  refine acallk (slicesEqual_calls u u' hl _) ?_
  rintro r s' ⟨rfl,rfl⟩
  refine jV (Ai @hne (Ai @hd @intsV.eq_1)) hK ?_;clear hK K
  refine jI ?_
  refine ⟨_,s,AV.weak.refl _,hle,?_,rfl⟩
  simp only [hd,Bool.and_true,Bool.true_and,Bool.false_and,Bool.and_false]
  try rfl
end Go.Proofs.YtfjlmkifiihgkaaGreatDoor
