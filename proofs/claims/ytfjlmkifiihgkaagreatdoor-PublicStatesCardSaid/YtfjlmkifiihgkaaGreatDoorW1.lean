/- Contracts of the program's functions, each walked once; the conditions stand in each theorem. -/
import Derived.Test.YtfjlmkifiihgkaaGreatDoorProg
import Derived.Test.YtfjlmkifiihgkaaGreatDoorAMp4
import Derived.Test.YtfjlmkifiihgkaaGreatDoorAMp6
import Derived.Test.YtfjlmkifiihgkaaGreatDoorAMp5
set_option linter.unusedSimpArgs false
set_option linter.unusedVariables false
open Nat renaming reduceLT → Na, reduceLeDiff → Nb, reduceEqDiff → Nc, reduceAdd → Nk, reduceMul → Nf, reducePow → Ng, reduceSub → Nh, reduceBEq → Nz
open Int renaming reduceLT → Za, reduceLE → Zb, reduceToNat → Zc
open And renaming intro → Ai
open Go.AM renaming ashift → Qa, aconv → Qb, aindexAddr → Qc, aindex → Qd, aslice → Qe, abuiltin → Qf, awp_reg_seq → wS, awp_reg_end → wE, awp_seq_k → wK, awp_cond_k → wC
open Go.AM.AV renaming cells → Qg, one → Qh
set_option maxRecDepth 100000
set_option maxHeartbeats 8000000
set_option autoImplicit false
namespace Go.Proofs.YtfjlmkifiihgkaaGreatDoor
open Go Go.AM Go.Proofs
theorem T.c2 : Tryz.prog.cellsOf 2 = 1:=by kernel_rfl
theorem T.b2 : Tryz.prog.bytesOf 2 = 8:=by kernel_rfl
theorem T.g2 : isAggT Tryz.prog 2 = some false:=by kernel_rfl
theorem T.z2 : zcells Tryz.prog 2 = some [.v (.int .i64 0)]:=by kernel_rfl
theorem T.c3 : Tryz.prog.cellsOf 3 = 1:=by kernel_rfl
theorem T.b3 : Tryz.prog.bytesOf 3 = 8:=by kernel_rfl
theorem T.g3 : isAggT Tryz.prog 3 = some false:=by kernel_rfl
theorem T.z3 : zcells Tryz.prog 3 = some [.v (.int .i64 0)]:=by kernel_rfl
theorem T.c4 : Tryz.prog.cellsOf 4 = 1:=by kernel_rfl
theorem T.b4 : Tryz.prog.bytesOf 4 = 1:=by kernel_rfl
theorem T.g4 : isAggT Tryz.prog 4 = some false:=by kernel_rfl
theorem T.z4 : zcells Tryz.prog 4 = some [.v (.bool false)]:=by kernel_rfl
theorem T.c5 : Tryz.prog.cellsOf 5 = 1:=by kernel_rfl
theorem T.b5 : Tryz.prog.bytesOf 5 = 1:=by kernel_rfl
theorem T.g5 : isAggT Tryz.prog 5 = some false:=by kernel_rfl
theorem T.z5 : zcells Tryz.prog 5 = some [.v (.int .u8 0)]:=by kernel_rfl
theorem T.c6 : Tryz.prog.cellsOf 6 = 1:=by kernel_rfl
theorem T.g6 : isAggT Tryz.prog 6 = some false:=by kernel_rfl
theorem T.z6 : zcells Tryz.prog 6 = some [.v (.int .u8 0)]:=by kernel_rfl
theorem T.g7 : isAggT Tryz.prog 7 = some true:=by kernel_rfl
theorem T.h7 : fieldsOk Tryz.prog 7 = true:=by kernel_rfl
theorem T.c8 : Tryz.prog.cellsOf 8 = 4:=by kernel_rfl
theorem T.g8 : isAggT Tryz.prog 8 = some true:=by kernel_rfl
theorem T.h8 : fieldsOk Tryz.prog 8 = true:=by kernel_rfl
theorem T.c9 : Tryz.prog.cellsOf 9 = 1:=by kernel_rfl
theorem T.b9 : Tryz.prog.bytesOf 9 = 16:=by kernel_rfl
theorem T.g9 : isAggT Tryz.prog 9 = some false:=by kernel_rfl
theorem T.z9 : zcells Tryz.prog 9 = some [.v (.string ByteArray.empty)]:=by kernel_rfl
theorem T.g10 : isAggT Tryz.prog 10 = some false:=by kernel_rfl
theorem T.g12 : isAggT Tryz.prog 12 = some false:=by kernel_rfl
theorem T.g13 : isAggT Tryz.prog 13 = some true:=by kernel_rfl
theorem T.h13 : fieldsOk Tryz.prog 13 = true:=by kernel_rfl
theorem T.g14 : isAggT Tryz.prog 14 = some true:=by kernel_rfl
theorem T.g15 : isAggT Tryz.prog 15 = some false:=by kernel_rfl
theorem T.g16 : isAggT Tryz.prog 16 = some false:=by kernel_rfl
theorem T.g17 : isAggT Tryz.prog 17 = some false:=by kernel_rfl
theorem T.p17 : isPtrT Tryz.prog 17 = true:=by kernel_rfl
theorem T.g19 : isAggT Tryz.prog 19 = some true:=by kernel_rfl
theorem T.g20 : isAggT Tryz.prog 20 = some false:=by kernel_rfl
theorem T.g21 : isAggT Tryz.prog 21 = some false:=by kernel_rfl
theorem T.c22 : Tryz.prog.cellsOf 22 = 1:=by kernel_rfl
theorem T.b22 : Tryz.prog.bytesOf 22 = 24:=by kernel_rfl
theorem T.g22 : isAggT Tryz.prog 22 = some false:=by kernel_rfl
theorem T.z22 : zcells Tryz.prog 22 = some [.v (.slice none 0 0)]:=by kernel_rfl
theorem T.s22 : isSliceT Tryz.prog 22 = true:=by kernel_rfl
theorem T.c23 : Tryz.prog.cellsOf 23 = 1:=by kernel_rfl
theorem T.b23 : Tryz.prog.bytesOf 23 = 8:=by kernel_rfl
theorem T.g23 : isAggT Tryz.prog 23 = some false:=by kernel_rfl
theorem T.z23 : zcells Tryz.prog 23 = some [.v (.int .u64 0)]:=by kernel_rfl
theorem T.s24 : isSliceT Tryz.prog 24 = true:=by kernel_rfl
theorem T.c26 : Tryz.prog.cellsOf 26 = 1:=by kernel_rfl
theorem T.b26 : Tryz.prog.bytesOf 26 = 24:=by kernel_rfl
theorem T.g26 : isAggT Tryz.prog 26 = some false:=by kernel_rfl
theorem T.z26 : zcells Tryz.prog 26 = some [.v (.slice none 0 0)]:=by kernel_rfl
theorem T.s26 : isSliceT Tryz.prog 26 = true:=by kernel_rfl
theorem T.c27 : Tryz.prog.cellsOf 27 = 1:=by kernel_rfl
theorem T.b27 : Tryz.prog.bytesOf 27 = 8:=by kernel_rfl
theorem T.g27 : isAggT Tryz.prog 27 = some false:=by kernel_rfl
theorem T.z27 : zcells Tryz.prog 27 = some [.v (.int .i64 0)]:=by kernel_rfl
theorem T.c39 : Tryz.prog.cellsOf 39 = 1:=by kernel_rfl
theorem T.b39 : Tryz.prog.bytesOf 39 = 24:=by kernel_rfl
theorem T.g39 : isAggT Tryz.prog 39 = some false:=by kernel_rfl
theorem T.z39 : zcells Tryz.prog 39 = some [.v (.slice none 0 0)]:=by kernel_rfl
theorem T.s39 : isSliceT Tryz.prog 39 = true:=by kernel_rfl
theorem T.h47 : fieldsOk Tryz.prog 47 = true:=by kernel_rfl
theorem T.c48 : Tryz.prog.cellsOf 48 = 5:=by kernel_rfl
theorem T.b48 : Tryz.prog.bytesOf 48 = 104:=by kernel_rfl
theorem T.g48 : isAggT Tryz.prog 48 = some true:=by kernel_rfl
theorem T.h48 : fieldsOk Tryz.prog 48 = true:=by kernel_rfl
theorem T.f48_0 : fieldOf Tryz.prog 48 0 = some (0,22):=by kernel_rfl
theorem T.f48_1 : fieldOf Tryz.prog 48 1 = some (1,3):=by kernel_rfl
theorem T.f48_2 : fieldOf Tryz.prog 48 2 = some (2,26):=by kernel_rfl
theorem T.f48_3 : fieldOf Tryz.prog 48 3 = some (3,22):=by kernel_rfl
theorem T.f48_4 : fieldOf Tryz.prog 48 4 = some (4,22):=by kernel_rfl
theorem T.z48 : zcells Tryz.prog 48 = some [.v (.slice none 0 0),.v (.int .i64 0),.v (.slice none 0 0),.v (.slice none 0 0),.v (.slice none 0 0)]:=by kernel_rfl
theorem T.c49 : Tryz.prog.cellsOf 49 = 1:=by kernel_rfl
theorem T.b49 : Tryz.prog.bytesOf 49 = 24:=by kernel_rfl
theorem T.g49 : isAggT Tryz.prog 49 = some false:=by kernel_rfl
theorem T.z49 : zcells Tryz.prog 49 = some [.v (.slice none 0 0)]:=by kernel_rfl
theorem T.s49 : isSliceT Tryz.prog 49 = true:=by kernel_rfl
theorem T.c50 : Tryz.prog.cellsOf 50 = 1:=by kernel_rfl
theorem T.b50 : Tryz.prog.bytesOf 50 = 24:=by kernel_rfl
theorem T.g50 : isAggT Tryz.prog 50 = some false:=by kernel_rfl
theorem T.z50 : zcells Tryz.prog 50 = some [.v (.slice none 0 0)]:=by kernel_rfl
theorem T.s50 : isSliceT Tryz.prog 50 = true:=by kernel_rfl
theorem T.c52 : Tryz.prog.cellsOf 52 = 3:=by kernel_rfl
theorem T.b52 : Tryz.prog.bytesOf 52 = 56:=by kernel_rfl
theorem T.g52 : isAggT Tryz.prog 52 = some true:=by kernel_rfl
theorem T.h52 : fieldsOk Tryz.prog 52 = true:=by kernel_rfl
theorem T.f52_0 : fieldOf Tryz.prog 52 0 = some (0,23):=by kernel_rfl
theorem T.f52_1 : fieldOf Tryz.prog 52 1 = some (1,22):=by kernel_rfl
theorem T.f52_2 : fieldOf Tryz.prog 52 2 = some (2,50):=by kernel_rfl
theorem T.z52 : zcells Tryz.prog 52 = some [.v (.int .u64 0),.v (.slice none 0 0),.v (.slice none 0 0)]:=by kernel_rfl
theorem T.c54 : Tryz.prog.cellsOf 54 = 10:=by kernel_rfl
theorem T.b54 : Tryz.prog.bytesOf 54 = 176:=by kernel_rfl
theorem T.g54 : isAggT Tryz.prog 54 = some true:=by kernel_rfl
theorem T.h54 : fieldsOk Tryz.prog 54 = true:=by kernel_rfl
theorem T.f54_0 : fieldOf Tryz.prog 54 0 = some (0,22):=by kernel_rfl
theorem T.f54_1 : fieldOf Tryz.prog 54 1 = some (1,3):=by kernel_rfl
theorem T.f54_2 : fieldOf Tryz.prog 54 2 = some (2,3):=by kernel_rfl
theorem T.f54_3 : fieldOf Tryz.prog 54 3 = some (3,49):=by kernel_rfl
theorem T.f54_4 : fieldOf Tryz.prog 54 4 = some (4,4):=by kernel_rfl
theorem T.f54_5 : fieldOf Tryz.prog 54 5 = some (5,52):=by kernel_rfl
theorem T.f54_6 : fieldOf Tryz.prog 54 6 = some (8,22):=by kernel_rfl
theorem T.f54_7 : fieldOf Tryz.prog 54 7 = some (9,22):=by kernel_rfl
theorem T.z54 : zcells Tryz.prog 54 = some [.v (.slice none 0 0),.v (.int .i64 0),.v (.int .i64 0),.v (.slice none 0 0),.v (.bool false),.v (.int .u64 0),.v (.slice none 0 0),.v (.slice none 0 0),.v (.slice none 0 0),.v (.slice none 0 0)]:=by kernel_rfl
theorem T.c69 : Tryz.prog.cellsOf 69 = 5:=by kernel_rfl
theorem T.b69 : Tryz.prog.bytesOf 69 = 88:=by kernel_rfl
theorem T.g69 : isAggT Tryz.prog 69 = some true:=by kernel_rfl
theorem T.h69 : fieldsOk Tryz.prog 69 = true:=by kernel_rfl
theorem T.f69_0 : fieldOf Tryz.prog 69 0 = some (0,3):=by kernel_rfl
theorem T.f69_1 : fieldOf Tryz.prog 69 1 = some (1,22):=by kernel_rfl
theorem T.f69_2 : fieldOf Tryz.prog 69 2 = some (2,23):=by kernel_rfl
theorem T.f69_3 : fieldOf Tryz.prog 69 3 = some (3,22):=by kernel_rfl
theorem T.f69_4 : fieldOf Tryz.prog 69 4 = some (4,39):=by kernel_rfl
theorem T.z69 : zcells Tryz.prog 69 = some [.v (.int .i64 0),.v (.slice none 0 0),.v (.int .u64 0),.v (.slice none 0 0),.v (.slice none 0 0)]:=by kernel_rfl
theorem T.c71 : Tryz.prog.cellsOf 71 = 5:=by kernel_rfl
theorem T.b71 : Tryz.prog.bytesOf 71 = 56:=by kernel_rfl
theorem T.g71 : isAggT Tryz.prog 71 = some true:=by kernel_rfl
theorem T.h71 : fieldsOk Tryz.prog 71 = true:=by kernel_rfl
theorem T.f71_0 : fieldOf Tryz.prog 71 0 = some (0,3):=by kernel_rfl
theorem T.f71_1 : fieldOf Tryz.prog 71 1 = some (1,3):=by kernel_rfl
theorem T.f71_2 : fieldOf Tryz.prog 71 2 = some (2,22):=by kernel_rfl
theorem T.f71_3 : fieldOf Tryz.prog 71 3 = some (3,23):=by kernel_rfl
theorem T.f71_4 : fieldOf Tryz.prog 71 4 = some (4,23):=by kernel_rfl
theorem T.z71 : zcells Tryz.prog 71 = some [.v (.int .i64 0),.v (.int .i64 0),.v (.slice none 0 0),.v (.int .u64 0),.v (.int .u64 0)]:=by kernel_rfl
theorem T.c83 : Tryz.prog.cellsOf 83 = 1:=by kernel_rfl
theorem T.b83 : Tryz.prog.bytesOf 83 = 24:=by kernel_rfl
theorem T.g83 : isAggT Tryz.prog 83 = some false:=by kernel_rfl
theorem T.z83 : zcells Tryz.prog 83 = some [.v (.slice none 0 0)]:=by kernel_rfl
theorem T.s83 : isSliceT Tryz.prog 83 = true:=by kernel_rfl
theorem T.c124 : Tryz.prog.cellsOf 124 = 1:=by kernel_rfl
theorem T.b124 : Tryz.prog.bytesOf 124 = 24:=by kernel_rfl
theorem T.g124 : isAggT Tryz.prog 124 = some false:=by kernel_rfl
theorem T.z124 : zcells Tryz.prog 124 = some [.v (.slice none 0 0)]:=by kernel_rfl
theorem T.s124 : isSliceT Tryz.prog 124 = true:=by kernel_rfl
theorem T.c126 : Tryz.prog.cellsOf 126 = 2:=by kernel_rfl
theorem T.b126 : Tryz.prog.bytesOf 126 = 32:=by kernel_rfl
theorem T.g126 : isAggT Tryz.prog 126 = some true:=by kernel_rfl
theorem T.h126 : fieldsOk Tryz.prog 126 = true:=by kernel_rfl
theorem T.f126_0 : fieldOf Tryz.prog 126 0 = some (0,23):=by kernel_rfl
theorem T.f126_1 : fieldOf Tryz.prog 126 1 = some (1,124):=by kernel_rfl
theorem T.z126 : zcells Tryz.prog 126 = some [.v (.int .u64 0),.v (.slice none 0 0)]:=by kernel_rfl
theorem T.c128 : Tryz.prog.cellsOf 128 = 2:=by kernel_rfl
theorem T.b128 : Tryz.prog.bytesOf 128 = 32:=by kernel_rfl
theorem T.g128 : isAggT Tryz.prog 128 = some true:=by kernel_rfl
theorem T.h128 : fieldsOk Tryz.prog 128 = true:=by kernel_rfl
theorem T.f128_0 : fieldOf Tryz.prog 128 0 = some (0,23):=by kernel_rfl
theorem T.f128_1 : fieldOf Tryz.prog 128 1 = some (1,22):=by kernel_rfl
theorem T.z128 : zcells Tryz.prog 128 = some [.v (.int .u64 0),.v (.slice none 0 0)]:=by kernel_rfl
theorem T.c141 : Tryz.prog.cellsOf 141 = 1:=by kernel_rfl
theorem T.b141 : Tryz.prog.bytesOf 141 = 8:=by kernel_rfl
theorem T.g141 : isAggT Tryz.prog 141 = some false:=by kernel_rfl
theorem T.z141 : zcells Tryz.prog 141 = some [.v (.pointer none)]:=by kernel_rfl
theorem T.p141 : isPtrT Tryz.prog 141 = true:=by kernel_rfl
theorem T.c154 : Tryz.prog.cellsOf 154 = 1:=by kernel_rfl
theorem T.b154 : Tryz.prog.bytesOf 154 = 8:=by kernel_rfl
theorem T.g154 : isAggT Tryz.prog 154 = some false:=by kernel_rfl
theorem T.z154 : zcells Tryz.prog 154 = some [.v (.pointer none)]:=by kernel_rfl
theorem T.p154 : isPtrT Tryz.prog 154 = true:=by kernel_rfl
theorem T.c213 : Tryz.prog.cellsOf 213 = 1:=by kernel_rfl
theorem T.b213 : Tryz.prog.bytesOf 213 = 4:=by kernel_rfl
theorem T.g213 : isAggT Tryz.prog 213 = some false:=by kernel_rfl
theorem T.z213 : zcells Tryz.prog 213 = some [.v (.int .u32 0)]:=by kernel_rfl
theorem T.c214 : Tryz.prog.cellsOf 214 = 8:=by kernel_rfl
theorem T.b214 : Tryz.prog.bytesOf 214 = 32:=by kernel_rfl
theorem T.g214 : isAggT Tryz.prog 214 = some true:=by kernel_rfl
theorem T.z214 : zcells Tryz.prog 214 = some [.v (.int .u32 0),.v (.int .u32 0),.v (.int .u32 0),.v (.int .u32 0),.v (.int .u32 0),.v (.int .u32 0),.v (.int .u32 0),.v (.int .u32 0)]:=by kernel_rfl
theorem T.c219 : Tryz.prog.cellsOf 219 = 1:=by kernel_rfl
theorem T.b219 : Tryz.prog.bytesOf 219 = 8:=by kernel_rfl
theorem T.g219 : isAggT Tryz.prog 219 = some false:=by kernel_rfl
theorem T.z219 : zcells Tryz.prog 219 = some [.v (.int .u64 0)]:=by kernel_rfl
theorem T.c222 : Tryz.prog.cellsOf 222 = 1:=by kernel_rfl
theorem T.b222 : Tryz.prog.bytesOf 222 = 24:=by kernel_rfl
theorem T.g222 : isAggT Tryz.prog 222 = some false:=by kernel_rfl
theorem T.z222 : zcells Tryz.prog 222 = some [.v (.slice none 0 0)]:=by kernel_rfl
theorem T.s222 : isSliceT Tryz.prog 222 = true:=by kernel_rfl
theorem T.c228 : Tryz.prog.cellsOf 228 = 2:=by kernel_rfl
theorem T.b228 : Tryz.prog.bytesOf 228 = 32:=by kernel_rfl
theorem T.g228 : isAggT Tryz.prog 228 = some true:=by kernel_rfl
theorem T.h228 : fieldsOk Tryz.prog 228 = true:=by kernel_rfl
theorem T.f228_0 : fieldOf Tryz.prog 228 0 = some (0,22):=by kernel_rfl
theorem T.f228_1 : fieldOf Tryz.prog 228 1 = some (1,27):=by kernel_rfl
theorem T.z228 : zcells Tryz.prog 228 = some [.v (.slice none 0 0),.v (.int .i64 0)]:=by kernel_rfl
theorem T.c235 : Tryz.prog.cellsOf 235 = 2:=by kernel_rfl
theorem T.b235 : Tryz.prog.bytesOf 235 = 32:=by kernel_rfl
theorem T.g235 : isAggT Tryz.prog 235 = some true:=by kernel_rfl
theorem T.h235 : fieldsOk Tryz.prog 235 = true:=by kernel_rfl
theorem T.f235_0 : fieldOf Tryz.prog 235 0 = some (0,22):=by kernel_rfl
theorem T.f235_1 : fieldOf Tryz.prog 235 1 = some (1,4):=by kernel_rfl
theorem T.z235 : zcells Tryz.prog 235 = some [.v (.slice none 0 0),.v (.bool false)]:=by kernel_rfl
theorem T.c265 : Tryz.prog.cellsOf 265 = 64:=by kernel_rfl
theorem T.b265 : Tryz.prog.bytesOf 265 = 256:=by kernel_rfl
theorem T.g265 : isAggT Tryz.prog 265 = some true:=by kernel_rfl
theorem T.c284 : Tryz.prog.cellsOf 284 = 64:=by kernel_rfl
theorem T.b284 : Tryz.prog.bytesOf 284 = 64:=by kernel_rfl
theorem T.g284 : isAggT Tryz.prog 284 = some true:=by kernel_rfl
theorem T.k3 : callable Tryz.prog 3 = true:=by kernel_rfl
theorem T.k4 : callable Tryz.prog 4 = true:=by kernel_rfl
theorem T.k5 : callable Tryz.prog 5 = true:=by kernel_rfl
theorem T.k6 : callable Tryz.prog 6 = true:=by kernel_rfl
theorem T.k7 : callable Tryz.prog 7 = true:=by kernel_rfl
theorem T.k8 : callable Tryz.prog 8 = true:=by kernel_rfl
theorem T.k9 : callable Tryz.prog 9 = true:=by kernel_rfl
theorem T.k10 : callable Tryz.prog 10 = true:=by kernel_rfl
theorem T.k11 : callable Tryz.prog 11 = true:=by kernel_rfl
theorem T.k12 : callable Tryz.prog 12 = true:=by kernel_rfl
theorem T.k13 : callable Tryz.prog 13 = true:=by kernel_rfl
theorem T.k14 : callable Tryz.prog 14 = true:=by kernel_rfl
theorem T.k15 : callable Tryz.prog 15 = true:=by kernel_rfl
theorem T.k17 : callable Tryz.prog 17 = true:=by kernel_rfl
theorem T.k19 : callable Tryz.prog 19 = true:=by kernel_rfl
theorem T.k20 : callable Tryz.prog 20 = true:=by kernel_rfl
theorem T.k21 : callable Tryz.prog 21 = true:=by kernel_rfl
theorem T.k22 : callable Tryz.prog 22 = true:=by kernel_rfl
theorem T.k24 : callable Tryz.prog 24 = true:=by kernel_rfl
theorem T.k25 : callable Tryz.prog 25 = true:=by kernel_rfl
theorem T.k26 : callable Tryz.prog 26 = true:=by kernel_rfl
theorem T.k28 : callable Tryz.prog 28 = true:=by kernel_rfl
theorem T.k30 : callable Tryz.prog 30 = true:=by kernel_rfl
theorem T.k32 : callable Tryz.prog 32 = true:=by kernel_rfl
theorem T.k33 : callable Tryz.prog 33 = true:=by kernel_rfl
theorem T.k34 : callable Tryz.prog 34 = true:=by kernel_rfl
theorem T.k36 : callable Tryz.prog 36 = true:=by kernel_rfl
theorem T.k38 : callable Tryz.prog 38 = true:=by kernel_rfl
theorem T.k39 : callable Tryz.prog 39 = true:=by kernel_rfl
theorem T.k40 : callable Tryz.prog 40 = true:=by kernel_rfl
theorem T.k41 : callable Tryz.prog 41 = true:=by kernel_rfl
theorem T.k42 : callable Tryz.prog 42 = true:=by kernel_rfl
theorem T.k43 : callable Tryz.prog 43 = true:=by kernel_rfl
theorem T.k44 : callable Tryz.prog 44 = true:=by kernel_rfl
theorem T.k45 : callable Tryz.prog 45 = true:=by kernel_rfl
theorem T.k56 : callable Tryz.prog 56 = true:=by kernel_rfl
theorem T.k57 : callable Tryz.prog 57 = true:=by kernel_rfl
theorem T.k59 : callable Tryz.prog 59 = true:=by kernel_rfl
theorem T.k60 : callable Tryz.prog 60 = true:=by kernel_rfl
theorem T.k65 : callable Tryz.prog 65 = true:=by kernel_rfl
theorem T.k69 : callable Tryz.prog 69 = true:=by kernel_rfl
theorem T.k70 : callable Tryz.prog 70 = true:=by kernel_rfl
theorem T.k71 : callable Tryz.prog 71 = true:=by kernel_rfl
theorem T.k72 : callable Tryz.prog 72 = true:=by kernel_rfl
theorem T.k73 : callable Tryz.prog 73 = true:=by kernel_rfl
theorem T.k74 : callable Tryz.prog 74 = true:=by kernel_rfl
theorem T.k75 : callable Tryz.prog 75 = true:=by kernel_rfl
theorem T.k77 : callable Tryz.prog 77 = true:=by kernel_rfl
theorem T.k78 : callable Tryz.prog 78 = true:=by kernel_rfl
theorem T.k80 : callable Tryz.prog 80 = true:=by kernel_rfl
theorem T.k81 : callable Tryz.prog 81 = true:=by kernel_rfl
theorem T.k82 : callable Tryz.prog 82 = true:=by kernel_rfl
theorem T.k83 : callable Tryz.prog 83 = true:=by kernel_rfl
theorem T.k84 : callable Tryz.prog 84 = true:=by kernel_rfl
theorem T.k85 : callable Tryz.prog 85 = true:=by kernel_rfl
theorem T.k86 : callable Tryz.prog 86 = true:=by kernel_rfl
theorem T.k87 : callable Tryz.prog 87 = true:=by kernel_rfl
theorem T.k88 : callable Tryz.prog 88 = true:=by kernel_rfl
theorem T.k89 : callable Tryz.prog 89 = true:=by kernel_rfl
theorem T.k91 : callable Tryz.prog 91 = true:=by kernel_rfl
theorem T.k92 : callable Tryz.prog 92 = true:=by kernel_rfl
theorem T.k93 : callable Tryz.prog 93 = true:=by kernel_rfl
theorem T.k94 : callable Tryz.prog 94 = true:=by kernel_rfl
theorem T.k95 : callable Tryz.prog 95 = true:=by kernel_rfl
theorem T.k97 : callable Tryz.prog 97 = true:=by kernel_rfl
theorem T.k99 : callable Tryz.prog 99 = true:=by kernel_rfl
theorem T.k100 : callable Tryz.prog 100 = true:=by kernel_rfl
theorem T.k101 : callable Tryz.prog 101 = true:=by kernel_rfl
theorem T.k102 : callable Tryz.prog 102 = true:=by kernel_rfl
theorem T.k103 : callable Tryz.prog 103 = true:=by kernel_rfl
theorem T.k104 : callable Tryz.prog 104 = true:=by kernel_rfl
theorem T.k105 : callable Tryz.prog 105 = true:=by kernel_rfl
theorem T.k109 : callable Tryz.prog 109 = true:=by kernel_rfl
theorem T.k110 : callable Tryz.prog 110 = true:=by kernel_rfl
theorem T.k111 : callable Tryz.prog 111 = true:=by kernel_rfl
theorem T.k112 : callable Tryz.prog 112 = true:=by kernel_rfl
theorem T.k113 : callable Tryz.prog 113 = true:=by kernel_rfl
theorem T.k114 : callable Tryz.prog 114 = true:=by kernel_rfl
theorem T.k115 : callable Tryz.prog 115 = true:=by kernel_rfl
theorem T.k116 : callable Tryz.prog 116 = true:=by kernel_rfl
theorem T.k117 : callable Tryz.prog 117 = true:=by kernel_rfl
theorem T.k118 : callable Tryz.prog 118 = true:=by kernel_rfl
theorem T.k119 : callable Tryz.prog 119 = true:=by kernel_rfl
theorem T.k134 : callable Tryz.prog 134 = true:=by kernel_rfl
theorem T.k136 : callable Tryz.prog 136 = true:=by kernel_rfl
theorem T.k137 : callable Tryz.prog 137 = true:=by kernel_rfl
theorem T.k138 : callable Tryz.prog 138 = true:=by kernel_rfl
theorem T.k141 : callable Tryz.prog 141 = true:=by kernel_rfl
theorem T.k143 : callable Tryz.prog 143 = true:=by kernel_rfl
theorem T.k144 : callable Tryz.prog 144 = true:=by kernel_rfl
theorem T.k145 : callable Tryz.prog 145 = true:=by kernel_rfl
theorem T.k146 : callable Tryz.prog 146 = true:=by kernel_rfl
theorem T.k147 : callable Tryz.prog 147 = true:=by kernel_rfl
theorem T.k148 : callable Tryz.prog 148 = true:=by kernel_rfl
theorem T.k149 : callable Tryz.prog 149 = true:=by kernel_rfl
theorem T.k150 : callable Tryz.prog 150 = true:=by kernel_rfl
theorem T.k151 : callable Tryz.prog 151 = true:=by kernel_rfl
theorem T.k152 : callable Tryz.prog 152 = true:=by kernel_rfl
theorem T.k153 : callable Tryz.prog 153 = true:=by kernel_rfl
theorem T.k155 : callable Tryz.prog 155 = true:=by kernel_rfl
theorem T.k156 : callable Tryz.prog 156 = true:=by kernel_rfl
theorem T.k157 : callable Tryz.prog 157 = true:=by kernel_rfl
theorem T.k158 : callable Tryz.prog 158 = true:=by kernel_rfl
theorem T.k159 : callable Tryz.prog 159 = true:=by kernel_rfl
theorem T.k160 : callable Tryz.prog 160 = true:=by kernel_rfl
theorem T.k163 : callable Tryz.prog 163 = true:=by kernel_rfl
theorem T.k164 : callable Tryz.prog 164 = true:=by kernel_rfl
theorem T.k168 : callable Tryz.prog 168 = true:=by kernel_rfl
theorem T.k172 : callable Tryz.prog 172 = true:=by kernel_rfl
theorem T.k173 : callable Tryz.prog 173 = true:=by kernel_rfl
theorem T.k174 : callable Tryz.prog 174 = true:=by kernel_rfl
theorem T.k175 : callable Tryz.prog 175 = true:=by kernel_rfl
theorem T.k179 : callable Tryz.prog 179 = true:=by kernel_rfl
theorem T.k180 : callable Tryz.prog 180 = true:=by kernel_rfl
theorem T.k181 : callable Tryz.prog 181 = true:=by kernel_rfl
theorem T.k184 : callable Tryz.prog 184 = true:=by kernel_rfl
theorem T.k185 : callable Tryz.prog 185 = true:=by kernel_rfl
theorem T.k186 : callable Tryz.prog 186 = true:=by kernel_rfl
theorem T.k187 : callable Tryz.prog 187 = true:=by kernel_rfl
theorem T.k188 : callable Tryz.prog 188 = true:=by kernel_rfl
theorem T.k189 : callable Tryz.prog 189 = true:=by kernel_rfl
theorem T.k190 : callable Tryz.prog 190 = true:=by kernel_rfl
theorem T.k194 : callable Tryz.prog 194 = true:=by kernel_rfl
theorem T.k195 : callable Tryz.prog 195 = true:=by kernel_rfl
theorem T.k196 : callable Tryz.prog 196 = true:=by kernel_rfl
theorem T.k197 : callable Tryz.prog 197 = true:=by kernel_rfl
theorem T.k210 : callable Tryz.prog 210 = true:=by kernel_rfl
theorem T.k211 : callable Tryz.prog 211 = true:=by kernel_rfl
theorem T.k213 : callable Tryz.prog 213 = true:=by kernel_rfl
theorem T.k215 : callable Tryz.prog 215 = true:=by kernel_rfl
theorem T.k217 : callable Tryz.prog 217 = true:=by kernel_rfl
theorem T.k218 : callable Tryz.prog 218 = true:=by kernel_rfl
theorem T.k219 : callable Tryz.prog 219 = true:=by kernel_rfl
theorem T.k220 : callable Tryz.prog 220 = true:=by kernel_rfl
theorem T.k229 : callable Tryz.prog 229 = true:=by kernel_rfl
theorem T.k232 : callable Tryz.prog 232 = true:=by kernel_rfl
theorem T.k233 : callable Tryz.prog 233 = true:=by kernel_rfl
theorem T.k234 : callable Tryz.prog 234 = true:=by kernel_rfl
theorem T.k239 : callable Tryz.prog 239 = true:=by kernel_rfl
theorem T.k240 : callable Tryz.prog 240 = true:=by kernel_rfl
theorem T.k241 : callable Tryz.prog 241 = true:=by kernel_rfl
theorem T.k249 : callable Tryz.prog 249 = true:=by kernel_rfl
theorem T.k256 : callable Tryz.prog 256 = true:=by kernel_rfl
theorem T.k257 : callable Tryz.prog 257 = true:=by kernel_rfl
theorem T.k261 : callable Tryz.prog 261 = true:=by kernel_rfl
theorem T.k262 : callable Tryz.prog 262 = true:=by kernel_rfl
theorem T.mixed : Tryz.prog.follows .mixedOrders = true:=by kernel_rfl
end Go.Proofs.YtfjlmkifiihgkaaGreatDoor
set_option maxRecDepth 100000
namespace Go.Proofs.YtfjlmkifiihgkaaGreatDoor
open Go Go.AM Go.Proofs
open And renaming intro→Ai
theorem TT : type_of% (Ai (Ai UP DF) (Ai (Ai (Ai (Ai (Ai (Ai (Ai (Ai @Tryz.underlying3 (Ai T.c3 T.g3)) (Ai (Ai T.b3 T.z3) (Ai Tryz.ntmps217 @Tryz.underlying5))) (Ai (Ai T.c5 (Ai T.g5 T.b5)) (Ai (Ai T.z5 @Tryz.underlying23) (Ai T.c23 T.g23)))) (Ai (Ai (Ai T.b23 (Ai T.z23 @Tryz.underlying284)) (Ai (Ai T.c284 T.g284) (Ai T.b284 Tryz.ntmps262))) (Ai (Ai (Ai @Tryz.underlying213 T.c213) (Ai T.g213 T.b213)) (Ai (Ai T.z213 @Tryz.underlying219) (Ai T.c219 T.g219))))) (Ai (Ai (Ai (Ai T.b219 (Ai T.z219 T.k261)) (Ai (Ai T.k262 Tryz.ntmps249) (Ai @Tryz.underlying4 T.c4))) (Ai (Ai T.g4 (Ai T.b4 T.z4)) (Ai (Ai T.k249 T.k217) (Ai Tryz.ntmps218 T.k218)))) (Ai (Ai (Ai Tryz.ntmps211 (Ai T.k211 Tryz.ntmps145)) (Ai (Ai Tryz.ntmps146 Tryz.ntmps153) (Ai Tryz.ntmps152 T.k152))) (Ai (Ai (Ai Tryz.ntmps134 Tryz.ntmps144) (Ai T.k144 Tryz.ntmps78)) (Ai (Ai T.k78 Tryz.ntmps73) (Ai @Tryz.underlying22 T.c22)))))) (Ai (Ai (Ai (Ai (Ai T.g22 (Ai T.b22 T.z22)) (Ai (Ai T.s22 Tryz.ntmps184) (Ai @Tryz.underlying235 T.c235))) (Ai (Ai T.g235 (Ai T.b235 T.z235)) (Ai (Ai T.h235 T.f235_0) (Ai T.f235_1 Tryz.ntmps195)))) (Ai (Ai (Ai Tryz.ntmps109 (Ai @Tryz.underlying154 T.c154)) (Ai (Ai T.g154 T.b154) (Ai T.z154 T.p154))) (Ai (Ai (Ai T.k195 Tryz.ntmps229) (Ai T.k229 Tryz.ntmps168)) (Ai (Ai Tryz.ntmps215 Tryz.ntmps111) (Ai Tryz.ntmps241 T.k241))))) (Ai (Ai (Ai (Ai Tryz.ntmps194 (Ai T.k194 Tryz.ntmps110)) (Ai (Ai T.k184 Tryz.ntmps113) (Ai @Tryz.underlying27 T.c27))) (Ai (Ai T.g27 (Ai T.b27 T.z27)) (Ai (Ai @Tryz.underlying228 T.c228) (Ai T.g228 T.b228)))) (Ai (Ai (Ai T.z228 (Ai T.h228 T.f228_0)) (Ai (Ai T.f228_1 Tryz.ntmps100) (Ai Tryz.ntmps240 @Tryz.underlying141))) (Ai (Ai (Ai T.c141 T.g141) (Ai T.b141 T.z141)) (Ai (Ai T.p141 T.k240) (Ai Tryz.ntmps186 Tryz.ntmps239))))))) (Ai (Ai (Ai (Ai (Ai (Ai T.k186 (Ai Tryz.ntmps187 Tryz.ntmps102)) (Ai (Ai T.k239 Tryz.ntmps185) (Ai T.k185 Tryz.ntmps101))) (Ai (Ai Tryz.ntmps190 (Ai Tryz.ntmps188 Tryz.ntmps104)) (Ai (Ai @Tryz.underlying9 T.c9) (Ai T.g9 T.b9)))) (Ai (Ai (Ai T.z9 (Ai Tryz.ntmps150 T.k150)) (Ai (Ai Tryz.ntmps119 Tryz.ntmps141) (Ai Tryz.ntmps138 Tryz.ntmps88))) (Ai (Ai (Ai @Tryz.underlying39 T.c39) (Ai T.g39 T.b39)) (Ai (Ai T.z39 T.s39) (Ai Tryz.ntmps197 Tryz.ntmps20))))) (Ai (Ai (Ai (Ai @Tryz.underlying69 (Ai T.c69 T.g69)) (Ai (Ai T.b69 T.z69) (Ai T.h69 T.f69_0))) (Ai (Ai T.f69_1 (Ai T.f69_2 T.f69_3)) (Ai (Ai T.f69_4 T.k88) (Ai T.k197 Tryz.ntmps116)))) (Ai (Ai (Ai T.k20 (Ai Tryz.ntmps60 Tryz.ntmps137)) (Ai (Ai T.k141 Tryz.ntmps136) (Ai T.k137 T.k136))) (Ai (Ai (Ai T.k116 Tryz.ntmps57) (Ai T.k60 T.k138)) (Ai (Ai Tryz.ntmps59 T.k110) (Ai T.k111 T.k168)))))) (Ai (Ai (Ai (Ai (Ai T.k57 (Ai Tryz.ntmps196 T.k119)) (Ai (Ai Tryz.ntmps151 T.k188) (Ai T.k101 T.k102))) (Ai (Ai T.k187 (Ai T.k190 Tryz.ntmps189)) (Ai (Ai @Tryz.underlying26 T.c26) (Ai T.g26 T.b26)))) (Ai (Ai (Ai T.z26 (Ai T.s26 T.k134)) (Ai (Ai Tryz.ntmps82 T.k82) (Ai Tryz.ntmps84 T.k84))) (Ai (Ai (Ai Tryz.ntmps86 Tryz.ntmps85) (Ai Tryz.ntmps219 T.k219)) (Ai (Ai Tryz.ntmps155 Tryz.ntmps154) (Ai T.k155 T.k153))))) (Ai (Ai (Ai (Ai Tryz.ntmps83 (Ai T.k83 T.k85)) (Ai (Ai T.k86 Tryz.ntmps24) (Ai T.k196 T.k24))) (Ai (Ai Tryz.ntmps112 (Ai Tryz.ntmps65 Tryz.ntmps74)) (Ai (Ai T.k74 Tryz.ntmps75) (Ai Tryz.ntmps72 T.k75)))) (Ai (Ai (Ai T.k72 (Ai T.k65 T.k59)) (Ai (Ai T.k73 Tryz.ntmps17) (Ai Tryz.ntmps95 Tryz.ntmps13))) (Ai (Ai (Ai Tryz.ntmps257 T.k257) (Ai Tryz.ntmps234 Tryz.ntmps256)) (Ai (Ai Tryz.ntmps181 @Tryz.underlying222) (Ai T.c222 T.g222)))))))) (Ai (Ai (Ai (Ai (Ai (Ai (Ai T.b222 (Ai T.z222 T.s222)) (Ai (Ai Tryz.ntmps179 @Tryz.underlying265) (Ai T.c265 T.g265))) (Ai (Ai T.b265 (Ai T.k256 Tryz.ntmps233)) (Ai (Ai @Tryz.underlying214 T.c214) (Ai T.g214 T.b214)))) (Ai (Ai (Ai T.z214 (Ai T.k234 T.k233)) (Ai (Ai Tryz.ntmps175 Tryz.ntmps232) (Ai @Tryz.underlying83 T.c83))) (Ai (Ai (Ai T.g83 T.b83) (Ai T.z83 T.s83)) (Ai (Ai T.k232 Tryz.ntmps174) (Ai Tryz.ntmps173 Tryz.ntmps231))))) (Ai (Ai (Ai (Ai Tryz.ntmps172 (Ai T.k175 T.k173)) (Ai (Ai T.k172 T.k174) (Ai Tryz.ntmps94 Tryz.ntmps180))) (Ai (Ai T.k181 (Ai T.k179 T.k180)) (Ai (Ai Tryz.ntmps97 T.k215) (Ai Tryz.ntmps214 Tryz.ntmps216)))) (Ai (Ai (Ai T.k113 (Ai T.k109 Tryz.ntmps213)) (Ai (Ai T.k213 T.k94) (Ai Tryz.ntmps148 Tryz.ntmps149))) (Ai (Ai (Ai T.k97 T.k151) (Ai Tryz.ntmps80 Tryz.ntmps81)) (Ai (Ai T.k148 T.k149) (Ai T.k145 T.k77)))))) (Ai (Ai (Ai (Ai (Ai T.k146 (Ai Tryz.ntmps77 T.k22)) (Ai (Ai T.k80 T.k81) (Ai Tryz.ntmps22 Tryz.ntmps19))) (Ai (Ai T.k19 (Ai Tryz.ntmps70 Tryz.ntmps71)) (Ai (Ai Tryz.ntmps210 T.k95) (Ai T.k210 Tryz.ntmps143)))) (Ai (Ai (Ai T.k143 (Ai Tryz.ntmps69 T.k189)) (Ai (Ai Tryz.ntmps103 Tryz.ntmps118) (Ai Tryz.ntmps56 T.k56))) (Ai (Ai (Ai Tryz.ntmps11 Tryz.ntmps99) (Ai @Tryz.underlying48 T.c48)) (Ai (Ai T.g48 T.b48) (Ai T.z48 T.h48))))) (Ai (Ai (Ai (Ai T.f48_0 (Ai T.f48_1 T.f48_2)) (Ai (Ai T.f48_3 T.f48_4) (Ai T.k99 Tryz.ntmps33))) (Ai (Ai T.k17 (Ai Tryz.ntmps41 T.k13)) (Ai (Ai Tryz.ntmps32 T.k11) (Ai Tryz.ntmps36 T.k100)))) (Ai (Ai (Ai T.k33 (Ai T.k103 T.k104)) (Ai (Ai Tryz.ntmps34 Tryz.ntmps157) (Ai Tryz.ntmps158 @Tryz.underlying71))) (Ai (Ai (Ai T.c71 T.g71) (Ai T.b71 T.z71)) (Ai (Ai T.h71 T.f71_0) (Ai T.f71_1 T.f71_2))))))) (Ai (Ai (Ai (Ai (Ai (Ai T.f71_3 (Ai T.f71_4 T.k157)) (Ai (Ai T.k158 Tryz.ntmps156) (Ai @Tryz.underlying124 T.c124))) (Ai (Ai T.g124 (Ai T.b124 T.z124)) (Ai (Ai T.s124 @Tryz.underlying126) (Ai T.c126 T.g126)))) (Ai (Ai (Ai T.b126 (Ai T.z126 T.h126)) (Ai (Ai @Tryz.underlying128 T.c128) (Ai T.g128 T.b128))) (Ai (Ai (Ai T.z128 T.h128) (Ai T.f126_0 T.f126_1)) (Ai (Ai T.f128_0 T.f128_1) (Ai Tryz.ntmps220 @Tryz.underlying49))))) (Ai (Ai (Ai (Ai T.c49 (Ai T.g49 T.b49)) (Ai (Ai T.z49 T.s49) (Ai @Tryz.underlying50 T.c50))) (Ai (Ai T.g50 (Ai T.b50 T.z50)) (Ai (Ai T.s50 @Tryz.underlying52) (Ai T.c52 T.g52)))) (Ai (Ai (Ai T.b52 (Ai T.z52 T.h52)) (Ai (Ai @Tryz.underlying54 T.c54) (Ai T.g54 T.b54))) (Ai (Ai (Ai T.z54 T.h54) (Ai T.f52_0 T.f52_1)) (Ai (Ai T.f52_2 T.f54_4) (Ai T.f54_5 T.k220)))))) (Ai (Ai (Ai (Ai (Ai Tryz.ntmps159 (Ai T.f54_0 T.f54_1)) (Ai (Ai T.f54_2 T.f54_3) (Ai T.f54_6 T.f54_7))) (Ai (Ai T.k156 (Ai T.k159 Tryz.ntmps87)) (Ai (Ai T.k147 T.k160) (Ai Tryz.ntmps89 T.k89)))) (Ai (Ai (Ai T.k69 (Ai T.k87 Tryz.ntmps28)) (Ai (Ai T.k163 T.k164) (Ai Tryz.ntmps91 T.k28))) (Ai (Ai (Ai T.k92 T.k93) (Ai T.k91 Tryz.ntmps30)) (Ai (Ai T.k36 T.k30) (Ai Tryz.ntmps25 Tryz.ntmps115))))) (Ai (Ai (Ai (Ai T.k115 (Ai Tryz.ntmps42 T.k112)) (Ai (Ai Tryz.ntmps38 Tryz.ntmps114) (Ai T.k70 T.k114))) (Ai (Ai (Ai Tryz.ntmps39 Tryz.ntmps40) (Ai Tryz.ntmps117 T.k118)) (Ai (Ai T.k117 Tryz.ntmps43) (Ai T.k71 Tryz.ntmps44)))) (Ai (Ai (Ai Tryz.ntmps45 (Ai Tryz.ntmps26 T.k42)) (Ai (Ai T.k25 T.k38) (Ai T.k41 T.k26))) (Ai (Ai (Ai T.k40 T.k45) (Ai T.k34 T.k43)) (Ai (Ai T.k39 T.k32) (Ai T.k44 Tryz.ntmps8)))))))))) :=
  (Ai (Ai UP DF) (Ai (Ai (Ai (Ai (Ai (Ai (Ai (Ai @Tryz.underlying3 (Ai T.c3 T.g3)) (Ai (Ai T.b3 T.z3) (Ai Tryz.ntmps217 @Tryz.underlying5))) (Ai (Ai T.c5 (Ai T.g5 T.b5)) (Ai (Ai T.z5 @Tryz.underlying23) (Ai T.c23 T.g23)))) (Ai (Ai (Ai T.b23 (Ai T.z23 @Tryz.underlying284)) (Ai (Ai T.c284 T.g284) (Ai T.b284 Tryz.ntmps262))) (Ai (Ai (Ai @Tryz.underlying213 T.c213) (Ai T.g213 T.b213)) (Ai (Ai T.z213 @Tryz.underlying219) (Ai T.c219 T.g219))))) (Ai (Ai (Ai (Ai T.b219 (Ai T.z219 T.k261)) (Ai (Ai T.k262 Tryz.ntmps249) (Ai @Tryz.underlying4 T.c4))) (Ai (Ai T.g4 (Ai T.b4 T.z4)) (Ai (Ai T.k249 T.k217) (Ai Tryz.ntmps218 T.k218)))) (Ai (Ai (Ai Tryz.ntmps211 (Ai T.k211 Tryz.ntmps145)) (Ai (Ai Tryz.ntmps146 Tryz.ntmps153) (Ai Tryz.ntmps152 T.k152))) (Ai (Ai (Ai Tryz.ntmps134 Tryz.ntmps144) (Ai T.k144 Tryz.ntmps78)) (Ai (Ai T.k78 Tryz.ntmps73) (Ai @Tryz.underlying22 T.c22)))))) (Ai (Ai (Ai (Ai (Ai T.g22 (Ai T.b22 T.z22)) (Ai (Ai T.s22 Tryz.ntmps184) (Ai @Tryz.underlying235 T.c235))) (Ai (Ai T.g235 (Ai T.b235 T.z235)) (Ai (Ai T.h235 T.f235_0) (Ai T.f235_1 Tryz.ntmps195)))) (Ai (Ai (Ai Tryz.ntmps109 (Ai @Tryz.underlying154 T.c154)) (Ai (Ai T.g154 T.b154) (Ai T.z154 T.p154))) (Ai (Ai (Ai T.k195 Tryz.ntmps229) (Ai T.k229 Tryz.ntmps168)) (Ai (Ai Tryz.ntmps215 Tryz.ntmps111) (Ai Tryz.ntmps241 T.k241))))) (Ai (Ai (Ai (Ai Tryz.ntmps194 (Ai T.k194 Tryz.ntmps110)) (Ai (Ai T.k184 Tryz.ntmps113) (Ai @Tryz.underlying27 T.c27))) (Ai (Ai T.g27 (Ai T.b27 T.z27)) (Ai (Ai @Tryz.underlying228 T.c228) (Ai T.g228 T.b228)))) (Ai (Ai (Ai T.z228 (Ai T.h228 T.f228_0)) (Ai (Ai T.f228_1 Tryz.ntmps100) (Ai Tryz.ntmps240 @Tryz.underlying141))) (Ai (Ai (Ai T.c141 T.g141) (Ai T.b141 T.z141)) (Ai (Ai T.p141 T.k240) (Ai Tryz.ntmps186 Tryz.ntmps239))))))) (Ai (Ai (Ai (Ai (Ai (Ai T.k186 (Ai Tryz.ntmps187 Tryz.ntmps102)) (Ai (Ai T.k239 Tryz.ntmps185) (Ai T.k185 Tryz.ntmps101))) (Ai (Ai Tryz.ntmps190 (Ai Tryz.ntmps188 Tryz.ntmps104)) (Ai (Ai @Tryz.underlying9 T.c9) (Ai T.g9 T.b9)))) (Ai (Ai (Ai T.z9 (Ai Tryz.ntmps150 T.k150)) (Ai (Ai Tryz.ntmps119 Tryz.ntmps141) (Ai Tryz.ntmps138 Tryz.ntmps88))) (Ai (Ai (Ai @Tryz.underlying39 T.c39) (Ai T.g39 T.b39)) (Ai (Ai T.z39 T.s39) (Ai Tryz.ntmps197 Tryz.ntmps20))))) (Ai (Ai (Ai (Ai @Tryz.underlying69 (Ai T.c69 T.g69)) (Ai (Ai T.b69 T.z69) (Ai T.h69 T.f69_0))) (Ai (Ai T.f69_1 (Ai T.f69_2 T.f69_3)) (Ai (Ai T.f69_4 T.k88) (Ai T.k197 Tryz.ntmps116)))) (Ai (Ai (Ai T.k20 (Ai Tryz.ntmps60 Tryz.ntmps137)) (Ai (Ai T.k141 Tryz.ntmps136) (Ai T.k137 T.k136))) (Ai (Ai (Ai T.k116 Tryz.ntmps57) (Ai T.k60 T.k138)) (Ai (Ai Tryz.ntmps59 T.k110) (Ai T.k111 T.k168)))))) (Ai (Ai (Ai (Ai (Ai T.k57 (Ai Tryz.ntmps196 T.k119)) (Ai (Ai Tryz.ntmps151 T.k188) (Ai T.k101 T.k102))) (Ai (Ai T.k187 (Ai T.k190 Tryz.ntmps189)) (Ai (Ai @Tryz.underlying26 T.c26) (Ai T.g26 T.b26)))) (Ai (Ai (Ai T.z26 (Ai T.s26 T.k134)) (Ai (Ai Tryz.ntmps82 T.k82) (Ai Tryz.ntmps84 T.k84))) (Ai (Ai (Ai Tryz.ntmps86 Tryz.ntmps85) (Ai Tryz.ntmps219 T.k219)) (Ai (Ai Tryz.ntmps155 Tryz.ntmps154) (Ai T.k155 T.k153))))) (Ai (Ai (Ai (Ai Tryz.ntmps83 (Ai T.k83 T.k85)) (Ai (Ai T.k86 Tryz.ntmps24) (Ai T.k196 T.k24))) (Ai (Ai Tryz.ntmps112 (Ai Tryz.ntmps65 Tryz.ntmps74)) (Ai (Ai T.k74 Tryz.ntmps75) (Ai Tryz.ntmps72 T.k75)))) (Ai (Ai (Ai T.k72 (Ai T.k65 T.k59)) (Ai (Ai T.k73 Tryz.ntmps17) (Ai Tryz.ntmps95 Tryz.ntmps13))) (Ai (Ai (Ai Tryz.ntmps257 T.k257) (Ai Tryz.ntmps234 Tryz.ntmps256)) (Ai (Ai Tryz.ntmps181 @Tryz.underlying222) (Ai T.c222 T.g222)))))))) (Ai (Ai (Ai (Ai (Ai (Ai (Ai T.b222 (Ai T.z222 T.s222)) (Ai (Ai Tryz.ntmps179 @Tryz.underlying265) (Ai T.c265 T.g265))) (Ai (Ai T.b265 (Ai T.k256 Tryz.ntmps233)) (Ai (Ai @Tryz.underlying214 T.c214) (Ai T.g214 T.b214)))) (Ai (Ai (Ai T.z214 (Ai T.k234 T.k233)) (Ai (Ai Tryz.ntmps175 Tryz.ntmps232) (Ai @Tryz.underlying83 T.c83))) (Ai (Ai (Ai T.g83 T.b83) (Ai T.z83 T.s83)) (Ai (Ai T.k232 Tryz.ntmps174) (Ai Tryz.ntmps173 Tryz.ntmps231))))) (Ai (Ai (Ai (Ai Tryz.ntmps172 (Ai T.k175 T.k173)) (Ai (Ai T.k172 T.k174) (Ai Tryz.ntmps94 Tryz.ntmps180))) (Ai (Ai T.k181 (Ai T.k179 T.k180)) (Ai (Ai Tryz.ntmps97 T.k215) (Ai Tryz.ntmps214 Tryz.ntmps216)))) (Ai (Ai (Ai T.k113 (Ai T.k109 Tryz.ntmps213)) (Ai (Ai T.k213 T.k94) (Ai Tryz.ntmps148 Tryz.ntmps149))) (Ai (Ai (Ai T.k97 T.k151) (Ai Tryz.ntmps80 Tryz.ntmps81)) (Ai (Ai T.k148 T.k149) (Ai T.k145 T.k77)))))) (Ai (Ai (Ai (Ai (Ai T.k146 (Ai Tryz.ntmps77 T.k22)) (Ai (Ai T.k80 T.k81) (Ai Tryz.ntmps22 Tryz.ntmps19))) (Ai (Ai T.k19 (Ai Tryz.ntmps70 Tryz.ntmps71)) (Ai (Ai Tryz.ntmps210 T.k95) (Ai T.k210 Tryz.ntmps143)))) (Ai (Ai (Ai T.k143 (Ai Tryz.ntmps69 T.k189)) (Ai (Ai Tryz.ntmps103 Tryz.ntmps118) (Ai Tryz.ntmps56 T.k56))) (Ai (Ai (Ai Tryz.ntmps11 Tryz.ntmps99) (Ai @Tryz.underlying48 T.c48)) (Ai (Ai T.g48 T.b48) (Ai T.z48 T.h48))))) (Ai (Ai (Ai (Ai T.f48_0 (Ai T.f48_1 T.f48_2)) (Ai (Ai T.f48_3 T.f48_4) (Ai T.k99 Tryz.ntmps33))) (Ai (Ai T.k17 (Ai Tryz.ntmps41 T.k13)) (Ai (Ai Tryz.ntmps32 T.k11) (Ai Tryz.ntmps36 T.k100)))) (Ai (Ai (Ai T.k33 (Ai T.k103 T.k104)) (Ai (Ai Tryz.ntmps34 Tryz.ntmps157) (Ai Tryz.ntmps158 @Tryz.underlying71))) (Ai (Ai (Ai T.c71 T.g71) (Ai T.b71 T.z71)) (Ai (Ai T.h71 T.f71_0) (Ai T.f71_1 T.f71_2))))))) (Ai (Ai (Ai (Ai (Ai (Ai T.f71_3 (Ai T.f71_4 T.k157)) (Ai (Ai T.k158 Tryz.ntmps156) (Ai @Tryz.underlying124 T.c124))) (Ai (Ai T.g124 (Ai T.b124 T.z124)) (Ai (Ai T.s124 @Tryz.underlying126) (Ai T.c126 T.g126)))) (Ai (Ai (Ai T.b126 (Ai T.z126 T.h126)) (Ai (Ai @Tryz.underlying128 T.c128) (Ai T.g128 T.b128))) (Ai (Ai (Ai T.z128 T.h128) (Ai T.f126_0 T.f126_1)) (Ai (Ai T.f128_0 T.f128_1) (Ai Tryz.ntmps220 @Tryz.underlying49))))) (Ai (Ai (Ai (Ai T.c49 (Ai T.g49 T.b49)) (Ai (Ai T.z49 T.s49) (Ai @Tryz.underlying50 T.c50))) (Ai (Ai T.g50 (Ai T.b50 T.z50)) (Ai (Ai T.s50 @Tryz.underlying52) (Ai T.c52 T.g52)))) (Ai (Ai (Ai T.b52 (Ai T.z52 T.h52)) (Ai (Ai @Tryz.underlying54 T.c54) (Ai T.g54 T.b54))) (Ai (Ai (Ai T.z54 T.h54) (Ai T.f52_0 T.f52_1)) (Ai (Ai T.f52_2 T.f54_4) (Ai T.f54_5 T.k220)))))) (Ai (Ai (Ai (Ai (Ai Tryz.ntmps159 (Ai T.f54_0 T.f54_1)) (Ai (Ai T.f54_2 T.f54_3) (Ai T.f54_6 T.f54_7))) (Ai (Ai T.k156 (Ai T.k159 Tryz.ntmps87)) (Ai (Ai T.k147 T.k160) (Ai Tryz.ntmps89 T.k89)))) (Ai (Ai (Ai T.k69 (Ai T.k87 Tryz.ntmps28)) (Ai (Ai T.k163 T.k164) (Ai Tryz.ntmps91 T.k28))) (Ai (Ai (Ai T.k92 T.k93) (Ai T.k91 Tryz.ntmps30)) (Ai (Ai T.k36 T.k30) (Ai Tryz.ntmps25 Tryz.ntmps115))))) (Ai (Ai (Ai (Ai T.k115 (Ai Tryz.ntmps42 T.k112)) (Ai (Ai Tryz.ntmps38 Tryz.ntmps114) (Ai T.k70 T.k114))) (Ai (Ai (Ai Tryz.ntmps39 Tryz.ntmps40) (Ai Tryz.ntmps117 T.k118)) (Ai (Ai T.k117 Tryz.ntmps43) (Ai T.k71 Tryz.ntmps44)))) (Ai (Ai (Ai Tryz.ntmps45 (Ai Tryz.ntmps26 T.k42)) (Ai (Ai T.k25 T.k38) (Ai T.k41 T.k26))) (Ai (Ai (Ai T.k40 T.k45) (Ai T.k34 T.k43)) (Ai (Ai T.k39 T.k32) (Ai T.k44 Tryz.ntmps8))))))))))
theorem DM : type_of% (Ai @AXq_nil @AXq_cons) :=
  (Ai @AXq_nil @AXq_cons)
section
variable {P : Program} {Γ : Nat→List AV} {N : Nat} {Q : Exit→Env→AS→Prop} {E E' : Env} {s s' : AS} {id : Nat} {L : List Oper} {x y : Code} {c : Operand} {H Z : Prop} {O : Array Oper} {W : Env→AS→Prop} {M : (Env→AS→Prop)→Prop} {f : FuncId} {ags : List AV} {v : AV} {s0 s2 : AS} {E2 : AS→Env} {s3 : AS→AS}
theorem jA (k : AWp P Γ N y Q E' s') (h : ∀ K : Env→AS→Prop,K E' s'→AY P Γ N L.toArray L K E s:=by (intro K hK; simp only [↓DN,Qa,Qb,Qc,Qd,Qe,Qf,Qg,Qh,reduceCtorEq,↓reduceIte,Na,Nb,Nc,Nk,Nf,Ng,Nh,Za,Zb,Zc,TT]; exact hK)) : AWp P Γ N (.seq (.region id L.toArray false) y) Q E s:=wS fun K hK=>h K (hK _ _ k)
theorem jB (a : H) (k : AWp P Γ N y Q E' s') (h : H→∀ K : Env→AS→Prop,K E' s'→AY P Γ N L.toArray L K E s:=by (intro a K hK; simp only [↓DN,Qa,Qb,Qc,Qd,Qe,Qf,Qg,Qh,reduceCtorEq,↓reduceIte,Na,Nb,Nc,Nk,Nf,Ng,Nh,Za,Zb,Zc,TT,a]; exact hK)) : AWp P Γ N (.seq (.region id L.toArray false) y) Q E s:=wS fun K hK=>h a K (hK _ _ k)
theorem jC (k : Q .normal E' s') (h : ∀ K : Env→AS→Prop,K E' s'→AY P Γ N L.toArray L K E s:=by (intro K hK; simp only [↓DN,Qa,Qb,Qc,Qd,Qe,Qf,Qg,Qh,reduceCtorEq,↓reduceIte,Na,Nb,Nc,Nk,Nf,Ng,Nh,Za,Zb,Zc,TT]; exact hK)) : AWp P Γ N (.region id L.toArray false) Q E s:=wE fun K hK=>h K (hK _ _ k)
theorem jD (a : H) (k : Q .normal E' s') (h : H→∀ K : Env→AS→Prop,K E' s'→AY P Γ N L.toArray L K E s:=by (intro a K hK; simp only [↓DN,Qa,Qb,Qc,Qd,Qe,Qf,Qg,Qh,reduceCtorEq,↓reduceIte,Na,Nb,Nc,Nk,Nf,Ng,Nh,Za,Zb,Zc,TT,a]; exact hK)) : AWp P Γ N (.region id L.toArray false) Q E s:=wE fun K hK=>h a K (hK _ _ k)
theorem jE (k : AWp P Γ N x Q E s) (h : ∀ X Y : Prop,X→match aeval Γ E c with | .v (.bool t)=>(t = true→X)∧(t = false→Y) | _=>False:=by (intro X Y hX; simp only [UP,DF,Nc,↓reduceIte,DB]; exact hX)) : AWp P Γ N (.cond c x y) Q E s:=wC fun X Y hX hY=>h X Y (hX k)
theorem jF (k : AWp P Γ N y Q E s) (h : ∀ X Y : Prop,Y→match aeval Γ E c with | .v (.bool t)=>(t = true→X)∧(t = false→Y) | _=>False:=by (intro X Y hX; simp only [UP,DF,Nc,↓reduceIte,DB]; exact hX)) : AWp P Γ N (.cond c x y) Q E s:=wC fun X Y hX hY=>h X Y (hY k)
theorem jG (a : H) (k : AWp P Γ N x Q E s) (h : H→∀ X Y : Prop,X→match aeval Γ E c with | .v (.bool t)=>(t = true→X)∧(t = false→Y) | _=>False:=by (intro a X Y hX; simp only [UP,DF,Nc,↓reduceIte,DB,a]; exact hX)) : AWp P Γ N (.cond c x y) Q E s:=wC fun X Y hX hY=>h a X Y (hX k)
theorem jH (a : H) (k : AWp P Γ N y Q E s) (h : H→∀ X Y : Prop,Y→match aeval Γ E c with | .v (.bool t)=>(t = true→X)∧(t = false→Y) | _=>False:=by (intro a X Y hX; simp only [UP,DF,Nc,↓reduceIte,DB,a]; exact hX)) : AWp P Γ N (.cond c x y) Q E s:=wC fun X Y hX hY=>h a X Y (hY k)
theorem jI (k : Z) (h : Z→Q .ret E s:=by (intro hz; (try simp only [thenQ,blockQ]); simp only [retQ,AEnds,aresL,ares,List.toList_toArray,↓upd_same]; (try simp only [UP,DF,Nc,↓reduceIte,DT]); exact hz)) : AWp P Γ N .ret Q E s:=awp_ret (h k)
theorem jJ (h : Q .ret E s:=by ((try simp only [thenQ,blockQ]); simp only [retQ,AEnds,aresL,ares,List.toList_toArray,↓upd_same]; (try simp only [UP,DF,Nc,↓reduceIte,DT]); exact ⟨_,_,AV.weak.refl _,AS.le.refl _,rfl,rfl⟩)) : AWp P Γ N .ret Q E s:=awp_ret h
theorem jK (a : ACalls P Γ f ags s0 fun r s'=>r = v∧s' = s2) (k : ∀ s1,s1 = s2→AWp P Γ N y Q (E2 s1) (s3 s1)) (h : (ACalls P Γ f ags s0 fun r s'=>r = v∧s' = s2)→∀ K : Env→AS→Prop,(∀ s1,s1 = s2→K (E2 s1) (s3 s1))→AY P Γ N L.toArray L K E s:=by (intro a K hK; simp only [↓DN,Qa,Qb,Qc,Qd,Qe,Qf,Qg,Qh,reduceCtorEq,↓reduceIte,Na,Nb,Nc,Nk,Nf,Ng,Nh,Za,Zb,Zc,TT]; refine acallk a ?_; rintro _ s1 ⟨rfl,e⟩; simp only [↓DM,pval,DX,Nz,↓DN,Qa,Qb,Qc,Qd,Qe,Qf,Qg,Qh,reduceCtorEq,↓reduceIte,Na,Nb,Nc,Nk,Nf,Ng,Nh,Za,Zb,Zc,TT]; exact hK s1 e)) : AWp P Γ N (.seq (.region id L.toArray false) y) Q E s:=wS fun K hK=>h a K fun s1 e=>hK _ _ (k s1 e)
theorem jL (a : ACalls P Γ f ags s0 fun r s'=>r = v∧s' = s2) (k : ∀ s1,s1 = s2→Q .normal (E2 s1) (s3 s1)) (h : (ACalls P Γ f ags s0 fun r s'=>r = v∧s' = s2)→∀ K : Env→AS→Prop,(∀ s1,s1 = s2→K (E2 s1) (s3 s1))→AY P Γ N L.toArray L K E s:=by (intro a K hK; simp only [↓DN,Qa,Qb,Qc,Qd,Qe,Qf,Qg,Qh,reduceCtorEq,↓reduceIte,Na,Nb,Nc,Nk,Nf,Ng,Nh,Za,Zb,Zc,TT]; refine acallk a ?_; rintro _ s1 ⟨rfl,e⟩; simp only [↓DM,pval,DX,Nz,↓DN,Qa,Qb,Qc,Qd,Qe,Qf,Qg,Qh,reduceCtorEq,↓reduceIte,Na,Nb,Nc,Nk,Nf,Ng,Nh,Za,Zb,Zc,TT]; exact hK s1 e)) : AWp P Γ N (.region id L.toArray false) Q E s:=wE fun K hK=>h a K fun s1 e=>hK _ _ (k s1 e)
theorem jQ (k : ∀ K : Env→AS→Prop,(∀ E s,AWp P Γ N y Q E s→K E s)→M K) (h : ∀ K : Env→AS→Prop,M K→AY P Γ N L.toArray L K E s:=by (intro K hz; simp only [↓DN,Qa,Qb,Qc,Qd,Qe,Qf,Qg,Qh,reduceCtorEq,↓reduceIte,Na,Nb,Nc,Nk,Nf,Ng,Nh,Za,Zb,Zc,TT]; exact hz)) : AWp P Γ N (.seq (.region id L.toArray false) y) Q E s:=wS fun K hK=>h K (k K hK)
theorem jS (a : H) (k : ∀ K : Env→AS→Prop,(∀ E s,AWp P Γ N y Q E s→K E s)→M K) (h : H→∀ K : Env→AS→Prop,M K→AY P Γ N L.toArray L K E s:=by (intro a K hz; simp only [↓DN,Qa,Qb,Qc,Qd,Qe,Qf,Qg,Qh,reduceCtorEq,↓reduceIte,Na,Nb,Nc,Nk,Nf,Ng,Nh,Za,Zb,Zc,TT,a]; exact hz)) : AWp P Γ N (.seq (.region id L.toArray false) y) Q E s:=wS fun K hK=>h a K (k K hK)
theorem jT (k : ∀ K : Env→AS→Prop,(∀ E s,Q .normal E s→K E s)→M K) (h : ∀ K : Env→AS→Prop,M K→AY P Γ N L.toArray L K E s:=by (intro K hz; simp only [↓DN,Qa,Qb,Qc,Qd,Qe,Qf,Qg,Qh,reduceCtorEq,↓reduceIte,Na,Nb,Nc,Nk,Nf,Ng,Nh,Za,Zb,Zc,TT]; exact hz)) : AWp P Γ N (.region id L.toArray false) Q E s:=wE fun K hK=>h K (k K hK)
theorem jU (a : H) (k : ∀ K : Env→AS→Prop,(∀ E s,Q .normal E s→K E s)→M K) (h : H→∀ K : Env→AS→Prop,M K→AY P Γ N L.toArray L K E s:=by (intro a K hz; simp only [↓DN,Qa,Qb,Qc,Qd,Qe,Qf,Qg,Qh,reduceCtorEq,↓reduceIte,Na,Nb,Nc,Nk,Nf,Ng,Nh,Za,Zb,Zc,TT,a]; exact hz)) : AWp P Γ N (.region id L.toArray false) Q E s:=wE fun K hK=>h a K (k K hK)
theorem jR {K : Env→AS→Prop} (hK : ∀ E s,W E s→K E s) (k : W E' s') (h : K E' s'→Z:=by (intro hK; simp only [↓DM,pval,DX,Nz,↓DN,Qa,Qb,Qc,Qd,Qe,Qf,Qg,Qh,reduceCtorEq,↓reduceIte,Na,Nb,Nc,Nk,Nf,Ng,Nh,Za,Zb,Zc,TT]; exact hK)) : Z:=h (hK _ _ k)
theorem jV {K : Env→AS→Prop} (a : H) (hK : ∀ E s,W E s→K E s) (k : W E' s') (h : H→K E' s'→Z:=by (intro a hK; simp only [↓DM,pval,DX,Nz,↓DN,Qa,Qb,Qc,Qd,Qe,Qf,Qg,Qh,reduceCtorEq,↓reduceIte,Na,Nb,Nc,Nk,Nf,Ng,Nh,Za,Zb,Zc,TT,a]; exact hK)) : Z:=h a (hK _ _ k)
end
end Go.Proofs.YtfjlmkifiihgkaaGreatDoor
namespace Go.AM
open Go
theorem take_be {k n : Nat} (m : List UInt8) : (be k n ++ m).take k = be k n:=by
  rw [List.take_append_of_le_length (by simp),List.take_of_length_le (by simp)]
theorem drop_be {k n : Nat} (m : List UInt8) : (be k n ++ m).drop k = m:=by
  rw [List.drop_append_of_le_length (by simp),List.drop_eq_nil_of_le (by simp)]; rfl
theorem eyeNum_be {k n : Nat} {rest : List UInt8} (h : n < 256 ^ k) : eyeNum k (be k n ++ rest,0) = (n,rest,0):=by
  rw [eyeNum_ok (by simp),take_be,drop_be,beNat_be k n h]
theorem eyeText_be {k : Nat} {m rest : List UInt8} {most : Int} (h : m.length < 256 ^ k) (hm : (m.length : Int)≤most) : eyeText k most (be k m.length ++ m ++ rest,0) = (m,rest,0):=by
  unfold eyeText
  rw [List.append_assoc,eyeNum_be h]
  refine (if_pos rfl).trans ((if_neg (by simp only; omega)).trans ((if_neg (by simp)).trans ?_))
  simp only
  rw [eyeNext_ok (by simp),List.take_left,List.drop_left]
end Go.AM
namespace Go.AM
open Go
def intC (n : Int) : AV:=.v (.int .i64 n)
def intsV (l : List Int) (sp : Sp) : AV:=.sl 1 l.length (l.map intC) sp
theorem eat_int {l : List Int} {i : Nat} (h : i < l.length) : List.take 1 (List.drop i (l.map intC)) = [.v (.int .i64 l[i])]:=by
  rw [List.drop_eq_getElem_cons (by simpa using h)]
  simp [intC]
theorem IsTy.ints {avs : List AV} (h : IsTy (.slice 1 tyI) avs) : ∃ l : List Int,avs = [intsV l .any]:=by
  obtain ⟨els,rfl,_,hall⟩:=IsTy.rows h
  have key : ∀ els : List (List AV),(∀ el ∈ els,el.length = 1∧IsTy tyI el)→∃ l : List Int,l.length = els.length∧els.flatten = l.map intC:=by
    intro els
    induction els with
    | nil=>intro _; exact ⟨[],rfl,rfl⟩
    | cons e els ih =>
      intro h
      obtain ⟨l,h1,h2⟩:=ih (fun el hel=>h el (by simp [hel]))
      obtain ⟨_,t⟩:=h e (by simp)
      obtain ⟨n,rfl,_⟩:=isTy_int t
      exact ⟨n :: l,by simp [h1],by simp [h2,intC]⟩
  obtain ⟨l,h1,h2⟩:=key els hall
  exact ⟨l,by rw [← h1,h2]; rfl⟩
theorem take_eq_succ {α : Type} {a b : List α} {i : Nat} (ha : i < a.length) (hb : i < b.length) (h : a.take i = b.take i) (e : a[i] = b[i]) : a.take (i + 1) = b.take (i + 1):=by
  rw [List.take_succ_eq_append_getElem ha,List.take_succ_eq_append_getElem hb,h,e]
structure NodeV where
  kind : Int
  name : List UInt8
  key : Nat
  parent : List UInt8
  unm : List Int
  deriving DecidableEq
def NodeV.cells (n : NodeV) : List AV:=[.v (.int .i64 n.kind),bytesV n.name .any,.v (.int .u64 n.key),bytesV n.parent .any,intsV n.unm .any]
def NodeV.nought : NodeV:=⟨0,[],0,[],[]⟩
theorem node_eq_bool (k k' : Int) (m m' p p' : List UInt8) (y y' : Nat) (u u' : List Int) :
    decide ((⟨k,m,y,p,u⟩ : NodeV) = ⟨k',m',y',p',u'⟩) = ((k == k') && (((y : Int) == (y' : Int)) && (decide (m = m') && (decide (p = p') && decide (u = u'))))):=by
  rw [Bool.eq_iff_iff,decide_eq_true_iff]
  simp only [NodeV.mk.injEq,Bool.and_eq_true,beq_iff_eq,decide_eq_true_eq,Int.natCast_inj]
  constructor
  · rintro ⟨h1,h2,h3,h4,h5⟩
    exact ⟨h1,h3,h2,h4,h5⟩
  · rintro ⟨h1,h3,h2,h4,h5⟩
    exact ⟨h1,h2,h3,h4,h5⟩
theorem IsTy.node {avs : List AV} (h : IsTy (.struct (.cons tyI (.cons tyB (.cons (.int .u64) (.cons tyB (.cons (.slice 1 tyI) .nil)))))) avs) : ∃ N : NodeV,avs = N.cells∧N.key < 2 ^ 64:=by
  obtain ⟨x1,y1,rfl,t1,h⟩:=isF_cons (isTy_struct h)
  obtain ⟨x2,y2,rfl,t2,h⟩:=isF_cons h
  obtain ⟨x3,y3,rfl,t3,h⟩:=isF_cons h
  obtain ⟨x4,y4,rfl,t4,h⟩:=isF_cons h
  obtain ⟨x5,y5,rfl,t5,h⟩:=isF_cons h
  obtain rfl:=isF_nil h
  obtain ⟨n1,rfl,_⟩:=isTy_int t1
  obtain ⟨l2,rfl,_⟩:=t2.bytes
  obtain ⟨n3,rfl,w3⟩:=isTy_int t3
  obtain ⟨m3,rfl,h3⟩:=nat_u64 w3
  obtain ⟨l4,rfl,_⟩:=t4.bytes
  obtain ⟨l5,rfl⟩:=t5.ints
  exact ⟨⟨n1,l2,m3,l4,l5⟩,rfl,h3⟩
def okAt (l : List Int) (i : Nat) : Prop:=0≤l.getD i 0∧l.getD i 0 < 32∧(0 < i→l.getD (i - 1) 0 < l.getD i 0)
instance decOkAt (l : List Int) (i : Nat) : Decidable (okAt l i):=by unfold okAt; infer_instance
def Rising (l : List Int) : Prop:=∀ i,i < l.length→okAt l i
instance decRising (l : List Int) : Decidable (Rising l):=by unfold Rising; infer_instance
theorem okAt_of {l : List Int} {i : Nat} (h : i < l.length) (h1 : 0≤l[i]) (h2 : l[i] < 32) (h3 : ∀ k : 0 < i,l[i - 1] < l[i]) : okAt l i:=by
  unfold okAt
  have e : l.getD i 0 = l[i]:=by simp [List.getD,h]
  refine ⟨by rw [e]; exact h1,by rw [e]; exact h2,fun k=>?_⟩
  have e2 : l.getD (i - 1) 0 = l[i - 1]:=by simp [List.getD,show i - 1 < l.length by omega]
  rw [e,e2]
  exact h3 k
theorem okAt_get {l : List Int} {i : Nat} (h : i < l.length) (k : okAt l i) : 0≤l[i]∧l[i] < 32∧(∀ q : 0 < i,l[i - 1] < l[i]):=by
  unfold okAt at k
  have e : l.getD i 0 = l[i]:=by simp [List.getD,h]
  rw [e] at k
  refine ⟨k.1,k.2.1,fun q=>?_⟩
  have e2 : l.getD (i - 1) 0 = l[i - 1]:=by simp [List.getD,show i - 1 < l.length by omega]
  have:=k.2.2 q
  rwa [e2] at this
def NodeV.held (N : NodeV) : Prop:=2≤N.key∧N.key≤2305843009213693949∧(N.parent.length = 0∨N.parent.length = 32)
instance decNodeHeld (N : NodeV) : Decidable N.held:=by unfold NodeV.held; infer_instance
def NodeV.right (N : NodeV) : Prop :=
  if N.kind = 0 then N = NodeV.nought
  else if N.kind = 1 then (1≤N.name.length∧N.name.length≤16∧N.held∧N.unm.length = 0)
  else if N.kind = 2 then (N.name.length = 0∧N.held∧Rising N.unm)
  else False
instance decNodeRight (N : NodeV) : Decidable N.right:=by unfold NodeV.right; infer_instance
theorem right_zero {N : NodeV} (h : N.kind = 0) : N.right↔N = NodeV.nought:=by unfold NodeV.right; rw [if_pos h]
theorem right_one {N : NodeV} (h : N.kind = 1) : N.right↔(1≤N.name.length∧N.name.length≤16∧N.held∧N.unm.length = 0):=by unfold NodeV.right; rw [if_neg (by omega),if_pos h]
theorem right_two {N : NodeV} (h : N.kind = 2) : N.right↔(N.name.length = 0∧N.held∧Rising N.unm):=by unfold NodeV.right; rw [if_neg (by omega),if_neg (by omega),if_pos h]
theorem right_else {N : NodeV} (h0 : N.kind≠0) (h1 : N.kind≠1) (h2 : N.kind≠2) : ¬ N.right:=by unfold NodeV.right; rw [if_neg h0,if_neg h1,if_neg h2]; exact id
end Go.AM
namespace Go.AM
open Go
structure Rec where
  kind : Int
  group : List UInt8
  epoch : Int
  time : Int
  bucket : Int
  body : List UInt8
  tree : List UInt8
  script : List UInt8
  wrapped : List UInt8
  deriving DecidableEq
def Rec.cells (r : Rec) : List AV:=[.v (.int .i64 r.kind),bytesV r.group .any,.v (.int .i64 r.epoch),.v (.int .i64 r.time),.v (.int .i64 r.bucket),bytesV r.body .any,bytesV r.tree .any,bytesV r.script .any,bytesV r.wrapped .any]
def Rec.nought : Rec:=⟨0,[],0,0,0,[],[],[],[]⟩
def Rec.right (r : Rec) : Prop :=
  1≤r.kind∧r.kind≤3∧1≤r.group.length∧r.group.length≤16∧0≤r.epoch∧r.epoch≤1048576∧0≤r.time∧r.time≤1099511627776∧0≤r.bucket∧r.bucket≤1099511627776∧r.body.length≤60000 ∧
    r.tree.length = (if r.kind = 3 then 0 else 32)∧r.script.length = (if r.kind = 3 then 0 else 32)∧r.wrapped.length = (if r.kind = 3 then 0 else 48)
instance (r : Rec) : Decidable r.right:=by unfold Rec.right; infer_instance
def Rec.text (r : Rec) : List UInt8 :=
  be 1 r.kind.toNat ++ (be 1 r.group.length ++ r.group ++ (be 8 r.epoch.toNat ++ (be 8 r.time.toNat ++ (be 8 r.bucket.toNat ++
    (be 2 r.body.length ++ r.body ++ (be 1 r.tree.length ++ r.tree ++ (be 1 r.script.length ++ r.script ++ (be 1 r.wrapped.length ++ r.wrapped ++ []))))))))
theorem i64_back (x : Int) (h : 0≤x) (k : x < 2 ^ 62) : iconv .i64 ((x.toNat : Nat) : Int) = x:=by
  rw [i64_conv (by omega)]; omega
end Go.AM
namespace Go.AM
open Go
theorem penNum_raw (k n : Nat) (st : List UInt8 × Bool) : penNum k n st = penRaw (be k n) st:=rfl
theorem penSmall_raw {k n : Nat} (h : n < 256 ^ k) (st : List UInt8 × Bool) : penSmall k (n : Int) st = penRaw (be k n) st:=by
  have e : (256 : Nat) ^ k = 2 ^ (8 * k):=by rw [Nat.pow_mul]
  have hh : (n : Int) < 2 ^ (8 * k):=by
    rw [e] at h
    exact_mod_cast h
  unfold penSmall
  rw [if_pos ⟨by omega,hh⟩]
  simp only [Int.toNat_natCast,penNum_raw]
theorem penRaw_raw (a b : List UInt8) (st : List UInt8 × Bool) : penRaw a (penRaw b st) = penRaw (b ++ a) st:=by
  unfold penRaw
  by_cases h : st.2 = true
  · simp [h]
  · simp [h]
theorem penText_raw {k : Nat} {m : List UInt8} (h : m.length < 256 ^ k) (st : List UInt8 × Bool) : penText k m st = penRaw (be k m.length ++ m) st:=by
  unfold penText
  rw [penSmall_raw h,penRaw_raw]
def intsText (l : List Int) : List UInt8:=(l.map fun x=>be 1 x.toNat).flatten
def NodeV.text (N : NodeV) : List UInt8 :=
  if N.kind = 0 then be 1 0
  else if N.kind = 1 then be 1 1 ++ (be 1 N.name.length ++ N.name) ++ be 8 N.key ++ (be 1 N.parent.length ++ N.parent)
  else be 1 2 ++ be 8 N.key ++ (be 1 N.parent.length ++ N.parent) ++ be 1 N.unm.length ++ intsText N.unm
def eyeInts : Nat→EyeSt→List Int × EyeSt
  | 0,st=>([],st)
  | n + 1,st=>((eyeInts n st).1 ++ [((eyeNum 1 (eyeInts n st).2).1 : Int)],(eyeNum 1 (eyeInts n st).2).2)
theorem eyeInts_len : ∀ (n : Nat) (st : EyeSt),(eyeInts n st).1.length = n
  | 0,_=>rfl
  | n + 1,st=>by simp [eyeInts,eyeInts_len n st]
theorem eyeInts_left : ∀ (n : Nat) (st : EyeSt),(eyeInts n st).2.1.length≤st.1.length
  | 0,_=>Nat.le_refl _
  | n + 1,st=>Nat.le_trans (eyeNum_len _ _) (eyeInts_left n st)
def nodeB (k : Nat) (st : EyeSt) : List UInt8 × EyeSt:=if k = 1 then eyeText 1 16 st else ([],st)
def nodeC (k : Nat) (st : EyeSt) : Nat × EyeSt:=if k = 1∨k = 2 then eyeNum 8 st else (0,st)
def nodeD (k : Nat) (st : EyeSt) : List UInt8 × EyeSt:=if k = 1∨k = 2 then eyeText 1 32 st else ([],st)
def nodeE (k : Nat) (st : EyeSt) : List Int × EyeSt:=if k = 2 then eyeInts (eyeNum 1 st).1 (eyeNum 1 st).2 else ([],st)
def nodeF (N : NodeV) (st : EyeSt) : EyeSt:=(st.1,if ¬ N.right∧st.2 = 0 then 12 else st.2)
def nodeRaw (st : EyeSt) : NodeV × EyeSt :=
  let a:=eyeNum 1 st
  let b:=nodeB a.1 a.2
  let c:=nodeC a.1 b.2
  let d:=nodeD a.1 c.2
  let e:=nodeE a.1 d.2
  (⟨a.1,b.1,c.1,d.1,e.1⟩,e.2)
def nodeRead (st : EyeSt) : NodeV × EyeSt :=
  let q:=nodeRaw st
  (if (nodeF q.1 q.2).2 = 0 then q.1 else NodeV.nought,nodeF q.1 q.2)
theorem nodeB_left (k : Nat) (st : EyeSt) : (nodeB k st).2.1.length≤st.1.length:=by
  unfold nodeB; split
  · exact (eyeText_len _ _ _).2
  · exact Nat.le_refl _
theorem nodeC_left (k : Nat) (st : EyeSt) : (nodeC k st).2.1.length≤st.1.length:=by
  unfold nodeC; split
  · exact eyeNum_len _ _
  · exact Nat.le_refl _
theorem nodeD_left (k : Nat) (st : EyeSt) : (nodeD k st).2.1.length≤st.1.length:=by
  unfold nodeD; split
  · exact (eyeText_len _ _ _).2
  · exact Nat.le_refl _
theorem nodeE_left (k : Nat) (st : EyeSt) : (nodeE k st).2.1.length≤st.1.length:=by
  unfold nodeE; split
  · exact Nat.le_trans (eyeInts_left _ _) (eyeNum_len _ _)
  · exact Nat.le_refl _
theorem nodeE_len (k : Nat) (st : EyeSt) : (nodeE k st).1.length < 256:=by
  unfold nodeE; split
  · rw [eyeInts_len]; exact Nat.lt_of_lt_of_le (eyeNum_lt 1 _) (by decide)
  · simp
theorem nodeRead_left (st : EyeSt) : (nodeRead st).2.1.length≤st.1.length:=by
  simp only [nodeRead,nodeF,nodeRaw]
  exact Nat.le_trans (nodeE_left _ _) (Nat.le_trans (nodeD_left _ _) (Nat.le_trans (nodeC_left _ _) (Nat.le_trans (nodeB_left _ _) (eyeNum_len _ _))))
theorem nodeRead_unm (st : EyeSt) : (nodeRead st).1.unm.length < 256:=by
  simp only [nodeRead]
  split
  · exact nodeE_len _ _
  · simp [NodeV.nought]
theorem rising_at {l : List Int} (h : Rising l) : ∀ i,i < l.length→(i : Int)≤l.getD i 0
  | 0,k=>(h 0 k).1
  | i + 1,k=>by
    have:=rising_at h i (by omega)
    have h3:=(h (i + 1) k).2.2 (by omega)
    simp only [Nat.add_sub_cancel] at h3
    omega
theorem rising_len {l : List Int} (h : Rising l) : l.length≤32:=by
  by_cases k : l.length = 0
  · omega
  · have h1:=rising_at h (l.length - 1) (by omega)
    have h2:=(h (l.length - 1) (by omega)).2.1
    omega
theorem rising_mem {l : List Int} (h : Rising l) {x : Int} (hx : x ∈ l) : 0≤x∧x < 32:=by
  obtain ⟨i,hi,rfl⟩:=List.getElem_of_mem hx
  have:=okAt_get hi (h i hi)
  exact ⟨this.1,this.2.1⟩
theorem intsText_len : ∀ (l : List Int),(intsText l).length = l.length
  | []=>rfl
  | x :: l=>by
    have:=intsText_len l
    simp only [intsText,List.map_cons,List.flatten_cons,List.length_append,length_be,List.length_cons] at *
    omega
theorem intsText_snoc (l : List Int) (x : Int) : intsText (l ++ [x]) = intsText l ++ be 1 x.toNat:=by
  simp [intsText]
theorem eyeInts_text {l : List Int} (hl : ∀ x ∈ l,0≤x∧x < 256) (rest : List UInt8) : ∀ n,n≤l.length→eyeInts n (intsText l ++ rest,0) = (l.take n,(intsText (l.drop n) ++ rest,0))
  | 0,_=>by simp [eyeInts]
  | n + 1,h=>by
    have ih:=eyeInts_text hl rest n (by omega)
    have hn : n < l.length:=by omega
    have hx:=hl l[n] (List.getElem_mem hn)
    have e : intsText (l.drop n) = be 1 (l[n]).toNat ++ intsText (l.drop (n + 1)):=by
      rw [List.drop_eq_getElem_cons hn]
      simp only [intsText,List.map_cons,List.flatten_cons]
    have e2 : eyeNum 1 (intsText (l.drop n) ++ rest,0) = ((l[n]).toNat,intsText (l.drop (n + 1)) ++ rest,0):=by
      rw [e,List.append_assoc]
      exact eyeNum_be (by omega)
    simp only [eyeInts,ih,e2]
    rw [List.take_succ_eq_append_getElem hn]
    congr 2
    congr 1
    omega
theorem nought_right : NodeV.nought.right:=by decide
theorem node_kind {N : NodeV} (h : N.right) : N.kind = 0∨N.kind = 1∨N.kind = 2:=by
  unfold NodeV.right at h
  split at h
  · left; assumption
  · split at h
    · right; left; assumption
    · split at h
      · right; right; assumption
      · exact h.elim
theorem nodeRaw_text {N : NodeV} (h : N.right) (rest : List UInt8) : nodeRaw (N.text ++ rest,0) = (N,rest,0):=by
  obtain ⟨k,m,y,p,u⟩:=N
  rcases node_kind h with hk | hk | hk
  · have h1:=(right_zero hk).1 h
    rw [h1]
    have e1 : eyeNum 1 (be 1 0 ++ rest,0) = (0,rest,0):=eyeNum_be (by decide)
    simp only [nodeRaw,NodeV.text,NodeV.nought,if_true,e1,nodeB,nodeC,nodeD,nodeE]
    simp
  · obtain ⟨h1,h2,⟨h3,h4,h5⟩,h6⟩:=(right_one hk).1 h
    simp only at hk h1 h2 h3 h4 h5 h6
    subst hk
    obtain rfl : u = []:=List.eq_nil_of_length_eq_zero h6
    have et : NodeV.text ⟨1,m,y,p,[]⟩ ++ rest = be 1 1 ++ (be 1 m.length ++ m ++ (be 8 y ++ (be 1 p.length ++ p ++ rest))):=by
      simp [NodeV.text]
    have e1 : eyeNum 1 (be 1 1 ++ (be 1 m.length ++ m ++ (be 8 y ++ (be 1 p.length ++ p ++ rest))),0) = (1,_,0):=eyeNum_be (by decide)
    have e2 : eyeText 1 16 (be 1 m.length ++ m ++ (be 8 y ++ (be 1 p.length ++ p ++ rest)),0) = (m,_,0):=eyeText_be (by omega) (by omega)
    have e3 : eyeNum 8 (be 8 y ++ (be 1 p.length ++ p ++ rest),0) = (y,_,0):=eyeNum_be (by omega)
    have e4 : eyeText 1 32 (be 1 p.length ++ p ++ rest,0) = (p,rest,0):=eyeText_be (by omega) (by omega)
    rw [et]
    simp only [nodeRaw,e1,nodeB,nodeC,nodeD,nodeE,if_true,true_or,e2,e3,e4]
    simp
  · obtain ⟨h1,⟨h3,h4,h5⟩,h6⟩:=(right_two hk).1 h
    simp only at hk h1 h3 h4 h5 h6
    subst hk
    obtain rfl : m = []:=List.eq_nil_of_length_eq_zero h1
    have hu:=rising_len h6
    have et : NodeV.text ⟨2,[],y,p,u⟩ ++ rest = be 1 2 ++ (be 8 y ++ (be 1 p.length ++ p ++ (be 1 u.length ++ (intsText u ++ rest)))):=by
      simp [NodeV.text]
    have e1 : eyeNum 1 (be 1 2 ++ (be 8 y ++ (be 1 p.length ++ p ++ (be 1 u.length ++ (intsText u ++ rest)))),0) = (2,_,0):=eyeNum_be (by decide)
    have e3 : eyeNum 8 (be 8 y ++ (be 1 p.length ++ p ++ (be 1 u.length ++ (intsText u ++ rest))),0) = (y,_,0):=eyeNum_be (by omega)
    have e4 : eyeText 1 32 (be 1 p.length ++ p ++ (be 1 u.length ++ (intsText u ++ rest)),0) = (p,_,0):=eyeText_be (by omega) (by omega)
    have e5 : eyeNum 1 (be 1 u.length ++ (intsText u ++ rest),0) = (u.length,_,0):=eyeNum_be (by omega)
    have e6 : eyeInts u.length (intsText u ++ rest,0) = (u,rest,0):=by
      rw [eyeInts_text (fun x hx=>by have:=rising_mem h6 hx; omega) rest _ (Nat.le_refl _)]
      simp [intsText]
    rw [et]
    simp only [nodeRaw,e1,nodeB,nodeC,nodeD,nodeE,if_true,or_true,e3,e4,e5,e6,show ¬ (2 : Nat) = 1 from by decide,if_false]
    simp
theorem nodeRead_text {N : NodeV} (h : N.right) (rest : List UInt8) : nodeRead (N.text ++ rest,0) = (N,rest,0):=by
  simp only [nodeRead,nodeRaw_text h,nodeF,h,not_true_eq_false,false_and,if_false,if_true]
theorem NodeV.text_len {N : NodeV} (h : N.right) : N.text.length≤100:=by
  obtain ⟨k,m,y,p,u⟩:=N
  rcases node_kind h with hk | hk | hk
  · simp only at hk
    simp [NodeV.text,hk]
  · obtain ⟨h1,h2,⟨h3,h4,h5⟩,h6⟩:=(right_one hk).1 h
    simp only at hk h1 h2 h3 h4 h5 h6
    simp [NodeV.text,hk]
    omega
  · obtain ⟨h1,⟨h3,h4,h5⟩,h6⟩:=(right_two hk).1 h
    simp only at hk h1 h3 h4 h5 h6
    have hu:=rising_len h6
    simp [NodeV.text,hk,intsText_len]
    omega
structure RdS (s s1 : AS) (p o2 o3 : Nat) (ce z cs : List AV) : Prop where
  le : (s.drop p).le s1
  eye : s1.objs p = some ce
  res : s1.objs o2 = some z
  var : s1.objs o3 = some cs
  n2 : s.objs o2 = none
  n3 : s.objs o3 = none
  p2 : p≠o2
  p3 : p≠o3
  d : o2≠o3
theorem AS.drop_objs_none {s : AS} {p o : Nat} (h : s.objs o = none) : (s.drop p).objs o = none:=by
  simp only [AS.drop,upd]; split
  · rfl
  · exact h
theorem AS.drop_self (s : AS) (p : Nat) : (s.drop p).objs p = none:=by simp [AS.drop]
theorem RdS.setEye {s s1 : AS} {p o2 o3 : Nat} {ce z cs : List AV} (h : RdS s s1 p o2 o3 ce z cs) (ce' : List AV) : RdS s (s1.set p ce') p o2 o3 ce' z cs :=
  ⟨AS.le_set h.le (AS.drop_self _ _) _,AS.set_objs_same _ _ _,by rw [AS.set_objs_ne _ h.p2.symm]; exact h.res,by rw [AS.set_objs_ne _ h.p3.symm]; exact h.var,h.n2,h.n3,h.p2,h.p3,h.d⟩
theorem RdS.setRes {s s1 : AS} {p o2 o3 : Nat} {ce z cs : List AV} (h : RdS s s1 p o2 o3 ce z cs) (z' : List AV) : RdS s (s1.set o2 z') p o2 o3 ce z' cs :=
  ⟨AS.le_set h.le (AS.drop_objs_none h.n2) _,by rw [AS.set_objs_ne _ h.p2]; exact h.eye,AS.set_objs_same _ _ _,by rw [AS.set_objs_ne _ h.d.symm]; exact h.var,h.n2,h.n3,h.p2,h.p3,h.d⟩
theorem RdS.setVar {s s1 : AS} {p o2 o3 : Nat} {ce z cs : List AV} (h : RdS s s1 p o2 o3 ce z cs) (cs' : List AV) : RdS s (s1.set o3 cs') p o2 o3 ce z cs' :=
  ⟨AS.le_set h.le (AS.drop_objs_none h.n3) _,by rw [AS.set_objs_ne _ h.p3]; exact h.eye,by rw [AS.set_objs_ne _ h.d]; exact h.res,AS.set_objs_same _ _ _,h.n2,h.n3,h.p2,h.p3,h.d⟩
theorem RdS.gain {s s1 : AS} {p o2 o3 : Nat} {ce z cs : List AV} (h : RdS s s1 p o2 o3 ce z cs) {t : Nat} (ht : s.own t = none) (e : Nat) : RdS s (s1.gain t e) p o2 o3 ce z cs :=
  ⟨AS.le_gain h.le (by simpa [AS.drop] using ht) e,h.eye,h.res,h.var,h.n2,h.n3,h.p2,h.p3,h.d⟩
theorem RdS.out {s s1 : AS} {p o2 o3 : Nat} {ce z cs : List AV} (h : RdS s s1 p o2 o3 ce z cs) : (s.set p ce).le s1:=AS.set_le_of h.le h.eye
theorem RdS.own_none {s s1 : AS} {p o2 o3 : Nat} {ce z cs : List AV} (h : RdS s s1 p o2 o3 ce z cs) {t : Nat} (ht : s1.own t = none) : s.own t = none:=by
  cases h0 : s.own t with
  | none=>rfl
  | some e =>
    have:=h.le.own t e (by simpa [AS.drop] using h0)
    rw [ht] at this
    cases this
def IBuf (s0 s : AS) (x : AV) (l : List Int) : Prop:=(x = nilS∧l = [])∨∃ t e,x = intsV l (.own t e)∧s.own t = some e∧s0.own t = none
theorem IBuf.weak {s0 s : AS} {x : AV} {l : List Int} (h : IBuf s0 s x l) : x.weak (intsV l .any):=by
  rcases h with ⟨rfl,rfl⟩ | ⟨t,e,rfl,_,_⟩
  · exact AV.weak_nil
  · exact AV.weak_any
end Go.AM
namespace Go.AM
open Go
theorem some_neO {s : AS} {p o : Nat} {cs : List AV} (h : s.objs p = some cs) (k : s.objs o = none) : p≠o:=by
  rintro rfl
  rw [h] at k
  cases k
structure Rd4 (s s1 : AS) (p o2 o3 o4 : Nat) (ce z cs ds : List AV) : Prop where
  rd : RdS s s1 p o2 o3 ce z cs
  obj : s1.objs o4 = some ds
  n4 : s.objs o4 = none
  p4 : p≠o4
  d2 : o2≠o4
  d3 : o3≠o4
theorem Rd4.setEye {s s1 : AS} {p o2 o3 o4 : Nat} {ce z cs ds : List AV} (h : Rd4 s s1 p o2 o3 o4 ce z cs ds) (ce' : List AV) : Rd4 s (s1.set p ce') p o2 o3 o4 ce' z cs ds :=
  ⟨h.rd.setEye ce',by rw [AS.set_objs_ne _ h.p4.symm]; exact h.obj,h.n4,h.p4,h.d2,h.d3⟩
theorem RdS.setNew {s s1 : AS} {p o2 o3 o4 : Nat} {ce z cs : List AV} (h : RdS s s1 p o2 o3 ce z cs) (h4 : s1.objs o4 = none) (ds : List AV) : Rd4 s (s1.set o4 ds) p o2 o3 o4 ce z cs ds:=by
  have hp : p≠o4:=by rintro rfl; rw [h.eye] at h4; cases h4
  have h2 : o2≠o4:=by rintro rfl; rw [h.res] at h4; cases h4
  have h3 : o3≠o4:=by rintro rfl; rw [h.var] at h4; cases h4
  have hn : (s.drop p).objs o4 = none:=by
    cases e : (s.drop p).objs o4 with
    | none=>rfl
    | some x=>have:=h.le.objs _ _ e; rw [h4] at this; cases this
  have hn' : s.objs o4 = none:=by simpa [AS.drop,upd,hp.symm] using hn
  refine ⟨⟨AS.le_set h.le hn _,?_,?_,?_,h.n2,h.n3,h.p2,h.p3,h.d⟩,AS.set_objs_same _ _ _,hn',hp,h2,h3⟩
  · rw [AS.set_objs_ne _ hp]; exact h.eye
  · rw [AS.set_objs_ne _ h2]; exact h.res
  · rw [AS.set_objs_ne _ h3]; exact h.var
theorem Rd4.gain {s s1 : AS} {p o2 o3 o4 : Nat} {ce z cs ds : List AV} (h : Rd4 s s1 p o2 o3 o4 ce z cs ds) {t : Nat} (ht : s.own t = none) (e : Nat) : Rd4 s (s1.gain t e) p o2 o3 o4 ce z cs ds :=
  ⟨h.rd.gain ht e,h.obj,h.n4,h.p4,h.d2,h.d3⟩
theorem own_none_le {a b : AS} (h : a.le b) {t : Nat} (k : b.own t = none) : a.own t = none:=by
  cases e : a.own t with
  | none=>rfl
  | some x=>rw [h.own t x e] at k; cases k
theorem RdS.fresh {s s1 : AS} {p o2 o3 o5 : Nat} {ce z cs : List AV} (h : RdS s s1 p o2 o3 ce z cs) (h5 : s1.objs o5 = none) (ds : List AV) : RdS s (s1.set o5 ds) p o2 o3 ce z cs:=(h.setNew h5 ds).rd
theorem Rd4.fresh {s s1 : AS} {p o2 o3 o4 o5 : Nat} {ce z cs ds : List AV} (h : Rd4 s s1 p o2 o3 o4 ce z cs ds) (h5 : s1.objs o5 = none) (es : List AV) : Rd4 s (s1.set o5 es) p o2 o3 o4 ce z cs ds :=
  ⟨h.rd.fresh h5 es,by rw [AS.set_objs_ne _ (some_neO h.obj h5)]; exact h.obj,h.n4,h.p4,h.d2,h.d3⟩
end Go.AM
namespace Go.AM
open Go
def lvT : List Nat:=[0,1,0,2,0,1,0,3,0,1,0,2,0,1,0,4,0,1,0,2,0,1,0,3,0,1,0,2,0,1,0,5,0,1,0,2,0,1,0,3,0,1,0,2,0,1,0,4,0,1,0,2,0,1,0,3,0,1,0,2,0,1,0]
def lv (n : Nat) : Nat:=lvT.getD n 0
def lvI (x : Int) : Nat:=if 0≤x∧x < 63 then lv x.toNat else 0
def hf (n : Nat) : Nat:=2 ^ lv n / 2
def lo (n : Nat) : Nat:=(n - (2 ^ lv n - 1)) / 2
def hi (n : Nat) : Nat:=(n + (2 ^ lv n - 1)) / 2
def Fit (n : Nat) : Prop:=n = 1∨n = 2∨n = 4∨n = 8∨n = 16∨n = 32
instance (n : Nat) : Decidable (Fit n):=by unfold Fit; infer_instance
theorem Fit.le {n : Nat} (h : Fit n) : 1≤n∧n≤32:=by rcases h with h | h | h | h | h | h <;> omega
theorem lv_le (n : Nat) : lv n≤5:=by
  by_cases h : n < 63
  · exact (by decide : ∀ n < 63,lv n≤5) n h
  · have : lv n = 0:=by simp [lv,List.getD,lvT,show 63≤n by omega]
    omega
def dB64 : List Nat:=[0,1,56,2,57,49,28,3,61,58,42,50,38,29,17,4,62,47,59,36,45,43,51,22,53,39,33,30,24,18,12,5,63,55,48,27,60,41,37,16,46,35,44,21,52,32,23,11,54,26,40,15,34,20,31,10,25,14,19,9,13,8,7,6]
def u8C (n : Nat) : AV:=.v (.int .u8 n)
def fitI (x : Int) : Prop:=0≤x∧Fit x.toNat
instance (x : Int) : Decidable (fitI x):=by unfold fitI; infer_instance
theorem tz_idx : ∀ n < 63,∃ k < 64,ishr .u64 (imul .u64 (iand .u64 ((n + 1 : Nat) : Int) (ineg .u64 ((n + 1 : Nat) : Int))) 285870213051353865) 58 = ((k : Nat) : Int)∧(List.drop k (dB64.map u8C))[0]? = some (u8C (lv n)):=by
  have key : ∀ n < 63,∃ k < 64,ishr .u64 (imul .u64 (iand .u64 ((n + 1 : Nat) : Int) (ineg .u64 ((n + 1 : Nat) : Int))) 285870213051353865) 58 = ((k : Nat) : Int)∧dB64[k]? = some (lv n):=by decide +kernel
  intro n hn
  obtain ⟨k,h1,h2,h3⟩:=key n hn
  refine ⟨k,h1,h2,?_⟩
  rw [List.getElem?_drop,Nat.add_zero,List.getElem?_map,h3]
  rfl
theorem lvI_nat {n : Nat} (h : n < 63) : lvI (n : Int) = lv n:=by
  unfold lvI
  rw [if_pos (by omega),Int.toNat_natCast]
theorem lvI_le (x : Int) : lvI x≤5:=by unfold lvI; split; exact lv_le _; omega
theorem sh_half {l : Nat} (h : l≤5) : ishr .i64 (ishl .i64 1 (l : Int)) 1 = ((2 ^ l / 2 : Nat) : Int):=(by decide : ∀ l≤5,ishr .i64 (ishl .i64 1 ((l : Nat) : Int)) 1 = ((2 ^ l / 2 : Nat) : Int)) l h
theorem sh_one {l : Nat} (h : l≤5) : ishl .i64 1 (l : Int) = ((2 ^ l : Nat) : Int):=(by decide : ∀ l≤5,ishl .i64 1 ((l : Nat) : Int) = ((2 ^ l : Nat) : Int)) l h
theorem pow_le5 {l : Nat} (h : l≤5) : 1≤2 ^ l∧2 ^ l≤32:=(by decide : ∀ l≤5,1≤2 ^ l∧2 ^ l≤32) l h
def kidsI (x : Int) : Option (Int × Int):=if lvI x = 0 then none else some (x - ((2 ^ lvI x / 2 : Nat) : Int),x + ((2 ^ lvI x / 2 : Nat) : Int))
def undI (x : Int) : Int × Int:=if 0≤x∧x < 63 then ((lo x.toNat : Int),(hi x.toNat : Int)) else (0,-1)
theorem half_zero (x : Int) : 2 ^ lvI x / 2 = 0↔lvI x = 0:=by
  have:=lvI_le x
  generalize lvI x = l at *
  exact (by decide : ∀ l≤5,2 ^ l / 2 = 0↔l = 0) l this
theorem und_eq : ∀ n : Nat,n < 63→iquo .i64 (isub .i64 (n : Int) (isub .i64 ((2 ^ lv n : Nat) : Int) 1)) 2 = (lo n : Int)∧iquo .i64 (iadd .i64 (n : Int) (isub .i64 ((2 ^ lv n : Nat) : Int) 1)) 2 = (hi n : Int):=by decide +kernel
end Go.AM
namespace Go.Proofs.YtfjlmkifiihgkaaGreatDoor
open Go Go.AM Go.Proofs
variable {Γ : Nat→List AV}
theorem is18_calls (x : Int) (s : AS) : ACalls Tryz.prog Γ 217 [.v (.int .i64 x)] s (fun r s'=>r = .v (.bool (decide (0≤x∧x < 63)))∧s' = s):=by
 refine acalls_body Tryz.func217 rfl Tryz.ntmps217 Tryz.results217 (by simp) ?_
 refine jA ?_
 by_cases h : 0≤x
 ·refine jB (decide_eq_true h) ?_
  refine jI ?_
  exact ⟨_,_,AV.weak.refl _,AS.le.refl _,by simp [h],rfl⟩
 ·refine jB (decide_eq_false h) ?_
  refine jI ?_
  exact ⟨_,_,AV.weak.refl _,AS.le.refl _,by simp [h],rfl⟩
theorem tz64_calls (hG : Γ 3 = dB64.map u8C) (n : Nat) (hn : n < 63) (s : AS) : ACalls Tryz.prog Γ 262 [.v (.int .u64 ((n + 1 : Nat) : Int))] s (fun r s'=>r = .v (.int .i64 (lv n))∧s' = s):=by
 refine acalls_body Tryz.func262 rfl Tryz.ntmps262 Tryz.results262 (by simp) ?_
 have h0 : (((n + 1 : Nat) : Int) == 0) = false:=by simp; omega
 refine jA ?_
 refine wK fun K hK=>?_
 refine jB @h0 ?_
 refine jF ?_
 refine awp_skip ?_
 refine hK _ _ ?_;clear hK K
 obtain ⟨k,hk,hidx,hget⟩:=tz_idx n hn
 have hl:=lv_le n
 have hk0 : ((0 : Int)≤(k : Int)) = True:=eq_true (by omega)
 have hk1 : ((k : Int) < ((64 : Nat) : Int)) = True:=eq_true (by omega)
 refine wS fun K hK=>?_
 simp only [↓DN,Qa,Qb,Qc,Qd,Qe,Qf,Qg,Qh,reduceCtorEq,↓reduceIte,Na,Nb,Nc,Nk,Nf,Ng,Nh,Za,Zb,Zc,TT,hG,hidx,hk0,hk1,hget,u8C,i64_conv (show lv n < 2 ^ 62 by omega)]
 refine hK _ _ ?_;clear hK K
 exact jJ
theorem tz_calls (hG : Γ 3 = dB64.map u8C) (n : Nat) (hn : n < 63) (s : AS) : ACalls Tryz.prog Γ 249 [.v (.int .u64 ((n + 1 : Nat) : Int))] s (fun r s'=>r = .v (.int .i64 (lv n))∧s' = s):=by
 refine acalls_body Tryz.func249 rfl Tryz.ntmps249 Tryz.results249 (by simp) ?_
 refine jA ?_
 refine wK fun K hK=>?_
 refine jF ?_
 refine awp_skip ?_
 refine hK _ _ ?_;clear hK K
 refine jK (tz64_calls hG n hn _) ?_;rintro s1 rfl
 exact jJ
theorem level_calls (hG : Γ 3 = dB64.map u8C) (x : Int) (s : AS) : ACalls Tryz.prog Γ 218 [.v (.int .i64 x)] s (fun r s'=>r = .v (.int .i64 (lvI x))∧s' = s):=by
 refine acalls_body Tryz.func218 rfl Tryz.ntmps218 Tryz.results218 (by simp) ?_
 refine jA ?_
 refine wK fun K hK=>?_
 refine jQ fun K hK=>?_
 refine acallk (is18_calls x _) ?_
 rintro r s1 ⟨rfl,rfl⟩
 by_cases h : 0≤x∧x < 63
 ·obtain ⟨n,rfl⟩:=Int.eq_ofNat_of_zero_le h.1
  have hn : n < 63:=by omega
  rw [decide_eq_true h]
  refine jR hK ?_;clear hK K
  refine jF ?_
  refine awp_skip ?_
  refine hK _ _ ?_;clear hK K
  have e1 : iconv .u64 (iadd .i64 (n : Int) 1) = ((n + 1 : Nat) : Int):=by rw [eye_succ n (by omega),u64_conv (by omega)]
  refine jS @e1 fun K hK=>?_
  refine acallk (tz_calls hG n hn _) ?_
  rintro r s2 ⟨rfl,rfl⟩
  refine jR hK ?_;clear hK K
  refine jI ?_
  rw [lvI_nat hn]
  exact ⟨_,_,AV.weak.refl _,AS.le.refl _,rfl,rfl⟩
 ·rw [decide_eq_false h]
  refine jR hK ?_;clear hK K
  refine jE ?_
  refine jA ?_
  refine jI ?_
  rw [show lvI x = 0 from if_neg h]
  exact ⟨_,_,AV.weak.refl _,AS.le.refl _,rfl,rfl⟩
theorem half_calls (hG : Γ 3 = dB64.map u8C) (x : Int) (s : AS) : ACalls Tryz.prog Γ 211 [.v (.int .i64 x)] s (fun r s'=>r = .v (.int .i64 ((2 ^ lvI x / 2 : Nat) : Int))∧s' = s):=by
 refine acalls_body Tryz.func211 rfl Tryz.ntmps211 Tryz.results211 (by simp) ?_
 have hl : lvI x≤5:=by unfold lvI; split; exact lv_le _; omega
 refine jA ?_
 refine jK (level_calls hG x _) ?_;rintro s1 rfl
 refine jI ?_
 rw [sh_half hl]
 exact ⟨_,_,AV.weak.refl _,AS.le.refl _,rfl,rfl⟩
theorem left18_calls (hG : Γ 3 = dB64.map u8C) (x : Int) (hx : -9000000000000000000≤x∧x≤9000000000000000000) (s : AS) : ACalls Tryz.prog Γ 145 [.v (.int .i64 x)] s (fun r s'=>r = (match kidsI x with | some k=>.tup [.v (.int .i64 k.1),.v (.bool true)] | none=>.tup [.v (.int .i64 0),.v (.bool false)])∧s' = s):=by
 refine acalls_body Tryz.func145 rfl Tryz.ntmps145 Tryz.results145 (by simp) ?_
 have hl:=lvI_le x
 have hp:=pow_le5 hl
 refine jA ?_
 refine wK fun K hK=>?_
 refine jQ fun K hK=>?_
 refine acallk (half_calls hG x _) ?_
 rintro r s1 ⟨rfl,rfl⟩
 by_cases h : lvI x = 0
 ·have h0 : (((2 ^ lvI x / 2 : Nat) : Int) == 0) = true:=by rw [beq_iff_eq]; have:=(half_zero x).2 h; omega
  refine jV @h0 hK ?_;clear hK K
  refine jE ?_
  refine jA ?_
  refine jI ?_
  rw [show kidsI x = none from if_pos h]
  exact ⟨_,_,AV.weak.refl _,AS.le.refl _,rfl,rfl⟩
 ·have h0 : (((2 ^ lvI x / 2 : Nat) : Int) == 0) = false:=by
   rw [beq_eq_false_iff_ne]
   intro e
   exact h ((half_zero x).1 (by omega))
  refine jV @h0 hK ?_;clear hK K
  refine jF ?_
  refine awp_skip ?_
  refine hK _ _ ?_;clear hK K
  refine jQ fun K hK=>?_
  refine acallk (half_calls hG x _) ?_
  rintro r s2 ⟨rfl,rfl⟩
  refine jV (isub_i64 (a:=x) (b:=((2 ^ lvI x / 2 : Nat) : Int)) (by omega)) hK ?_;clear hK K
  refine jI ?_
  rw [show kidsI x = some (_,_) from if_neg h]
  exact ⟨_,_,AV.weak.refl _,AS.le.refl _,rfl,rfl⟩
theorem right18_calls (hG : Γ 3 = dB64.map u8C) (x : Int) (hx : -9000000000000000000≤x∧x≤9000000000000000000) (s : AS) : ACalls Tryz.prog Γ 146 [.v (.int .i64 x)] s (fun r s'=>r = (match kidsI x with | some k=>.tup [.v (.int .i64 k.2),.v (.bool true)] | none=>.tup [.v (.int .i64 0),.v (.bool false)])∧s' = s):=by
 refine acalls_body Tryz.func146 rfl Tryz.ntmps146 Tryz.results146 (by simp) ?_
 have hl:=lvI_le x
 have hp:=pow_le5 hl
 refine jA ?_
 refine wK fun K hK=>?_
 refine jQ fun K hK=>?_
 refine acallk (half_calls hG x _) ?_
 rintro r s1 ⟨rfl,rfl⟩
 by_cases h : lvI x = 0
 ·have h0 : (((2 ^ lvI x / 2 : Nat) : Int) == 0) = true:=by rw [beq_iff_eq]; have:=(half_zero x).2 h; omega
  refine jV @h0 hK ?_;clear hK K
  refine jE ?_
  refine jA ?_
  refine jI ?_
  rw [show kidsI x = none from if_pos h]
  exact ⟨_,_,AV.weak.refl _,AS.le.refl _,rfl,rfl⟩
 ·have h0 : (((2 ^ lvI x / 2 : Nat) : Int) == 0) = false:=by
   rw [beq_eq_false_iff_ne]
   intro e
   exact h ((half_zero x).1 (by omega))
  refine jV @h0 hK ?_;clear hK K
  refine jF ?_
  refine awp_skip ?_
  refine hK _ _ ?_;clear hK K
  refine jQ fun K hK=>?_
  refine acallk (half_calls hG x _) ?_
  rintro r s2 ⟨rfl,rfl⟩
  refine jV (iadd_i64 (a:=x) (b:=((2 ^ lvI x / 2 : Nat) : Int)) (by omega)) hK ?_;clear hK K
  refine jI ?_
  rw [show kidsI x = some (_,_) from if_neg h]
  exact ⟨_,_,AV.weak.refl _,AS.le.refl _,rfl,rfl⟩
theorem under18_calls (hG : Γ 3 = dB64.map u8C) (x : Int) (s : AS) : ACalls Tryz.prog Γ 153 [.v (.int .i64 x)] s (fun r s'=>r = .tup [.v (.int .i64 (undI x).1),.v (.int .i64 (undI x).2)]∧s' = s):=by
 refine acalls_body Tryz.func153 rfl Tryz.ntmps153 Tryz.results153 (by simp) ?_
 refine jA ?_
 refine wK fun K hK=>?_
 refine jQ fun K hK=>?_
 refine acallk (is18_calls x _) ?_
 rintro r s1 ⟨rfl,rfl⟩
 by_cases h : 0≤x∧x < 63
 ·obtain ⟨n,rfl⟩:=Int.eq_ofNat_of_zero_le h.1
  have hn : n < 63:=by omega
  have hl:=lv_le n
  have hp:=pow_le5 hl
  obtain ⟨u1,u2⟩:=und_eq n hn
  rw [decide_eq_true h]
  refine jR hK ?_;clear hK K
  refine jF ?_
  refine awp_skip ?_
  refine hK _ _ ?_;clear hK K
  refine jQ fun K hK=>?_
  refine acallk (level_calls hG n _) ?_
  rintro r s2 ⟨rfl,rfl⟩
  refine jV (Ai (lvI_nat hn) (sh_one hl)) hK ?_;clear hK K
  refine jB (Ai @u1 @u2) ?_
  refine jI ?_
  rw [show undI (n : Int) = ((lo n : Int),(hi n : Int)) from if_pos h]
  exact ⟨_,_,AV.weak.refl _,AS.le.refl _,rfl,rfl⟩
 ·rw [decide_eq_false h]
  refine jR hK ?_;clear hK K
  refine jE ?_
  refine jA ?_
  refine jI ?_
  rw [show undI x = (0,-1) from if_neg h]
  exact ⟨_,_,AV.weak.refl _,AS.le.refl _,rfl,rfl⟩
end Go.Proofs.YtfjlmkifiihgkaaGreatDoor
namespace Go.AM
open Go
theorem yesI {a b : Int} (h : a = b) : (a == b) = true:=by simpa using h
theorem notI {a b : Int} (h : a≠b) : (a == b) = false:=by simpa using h
theorem neI {a b : Int} (h : a≠b) : (a != b) = true:=by simpa using h
theorem eqI {a b : Int} (h : a = b) : (a != b) = false:=by simpa using h
theorem two0 : ((2 : Int) = 0) = False:=by decide
theorem nat0 {a : Nat} (h : a = 0) : ((a : Int) == 0) = true:=by subst h; rfl
theorem nat0F {a : Nat} (h : a≠0) : ((a : Int) == 0) = false:=by simpa using h
theorem natN {a k : Nat} (h : a = k) : ((a : Int) == (k : Int)) = true:=by subst h; simp
theorem natF {a k : Nat} (h : a≠k) : ((a : Int) == (k : Int)) = false:=by simp only [beq_eq_false_iff_ne,ne_eq]; omega
theorem natNe {a b : Nat} (h : a≠b) : ((a : Int) != (b : Int)) = true:=by simp only [bne_iff_ne,ne_eq]; omega
theorem natEq {a b : Nat} (h : a = b) : ((a : Int) != (b : Int)) = false:=by subst h; simp
theorem eye_succM (i : Nat) (h : i < 9223372036854775807) : iadd .i64 (i : Int) 1 = ((i + 1 : Nat) : Int):=by
  rw [iadd_i64 (by omega)]; omega
theorem iquo_nat (m : Nat) (h : m < 9223372036854775807) : iquo .i64 (m : Int) 2 = ((m / 2 : Nat) : Int):=by
  have e : (m : Int).tdiv 2 = ((m / 2 : Nat) : Int):=(Int.ofNat_tdiv m 2).symm
  unfold iquo
  rw [e]
  exact IntWalk.i64_in _ (by omega)
theorem imul2_nat (m : Nat) (h : m < 4611686018427387904) : imul .i64 2 (m : Int) = ((2 * m : Nat) : Int):=by
  rw [imul_i64 (by omega)]; omega
theorem negF (a : Nat) : decide ((a : Int) < 0) = false:=decide_eq_false (by omega)
end Go.AM
namespace Go.AM
open Go
theorem fit_and : ∀ n : Nat,n≤32→1≤n→(iand .i64 (n : Int) (isub .i64 (n : Int) 1) == 0) = decide (Fit n):=by decide +kernel
theorem fitI_nat {n : Nat} : fitI (n : Int)↔Fit n:=by unfold fitI; rw [Int.toNat_natCast]; exact ⟨fun h=>h.2,fun h=>⟨by omega,h⟩⟩
theorem fitI_bounds {x : Int} (h : fitI x) : 1≤x∧x≤32:=by have:=h.2.le; have:=h.1; omega
def widI (x : Int) : Int:=if fitI x then 2 * x - 1 else 0
theorem Fit.pow {n : Nat} (h : Fit n) : ∃ m,m≤5∧n = 2 ^ m:=by
  rcases h with rfl | rfl | rfl | rfl | rfl | rfl
  · exact ⟨0,by decide,rfl⟩
  · exact ⟨1,by decide,rfl⟩
  · exact ⟨2,by decide,rfl⟩
  · exact ⟨3,by decide,rfl⟩
  · exact ⟨4,by decide,rfl⟩
  · exact ⟨5,by decide,rfl⟩
theorem lv_half : ∀ n < 63,(n % 2 = 1→lv n = lv (n / 2) + 1)∧(n % 2 = 0→lv n = 0):=by decide +kernel
theorem lo_step : ∀ n < 63,lv n≠0→lo (n - hf n) = lo n∧lv (n - hf n) + 1 = lv n∧n - hf n < 63∧hf n≤n:=by decide +kernel
theorem hi_step : ∀ n < 63,lv n≠0→hi (n + hf n) = hi n∧lv (n + hf n) + 1 = lv n∧n + hf n < 63:=by decide +kernel
theorem lo_leaf : ∀ n < 63,lv n = 0→lo n = n / 2∧hi n = n / 2:=by decide +kernel
end Go.AM
namespace Go.Proofs.YtfjlmkifiihgkaaGreatDoor
open Go Go.AM Go.Proofs
variable {Γ : Nat→List AV}
theorem fits18_calls (x : Int) (s : AS) : ACalls Tryz.prog Γ 152 [.v (.int .i64 x)] s (fun r s'=>r = .v (.bool (decide (fitI x)))∧s' = s):=by
 refine acalls_body Tryz.func152 rfl Tryz.ntmps152 Tryz.results152 (by simp) ?_
 refine jA ?_
 by_cases h1 : 1≤x
 ·by_cases h2 : x≤32
  ·obtain ⟨n,rfl⟩:=Int.eq_ofNat_of_zero_le (show 0≤x by omega)
   refine jB (Ai (decide_eq_true h1) (Ai (decide_eq_true h2) (fit_and n (by omega) (by omega)))) ?_
   refine jI ?_
   exact ⟨_,_,AV.weak.refl _,AS.le.refl _,by simp only [fitI_nat],rfl⟩
  ·have hn : decide (fitI x) = false:=decide_eq_false fun h=>by have:=fitI_bounds h; omega
   refine jB (Ai (decide_eq_true h1) (decide_eq_false h2)) ?_
   refine jI ?_
   rw [hn]
   exact ⟨_,_,AV.weak.refl _,AS.le.refl _,rfl,rfl⟩
 ·have hn : decide (fitI x) = false:=decide_eq_false fun h=>by have:=fitI_bounds h; omega
  refine jB (decide_eq_false h1) ?_
  refine jI ?_
  rw [hn]
  exact ⟨_,_,AV.weak.refl _,AS.le.refl _,rfl,rfl⟩
theorem width18_calls (x : Int) (s : AS) : ACalls Tryz.prog Γ 134 [.v (.int .i64 x)] s (fun r s'=>r = .v (.int .i64 (widI x))∧s' = s):=by
 refine acalls_body Tryz.func134 rfl Tryz.ntmps134 Tryz.results134 (by simp) ?_
 refine jA ?_
 refine wK fun K hK=>?_
 refine jQ fun K hK=>?_
 refine acallk (fits18_calls x _) ?_
 rintro r s1 ⟨rfl,rfl⟩
 by_cases h : fitI x
 ·have hb:=fitI_bounds h
  rw [decide_eq_true h]
  refine jR hK ?_;clear hK K
  refine jF ?_
  refine awp_skip ?_
  refine hK _ _ ?_;clear hK K
  refine jA ?_
  refine jI ?_
  rw [imul_i64 (a:=2) (b:=x) (by omega),isub_i64 (a:=2 * x) (b:=1) (by omega),show widI x = 2 * x - 1 from if_pos h]
  exact ⟨_,_,AV.weak.refl _,AS.le.refl _,rfl,rfl⟩
 ·rw [decide_eq_false h]
  refine jR hK ?_;clear hK K
  refine jE ?_
  refine jA ?_
  refine jI ?_
  rw [show widI x = 0 from if_neg h]
  exact ⟨_,_,AV.weak.refl _,AS.le.refl _,rfl,rfl⟩
theorem widI_nat {l : Nat} (h : Fit l) : widI (l : Int) = ((2 * l - 1 : Nat) : Int):=by
 have:=h.le
 unfold widI
 rw [if_pos (fitI_nat.2 h)]
 omega
end Go.Proofs.YtfjlmkifiihgkaaGreatDoor
