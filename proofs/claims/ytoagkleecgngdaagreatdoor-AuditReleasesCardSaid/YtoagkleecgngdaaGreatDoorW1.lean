/- Contracts of the program's functions, each walked once; the conditions stand in each theorem. -/
import Derived.Test.YtoagkleecgngdaaGreatDoorProg
import Derived.Test.YtoagkleecgngdaaGreatDoorAMp4
import Derived.Test.YtoagkleecgngdaaGreatDoorAMp6
set_option linter.unusedSimpArgs false
set_option linter.unusedVariables false
open Nat renaming reduceLT → Na, reduceLeDiff → Nb, reduceEqDiff → Nc, reduceAdd → Nk, reduceMul → Nf, reducePow → Ng, reduceSub → Nh
open Int renaming reduceLT → Za, reduceLE → Zb, reduceToNat → Zc
open Go.AM renaming ashift → Qa, aconv → Qb, aindexAddr → Qc, aindex → Qd, aslice → Qe, abuiltin → Qf, awp_reg_seq → wS, awp_reg_end → wE, awp_seq_k → wK, awp_cond_k → wC
open Go.AM.AV renaming cells → Qg, one → Qh
set_option autoImplicit false
namespace Go.Proofs.YtoagkleecgngdaaGreatDoor
open Go Go.AM Go.Proofs
theorem T.c2 : Tryz.prog.cellsOf 2 = 1 := by kernel_rfl
theorem T.b2 : Tryz.prog.bytesOf 2 = 8 := by kernel_rfl
theorem T.g2 : isAggT Tryz.prog 2 = some false := by kernel_rfl
theorem T.z2 : zcells Tryz.prog 2 = some [.v (.int .i64 0)] := by kernel_rfl
theorem T.c3 : Tryz.prog.cellsOf 3 = 1 := by kernel_rfl
theorem T.b3 : Tryz.prog.bytesOf 3 = 8 := by kernel_rfl
theorem T.g3 : isAggT Tryz.prog 3 = some false := by kernel_rfl
theorem T.z3 : zcells Tryz.prog 3 = some [.v (.int .i64 0)] := by kernel_rfl
theorem T.c4 : Tryz.prog.cellsOf 4 = 1 := by kernel_rfl
theorem T.b4 : Tryz.prog.bytesOf 4 = 1 := by kernel_rfl
theorem T.g4 : isAggT Tryz.prog 4 = some false := by kernel_rfl
theorem T.z4 : zcells Tryz.prog 4 = some [.v (.bool false)] := by kernel_rfl
theorem T.c5 : Tryz.prog.cellsOf 5 = 1 := by kernel_rfl
theorem T.b5 : Tryz.prog.bytesOf 5 = 1 := by kernel_rfl
theorem T.g5 : isAggT Tryz.prog 5 = some false := by kernel_rfl
theorem T.z5 : zcells Tryz.prog 5 = some [.v (.int .u8 0)] := by kernel_rfl
theorem T.c6 : Tryz.prog.cellsOf 6 = 1 := by kernel_rfl
theorem T.g6 : isAggT Tryz.prog 6 = some false := by kernel_rfl
theorem T.z6 : zcells Tryz.prog 6 = some [.v (.int .u8 0)] := by kernel_rfl
theorem T.g7 : isAggT Tryz.prog 7 = some true := by kernel_rfl
theorem T.h7 : fieldsOk Tryz.prog 7 = true := by kernel_rfl
theorem T.c8 : Tryz.prog.cellsOf 8 = 4 := by kernel_rfl
theorem T.g8 : isAggT Tryz.prog 8 = some true := by kernel_rfl
theorem T.h8 : fieldsOk Tryz.prog 8 = true := by kernel_rfl
theorem T.c9 : Tryz.prog.cellsOf 9 = 1 := by kernel_rfl
theorem T.b9 : Tryz.prog.bytesOf 9 = 16 := by kernel_rfl
theorem T.g9 : isAggT Tryz.prog 9 = some false := by kernel_rfl
theorem T.z9 : zcells Tryz.prog 9 = some [.v (.string ByteArray.empty)] := by kernel_rfl
theorem T.g10 : isAggT Tryz.prog 10 = some false := by kernel_rfl
theorem T.g11 : isAggT Tryz.prog 11 = some false := by kernel_rfl
theorem T.g12 : isAggT Tryz.prog 12 = some false := by kernel_rfl
theorem T.g13 : isAggT Tryz.prog 13 = some true := by kernel_rfl
theorem T.h13 : fieldsOk Tryz.prog 13 = true := by kernel_rfl
theorem T.g14 : isAggT Tryz.prog 14 = some true := by kernel_rfl
theorem T.h14 : fieldsOk Tryz.prog 14 = true := by kernel_rfl
theorem T.g15 : isAggT Tryz.prog 15 = some false := by kernel_rfl
theorem T.g16 : isAggT Tryz.prog 16 = some false := by kernel_rfl
theorem T.z16 : zcells Tryz.prog 16 = some [.v (.pointer none)] := by kernel_rfl
theorem T.g17 : isAggT Tryz.prog 17 = some false := by kernel_rfl
theorem T.p17 : isPtrT Tryz.prog 17 = true := by kernel_rfl
theorem T.g19 : isAggT Tryz.prog 19 = some true := by kernel_rfl
theorem T.g21 : isAggT Tryz.prog 21 = some false := by kernel_rfl
theorem T.c22 : Tryz.prog.cellsOf 22 = 1 := by kernel_rfl
theorem T.b22 : Tryz.prog.bytesOf 22 = 24 := by kernel_rfl
theorem T.g22 : isAggT Tryz.prog 22 = some false := by kernel_rfl
theorem T.z22 : zcells Tryz.prog 22 = some [.v (.slice none 0 0)] := by kernel_rfl
theorem T.s22 : isSliceT Tryz.prog 22 = true := by kernel_rfl
theorem T.c23 : Tryz.prog.cellsOf 23 = 1 := by kernel_rfl
theorem T.b23 : Tryz.prog.bytesOf 23 = 24 := by kernel_rfl
theorem T.g23 : isAggT Tryz.prog 23 = some false := by kernel_rfl
theorem T.z23 : zcells Tryz.prog 23 = some [.v (.slice none 0 0)] := by kernel_rfl
theorem T.s23 : isSliceT Tryz.prog 23 = true := by kernel_rfl
theorem T.g24 : isAggT Tryz.prog 24 = some true := by kernel_rfl
theorem T.c25 : Tryz.prog.cellsOf 25 = 5 := by kernel_rfl
theorem T.b25 : Tryz.prog.bytesOf 25 = 104 := by kernel_rfl
theorem T.g25 : isAggT Tryz.prog 25 = some true := by kernel_rfl
theorem T.h25 : fieldsOk Tryz.prog 25 = true := by kernel_rfl
theorem T.f25_0 : fieldOf Tryz.prog 25 0 = some (0, 22) := by kernel_rfl
theorem T.f25_1 : fieldOf Tryz.prog 25 1 = some (1, 3) := by kernel_rfl
theorem T.f25_2 : fieldOf Tryz.prog 25 2 = some (2, 23) := by kernel_rfl
theorem T.f25_3 : fieldOf Tryz.prog 25 3 = some (3, 22) := by kernel_rfl
theorem T.f25_4 : fieldOf Tryz.prog 25 4 = some (4, 22) := by kernel_rfl
theorem T.z25 : zcells Tryz.prog 25 = some [.v (.slice none 0 0), .v (.int .i64 0), .v (.slice none 0 0), .v (.slice none 0 0), .v (.slice none 0 0)] := by kernel_rfl
theorem T.c26 : Tryz.prog.cellsOf 26 = 1 := by kernel_rfl
theorem T.b26 : Tryz.prog.bytesOf 26 = 24 := by kernel_rfl
theorem T.g26 : isAggT Tryz.prog 26 = some false := by kernel_rfl
theorem T.z26 : zcells Tryz.prog 26 = some [.v (.slice none 0 0)] := by kernel_rfl
theorem T.s26 : isSliceT Tryz.prog 26 = true := by kernel_rfl
theorem T.c27 : Tryz.prog.cellsOf 27 = 1 := by kernel_rfl
theorem T.b27 : Tryz.prog.bytesOf 27 = 8 := by kernel_rfl
theorem T.g27 : isAggT Tryz.prog 27 = some false := by kernel_rfl
theorem T.z27 : zcells Tryz.prog 27 = some [.v (.int .u64 0)] := by kernel_rfl
theorem T.c28 : Tryz.prog.cellsOf 28 = 1 := by kernel_rfl
theorem T.b28 : Tryz.prog.bytesOf 28 = 24 := by kernel_rfl
theorem T.g28 : isAggT Tryz.prog 28 = some false := by kernel_rfl
theorem T.z28 : zcells Tryz.prog 28 = some [.v (.slice none 0 0)] := by kernel_rfl
theorem T.s28 : isSliceT Tryz.prog 28 = true := by kernel_rfl
theorem T.c30 : Tryz.prog.cellsOf 30 = 3 := by kernel_rfl
theorem T.b30 : Tryz.prog.bytesOf 30 = 56 := by kernel_rfl
theorem T.g30 : isAggT Tryz.prog 30 = some true := by kernel_rfl
theorem T.h30 : fieldsOk Tryz.prog 30 = true := by kernel_rfl
theorem T.z30 : zcells Tryz.prog 30 = some [.v (.int .u64 0), .v (.slice none 0 0), .v (.slice none 0 0)] := by kernel_rfl
theorem T.h31 : fieldsOk Tryz.prog 31 = true := by kernel_rfl
theorem T.c32 : Tryz.prog.cellsOf 32 = 10 := by kernel_rfl
theorem T.b32 : Tryz.prog.bytesOf 32 = 176 := by kernel_rfl
theorem T.g32 : isAggT Tryz.prog 32 = some true := by kernel_rfl
theorem T.h32 : fieldsOk Tryz.prog 32 = true := by kernel_rfl
theorem T.z32 : zcells Tryz.prog 32 = some [.v (.slice none 0 0), .v (.int .i64 0), .v (.int .i64 0), .v (.slice none 0 0), .v (.bool false), .v (.int .u64 0), .v (.slice none 0 0), .v (.slice none 0 0), .v (.slice none 0 0), .v (.slice none 0 0)] := by kernel_rfl
theorem T.c36 : Tryz.prog.cellsOf 36 = 1 := by kernel_rfl
theorem T.b36 : Tryz.prog.bytesOf 36 = 24 := by kernel_rfl
theorem T.g36 : isAggT Tryz.prog 36 = some false := by kernel_rfl
theorem T.z36 : zcells Tryz.prog 36 = some [.v (.slice none 0 0)] := by kernel_rfl
theorem T.s36 : isSliceT Tryz.prog 36 = true := by kernel_rfl
theorem T.c37 : Tryz.prog.cellsOf 37 = 1 := by kernel_rfl
theorem T.b37 : Tryz.prog.bytesOf 37 = 8 := by kernel_rfl
theorem T.g37 : isAggT Tryz.prog 37 = some false := by kernel_rfl
theorem T.z37 : zcells Tryz.prog 37 = some [.v (.int .i64 0)] := by kernel_rfl
theorem T.c50 : Tryz.prog.cellsOf 50 = 1 := by kernel_rfl
theorem T.b50 : Tryz.prog.bytesOf 50 = 24 := by kernel_rfl
theorem T.g50 : isAggT Tryz.prog 50 = some false := by kernel_rfl
theorem T.z50 : zcells Tryz.prog 50 = some [.v (.slice none 0 0)] := by kernel_rfl
theorem T.s50 : isSliceT Tryz.prog 50 = true := by kernel_rfl
theorem T.c52 : Tryz.prog.cellsOf 52 = 5 := by kernel_rfl
theorem T.b52 : Tryz.prog.bytesOf 52 = 88 := by kernel_rfl
theorem T.g52 : isAggT Tryz.prog 52 = some true := by kernel_rfl
theorem T.h52 : fieldsOk Tryz.prog 52 = true := by kernel_rfl
theorem T.z52 : zcells Tryz.prog 52 = some [.v (.int .i64 0), .v (.slice none 0 0), .v (.int .u64 0), .v (.slice none 0 0), .v (.slice none 0 0)] := by kernel_rfl
theorem T.h53 : fieldsOk Tryz.prog 53 = true := by kernel_rfl
theorem T.c54 : Tryz.prog.cellsOf 54 = 5 := by kernel_rfl
theorem T.b54 : Tryz.prog.bytesOf 54 = 56 := by kernel_rfl
theorem T.g54 : isAggT Tryz.prog 54 = some true := by kernel_rfl
theorem T.h54 : fieldsOk Tryz.prog 54 = true := by kernel_rfl
theorem T.z54 : zcells Tryz.prog 54 = some [.v (.int .i64 0), .v (.int .i64 0), .v (.slice none 0 0), .v (.int .u64 0), .v (.int .u64 0)] := by kernel_rfl
theorem T.c66 : Tryz.prog.cellsOf 66 = 1 := by kernel_rfl
theorem T.b66 : Tryz.prog.bytesOf 66 = 24 := by kernel_rfl
theorem T.g66 : isAggT Tryz.prog 66 = some false := by kernel_rfl
theorem T.z66 : zcells Tryz.prog 66 = some [.v (.slice none 0 0)] := by kernel_rfl
theorem T.s66 : isSliceT Tryz.prog 66 = true := by kernel_rfl
theorem T.c68 : Tryz.prog.cellsOf 68 = 1 := by kernel_rfl
theorem T.b68 : Tryz.prog.bytesOf 68 = 24 := by kernel_rfl
theorem T.g68 : isAggT Tryz.prog 68 = some false := by kernel_rfl
theorem T.z68 : zcells Tryz.prog 68 = some [.v (.slice none 0 0)] := by kernel_rfl
theorem T.s68 : isSliceT Tryz.prog 68 = true := by kernel_rfl
theorem T.g83 : isAggT Tryz.prog 83 = some true := by kernel_rfl
theorem T.c109 : Tryz.prog.cellsOf 109 = 1 := by kernel_rfl
theorem T.b109 : Tryz.prog.bytesOf 109 = 8 := by kernel_rfl
theorem T.g109 : isAggT Tryz.prog 109 = some false := by kernel_rfl
theorem T.z109 : zcells Tryz.prog 109 = some [.v (.pointer none)] := by kernel_rfl
theorem T.p109 : isPtrT Tryz.prog 109 = true := by kernel_rfl
theorem T.c115 : Tryz.prog.cellsOf 115 = 1 := by kernel_rfl
theorem T.b115 : Tryz.prog.bytesOf 115 = 8 := by kernel_rfl
theorem T.g115 : isAggT Tryz.prog 115 = some false := by kernel_rfl
theorem T.z115 : zcells Tryz.prog 115 = some [.v (.pointer none)] := by kernel_rfl
theorem T.p115 : isPtrT Tryz.prog 115 = true := by kernel_rfl
theorem T.c117 : Tryz.prog.cellsOf 117 = 2 := by kernel_rfl
theorem T.b117 : Tryz.prog.bytesOf 117 = 24 := by kernel_rfl
theorem T.g117 : isAggT Tryz.prog 117 = some true := by kernel_rfl
theorem T.h117 : fieldsOk Tryz.prog 117 = true := by kernel_rfl
theorem T.f117_0 : fieldOf Tryz.prog 117 0 = some (0, 9) := by kernel_rfl
theorem T.f117_1 : fieldOf Tryz.prog 117 1 = some (1, 3) := by kernel_rfl
theorem T.z117 : zcells Tryz.prog 117 = some [.v (.string ByteArray.empty), .v (.int .i64 0)] := by kernel_rfl
theorem T.c124 : Tryz.prog.cellsOf 124 = 1 := by kernel_rfl
theorem T.b124 : Tryz.prog.bytesOf 124 = 8 := by kernel_rfl
theorem T.g124 : isAggT Tryz.prog 124 = some false := by kernel_rfl
theorem T.z124 : zcells Tryz.prog 124 = some [.v (.pointer none)] := by kernel_rfl
theorem T.p124 : isPtrT Tryz.prog 124 = true := by kernel_rfl
theorem T.c137 : Tryz.prog.cellsOf 137 = 9 := by kernel_rfl
theorem T.b137 : Tryz.prog.bytesOf 137 = 152 := by kernel_rfl
theorem T.g137 : isAggT Tryz.prog 137 = some true := by kernel_rfl
theorem T.h137 : fieldsOk Tryz.prog 137 = true := by kernel_rfl
theorem T.f137_0 : fieldOf Tryz.prog 137 0 = some (0, 3) := by kernel_rfl
theorem T.f137_1 : fieldOf Tryz.prog 137 1 = some (1, 22) := by kernel_rfl
theorem T.f137_2 : fieldOf Tryz.prog 137 2 = some (2, 3) := by kernel_rfl
theorem T.f137_3 : fieldOf Tryz.prog 137 3 = some (3, 3) := by kernel_rfl
theorem T.f137_4 : fieldOf Tryz.prog 137 4 = some (4, 3) := by kernel_rfl
theorem T.f137_5 : fieldOf Tryz.prog 137 5 = some (5, 22) := by kernel_rfl
theorem T.f137_6 : fieldOf Tryz.prog 137 6 = some (6, 22) := by kernel_rfl
theorem T.f137_7 : fieldOf Tryz.prog 137 7 = some (7, 22) := by kernel_rfl
theorem T.f137_8 : fieldOf Tryz.prog 137 8 = some (8, 22) := by kernel_rfl
theorem T.z137 : zcells Tryz.prog 137 = some [.v (.int .i64 0), .v (.slice none 0 0), .v (.int .i64 0), .v (.int .i64 0), .v (.int .i64 0), .v (.slice none 0 0), .v (.slice none 0 0), .v (.slice none 0 0), .v (.slice none 0 0)] := by kernel_rfl
theorem T.c139 : Tryz.prog.cellsOf 139 = 1 := by kernel_rfl
theorem T.b139 : Tryz.prog.bytesOf 139 = 8 := by kernel_rfl
theorem T.g139 : isAggT Tryz.prog 139 = some false := by kernel_rfl
theorem T.z139 : zcells Tryz.prog 139 = some [.v (.pointer none)] := by kernel_rfl
theorem T.p139 : isPtrT Tryz.prog 139 = true := by kernel_rfl
theorem T.c144 : Tryz.prog.cellsOf 144 = 1 := by kernel_rfl
theorem T.b144 : Tryz.prog.bytesOf 144 = 24 := by kernel_rfl
theorem T.g144 : isAggT Tryz.prog 144 = some false := by kernel_rfl
theorem T.z144 : zcells Tryz.prog 144 = some [.v (.slice none 0 0)] := by kernel_rfl
theorem T.s144 : isSliceT Tryz.prog 144 = true := by kernel_rfl
theorem T.c147 : Tryz.prog.cellsOf 147 = 5 := by kernel_rfl
theorem T.b147 : Tryz.prog.bytesOf 147 = 88 := by kernel_rfl
theorem T.g147 : isAggT Tryz.prog 147 = some true := by kernel_rfl
theorem T.h147 : fieldsOk Tryz.prog 147 = true := by kernel_rfl
theorem T.f147_0 : fieldOf Tryz.prog 147 0 = some (0, 3) := by kernel_rfl
theorem T.f147_1 : fieldOf Tryz.prog 147 1 = some (1, 3) := by kernel_rfl
theorem T.f147_2 : fieldOf Tryz.prog 147 2 = some (2, 144) := by kernel_rfl
theorem T.f147_3 : fieldOf Tryz.prog 147 3 = some (3, 22) := by kernel_rfl
theorem T.f147_4 : fieldOf Tryz.prog 147 4 = some (4, 22) := by kernel_rfl
theorem T.z147 : zcells Tryz.prog 147 = some [.v (.int .i64 0), .v (.int .i64 0), .v (.slice none 0 0), .v (.slice none 0 0), .v (.slice none 0 0)] := by kernel_rfl
theorem T.c156 : Tryz.prog.cellsOf 156 = 2 := by kernel_rfl
theorem T.b156 : Tryz.prog.bytesOf 156 = 32 := by kernel_rfl
theorem T.g156 : isAggT Tryz.prog 156 = some true := by kernel_rfl
theorem T.h156 : fieldsOk Tryz.prog 156 = true := by kernel_rfl
theorem T.z156 : zcells Tryz.prog 156 = some [.v (.int .i64 0), .v (.slice none 0 0)] := by kernel_rfl
theorem T.c185 : Tryz.prog.cellsOf 185 = 1 := by kernel_rfl
theorem T.b185 : Tryz.prog.bytesOf 185 = 4 := by kernel_rfl
theorem T.g185 : isAggT Tryz.prog 185 = some false := by kernel_rfl
theorem T.z185 : zcells Tryz.prog 185 = some [.v (.int .u32 0)] := by kernel_rfl
theorem T.c186 : Tryz.prog.cellsOf 186 = 8 := by kernel_rfl
theorem T.b186 : Tryz.prog.bytesOf 186 = 32 := by kernel_rfl
theorem T.g186 : isAggT Tryz.prog 186 = some true := by kernel_rfl
theorem T.z186 : zcells Tryz.prog 186 = some [.v (.int .u32 0), .v (.int .u32 0), .v (.int .u32 0), .v (.int .u32 0), .v (.int .u32 0), .v (.int .u32 0), .v (.int .u32 0), .v (.int .u32 0)] := by kernel_rfl
theorem T.c191 : Tryz.prog.cellsOf 191 = 1 := by kernel_rfl
theorem T.b191 : Tryz.prog.bytesOf 191 = 8 := by kernel_rfl
theorem T.g191 : isAggT Tryz.prog 191 = some false := by kernel_rfl
theorem T.z191 : zcells Tryz.prog 191 = some [.v (.int .u64 0)] := by kernel_rfl
theorem T.c195 : Tryz.prog.cellsOf 195 = 1 := by kernel_rfl
theorem T.b195 : Tryz.prog.bytesOf 195 = 24 := by kernel_rfl
theorem T.g195 : isAggT Tryz.prog 195 = some false := by kernel_rfl
theorem T.z195 : zcells Tryz.prog 195 = some [.v (.slice none 0 0)] := by kernel_rfl
theorem T.s195 : isSliceT Tryz.prog 195 = true := by kernel_rfl
theorem T.c203 : Tryz.prog.cellsOf 203 = 2 := by kernel_rfl
theorem T.b203 : Tryz.prog.bytesOf 203 = 32 := by kernel_rfl
theorem T.g203 : isAggT Tryz.prog 203 = some true := by kernel_rfl
theorem T.h203 : fieldsOk Tryz.prog 203 = true := by kernel_rfl
theorem T.f203_0 : fieldOf Tryz.prog 203 0 = some (0, 22) := by kernel_rfl
theorem T.f203_1 : fieldOf Tryz.prog 203 1 = some (1, 37) := by kernel_rfl
theorem T.z203 : zcells Tryz.prog 203 = some [.v (.slice none 0 0), .v (.int .i64 0)] := by kernel_rfl
theorem T.c212 : Tryz.prog.cellsOf 212 = 2 := by kernel_rfl
theorem T.b212 : Tryz.prog.bytesOf 212 = 32 := by kernel_rfl
theorem T.g212 : isAggT Tryz.prog 212 = some true := by kernel_rfl
theorem T.h212 : fieldsOk Tryz.prog 212 = true := by kernel_rfl
theorem T.f212_0 : fieldOf Tryz.prog 212 0 = some (0, 22) := by kernel_rfl
theorem T.f212_1 : fieldOf Tryz.prog 212 1 = some (1, 4) := by kernel_rfl
theorem T.z212 : zcells Tryz.prog 212 = some [.v (.slice none 0 0), .v (.bool false)] := by kernel_rfl
theorem T.c254 : Tryz.prog.cellsOf 254 = 64 := by kernel_rfl
theorem T.b254 : Tryz.prog.bytesOf 254 = 256 := by kernel_rfl
theorem T.g254 : isAggT Tryz.prog 254 = some true := by kernel_rfl
theorem T.c290 : Tryz.prog.cellsOf 290 = 16 := by kernel_rfl
theorem T.b290 : Tryz.prog.bytesOf 290 = 16 := by kernel_rfl
theorem T.g290 : isAggT Tryz.prog 290 = some true := by kernel_rfl
theorem T.z290 : zcells Tryz.prog 290 = some [.v (.int .u8 0), .v (.int .u8 0), .v (.int .u8 0), .v (.int .u8 0), .v (.int .u8 0), .v (.int .u8 0), .v (.int .u8 0), .v (.int .u8 0), .v (.int .u8 0), .v (.int .u8 0), .v (.int .u8 0), .v (.int .u8 0), .v (.int .u8 0), .v (.int .u8 0), .v (.int .u8 0), .v (.int .u8 0)] := by kernel_rfl
theorem T.c301 : Tryz.prog.cellsOf 301 = 64 := by kernel_rfl
theorem T.b301 : Tryz.prog.bytesOf 301 = 64 := by kernel_rfl
theorem T.g301 : isAggT Tryz.prog 301 = some true := by kernel_rfl
theorem T.c303 : Tryz.prog.cellsOf 303 = 256 := by kernel_rfl
theorem T.b303 : Tryz.prog.bytesOf 303 = 256 := by kernel_rfl
theorem T.g303 : isAggT Tryz.prog 303 = some true := by kernel_rfl
theorem T.c305 : Tryz.prog.cellsOf 305 = 176 := by kernel_rfl
theorem T.b305 : Tryz.prog.bytesOf 305 = 176 := by kernel_rfl
theorem T.g305 : isAggT Tryz.prog 305 = some true := by kernel_rfl
theorem T.c321 : Tryz.prog.cellsOf 321 = 4 := by kernel_rfl
theorem T.b321 : Tryz.prog.bytesOf 321 = 4 := by kernel_rfl
theorem T.g321 : isAggT Tryz.prog 321 = some true := by kernel_rfl
theorem T.z321 : zcells Tryz.prog 321 = some [.v (.int .u8 0), .v (.int .u8 0), .v (.int .u8 0), .v (.int .u8 0)] := by kernel_rfl
theorem T.k3 : callable Tryz.prog 3 = true := by kernel_rfl
theorem T.k4 : callable Tryz.prog 4 = true := by kernel_rfl
theorem T.k5 : callable Tryz.prog 5 = true := by kernel_rfl
theorem T.k6 : callable Tryz.prog 6 = true := by kernel_rfl
theorem T.k7 : callable Tryz.prog 7 = true := by kernel_rfl
theorem T.k8 : callable Tryz.prog 8 = true := by kernel_rfl
theorem T.k9 : callable Tryz.prog 9 = true := by kernel_rfl
theorem T.k10 : callable Tryz.prog 10 = true := by kernel_rfl
theorem T.k11 : callable Tryz.prog 11 = true := by kernel_rfl
theorem T.k12 : callable Tryz.prog 12 = true := by kernel_rfl
theorem T.k13 : callable Tryz.prog 13 = true := by kernel_rfl
theorem T.k14 : callable Tryz.prog 14 = true := by kernel_rfl
theorem T.k15 : callable Tryz.prog 15 = true := by kernel_rfl
theorem T.k20 : callable Tryz.prog 20 = true := by kernel_rfl
theorem T.k28 : callable Tryz.prog 28 = true := by kernel_rfl
theorem T.k30 : callable Tryz.prog 30 = true := by kernel_rfl
theorem T.k32 : callable Tryz.prog 32 = true := by kernel_rfl
theorem T.k33 : callable Tryz.prog 33 = true := by kernel_rfl
theorem T.k34 : callable Tryz.prog 34 = true := by kernel_rfl
theorem T.k36 : callable Tryz.prog 36 = true := by kernel_rfl
theorem T.k39 : callable Tryz.prog 39 = true := by kernel_rfl
theorem T.k40 : callable Tryz.prog 40 = true := by kernel_rfl
theorem T.k42 : callable Tryz.prog 42 = true := by kernel_rfl
theorem T.k54 : callable Tryz.prog 54 = true := by kernel_rfl
theorem T.k55 : callable Tryz.prog 55 = true := by kernel_rfl
theorem T.k57 : callable Tryz.prog 57 = true := by kernel_rfl
theorem T.k62 : callable Tryz.prog 62 = true := by kernel_rfl
theorem T.k63 : callable Tryz.prog 63 = true := by kernel_rfl
theorem T.k64 : callable Tryz.prog 64 = true := by kernel_rfl
theorem T.k66 : callable Tryz.prog 66 = true := by kernel_rfl
theorem T.k67 : callable Tryz.prog 67 = true := by kernel_rfl
theorem T.k68 : callable Tryz.prog 68 = true := by kernel_rfl
theorem T.k70 : callable Tryz.prog 70 = true := by kernel_rfl
theorem T.k73 : callable Tryz.prog 73 = true := by kernel_rfl
theorem T.k74 : callable Tryz.prog 74 = true := by kernel_rfl
theorem T.k75 : callable Tryz.prog 75 = true := by kernel_rfl
theorem T.k77 : callable Tryz.prog 77 = true := by kernel_rfl
theorem T.k79 : callable Tryz.prog 79 = true := by kernel_rfl
theorem T.k85 : callable Tryz.prog 85 = true := by kernel_rfl
theorem T.k87 : callable Tryz.prog 87 = true := by kernel_rfl
theorem T.k88 : callable Tryz.prog 88 = true := by kernel_rfl
theorem T.k89 : callable Tryz.prog 89 = true := by kernel_rfl
theorem T.k90 : callable Tryz.prog 90 = true := by kernel_rfl
theorem T.k91 : callable Tryz.prog 91 = true := by kernel_rfl
theorem T.k92 : callable Tryz.prog 92 = true := by kernel_rfl
theorem T.k100 : callable Tryz.prog 100 = true := by kernel_rfl
theorem T.k101 : callable Tryz.prog 101 = true := by kernel_rfl
theorem T.k132 : callable Tryz.prog 132 = true := by kernel_rfl
theorem T.k133 : callable Tryz.prog 133 = true := by kernel_rfl
theorem T.k134 : callable Tryz.prog 134 = true := by kernel_rfl
theorem T.k135 : callable Tryz.prog 135 = true := by kernel_rfl
theorem T.k140 : callable Tryz.prog 140 = true := by kernel_rfl
theorem T.k141 : callable Tryz.prog 141 = true := by kernel_rfl
theorem T.k142 : callable Tryz.prog 142 = true := by kernel_rfl
theorem T.k144 : callable Tryz.prog 144 = true := by kernel_rfl
theorem T.k151 : callable Tryz.prog 151 = true := by kernel_rfl
theorem T.k152 : callable Tryz.prog 152 = true := by kernel_rfl
theorem T.k153 : callable Tryz.prog 153 = true := by kernel_rfl
theorem T.k154 : callable Tryz.prog 154 = true := by kernel_rfl
theorem T.k160 : callable Tryz.prog 160 = true := by kernel_rfl
theorem T.k165 : callable Tryz.prog 165 = true := by kernel_rfl
theorem T.k166 : callable Tryz.prog 166 = true := by kernel_rfl
theorem T.k173 : callable Tryz.prog 173 = true := by kernel_rfl
theorem T.k174 : callable Tryz.prog 174 = true := by kernel_rfl
theorem T.k175 : callable Tryz.prog 175 = true := by kernel_rfl
theorem T.k176 : callable Tryz.prog 176 = true := by kernel_rfl
theorem T.k179 : callable Tryz.prog 179 = true := by kernel_rfl
theorem T.k180 : callable Tryz.prog 180 = true := by kernel_rfl
theorem T.k181 : callable Tryz.prog 181 = true := by kernel_rfl
theorem T.k182 : callable Tryz.prog 182 = true := by kernel_rfl
theorem T.k183 : callable Tryz.prog 183 = true := by kernel_rfl
theorem T.k184 : callable Tryz.prog 184 = true := by kernel_rfl
theorem T.k185 : callable Tryz.prog 185 = true := by kernel_rfl
theorem T.k203 : callable Tryz.prog 203 = true := by kernel_rfl
theorem T.k206 : callable Tryz.prog 206 = true := by kernel_rfl
theorem T.k207 : callable Tryz.prog 207 = true := by kernel_rfl
theorem T.k208 : callable Tryz.prog 208 = true := by kernel_rfl
theorem T.k217 : callable Tryz.prog 217 = true := by kernel_rfl
theorem T.k218 : callable Tryz.prog 218 = true := by kernel_rfl
theorem T.k221 : callable Tryz.prog 221 = true := by kernel_rfl
theorem T.k226 : callable Tryz.prog 226 = true := by kernel_rfl
theorem T.k231 : callable Tryz.prog 231 = true := by kernel_rfl
theorem T.k232 : callable Tryz.prog 232 = true := by kernel_rfl
theorem T.k233 : callable Tryz.prog 233 = true := by kernel_rfl
theorem T.k234 : callable Tryz.prog 234 = true := by kernel_rfl
theorem T.k235 : callable Tryz.prog 235 = true := by kernel_rfl
theorem T.k236 : callable Tryz.prog 236 = true := by kernel_rfl
theorem T.k237 : callable Tryz.prog 237 = true := by kernel_rfl
theorem T.k238 : callable Tryz.prog 238 = true := by kernel_rfl
theorem T.k252 : callable Tryz.prog 252 = true := by kernel_rfl
theorem T.k253 : callable Tryz.prog 253 = true := by kernel_rfl
theorem T.k254 : callable Tryz.prog 254 = true := by kernel_rfl
theorem T.k262 : callable Tryz.prog 262 = true := by kernel_rfl
theorem T.k263 : callable Tryz.prog 263 = true := by kernel_rfl
theorem T.k264 : callable Tryz.prog 264 = true := by kernel_rfl
theorem T.k265 : callable Tryz.prog 265 = true := by kernel_rfl
theorem T.k266 : callable Tryz.prog 266 = true := by kernel_rfl
theorem T.k267 : callable Tryz.prog 267 = true := by kernel_rfl
theorem T.k268 : callable Tryz.prog 268 = true := by kernel_rfl
theorem T.k269 : callable Tryz.prog 269 = true := by kernel_rfl
theorem T.k270 : callable Tryz.prog 270 = true := by kernel_rfl
theorem T.k271 : callable Tryz.prog 271 = true := by kernel_rfl
theorem T.k272 : callable Tryz.prog 272 = true := by kernel_rfl
theorem T.k284 : callable Tryz.prog 284 = true := by kernel_rfl
theorem T.k285 : callable Tryz.prog 285 = true := by kernel_rfl
theorem T.k286 : callable Tryz.prog 286 = true := by kernel_rfl
theorem T.k287 : callable Tryz.prog 287 = true := by kernel_rfl
theorem T.k288 : callable Tryz.prog 288 = true := by kernel_rfl
theorem T.k289 : callable Tryz.prog 289 = true := by kernel_rfl
theorem T.k290 : callable Tryz.prog 290 = true := by kernel_rfl
theorem T.k305 : callable Tryz.prog 305 = true := by kernel_rfl
theorem T.k306 : callable Tryz.prog 306 = true := by kernel_rfl
theorem T.k307 : callable Tryz.prog 307 = true := by kernel_rfl
theorem T.k314 : callable Tryz.prog 314 = true := by kernel_rfl
theorem T.k315 : callable Tryz.prog 315 = true := by kernel_rfl
theorem T.k317 : callable Tryz.prog 317 = true := by kernel_rfl
theorem T.mixed : Tryz.prog.follows .mixedOrders = true := by kernel_rfl
end Go.Proofs.YtoagkleecgngdaaGreatDoor


set_option autoImplicit false
set_option maxRecDepth 100000
namespace Go.Proofs.YtoagkleecgngdaaGreatDoor
open Go Go.AM Go.Proofs
/-- The closed facts that the walks rewrite by, bound together. -/
theorem TT : type_of% (And.intro (And.intro (And.intro (And.intro (And.intro (And.intro (And.intro (And.intro @Tryz.underlying5 (And.intro T.c5 T.g5)) (And.intro T.b5 (And.intro T.z5 @Tryz.underlying22))) (And.intro (And.intro T.c22 (And.intro T.g22 T.b22)) (And.intro (And.intro T.z22 T.s22) (And.intro Tryz.ntmps151 @Tryz.underlying3)))) (And.intro (And.intro (And.intro T.c3 (And.intro T.g3 T.b3)) (And.intro (And.intro T.z3 @Tryz.underlying4) (And.intro T.c4 T.g4))) (And.intro (And.intro T.b4 (And.intro T.z4 @Tryz.underlying27)) (And.intro (And.intro T.c27 T.g27) (And.intro T.b27 T.z27))))) (And.intro (And.intro (And.intro (And.intro @Tryz.underlying212 (And.intro T.c212 T.g212)) (And.intro (And.intro T.b212 T.z212) (And.intro T.h212 T.f212_0))) (And.intro (And.intro T.f212_1 (And.intro Tryz.ntmps166 Tryz.ntmps73)) (And.intro (And.intro @Tryz.underlying124 T.c124) (And.intro T.g124 T.b124)))) (And.intro (And.intro (And.intro T.z124 (And.intro T.p124 T.k166)) (And.intro (And.intro Tryz.ntmps203 T.k203) (And.intro Tryz.ntmps262 Tryz.ntmps264))) (And.intro (And.intro Tryz.ntmps75 (And.intro Tryz.ntmps221 T.k221)) (And.intro (And.intro Tryz.ntmps165 T.k165) (And.intro Tryz.ntmps74 Tryz.ntmps252)))))) (And.intro (And.intro (And.intro (And.intro (And.intro T.k151 (And.intro Tryz.ntmps77 @Tryz.underlying37)) (And.intro (And.intro T.c37 T.g37) (And.intro T.b37 T.z37))) (And.intro (And.intro @Tryz.underlying203 (And.intro T.c203 T.g203)) (And.intro (And.intro T.b203 T.z203) (And.intro T.h203 T.f203_0)))) (And.intro (And.intro (And.intro T.f203_1 (And.intro Tryz.ntmps62 Tryz.ntmps218)) (And.intro (And.intro @Tryz.underlying109 T.c109) (And.intro T.g109 T.b109))) (And.intro (And.intro T.z109 (And.intro T.p109 T.k218)) (And.intro (And.intro Tryz.ntmps153 Tryz.ntmps217) (And.intro T.k153 Tryz.ntmps154))))) (And.intro (And.intro (And.intro (And.intro Tryz.ntmps266 (And.intro Tryz.ntmps64 T.k217)) (And.intro (And.intro Tryz.ntmps152 T.k152) (And.intro Tryz.ntmps63 Tryz.ntmps173))) (And.intro (And.intro Tryz.ntmps66 (And.intro @Tryz.underlying9 T.c9)) (And.intro (And.intro T.g9 T.b9) (And.intro T.z9 Tryz.ntmps144)))) (And.intro (And.intro (And.intro T.k144 (And.intro Tryz.ntmps85 Tryz.ntmps160)) (And.intro (And.intro @Tryz.underlying117 T.c117) (And.intro T.g117 T.b117))) (And.intro (And.intro T.z117 (And.intro T.h117 T.f117_0)) (And.intro (And.intro T.f117_1 T.k160) (And.intro Tryz.ntmps68 Tryz.ntmps67))))))) (And.intro (And.intro (And.intro (And.intro (And.intro (And.intro Tryz.ntmps70 (And.intro Tryz.ntmps226 @Tryz.underlying137)) (And.intro T.c137 (And.intro T.g137 T.b137))) (And.intro (And.intro T.z137 (And.intro T.h137 T.f137_0)) (And.intro (And.intro T.f137_1 T.f137_2) (And.intro T.f137_3 T.f137_4)))) (And.intro (And.intro (And.intro T.f137_5 (And.intro T.f137_6 T.f137_7)) (And.intro (And.intro T.f137_8 T.k226) (And.intro Tryz.ntmps174 Tryz.ntmps176))) (And.intro (And.intro T.k63 (And.intro T.k174 T.k62)) (And.intro (And.intro T.k173 T.k64) (And.intro T.k154 T.k66))))) (And.intro (And.intro (And.intro (And.intro Tryz.ntmps88 (And.intro T.k85 Tryz.ntmps87)) (And.intro (And.intro @Tryz.underlying115 T.c115) (And.intro T.g115 T.b115))) (And.intro (And.intro T.z115 (And.intro T.p115 T.k70)) (And.intro (And.intro T.k68 T.k176) (And.intro T.k67 Tryz.ntmps92)))) (And.intro (And.intro (And.intro Tryz.ntmps42 (And.intro @Tryz.underlying66 T.c66)) (And.intro (And.intro T.g66 T.b66) (And.intro T.z66 T.s66))) (And.intro (And.intro Tryz.ntmps33 (And.intro @Tryz.underlying50 T.c50)) (And.intro (And.intro T.g50 T.b50) (And.intro T.z50 T.s50)))))) (And.intro (And.intro (And.intro (And.intro (And.intro Tryz.ntmps36 (And.intro @Tryz.underlying23 T.c23)) (And.intro (And.intro T.g23 T.b23) (And.intro T.z23 T.s23))) (And.intro (And.intro @Tryz.underlying25 (And.intro T.c25 T.g25)) (And.intro (And.intro T.b25 T.z25) (And.intro T.h25 @Tryz.underlying26)))) (And.intro (And.intro (And.intro T.c26 (And.intro T.g26 T.b26)) (And.intro (And.intro T.z26 T.s26) (And.intro @Tryz.underlying28 T.c28))) (And.intro (And.intro T.g28 (And.intro T.b28 T.z28)) (And.intro (And.intro T.s28 @Tryz.underlying30) (And.intro T.c30 T.g30))))) (And.intro (And.intro (And.intro (And.intro T.b30 (And.intro T.z30 T.h30)) (And.intro (And.intro @Tryz.underlying32 T.c32) (And.intro T.g32 T.b32))) (And.intro (And.intro T.z32 (And.intro T.h32 @Tryz.underlying52)) (And.intro (And.intro T.c52 T.g52) (And.intro T.b52 T.z52)))) (And.intro (And.intro (And.intro T.h52 (And.intro @Tryz.underlying54 T.c54)) (And.intro (And.intro T.g54 T.b54) (And.intro T.z54 T.h54))) (And.intro (And.intro @Tryz.underlying139 (And.intro T.c139 T.g139)) (And.intro (And.intro T.b139 T.z139) (And.intro T.p139 T.f25_0)))))))) (And.intro (And.intro (And.intro (And.intro (And.intro (And.intro (And.intro T.f25_1 (And.intro T.f25_2 T.f25_3)) (And.intro T.f25_4 (And.intro T.k14 T.k20))) (And.intro (And.intro T.k175 (And.intro Tryz.ntmps89 @Tryz.underlying36)) (And.intro (And.intro T.c36 T.g36) (And.intro T.b36 T.z36)))) (And.intro (And.intro (And.intro T.s36 (And.intro @Tryz.underlying68 T.c68)) (And.intro (And.intro T.g68 T.b68) (And.intro T.z68 T.s68))) (And.intro (And.intro @Tryz.underlying144 (And.intro T.c144 T.g144)) (And.intro (And.intro T.b144 T.z144) (And.intro T.s144 @Tryz.underlying147))))) (And.intro (And.intro (And.intro (And.intro T.c147 (And.intro T.g147 T.b147)) (And.intro (And.intro T.z147 T.h147) (And.intro @Tryz.underlying156 T.c156))) (And.intro (And.intro T.g156 (And.intro T.b156 T.z156)) (And.intro (And.intro T.h156 T.f147_0) (And.intro T.f147_1 T.f147_2)))) (And.intro (And.intro (And.intro T.f147_3 (And.intro T.f147_4 T.k79)) (And.intro (And.intro T.k42 T.k88) (And.intro T.k55 T.k90))) (And.intro (And.intro T.k89 (And.intro T.k91 Tryz.ntmps34)) (And.intro (And.intro T.k87 T.k34) (And.intro Tryz.ntmps32 @Tryz.underlying185)))))) (And.intro (And.intro (And.intro (And.intro (And.intro T.c185 (And.intro T.g185 T.b185)) (And.intro (And.intro T.z185 @Tryz.underlying191) (And.intro T.c191 T.g191))) (And.intro (And.intro T.b191 (And.intro T.z191 Tryz.ntmps254)) (And.intro (And.intro T.k254 Tryz.ntmps208) (And.intro Tryz.ntmps253 Tryz.ntmps142)))) (And.intro (And.intro (And.intro @Tryz.underlying195 (And.intro T.c195 T.g195)) (And.intro (And.intro T.b195 T.z195) (And.intro T.s195 Tryz.ntmps140))) (And.intro (And.intro @Tryz.underlying254 (And.intro T.c254 T.g254)) (And.intro (And.intro T.b254 T.k253) (And.intro Tryz.ntmps207 @Tryz.underlying186))))) (And.intro (And.intro (And.intro (And.intro T.c186 (And.intro T.g186 T.b186)) (And.intro (And.intro T.z186 T.k208) (And.intro T.k207 Tryz.ntmps135))) (And.intro (And.intro Tryz.ntmps206 (And.intro T.k206 Tryz.ntmps134)) (And.intro (And.intro Tryz.ntmps133 Tryz.ntmps205) (And.intro Tryz.ntmps132 T.k132)))) (And.intro (And.intro (And.intro T.k134 (And.intro T.k133 T.k135)) (And.intro (And.intro Tryz.ntmps54 Tryz.ntmps141) (And.intro T.k142 T.k141))) (And.intro (And.intro T.k140 (And.intro Tryz.ntmps57 @Tryz.underlying301)) (And.intro (And.intro T.c301 T.g301) (And.intro T.b301 Tryz.ntmps284))))))) (And.intro (And.intro (And.intro (And.intro (And.intro (And.intro T.k54 (And.intro T.k284 Tryz.ntmps265)) (And.intro (And.intro Tryz.ntmps289 T.k289) (And.intro T.k57 Tryz.ntmps268))) (And.intro (And.intro Tryz.ntmps233 (And.intro T.k265 Tryz.ntmps263)) (And.intro (And.intro T.k268 Tryz.ntmps238) (And.intro T.k74 T.k262)))) (And.intro (And.intro (And.intro T.k252 (And.intro T.k77 T.k263)) (And.intro (And.intro T.k73 Tryz.ntmps231) (And.intro T.k238 Tryz.ntmps185))) (And.intro (And.intro Tryz.ntmps306 (And.intro T.k306 Tryz.ntmps317)) (And.intro (And.intro T.k317 Tryz.ntmps314) (And.intro Tryz.ntmps315 T.k314))))) (And.intro (And.intro (And.intro (And.intro T.k315 (And.intro Tryz.ntmps305 @Tryz.underlying303)) (And.intro (And.intro T.c303 T.g303) (And.intro T.b303 T.k305))) (And.intro (And.intro Tryz.ntmps285 (And.intro @Tryz.underlying290 T.c290)) (And.intro (And.intro T.g290 T.b290) (And.intro T.z290 Tryz.ntmps287)))) (And.intro (And.intro (And.intro @Tryz.underlying321 (And.intro T.c321 T.g321)) (And.intro (And.intro T.b321 T.z321) (And.intro Tryz.ntmps307 T.k307))) (And.intro (And.intro Tryz.ntmps288 (And.intro @Tryz.underlying305 T.c305)) (And.intro (And.intro T.g305 T.b305) (And.intro Tryz.ntmps286 T.k286)))))) (And.intro (And.intro (And.intro (And.intro (And.intro T.k285 (And.intro T.k287 T.k288)) (And.intro (And.intro Tryz.ntmps267 Tryz.ntmps290) (And.intro T.k290 Tryz.ntmps269))) (And.intro (And.intro Tryz.ntmps271 (And.intro Tryz.ntmps270 Tryz.ntmps272)) (And.intro (And.intro T.k271 T.k270) (And.intro T.k272 T.k269)))) (And.intro (And.intro (And.intro Tryz.ntmps237 (And.intro Tryz.ntmps236 T.k237)) (And.intro (And.intro T.k236 Tryz.ntmps184) (And.intro T.k267 T.k266))) (And.intro (And.intro Tryz.ntmps235 (And.intro Tryz.ntmps232 T.k264)) (And.intro (And.intro Tryz.ntmps234 T.k235) (And.intro T.k232 T.k234))))) (And.intro (And.intro (And.intro (And.intro T.k233 (And.intro Tryz.ntmps181 T.k75)) (And.intro (And.intro Tryz.ntmps179 T.k231) (And.intro Tryz.ntmps180 Tryz.ntmps182))) (And.intro (And.intro Tryz.ntmps183 (And.intro T.k180 T.k181)) (And.intro (And.intro T.k179 Tryz.ntmps100) (And.intro T.k184 T.k183)))) (And.intro (And.intro (And.intro T.k185 (And.intro T.k182 Tryz.ntmps101)) (And.intro (And.intro T.k100 Tryz.ntmps39) (And.intro T.k101 T.k92))) (And.intro (And.intro Tryz.ntmps40 (And.intro T.k33 T.k39)) (And.intro (And.intro T.k32 T.k40) (And.intro T.k36 Tryz.ntmps8))))))))) :=
  (And.intro (And.intro (And.intro (And.intro (And.intro (And.intro (And.intro (And.intro @Tryz.underlying5 (And.intro T.c5 T.g5)) (And.intro T.b5 (And.intro T.z5 @Tryz.underlying22))) (And.intro (And.intro T.c22 (And.intro T.g22 T.b22)) (And.intro (And.intro T.z22 T.s22) (And.intro Tryz.ntmps151 @Tryz.underlying3)))) (And.intro (And.intro (And.intro T.c3 (And.intro T.g3 T.b3)) (And.intro (And.intro T.z3 @Tryz.underlying4) (And.intro T.c4 T.g4))) (And.intro (And.intro T.b4 (And.intro T.z4 @Tryz.underlying27)) (And.intro (And.intro T.c27 T.g27) (And.intro T.b27 T.z27))))) (And.intro (And.intro (And.intro (And.intro @Tryz.underlying212 (And.intro T.c212 T.g212)) (And.intro (And.intro T.b212 T.z212) (And.intro T.h212 T.f212_0))) (And.intro (And.intro T.f212_1 (And.intro Tryz.ntmps166 Tryz.ntmps73)) (And.intro (And.intro @Tryz.underlying124 T.c124) (And.intro T.g124 T.b124)))) (And.intro (And.intro (And.intro T.z124 (And.intro T.p124 T.k166)) (And.intro (And.intro Tryz.ntmps203 T.k203) (And.intro Tryz.ntmps262 Tryz.ntmps264))) (And.intro (And.intro Tryz.ntmps75 (And.intro Tryz.ntmps221 T.k221)) (And.intro (And.intro Tryz.ntmps165 T.k165) (And.intro Tryz.ntmps74 Tryz.ntmps252)))))) (And.intro (And.intro (And.intro (And.intro (And.intro T.k151 (And.intro Tryz.ntmps77 @Tryz.underlying37)) (And.intro (And.intro T.c37 T.g37) (And.intro T.b37 T.z37))) (And.intro (And.intro @Tryz.underlying203 (And.intro T.c203 T.g203)) (And.intro (And.intro T.b203 T.z203) (And.intro T.h203 T.f203_0)))) (And.intro (And.intro (And.intro T.f203_1 (And.intro Tryz.ntmps62 Tryz.ntmps218)) (And.intro (And.intro @Tryz.underlying109 T.c109) (And.intro T.g109 T.b109))) (And.intro (And.intro T.z109 (And.intro T.p109 T.k218)) (And.intro (And.intro Tryz.ntmps153 Tryz.ntmps217) (And.intro T.k153 Tryz.ntmps154))))) (And.intro (And.intro (And.intro (And.intro Tryz.ntmps266 (And.intro Tryz.ntmps64 T.k217)) (And.intro (And.intro Tryz.ntmps152 T.k152) (And.intro Tryz.ntmps63 Tryz.ntmps173))) (And.intro (And.intro Tryz.ntmps66 (And.intro @Tryz.underlying9 T.c9)) (And.intro (And.intro T.g9 T.b9) (And.intro T.z9 Tryz.ntmps144)))) (And.intro (And.intro (And.intro T.k144 (And.intro Tryz.ntmps85 Tryz.ntmps160)) (And.intro (And.intro @Tryz.underlying117 T.c117) (And.intro T.g117 T.b117))) (And.intro (And.intro T.z117 (And.intro T.h117 T.f117_0)) (And.intro (And.intro T.f117_1 T.k160) (And.intro Tryz.ntmps68 Tryz.ntmps67))))))) (And.intro (And.intro (And.intro (And.intro (And.intro (And.intro Tryz.ntmps70 (And.intro Tryz.ntmps226 @Tryz.underlying137)) (And.intro T.c137 (And.intro T.g137 T.b137))) (And.intro (And.intro T.z137 (And.intro T.h137 T.f137_0)) (And.intro (And.intro T.f137_1 T.f137_2) (And.intro T.f137_3 T.f137_4)))) (And.intro (And.intro (And.intro T.f137_5 (And.intro T.f137_6 T.f137_7)) (And.intro (And.intro T.f137_8 T.k226) (And.intro Tryz.ntmps174 Tryz.ntmps176))) (And.intro (And.intro T.k63 (And.intro T.k174 T.k62)) (And.intro (And.intro T.k173 T.k64) (And.intro T.k154 T.k66))))) (And.intro (And.intro (And.intro (And.intro Tryz.ntmps88 (And.intro T.k85 Tryz.ntmps87)) (And.intro (And.intro @Tryz.underlying115 T.c115) (And.intro T.g115 T.b115))) (And.intro (And.intro T.z115 (And.intro T.p115 T.k70)) (And.intro (And.intro T.k68 T.k176) (And.intro T.k67 Tryz.ntmps92)))) (And.intro (And.intro (And.intro Tryz.ntmps42 (And.intro @Tryz.underlying66 T.c66)) (And.intro (And.intro T.g66 T.b66) (And.intro T.z66 T.s66))) (And.intro (And.intro Tryz.ntmps33 (And.intro @Tryz.underlying50 T.c50)) (And.intro (And.intro T.g50 T.b50) (And.intro T.z50 T.s50)))))) (And.intro (And.intro (And.intro (And.intro (And.intro Tryz.ntmps36 (And.intro @Tryz.underlying23 T.c23)) (And.intro (And.intro T.g23 T.b23) (And.intro T.z23 T.s23))) (And.intro (And.intro @Tryz.underlying25 (And.intro T.c25 T.g25)) (And.intro (And.intro T.b25 T.z25) (And.intro T.h25 @Tryz.underlying26)))) (And.intro (And.intro (And.intro T.c26 (And.intro T.g26 T.b26)) (And.intro (And.intro T.z26 T.s26) (And.intro @Tryz.underlying28 T.c28))) (And.intro (And.intro T.g28 (And.intro T.b28 T.z28)) (And.intro (And.intro T.s28 @Tryz.underlying30) (And.intro T.c30 T.g30))))) (And.intro (And.intro (And.intro (And.intro T.b30 (And.intro T.z30 T.h30)) (And.intro (And.intro @Tryz.underlying32 T.c32) (And.intro T.g32 T.b32))) (And.intro (And.intro T.z32 (And.intro T.h32 @Tryz.underlying52)) (And.intro (And.intro T.c52 T.g52) (And.intro T.b52 T.z52)))) (And.intro (And.intro (And.intro T.h52 (And.intro @Tryz.underlying54 T.c54)) (And.intro (And.intro T.g54 T.b54) (And.intro T.z54 T.h54))) (And.intro (And.intro @Tryz.underlying139 (And.intro T.c139 T.g139)) (And.intro (And.intro T.b139 T.z139) (And.intro T.p139 T.f25_0)))))))) (And.intro (And.intro (And.intro (And.intro (And.intro (And.intro (And.intro T.f25_1 (And.intro T.f25_2 T.f25_3)) (And.intro T.f25_4 (And.intro T.k14 T.k20))) (And.intro (And.intro T.k175 (And.intro Tryz.ntmps89 @Tryz.underlying36)) (And.intro (And.intro T.c36 T.g36) (And.intro T.b36 T.z36)))) (And.intro (And.intro (And.intro T.s36 (And.intro @Tryz.underlying68 T.c68)) (And.intro (And.intro T.g68 T.b68) (And.intro T.z68 T.s68))) (And.intro (And.intro @Tryz.underlying144 (And.intro T.c144 T.g144)) (And.intro (And.intro T.b144 T.z144) (And.intro T.s144 @Tryz.underlying147))))) (And.intro (And.intro (And.intro (And.intro T.c147 (And.intro T.g147 T.b147)) (And.intro (And.intro T.z147 T.h147) (And.intro @Tryz.underlying156 T.c156))) (And.intro (And.intro T.g156 (And.intro T.b156 T.z156)) (And.intro (And.intro T.h156 T.f147_0) (And.intro T.f147_1 T.f147_2)))) (And.intro (And.intro (And.intro T.f147_3 (And.intro T.f147_4 T.k79)) (And.intro (And.intro T.k42 T.k88) (And.intro T.k55 T.k90))) (And.intro (And.intro T.k89 (And.intro T.k91 Tryz.ntmps34)) (And.intro (And.intro T.k87 T.k34) (And.intro Tryz.ntmps32 @Tryz.underlying185)))))) (And.intro (And.intro (And.intro (And.intro (And.intro T.c185 (And.intro T.g185 T.b185)) (And.intro (And.intro T.z185 @Tryz.underlying191) (And.intro T.c191 T.g191))) (And.intro (And.intro T.b191 (And.intro T.z191 Tryz.ntmps254)) (And.intro (And.intro T.k254 Tryz.ntmps208) (And.intro Tryz.ntmps253 Tryz.ntmps142)))) (And.intro (And.intro (And.intro @Tryz.underlying195 (And.intro T.c195 T.g195)) (And.intro (And.intro T.b195 T.z195) (And.intro T.s195 Tryz.ntmps140))) (And.intro (And.intro @Tryz.underlying254 (And.intro T.c254 T.g254)) (And.intro (And.intro T.b254 T.k253) (And.intro Tryz.ntmps207 @Tryz.underlying186))))) (And.intro (And.intro (And.intro (And.intro T.c186 (And.intro T.g186 T.b186)) (And.intro (And.intro T.z186 T.k208) (And.intro T.k207 Tryz.ntmps135))) (And.intro (And.intro Tryz.ntmps206 (And.intro T.k206 Tryz.ntmps134)) (And.intro (And.intro Tryz.ntmps133 Tryz.ntmps205) (And.intro Tryz.ntmps132 T.k132)))) (And.intro (And.intro (And.intro T.k134 (And.intro T.k133 T.k135)) (And.intro (And.intro Tryz.ntmps54 Tryz.ntmps141) (And.intro T.k142 T.k141))) (And.intro (And.intro T.k140 (And.intro Tryz.ntmps57 @Tryz.underlying301)) (And.intro (And.intro T.c301 T.g301) (And.intro T.b301 Tryz.ntmps284))))))) (And.intro (And.intro (And.intro (And.intro (And.intro (And.intro T.k54 (And.intro T.k284 Tryz.ntmps265)) (And.intro (And.intro Tryz.ntmps289 T.k289) (And.intro T.k57 Tryz.ntmps268))) (And.intro (And.intro Tryz.ntmps233 (And.intro T.k265 Tryz.ntmps263)) (And.intro (And.intro T.k268 Tryz.ntmps238) (And.intro T.k74 T.k262)))) (And.intro (And.intro (And.intro T.k252 (And.intro T.k77 T.k263)) (And.intro (And.intro T.k73 Tryz.ntmps231) (And.intro T.k238 Tryz.ntmps185))) (And.intro (And.intro Tryz.ntmps306 (And.intro T.k306 Tryz.ntmps317)) (And.intro (And.intro T.k317 Tryz.ntmps314) (And.intro Tryz.ntmps315 T.k314))))) (And.intro (And.intro (And.intro (And.intro T.k315 (And.intro Tryz.ntmps305 @Tryz.underlying303)) (And.intro (And.intro T.c303 T.g303) (And.intro T.b303 T.k305))) (And.intro (And.intro Tryz.ntmps285 (And.intro @Tryz.underlying290 T.c290)) (And.intro (And.intro T.g290 T.b290) (And.intro T.z290 Tryz.ntmps287)))) (And.intro (And.intro (And.intro @Tryz.underlying321 (And.intro T.c321 T.g321)) (And.intro (And.intro T.b321 T.z321) (And.intro Tryz.ntmps307 T.k307))) (And.intro (And.intro Tryz.ntmps288 (And.intro @Tryz.underlying305 T.c305)) (And.intro (And.intro T.g305 T.b305) (And.intro Tryz.ntmps286 T.k286)))))) (And.intro (And.intro (And.intro (And.intro (And.intro T.k285 (And.intro T.k287 T.k288)) (And.intro (And.intro Tryz.ntmps267 Tryz.ntmps290) (And.intro T.k290 Tryz.ntmps269))) (And.intro (And.intro Tryz.ntmps271 (And.intro Tryz.ntmps270 Tryz.ntmps272)) (And.intro (And.intro T.k271 T.k270) (And.intro T.k272 T.k269)))) (And.intro (And.intro (And.intro Tryz.ntmps237 (And.intro Tryz.ntmps236 T.k237)) (And.intro (And.intro T.k236 Tryz.ntmps184) (And.intro T.k267 T.k266))) (And.intro (And.intro Tryz.ntmps235 (And.intro Tryz.ntmps232 T.k264)) (And.intro (And.intro Tryz.ntmps234 T.k235) (And.intro T.k232 T.k234))))) (And.intro (And.intro (And.intro (And.intro T.k233 (And.intro Tryz.ntmps181 T.k75)) (And.intro (And.intro Tryz.ntmps179 T.k231) (And.intro Tryz.ntmps180 Tryz.ntmps182))) (And.intro (And.intro Tryz.ntmps183 (And.intro T.k180 T.k181)) (And.intro (And.intro T.k179 Tryz.ntmps100) (And.intro T.k184 T.k183)))) (And.intro (And.intro (And.intro T.k185 (And.intro T.k182 Tryz.ntmps101)) (And.intro (And.intro T.k100 Tryz.ntmps39) (And.intro T.k101 T.k92))) (And.intro (And.intro Tryz.ntmps40 (And.intro T.k33 T.k39)) (And.intro (And.intro T.k32 T.k40) (And.intro T.k36 Tryz.ntmps8)))))))))
end Go.Proofs.YtoagkleecgngdaaGreatDoor

set_option autoImplicit false
namespace Go.Proofs.YtoagkleecgngdaaGreatDoor
open Go Go.AM Go.Proofs


variable {Γ : Nat → List AV}

set_option maxHeartbeats 400000 in
theorem clone_calls (l : List UInt8) (sp : Sp) (ha : sp.isAny = false) (s : AS) (hl : l.length ≤ 2 ^ 45) : ACalls Tryz.prog Γ 151 [bytesV l sp] s (fun r s' => r = bytesV l .any ∧ s' = s) := by
  refine acalls_body Tryz.func151 rfl Tryz.ntmps151 Tryz.results151 (by simp) ?_
  unfold bytesV
  refine wS fun K hK => ?_
  simp only [↓DN,UP,DF,Qa,Qb,Qc,Qd,Qe,Qf,Qg,Qh,reduceCtorEq,↓reduceIte,Na,Nb,Nc,Nk,Nf,Ng,Nh,Za,Zb,Zc,TT]
  refine hK _ _ ?_;clear hK K
  refine wK fun K hK => ?_
  refine wS fun K hK => ?_
  simp only [↓DN,UP,DF,Qa,Qb,Qc,Qd,Qe,Qf,Qg,Qh,reduceCtorEq,↓reduceIte,Na,Nb,Nc,Nk,Nf,Ng,Nh,Za,Zb,Zc,TT, ha, Bool.false_eq_true, and_false]
  refine hK _ _ ?_;clear hK K
  refine wC fun X Y hX hY => ?_
  simp only [↓DN,UP,DF,Qa,Qb,Qc,Qd,Qe,Qf,Qg,Qh,reduceCtorEq,↓reduceIte,Na,Nb,Nc,Nk,Nf,Ng,Nh,Za,Zb,Zc,TT, DB]
  refine hY ?_;clear hX hY X Y
  refine awp_skip ?_
  refine hK _ _ ?_;clear hK K
  by_cases h0 : l.length = 0
  · have hl0 : l = [] := List.eq_nil_of_length_eq_zero h0
    subst hl0
    refine wS fun K hK => ?_
    simp only [↓DN,UP,DF,Qa,Qb,Qc,Qd,Qe,Qf,Qg,Qh,reduceCtorEq,↓reduceIte,Na,Nb,Nc,Nk,Nf,Ng,Nh,Za,Zb,Zc,TT]
    refine hK _ _ ?_;clear hK K
    refine awp_ret ?_
    simp only [↓DN,UP,DF,Qa,Qb,Qc,Qd,Qe,Qf,Qg,Qh,reduceCtorEq,↓reduceIte,Na,Nb,Nc,Nk,Nf,Ng,Nh,Za,Zb,Zc,TT, retQ, AEnds, aresL, ares, atuple]
    exact ⟨_, s, AV.weak_any, AS.le.refl s, rfl, rfl⟩
  · refine wS fun K hK => ?_
    simp only [↓DN,UP,DF,Qa,Qb,Qc,Qd,Qe,Qf,Qg,Qh,reduceCtorEq,↓reduceIte,Na,Nb,Nc,Nk,Nf,Ng,Nh,Za,Zb,Zc,TT, h0]
    refine ⟨by omega, by omega, fun t ht => hK _ _ ?_⟩
    clear hK K
    refine awp_ret ?_
    simp only [↓DN,UP,DF,Qa,Qb,Qc,Qd,Qe,Qf,Qg,Qh,reduceCtorEq,↓reduceIte,Na,Nb,Nc,Nk,Nf,Ng,Nh,Za,Zb,Zc,TT, retQ, AEnds, aresL, ares, atuple]
    exact ⟨_, s, AV.weak_any, AS.le_gain (AS.le.refl s) ht 0, rfl, rfl⟩

set_option maxHeartbeats 400000 in
theorem number_calls (s0 s : AS) (p : Nat) (l : List UInt8) (n size : Nat) (hn : n < 2 ^ 64) (hs : size ≤ 8) (hl : l.length + 8 ≤ 2 ^ 45) (h : Pen s0 s p l false) :
    ACalls Tryz.prog Γ 166 [.ptr p 0, .v (.int .u64 n), .v (.int .i64 size)] s (fun r s' => r = .tup [] ∧ Pen s0 s' p (l ++ be size n) false) := by
  refine acalls_body Tryz.func166 rfl Tryz.ntmps166 Tryz.results166 (by simp) ?_
  refine wS fun K hK => ?_
  simp only [↓DN,UP,DF,Qa,Qb,Qc,Qd,Qe,Qf,Qg,Qh,reduceCtorEq,↓reduceIte,Na,Nb,Nc,Nk,Nf,Ng,Nh,Za,Zb,Zc,TT]
  refine hK _ _ ?_;clear hK K
  refine awp_block ?_
  refine awp_loop (fun E s1 => ∃ (i : Int) (l' : List UInt8), E 6 = .v (.int .i64 i) ∧ -1 ≤ i ∧ i < size ∧ E 0 = .ptr p 0 ∧ E 1 = .v (.int .u64 n) ∧ Pen s0 s1 p l' false ∧ l' ++ be (i + 1).toNat n = l ++ be size n)
    (fun E _ => match E 6 with | .v (.int _ i) => (i + 1).toNat | _ => 0) ?_ ?_
  · refine ⟨size - 1, l, ?_, by omega, by omega, by simp [upd, initE], by simp [upd, initE], h, by congr 2; omega⟩
    simp [upd, isub_i64 (show -9223372036854775808 ≤ (size : Int) - 1 ∧ (size : Int) - 1 ≤ 9223372036854775807 by omega)]
  · rintro E1 s1 ⟨i, l', h6, hi1, hi2, h0, h1, hp, hl'⟩ -
    obtain ⟨x, hx, hb⟩ := hp.obj
    refine wK fun K hK => ?_
    by_cases hi : 0 ≤ i
    · refine wS fun K hK => ?_
      simp only [↓DN,UP,DF,Qa,Qb,Qc,Qd,Qe,Qf,Qg,Qh,reduceCtorEq,↓reduceIte,Na,Nb,Nc,Nk,Nf,Ng,Nh,Za,Zb,Zc,TT, h6, h0, h1, hx, decide_eq_true hi, ge_iff_le, Bool.not_false]
      refine hK _ _ ?_;clear hK K
      refine wC fun X Y hX hY => ?_
      simp only [↓DN,UP,DF,Qa,Qb,Qc,Qd,Qe,Qf,Qg,Qh,reduceCtorEq,↓reduceIte,Na,Nb,Nc,Nk,Nf,Ng,Nh,Za,Zb,Zc,TT, DB]
      refine hX ?_;clear hX hY X Y
      refine awp_skip ?_
      refine hK _ _ ?_;clear hK K
      refine wK fun K hK => ?_
      refine awp_block ?_
      have hmul : imul .i64 8 i = 8 * i := imul_i64 (by omega)
      have hnn : ¬ (8 * i < 0) := by omega
      obtain ⟨j, rfl⟩ := Int.eq_ofNat_of_zero_le hi
      have hj : j < 8 := by omega
      have hstep := be_step n j hj
      have hbe : be ((j : Int) + 1).toNat n = UInt8.ofNat (n / 2 ^ (8 * j)) :: be j n := by
        rw [show ((j : Int) + 1).toNat = j + 1 from by omega]; rfl
      have hlen : l'.length ≤ l.length + size := by
        have := congrArg List.length hl'
        simp at this
        omega
      have hsub : isub .i64 (j : Int) 1 = (j : Int) - 1 := isub_i64 (by omega)
      have hend : ∀ (E2 : Env) (s2 : AS), E2 6 = .v (.int .i64 j) → E2 0 = .ptr p 0 → E2 1 = .v (.int .u64 n) → Pen s0 s2 p (l' ++ [UInt8.ofNat (n / 2 ^ (8 * j))]) false → K E2 s2 := by
        intro E2 s2 e6 e0 e1 hp2
        refine hK _ _ ?_;clear hK K
        refine wE fun K hK => ?_
        simp only [↓DN,UP,DF,Qa,Qb,Qc,Qd,Qe,Qf,Qg,Qh,reduceCtorEq,↓reduceIte,Na,Nb,Nc,Nk,Nf,Ng,Nh,Za,Zb,Zc,TT, e6, hsub]
        refine hK _ _ ?_;clear hK K
        refine ⟨⟨(j : Int) - 1, _, by simp only [upd, ↓reduceIte], by omega, by omega, by simp only [upd, e0, Nc, ↓reduceIte], by simp only [upd, e1, Nc, ↓reduceIte], hp2, ?_⟩, ?_⟩
        · rw [← hl', hbe]
          simp
        · simp only [h6, upd, ↓reduceIte]
          omega
      clear hK
      rcases hb with ⟨rfl, hl0⟩ | ⟨t, e, rfl, ht, ht0⟩
      · subst hl0
        refine awp_drw_end T.mixed [4,11,14] (by kernel_rfl) ?_
        intro K hK
        simp only [↓AXq_nil,↓AXq_cons,pval,DX,Nat.reduceBEq,↓DN,UP,DF,Qa,Qb,Qc,Qd,Qe,Qf,Qg,Qh,reduceCtorEq,↓reduceIte,Na,Nb,Nc,Nk,Nf,Ng,Nh,Za,Zb,Zc,TT, h6, h0, h1, hx, nilS, hmul, hnn, List.replicate_succ]
        intro t ht
        refine hK _ _ (hend _ _ (by simp only [upd, h6, Nc, ↓reduceIte]) (by simp only [upd, h0, Nc, ↓reduceIte]) (by simp only [upd, h1, Nc, ↓reduceIte]) ?_)
        rw [hstep]
        exact hp.one ht _
      · refine awp_drw_end T.mixed [4,11,14] (by kernel_rfl) ?_
        intro K hK
        simp only [↓AXq_nil,↓AXq_cons,pval,DX,Nat.reduceBEq,↓DN,UP,DF,Qa,Qb,Qc,Qd,Qe,Qf,Qg,Qh,reduceCtorEq,↓reduceIte,Na,Nb,Nc,Nk,Nf,Ng,Nh,Za,Zb,Zc,TT, h6, h0, h1, hx, bytesV, hmul, hnn, ht, List.replicate_succ]
        refine ⟨by omega, by omega, hK _ _ (hend _ _ (by simp only [upd, h6, Nc, ↓reduceIte]) (by simp only [upd, h0, Nc, ↓reduceIte]) (by simp only [upd, h1, Nc, ↓reduceIte]) ?_)⟩
        rw [hstep]
        exact hp.more ht0 [_] rfl rfl
    · have hi0 : i = -1 := by omega
      subst hi0
      refine wS fun K hK => ?_
      simp only [↓DN,UP,DF,Qa,Qb,Qc,Qd,Qe,Qf,Qg,Qh,reduceCtorEq,↓reduceIte,Na,Nb,Nc,Nk,Nf,Ng,Nh,Za,Zb,Zc,TT, h6, h0, h1, hx]
      refine hK _ _ ?_;clear hK K
      refine wC fun X Y hX hY => ?_
      simp only [↓DN,UP,DF,Qa,Qb,Qc,Qd,Qe,Qf,Qg,Qh,reduceCtorEq,↓reduceIte,Na,Nb,Nc,Nk,Nf,Ng,Nh,Za,Zb,Zc,TT, DB]
      refine hY ?_;clear hX hY X Y
      refine awp_exit ?_
      simp only [thenQ, blockQ, if_true, retQ, AEnds, aresL, atuple, List.toList_toArray]
      refine ⟨_, s1, AV.weak.refl _, AS.le.refl _, rfl, ?_⟩
      have : l' = l ++ be size n := by simpa [be] using hl'
      rw [← this]
      exact hp
end Go.Proofs.YtoagkleecgngdaaGreatDoor


set_option autoImplicit false
namespace Go.Proofs.YtoagkleecgngdaaGreatDoor
open Go Go.AM Go.Proofs


variable {Γ : Nat → List AV}

set_option maxHeartbeats 400000 in
theorem number_bad (s0 s : AS) (p : Nat) (l : List UInt8) (n size : Int) (hs : 0 ≤ size ∧ size ≤ 8) (h : Pen s0 s p l true) :
    ACalls Tryz.prog Γ 166 [.ptr p 0, .v (.int .u64 n), .v (.int .i64 size)] s (fun r s' => r = .tup [] ∧ Pen s0 s' p l true) := by
  refine acalls_body Tryz.func166 rfl Tryz.ntmps166 Tryz.results166 (by simp) ?_
  obtain ⟨x, hx, hb⟩ := h.obj
  have hsub : isub .i64 size 1 = size - 1 := isub_i64 (by omega)
  refine wS fun K hK => ?_
  simp only [↓DN,UP,DF,Qa,Qb,Qc,Qd,Qe,Qf,Qg,Qh,reduceCtorEq,↓reduceIte,Na,Nb,Nc,Nk,Nf,Ng,Nh,Za,Zb,Zc,TT, hsub]
  refine hK _ _ ?_;clear hK K
  refine awp_block ?_
  refine awp_loop (fun E s1 => E 6 = .v (.int .i64 (size - 1)) ∧ E 0 = .ptr p 0 ∧ s1 = s) (fun _ _ => 0) ?_ ?_
  · exact ⟨by simp [upd], by simp [upd, initE], rfl⟩
  · rintro E1 s1 ⟨h6, h0, rfl⟩ -
    refine wK fun K hK => ?_
    by_cases hi : 0 ≤ size - 1
    · refine wS fun K hK => ?_
      simp only [↓DN,UP,DF,Qa,Qb,Qc,Qd,Qe,Qf,Qg,Qh,reduceCtorEq,↓reduceIte,Na,Nb,Nc,Nk,Nf,Ng,Nh,Za,Zb,Zc,TT, h6, h0, hx, decide_eq_true hi, Bool.not_true]
      refine hK _ _ ?_;clear hK K
      refine wC fun X Y hX hY => ?_
      simp only [↓DN,UP,DF,Qa,Qb,Qc,Qd,Qe,Qf,Qg,Qh,reduceCtorEq,↓reduceIte,Na,Nb,Nc,Nk,Nf,Ng,Nh,Za,Zb,Zc,TT, DB]
      refine hY ?_;clear hX hY X Y
      refine awp_exit ?_
      simp only [thenQ, blockQ, if_true, retQ, AEnds, aresL, atuple, List.toList_toArray]
      exact ⟨_, s1, AV.weak.refl _, AS.le.refl _, rfl, h⟩
    · refine wS fun K hK => ?_
      simp only [↓DN,UP,DF,Qa,Qb,Qc,Qd,Qe,Qf,Qg,Qh,reduceCtorEq,↓reduceIte,Na,Nb,Nc,Nk,Nf,Ng,Nh,Za,Zb,Zc,TT, h6, h0, hx, decide_eq_false hi, Bool.not_true, Bool.true_eq_false, Bool.false_eq_true]
      refine hK _ _ ?_;clear hK K
      refine wC fun X Y hX hY => ?_
      simp only [↓DN,UP,DF,Qa,Qb,Qc,Qd,Qe,Qf,Qg,Qh,reduceCtorEq,↓reduceIte,Na,Nb,Nc,Nk,Nf,Ng,Nh,Za,Zb,Zc,TT, DB]
      refine hY ?_;clear hX hY X Y
      refine awp_exit ?_
      simp only [thenQ, blockQ, if_true, retQ, AEnds, aresL, atuple, List.toList_toArray]
      exact ⟨_, s1, AV.weak.refl _, AS.le.refl _, rfl, h⟩

theorem number_any (s0 s : AS) (p : Nat) (st : List UInt8 × Bool) (n size : Nat) (hn : n < 2 ^ 64) (hs : size ≤ 8) (hl : st.1.length + 8 ≤ 2 ^ 45) (h : PenS s0 s p st) :
    ACalls Tryz.prog Γ 166 [.ptr p 0, .v (.int .u64 n), .v (.int .i64 size)] s (fun r s' => r = .tup [] ∧ PenS s0 s' p (penNum size n st)) := by
  obtain ⟨l, b⟩ := st
  cases b
  · exact number_calls s0 s p l n size hn hs hl h
  · exact number_bad s0 s p l n size (by omega) h

set_option maxHeartbeats 400000 in
theorem new_calls (s : AS) : ACalls Tryz.prog Γ 73 [] s (fun r s' => ∃ p, r = .ptr p 0 ∧ PenS s s' p ([], false)) := by
  refine acalls_body Tryz.func73 rfl Tryz.ntmps73 Tryz.results73 (by simp) ?_
  refine wS fun K hK => ?_
  simp only [↓DN,UP,DF,Qa,Qb,Qc,Qd,Qe,Qf,Qg,Qh,reduceCtorEq,↓reduceIte,Na,Nb,Nc,Nk,Nf,Ng,Nh,Za,Zb,Zc,TT]
  refine hK _ _ ?_;clear hK K
  refine wS fun K hK => ?_
  simp only [↓DN,UP,DF,Qa,Qb,Qc,Qd,Qe,Qf,Qg,Qh,reduceCtorEq,↓reduceIte,Na,Nb,Nc,Nk,Nf,Ng,Nh,Za,Zb,Zc,TT, Array.toList_empty]
  intro p hp
  refine hK _ _ ?_
  refine awp_ret ?_
  simp only [↓DN,UP,DF,Qa,Qb,Qc,Qd,Qe,Qf,Qg,Qh,reduceCtorEq,↓reduceIte,Na,Nb,Nc,Nk,Nf,Ng,Nh,Za,Zb,Zc,TT, retQ, AEnds, aresL, ares, atuple]
  exact ⟨_, _, AV.weak.refl _, AS.le.refl _, p, rfl, AS.le_set (AS.le.refl s) hp _, hp, _, AS.set_objs_same _ _ _, .inl ⟨rfl, rfl⟩⟩

set_option maxHeartbeats 400000 in
theorem small_calls (s0 s : AS) (p : Nat) (st : List UInt8 × Bool) (n : Int) (size : Nat) (hn : -9223372036854775808 ≤ n ∧ n ≤ 9223372036854775807) (hs : size ≤ 8) (hl : st.1.length + 8 ≤ 2 ^ 45) (h : PenS s0 s p st) :
    ACalls Tryz.prog Γ 203 [.ptr p 0, .v (.int .i64 n), .v (.int .i64 size)] s (fun r s' => r = .tup [] ∧ PenS s0 s' p (penSmall size n st)) := by
  refine acalls_body Tryz.func203 rfl Tryz.ntmps203 Tryz.results203 (by simp) ?_
  obtain ⟨x, hx, hb⟩ := h.obj
  refine wK fun K hK => ?_
  have hmul : imul .i64 8 (size : Int) = 8 * size := imul_i64 (by omega)
  have hnn : ¬ (8 * (size : Int) < 0) := by omega
  by_cases h0 : n < 0
  · refine wS fun K hK => ?_
    simp only [↓DN,UP,DF,Qa,Qb,Qc,Qd,Qe,Qf,Qg,Qh,reduceCtorEq,↓reduceIte,Na,Nb,Nc,Nk,Nf,Ng,Nh,Za,Zb,Zc,TT, decide_eq_true h0, Bool.true_eq_false]
    refine hK _ _ ?_;clear hK K
    refine wC fun X Y hX hY => ?_
    simp only [↓DN,UP,DF,Qa,Qb,Qc,Qd,Qe,Qf,Qg,Qh,reduceCtorEq,↓reduceIte,Na,Nb,Nc,Nk,Nf,Ng,Nh,Za,Zb,Zc,TT, DB]
    refine hX ?_;clear hX hY X Y
    refine wS fun K hK => ?_
    simp only [↓DN,UP,DF,Qa,Qb,Qc,Qd,Qe,Qf,Qg,Qh,reduceCtorEq,↓reduceIte,Na,Nb,Nc,Nk,Nf,Ng,Nh,Za,Zb,Zc,TT, hx]
    refine hK _ _ ?_;clear hK K
    refine awp_ret ?_
    simp only [thenQ, retQ, AEnds, aresL, atuple, List.toList_toArray]
    refine ⟨_, _, AV.weak.refl _, AS.le.refl _, rfl, ?_⟩
    have : penSmall size n st = (st.1, true) := by unfold penSmall; rw [if_neg (by omega)]
    rw [this]
    exact h.bad hx hb true
  · by_cases h1 : 2 ^ (8 * size) ≤ n
    · refine wS fun K hK => ?_
      simp only [↓DN,UP,DF,Qa,Qb,Qc,Qd,Qe,Qf,Qg,Qh,reduceCtorEq,↓reduceIte,Na,Nb,Nc,Nk,Nf,Ng,Nh,Za,Zb,Zc,TT, decide_eq_false h0, Bool.false_eq_true, hmul, hnn, shr_small n size (by omega) (by omega), decide_eq_true h1]
      refine hK _ _ ?_;clear hK K
      refine wC fun X Y hX hY => ?_
      simp only [↓DN,UP,DF,Qa,Qb,Qc,Qd,Qe,Qf,Qg,Qh,reduceCtorEq,↓reduceIte,Na,Nb,Nc,Nk,Nf,Ng,Nh,Za,Zb,Zc,TT, DB]
      refine hX ?_;clear hX hY X Y
      refine wS fun K hK => ?_
      simp only [↓DN,UP,DF,Qa,Qb,Qc,Qd,Qe,Qf,Qg,Qh,reduceCtorEq,↓reduceIte,Na,Nb,Nc,Nk,Nf,Ng,Nh,Za,Zb,Zc,TT, hx]
      refine hK _ _ ?_;clear hK K
      refine awp_ret ?_
      simp only [thenQ, retQ, AEnds, aresL, atuple, List.toList_toArray]
      refine ⟨_, _, AV.weak.refl _, AS.le.refl _, rfl, ?_⟩
      have : penSmall size n st = (st.1, true) := by unfold penSmall; rw [if_neg (by omega)]
      rw [this]
      exact h.bad hx hb true
    · refine wS fun K hK => ?_
      simp only [↓DN,UP,DF,Qa,Qb,Qc,Qd,Qe,Qf,Qg,Qh,reduceCtorEq,↓reduceIte,Na,Nb,Nc,Nk,Nf,Ng,Nh,Za,Zb,Zc,TT, decide_eq_false h0, Bool.false_eq_true, hmul, hnn, shr_small n size (by omega) (by omega), decide_eq_false h1]
      refine hK _ _ ?_;clear hK K
      refine wC fun X Y hX hY => ?_
      simp only [↓DN,UP,DF,Qa,Qb,Qc,Qd,Qe,Qf,Qg,Qh,reduceCtorEq,↓reduceIte,Na,Nb,Nc,Nk,Nf,Ng,Nh,Za,Zb,Zc,TT, DB]
      refine hY ?_;clear hX hY X Y
      refine awp_skip ?_
      refine hK _ _ ?_;clear hK K
      obtain ⟨m, rfl⟩ := Int.eq_ofNat_of_zero_le (Int.not_lt.1 h0)
      have hconv : iconv .u64 (m : Int) = m := iconv_u64_nat m (by omega)
      refine wE fun K hK => ?_
      simp only [↓DN,UP,DF,Qa,Qb,Qc,Qd,Qe,Qf,Qg,Qh,reduceCtorEq,↓reduceIte,Na,Nb,Nc,Nk,Nf,Ng,Nh,Za,Zb,Zc,TT, hconv]
      refine acallk (number_any s0 s p st m size (by omega) hs hl h) ?_
      rintro r s' ⟨rfl, hp⟩
      simp only [↓AXq_nil,↓AXq_cons,pval,DX,Nat.reduceBEq,↓DN,UP,DF,Qa,Qb,Qc,Qd,Qe,Qf,Qg,Qh,reduceCtorEq,↓reduceIte,Na,Nb,Nc,Nk,Nf,Ng,Nh,Za,Zb,Zc,TT]
      refine hK _ _ ?_;clear hK K
      simp only [retQ, AEnds, aresL, atuple, List.toList_toArray]
      refine ⟨_, _, AV.weak.refl _, AS.le.refl _, rfl, ?_⟩
      have : penSmall size m st = penNum size m st := by unfold penSmall; rw [if_pos (by omega)]; rfl
      rw [this]
      exact hp

end Go.Proofs.YtoagkleecgngdaaGreatDoor


set_option autoImplicit false
namespace Go.Proofs.YtoagkleecgngdaaGreatDoor
open Go Go.AM Go.Proofs


variable {Γ : Nat → List AV}

set_option maxHeartbeats 400000 in
theorem penU16_calls (s0 s : AS) (p : Nat) (st : List UInt8 × Bool) (n : Int) (hn : -9223372036854775808 ≤ n ∧ n ≤ 9223372036854775807) (hl : st.1.length + 8 ≤ 2 ^ 45) (h : PenS s0 s p st) :
    ACalls Tryz.prog Γ 262 [.ptr p 0, .v (.int .i64 n)] s (fun r s' => r = .tup [] ∧ PenS s0 s' p (penSmall 2 n st)) := by
  refine acalls_body Tryz.func262 rfl Tryz.ntmps262 Tryz.results262 (by simp) ?_
  refine wE fun K hK => ?_
  simp only [↓DN,UP,DF,Qa,Qb,Qc,Qd,Qe,Qf,Qg,Qh,reduceCtorEq,↓reduceIte,Na,Nb,Nc,Nk,Nf,Ng,Nh,Za,Zb,Zc,TT]
  refine acallk (small_calls s0 s p st n 2 hn (by omega) hl h) ?_
  rintro r s' ⟨rfl, hp⟩
  simp only [↓AXq_nil,↓AXq_cons,pval,DX,Nat.reduceBEq,↓DN,UP,DF,Qa,Qb,Qc,Qd,Qe,Qf,Qg,Qh,reduceCtorEq,↓reduceIte,Na,Nb,Nc,Nk,Nf,Ng,Nh,Za,Zb,Zc,TT]
  refine hK _ _ ?_;clear hK K
  simp only [retQ, AEnds, aresL, ares, List.toList_toArray, ↓upd_same]; try simp only [UP,DF,Nc,↓reduceIte,DT]
  exact ⟨_, _, AV.weak.refl _, AS.le.refl _, rfl, hp⟩

set_option maxHeartbeats 400000 in
theorem penU32_calls (s0 s : AS) (p : Nat) (st : List UInt8 × Bool) (n : Int) (hn : -9223372036854775808 ≤ n ∧ n ≤ 9223372036854775807) (hl : st.1.length + 8 ≤ 2 ^ 45) (h : PenS s0 s p st) :
    ACalls Tryz.prog Γ 264 [.ptr p 0, .v (.int .i64 n)] s (fun r s' => r = .tup [] ∧ PenS s0 s' p (penSmall 4 n st)) := by
  refine acalls_body Tryz.func264 rfl Tryz.ntmps264 Tryz.results264 (by simp) ?_
  refine wE fun K hK => ?_
  simp only [↓DN,UP,DF,Qa,Qb,Qc,Qd,Qe,Qf,Qg,Qh,reduceCtorEq,↓reduceIte,Na,Nb,Nc,Nk,Nf,Ng,Nh,Za,Zb,Zc,TT]
  refine acallk (small_calls s0 s p st n 4 hn (by omega) hl h) ?_
  rintro r s' ⟨rfl, hp⟩
  simp only [↓AXq_nil,↓AXq_cons,pval,DX,Nat.reduceBEq,↓DN,UP,DF,Qa,Qb,Qc,Qd,Qe,Qf,Qg,Qh,reduceCtorEq,↓reduceIte,Na,Nb,Nc,Nk,Nf,Ng,Nh,Za,Zb,Zc,TT]
  refine hK _ _ ?_;clear hK K
  simp only [retQ, AEnds, aresL, ares, List.toList_toArray, ↓upd_same]; try simp only [UP,DF,Nc,↓reduceIte,DT]
  exact ⟨_, _, AV.weak.refl _, AS.le.refl _, rfl, hp⟩

set_option maxHeartbeats 400000 in
theorem penU64_calls (s0 s : AS) (p : Nat) (st : List UInt8 × Bool) (n : Nat) (hn : n < 2 ^ 64) (hl : st.1.length + 8 ≤ 2 ^ 45) (h : PenS s0 s p st) :
    ACalls Tryz.prog Γ 75 [.ptr p 0, .v (.int .u64 n)] s (fun r s' => r = .tup [] ∧ PenS s0 s' p (penNum 8 n st)) := by
  refine acalls_body Tryz.func75 rfl Tryz.ntmps75 Tryz.results75 (by simp) ?_
  refine wE fun K hK => ?_
  simp only [↓DN,UP,DF,Qa,Qb,Qc,Qd,Qe,Qf,Qg,Qh,reduceCtorEq,↓reduceIte,Na,Nb,Nc,Nk,Nf,Ng,Nh,Za,Zb,Zc,TT]
  refine acallk (number_any s0 s p st n 8 hn (by omega) hl h) ?_
  rintro r s' ⟨rfl, hp⟩
  simp only [↓AXq_nil,↓AXq_cons,pval,DX,Nat.reduceBEq,↓DN,UP,DF,Qa,Qb,Qc,Qd,Qe,Qf,Qg,Qh,reduceCtorEq,↓reduceIte,Na,Nb,Nc,Nk,Nf,Ng,Nh,Za,Zb,Zc,TT]
  refine hK _ _ ?_;clear hK K
  simp only [retQ, AEnds, aresL, ares, List.toList_toArray, ↓upd_same]; try simp only [UP,DF,Nc,↓reduceIte,DT]
  exact ⟨_, _, AV.weak.refl _, AS.le.refl _, rfl, hp⟩

set_option maxHeartbeats 800000 in
theorem penRaw_calls (s0 s : AS) (p : Nat) (st : List UInt8 × Bool) (b : AV) (m : List UInt8) (hb : IsB b m) (hl : st.1.length + m.length ≤ 2 ^ 45) (h : PenS s0 s p st) :
    ACalls Tryz.prog Γ 221 [.ptr p 0, b] s (fun r s' => r = .tup [] ∧ PenS s0 s' p (penRaw m st)) := by
  obtain ⟨l, bad⟩ := st
  obtain ⟨x, hx, hbuf⟩ := h.obj
  refine acalls_body Tryz.func221 rfl Tryz.ntmps221 Tryz.results221 (by simp) ?_
  cases bad
  · refine wS fun K hK => ?_
    simp only [↓DN,UP,DF,Qa,Qb,Qc,Qd,Qe,Qf,Qg,Qh,reduceCtorEq,↓reduceIte,Na,Nb,Nc,Nk,Nf,Ng,Nh,Za,Zb,Zc,TT, hx, Bool.not_false]
    refine hK _ _ ?_;clear hK K
    refine wC fun X Y hX hY => ?_
    simp only [↓DN,UP,DF,Qa,Qb,Qc,Qd,Qe,Qf,Qg,Qh,reduceCtorEq,↓reduceIte,Na,Nb,Nc,Nk,Nf,Ng,Nh,Za,Zb,Zc,TT, DB]
    refine hX ?_;clear hX hY X Y
    have hraw : penRaw m (l, false) = (l ++ m, false) := rfl
    by_cases hm : m.length = 0
    · have hm0 : m = [] := List.eq_nil_of_length_eq_zero hm
      subst hm0
      have e : (l ++ [], false) = (l, false) := by simp
      rw [hraw, e]
      rcases hbuf with ⟨rfl, hl0⟩ | ⟨t, e, rfl, ht, ht0⟩
      · simp only at hl0
        subst hl0
        rcases hb with ⟨rfl, _⟩ | ⟨sp, rfl⟩
        · refine wE fun K hK => ?_
          simp only [↓DN,UP,DF,Qa,Qb,Qc,Qd,Qe,Qf,Qg,Qh,reduceCtorEq,↓reduceIte,Na,Nb,Nc,Nk,Nf,Ng,Nh,Za,Zb,Zc,TT, hx, nilS, bytesV, hm]
          refine hK _ _ ?_;clear hK K
          simp only [retQ, AEnds, aresL, ares, List.toList_toArray, ↓upd_same]; try simp only [UP,DF,Nc,↓reduceIte,DT]
          exact ⟨_, _, AV.weak.refl _, AS.le.refl _, rfl, h.bad hx (.inl ⟨rfl, rfl⟩) false⟩
        · refine wE fun K hK => ?_
          simp only [↓DN,UP,DF,Qa,Qb,Qc,Qd,Qe,Qf,Qg,Qh,reduceCtorEq,↓reduceIte,Na,Nb,Nc,Nk,Nf,Ng,Nh,Za,Zb,Zc,TT, hx, nilS, bytesV, hm]
          refine hK _ _ ?_;clear hK K
          simp only [retQ, AEnds, aresL, ares, List.toList_toArray, ↓upd_same]; try simp only [UP,DF,Nc,↓reduceIte,DT]
          exact ⟨_, _, AV.weak.refl _, AS.le.refl _, rfl, h.bad hx (.inl ⟨rfl, rfl⟩) false⟩
      · rcases hb with ⟨rfl, _⟩ | ⟨sp, rfl⟩
        · refine wE fun K hK => ?_
          simp only [↓DN,UP,DF,Qa,Qb,Qc,Qd,Qe,Qf,Qg,Qh,reduceCtorEq,↓reduceIte,Na,Nb,Nc,Nk,Nf,Ng,Nh,Za,Zb,Zc,TT, hx, nilS, bytesV, hm]
          refine hK _ _ ?_;clear hK K
          simp only [retQ, AEnds, aresL, ares, List.toList_toArray, ↓upd_same]; try simp only [UP,DF,Nc,↓reduceIte,DT]
          exact ⟨_, _, AV.weak.refl _, AS.le.refl _, rfl, h.bad hx (.inr ⟨t, e, rfl, ht, ht0⟩) false⟩
        · refine wE fun K hK => ?_
          simp only [↓DN,UP,DF,Qa,Qb,Qc,Qd,Qe,Qf,Qg,Qh,reduceCtorEq,↓reduceIte,Na,Nb,Nc,Nk,Nf,Ng,Nh,Za,Zb,Zc,TT, hx, nilS, bytesV, hm]
          refine hK _ _ ?_;clear hK K
          simp only [retQ, AEnds, aresL, ares, List.toList_toArray, ↓upd_same]; try simp only [UP,DF,Nc,↓reduceIte,DT]
          exact ⟨_, _, AV.weak.refl _, AS.le.refl _, rfl, h.bad hx (.inr ⟨t, e, rfl, ht, ht0⟩) false⟩
    · have hb' : ∃ sp, b = bytesV m sp := by
        rcases hb with ⟨_, rfl⟩ | hb
        · exact absurd rfl hm
        · exact hb
      obtain ⟨sp, rfl⟩ := hb'
      rw [hraw]
      simp only at hl
      rcases hbuf with ⟨rfl, hl0⟩ | ⟨t, e, rfl, ht, ht0⟩
      · simp only at hl0
        subst hl0
        refine wE fun K hK => ?_
        simp only [↓DN,UP,DF,Qa,Qb,Qc,Qd,Qe,Qf,Qg,Qh,reduceCtorEq,↓reduceIte,Na,Nb,Nc,Nk,Nf,Ng,Nh,Za,Zb,Zc,TT, hx, nilS, bytesV, hm]
        refine ⟨by omega, by omega, fun t ht => hK _ _ ?_⟩
        clear hK K
        simp only [retQ, AEnds, aresL, ares, List.toList_toArray, ↓upd_same]; try simp only [UP,DF,Nc,↓reduceIte,DT]
        exact ⟨_, _, AV.weak.refl _, AS.le.refl _, rfl, h.put_one ht m⟩
      · refine wE fun K hK => ?_
        simp only [↓DN,UP,DF,Qa,Qb,Qc,Qd,Qe,Qf,Qg,Qh,reduceCtorEq,↓reduceIte,Na,Nb,Nc,Nk,Nf,Ng,Nh,Za,Zb,Zc,TT, hx, bytesV, hm, ht]
        refine ⟨by omega, by omega, hK _ _ ?_⟩
        clear hK K
        simp only [retQ, AEnds, aresL, ares, List.toList_toArray, ↓upd_same]; try simp only [UP,DF,Nc,↓reduceIte,DT]
        exact ⟨_, _, AV.weak.refl _, AS.le.refl _, rfl, h.more ht0 m rfl rfl⟩
  · refine wS fun K hK => ?_
    simp only [↓DN,UP,DF,Qa,Qb,Qc,Qd,Qe,Qf,Qg,Qh,reduceCtorEq,↓reduceIte,Na,Nb,Nc,Nk,Nf,Ng,Nh,Za,Zb,Zc,TT, hx, Bool.not_true]
    refine hK _ _ ?_;clear hK K
    refine wC fun X Y hX hY => ?_
    simp only [↓DN,UP,DF,Qa,Qb,Qc,Qd,Qe,Qf,Qg,Qh,reduceCtorEq,↓reduceIte,Na,Nb,Nc,Nk,Nf,Ng,Nh,Za,Zb,Zc,TT, DB]
    refine hY ?_;clear hX hY X Y
    refine awp_skip ?_
    simp only [retQ, AEnds, aresL, ares, List.toList_toArray, ↓upd_same]; try simp only [UP,DF,Nc,↓reduceIte,DT]
    exact ⟨_, _, AV.weak.refl _, AS.le.refl _, rfl, h⟩

set_option maxHeartbeats 400000 in
theorem penText_calls (s0 s : AS) (p : Nat) (st : List UInt8 × Bool) (b : AV) (m : List UInt8) (k : Nat) (hk : k ≤ 8) (hb : IsB b m) (hl : st.1.length + m.length + 8 ≤ 2 ^ 45) (h : PenS s0 s p st) :
    ACalls Tryz.prog Γ 165 [.ptr p 0, b, .v (.int .i64 k)] s (fun r s' => r = .tup [] ∧ PenS s0 s' p (penText k m st)) := by
  refine acalls_body Tryz.func165 rfl Tryz.ntmps165 Tryz.results165 (by simp) ?_
  have hlen : (penSmall k m.length st).1.length ≤ st.1.length + k := penSmall_len ..
  rcases hb with ⟨rfl, rfl⟩ | ⟨sp, rfl⟩
  · refine wS fun K hK => ?_
    simp only [↓DN,UP,DF,Qa,Qb,Qc,Qd,Qe,Qf,Qg,Qh,reduceCtorEq,↓reduceIte,Na,Nb,Nc,Nk,Nf,Ng,Nh,Za,Zb,Zc,TT, nilS, List.length_nil]
    refine acallk (small_calls s0 s p st 0 k (by omega) hk (by omega) h) ?_
    rintro r s' ⟨rfl, hp⟩
    simp only [↓AXq_nil,↓AXq_cons,pval,DX,Nat.reduceBEq,↓DN,UP,DF,Qa,Qb,Qc,Qd,Qe,Qf,Qg,Qh,reduceCtorEq,↓reduceIte,Na,Nb,Nc,Nk,Nf,Ng,Nh,Za,Zb,Zc,TT]
    refine hK _ _ ?_;clear hK K
    refine wE fun K hK => ?_
    simp only [↓DN,UP,DF,Qa,Qb,Qc,Qd,Qe,Qf,Qg,Qh,reduceCtorEq,↓reduceIte,Na,Nb,Nc,Nk,Nf,Ng,Nh,Za,Zb,Zc,TT]
    refine acallk (penRaw_calls s0 s' p _ nilS [] IsB.nil (by have := penSmall_len k 0 st; simp at this hl ⊢; omega) hp) ?_
    rintro r s'' ⟨rfl, hp'⟩
    simp only [↓AXq_nil,↓AXq_cons,pval,DX,Nat.reduceBEq,↓DN,UP,DF,Qa,Qb,Qc,Qd,Qe,Qf,Qg,Qh,reduceCtorEq,↓reduceIte,Na,Nb,Nc,Nk,Nf,Ng,Nh,Za,Zb,Zc,TT]
    refine hK _ _ ?_;clear hK K
    simp only [retQ, AEnds, aresL, ares, List.toList_toArray, ↓upd_same]; try simp only [UP,DF,Nc,↓reduceIte,DT]
    exact ⟨_, _, AV.weak.refl _, AS.le.refl _, rfl, hp'⟩
  · refine wS fun K hK => ?_
    simp only [↓DN,UP,DF,Qa,Qb,Qc,Qd,Qe,Qf,Qg,Qh,reduceCtorEq,↓reduceIte,Na,Nb,Nc,Nk,Nf,Ng,Nh,Za,Zb,Zc,TT, bytesV]
    refine acallk (small_calls s0 s p st m.length k (by omega) hk (by omega) h) ?_
    rintro r s' ⟨rfl, hp⟩
    simp only [↓AXq_nil,↓AXq_cons,pval,DX,Nat.reduceBEq,↓DN,UP,DF,Qa,Qb,Qc,Qd,Qe,Qf,Qg,Qh,reduceCtorEq,↓reduceIte,Na,Nb,Nc,Nk,Nf,Ng,Nh,Za,Zb,Zc,TT]
    refine hK _ _ ?_;clear hK K
    refine wE fun K hK => ?_
    simp only [↓DN,UP,DF,Qa,Qb,Qc,Qd,Qe,Qf,Qg,Qh,reduceCtorEq,↓reduceIte,Na,Nb,Nc,Nk,Nf,Ng,Nh,Za,Zb,Zc,TT]
    refine acallk (penRaw_calls s0 s' p _ (bytesV m sp) m (IsB.mk m sp) (by simp only [List.length_nil] at *; omega) hp) ?_
    rintro r s'' ⟨rfl, hp'⟩
    simp only [↓AXq_nil,↓AXq_cons,pval,DX,Nat.reduceBEq,↓DN,UP,DF,Qa,Qb,Qc,Qd,Qe,Qf,Qg,Qh,reduceCtorEq,↓reduceIte,Na,Nb,Nc,Nk,Nf,Ng,Nh,Za,Zb,Zc,TT]
    refine hK _ _ ?_;clear hK K
    simp only [retQ, AEnds, aresL, ares, List.toList_toArray, ↓upd_same]; try simp only [UP,DF,Nc,↓reduceIte,DT]
    exact ⟨_, _, AV.weak.refl _, AS.le.refl _, rfl, hp'⟩

set_option maxHeartbeats 400000 in
theorem penShort_calls (s0 s : AS) (p : Nat) (st : List UInt8 × Bool) (b : AV) (m : List UInt8) (hb : IsB b m) (hl : st.1.length + m.length + 8 ≤ 2 ^ 45) (h : PenS s0 s p st) :
    ACalls Tryz.prog Γ 74 [.ptr p 0, b] s (fun r s' => r = .tup [] ∧ PenS s0 s' p (penText 1 m st)) := by
  refine acalls_body Tryz.func74 rfl Tryz.ntmps74 Tryz.results74 (by simp) ?_
  refine wE fun K hK => ?_
  simp only [↓DN,UP,DF,Qa,Qb,Qc,Qd,Qe,Qf,Qg,Qh,reduceCtorEq,↓reduceIte,Na,Nb,Nc,Nk,Nf,Ng,Nh,Za,Zb,Zc,TT]
  refine acallk (penText_calls s0 s p st b m 1 (by omega) hb hl h) ?_
  rintro r s' ⟨rfl, hp⟩
  simp only [↓AXq_nil,↓AXq_cons,pval,DX,Nat.reduceBEq,↓DN,UP,DF,Qa,Qb,Qc,Qd,Qe,Qf,Qg,Qh,reduceCtorEq,↓reduceIte,Na,Nb,Nc,Nk,Nf,Ng,Nh,Za,Zb,Zc,TT]
  refine hK _ _ ?_;clear hK K
  simp only [retQ, AEnds, aresL, ares, List.toList_toArray, ↓upd_same]; try simp only [UP,DF,Nc,↓reduceIte,DT]
  exact ⟨_, _, AV.weak.refl _, AS.le.refl _, rfl, hp⟩

set_option maxHeartbeats 400000 in
theorem penLong_calls (s0 s : AS) (p : Nat) (st : List UInt8 × Bool) (b : AV) (m : List UInt8) (hb : IsB b m) (hl : st.1.length + m.length + 8 ≤ 2 ^ 45) (h : PenS s0 s p st) :
    ACalls Tryz.prog Γ 252 [.ptr p 0, b] s (fun r s' => r = .tup [] ∧ PenS s0 s' p (penText 2 m st)) := by
  refine acalls_body Tryz.func252 rfl Tryz.ntmps252 Tryz.results252 (by simp) ?_
  refine wE fun K hK => ?_
  simp only [↓DN,UP,DF,Qa,Qb,Qc,Qd,Qe,Qf,Qg,Qh,reduceCtorEq,↓reduceIte,Na,Nb,Nc,Nk,Nf,Ng,Nh,Za,Zb,Zc,TT]
  refine acallk (penText_calls s0 s p st b m 2 (by omega) hb hl h) ?_
  rintro r s' ⟨rfl, hp⟩
  simp only [↓AXq_nil,↓AXq_cons,pval,DX,Nat.reduceBEq,↓DN,UP,DF,Qa,Qb,Qc,Qd,Qe,Qf,Qg,Qh,reduceCtorEq,↓reduceIte,Na,Nb,Nc,Nk,Nf,Ng,Nh,Za,Zb,Zc,TT]
  refine hK _ _ ?_;clear hK K
  simp only [retQ, AEnds, aresL, ares, List.toList_toArray, ↓upd_same]; try simp only [UP,DF,Nc,↓reduceIte,DT]
  exact ⟨_, _, AV.weak.refl _, AS.le.refl _, rfl, hp⟩

theorem clone_nil (s : AS) : ACalls Tryz.prog Γ 151 [nilS] s (fun r s' => r = bytesV [] .any ∧ s' = s) := by
  refine acalls_body Tryz.func151 rfl Tryz.ntmps151 Tryz.results151 (by simp) ?_
  unfold nilS
  refine wS fun K hK => ?_
  simp only [↓DN,UP,DF,Qa,Qb,Qc,Qd,Qe,Qf,Qg,Qh,reduceCtorEq,↓reduceIte,Na,Nb,Nc,Nk,Nf,Ng,Nh,Za,Zb,Zc,TT]
  refine hK _ _ ?_;clear hK K
  refine wK fun K hK => ?_
  refine wS fun K hK => ?_
  simp only [↓DN,UP,DF,Qa,Qb,Qc,Qd,Qe,Qf,Qg,Qh,reduceCtorEq,↓reduceIte,Na,Nb,Nc,Nk,Nf,Ng,Nh,Za,Zb,Zc,TT]
  refine hK _ _ ?_;clear hK K
  refine wC fun X Y hX hY => ?_
  simp only [↓DN,UP,DF,Qa,Qb,Qc,Qd,Qe,Qf,Qg,Qh,reduceCtorEq,↓reduceIte,Na,Nb,Nc,Nk,Nf,Ng,Nh,Za,Zb,Zc,TT, DB]
  refine hX ?_;clear hX hY X Y
  refine wS fun K hK => ?_
  simp only [↓DN,UP,DF,Qa,Qb,Qc,Qd,Qe,Qf,Qg,Qh,reduceCtorEq,↓reduceIte,Na,Nb,Nc,Nk,Nf,Ng,Nh,Za,Zb,Zc,TT]
  refine hK _ _ ?_;clear hK K
  refine awp_ret ?_
  simp only [retQ, AEnds, aresL, ares, List.toList_toArray, ↓upd_same]; try simp only [UP,DF,Nc,↓reduceIte,DT]
  exact ⟨_, _, AV.weak_nil, AS.le.refl _, rfl, rfl⟩

theorem cloneB_calls (l : List UInt8) (s : AS) (hl : l.length ≤ 2 ^ 45) : ACalls Tryz.prog Γ 151 [bytesV l .any] s (fun r s' => r = bytesV l .any ∧ s' = s) :=
  ACalls.any (pre := []) (post := []) (fun e => by subst e; exact clone_nil s) (clone_calls l .no rfl s hl)

set_option maxHeartbeats 400000 in
theorem penBytes_calls (s0 s : AS) (p : Nat) (st : List UInt8 × Bool) (hl : st.1.length ≤ 2 ^ 45) (h : PenS s0 s p st) :
    ACalls Tryz.prog Γ 77 [.ptr p 0] s (fun r s' => r = .tup [bytesV (if st.2 = true then [] else st.1) .any, .v (.bool !st.2)] ∧ s' = s) := by
  obtain ⟨l, bad⟩ := st
  obtain ⟨x, hx, hbuf⟩ := h.obj
  refine acalls_body Tryz.func77 rfl Tryz.ntmps77 Tryz.results77 (by simp) ?_
  simp only at hx hl hbuf
  refine wS fun K hK => ?_
  simp only [↓DN,UP,DF,Qa,Qb,Qc,Qd,Qe,Qf,Qg,Qh,reduceCtorEq,↓reduceIte,Na,Nb,Nc,Nk,Nf,Ng,Nh,Za,Zb,Zc,TT]
  refine hK _ _ ?_;clear hK K
  refine wK fun K hK => ?_
  cases bad
  · refine wS fun K hK => ?_
    simp only [↓DN,UP,DF,Qa,Qb,Qc,Qd,Qe,Qf,Qg,Qh,reduceCtorEq,↓reduceIte,Na,Nb,Nc,Nk,Nf,Ng,Nh,Za,Zb,Zc,TT, hx]
    refine hK _ _ ?_;clear hK K
    refine wC fun X Y hX hY => ?_
    simp only [↓DN,UP,DF,Qa,Qb,Qc,Qd,Qe,Qf,Qg,Qh,reduceCtorEq,↓reduceIte,Na,Nb,Nc,Nk,Nf,Ng,Nh,Za,Zb,Zc,TT, DB]
    refine hY ?_;clear hX hY X Y
    refine awp_skip ?_
    refine hK _ _ ?_;clear hK K
    rcases hbuf with ⟨rfl, hl0⟩ | ⟨t, e, rfl, ht, ht0⟩
    · subst hl0
      refine wS fun K hK => ?_
      simp only [↓DN,UP,DF,Qa,Qb,Qc,Qd,Qe,Qf,Qg,Qh,reduceCtorEq,↓reduceIte,Na,Nb,Nc,Nk,Nf,Ng,Nh,Za,Zb,Zc,TT, hx]
      refine acallk (clone_nil s) ?_
      rintro r s' ⟨rfl, rfl⟩
      simp only [↓AXq_nil,↓AXq_cons,pval,DX,Nat.reduceBEq,↓DN,UP,DF,Qa,Qb,Qc,Qd,Qe,Qf,Qg,Qh,reduceCtorEq,↓reduceIte,Na,Nb,Nc,Nk,Nf,Ng,Nh,Za,Zb,Zc,TT]
      refine hK _ _ ?_;clear hK K
      refine awp_ret ?_
      simp only [retQ, AEnds, aresL, ares, List.toList_toArray, ↓upd_same]; try simp only [UP,DF,Nc,↓reduceIte,DT]
      exact ⟨_, _, AV.weak.refl _, AS.le.refl _, rfl, rfl⟩
    · refine wS fun K hK => ?_
      simp only [↓DN,UP,DF,Qa,Qb,Qc,Qd,Qe,Qf,Qg,Qh,reduceCtorEq,↓reduceIte,Na,Nb,Nc,Nk,Nf,Ng,Nh,Za,Zb,Zc,TT, hx]
      refine acallk (clone_calls l _ rfl s hl) ?_
      rintro r s' ⟨rfl, rfl⟩
      simp only [↓AXq_nil,↓AXq_cons,pval,DX,Nat.reduceBEq,↓DN,UP,DF,Qa,Qb,Qc,Qd,Qe,Qf,Qg,Qh,reduceCtorEq,↓reduceIte,Na,Nb,Nc,Nk,Nf,Ng,Nh,Za,Zb,Zc,TT]
      refine hK _ _ ?_;clear hK K
      refine awp_ret ?_
      simp only [retQ, AEnds, aresL, ares, List.toList_toArray, ↓upd_same]; try simp only [UP,DF,Nc,↓reduceIte,DT]
      exact ⟨_, _, AV.weak.refl _, AS.le.refl _, rfl, rfl⟩
  · refine wS fun K hK => ?_
    simp only [↓DN,UP,DF,Qa,Qb,Qc,Qd,Qe,Qf,Qg,Qh,reduceCtorEq,↓reduceIte,Na,Nb,Nc,Nk,Nf,Ng,Nh,Za,Zb,Zc,TT, hx]
    refine hK _ _ ?_;clear hK K
    refine wC fun X Y hX hY => ?_
    simp only [↓DN,UP,DF,Qa,Qb,Qc,Qd,Qe,Qf,Qg,Qh,reduceCtorEq,↓reduceIte,Na,Nb,Nc,Nk,Nf,Ng,Nh,Za,Zb,Zc,TT, DB]
    refine hX ?_;clear hX hY X Y
    refine wS fun K hK => ?_
    simp only [↓DN,UP,DF,Qa,Qb,Qc,Qd,Qe,Qf,Qg,Qh,reduceCtorEq,↓reduceIte,Na,Nb,Nc,Nk,Nf,Ng,Nh,Za,Zb,Zc,TT]
    refine hK _ _ ?_;clear hK K
    refine awp_ret ?_
    simp only [retQ, AEnds, aresL, ares, List.toList_toArray, ↓upd_same]; try simp only [UP,DF,Nc,↓reduceIte,DT]
    exact ⟨_, _, AV.weak_tup2 AV.weak_nil (AV.weak.refl _), AS.le.refl _, rfl, rfl⟩

end Go.Proofs.YtoagkleecgngdaaGreatDoor


set_option autoImplicit false
namespace Go.Proofs.YtoagkleecgngdaaGreatDoor
open Go Go.AM Go.Proofs


variable {Γ : Nat → List AV}

set_option maxHeartbeats 400000 in
theorem open_calls (l : List UInt8) (s : AS) (hl : l.length ≤ 2 ^ 45) : ACalls Tryz.prog Γ 62 [bytesV l .any] s (fun r s' => ∃ p, r = .ptr p 0 ∧ EyeS s s' p (l, 0)) := by
  refine acalls_body Tryz.func62 rfl Tryz.ntmps62 Tryz.results62 (by simp) ?_
  refine wS fun K hK => ?_
  simp only [↓DN,UP,DF,Qa,Qb,Qc,Qd,Qe,Qf,Qg,Qh,reduceCtorEq,↓reduceIte,Na,Nb,Nc,Nk,Nf,Ng,Nh,Za,Zb,Zc,TT]
  refine hK _ _ ?_;clear hK K
  refine wS fun K hK => ?_
  simp only [↓DN,UP,DF,Qa,Qb,Qc,Qd,Qe,Qf,Qg,Qh,reduceCtorEq,↓reduceIte,Na,Nb,Nc,Nk,Nf,Ng,Nh,Za,Zb,Zc,TT]
  refine acallk (cloneB_calls l s hl) ?_
  rintro r s' ⟨rfl, rfl⟩
  unfold bytesV
  simp only [↓AXq_nil,↓AXq_cons,pval,DX,Nat.reduceBEq,↓DN,UP,DF,Qa,Qb,Qc,Qd,Qe,Qf,Qg,Qh,reduceCtorEq,↓reduceIte,Na,Nb,Nc,Nk,Nf,Ng,Nh,Za,Zb,Zc,TT]
  intro p hp
  refine hK _ _ ?_
  refine awp_ret ?_
  simp only [retQ, AEnds, aresL, ares, List.toList_toArray, ↓upd_same]; try simp only [UP,DF,Nc,↓reduceIte,DT]
  exact ⟨_, _, AV.weak.refl _, AS.le.refl _, p, rfl, AS.le_set (AS.le.refl _) hp _, hp, AS.set_objs_same _ _ _⟩

set_option maxHeartbeats 1000000 in
theorem next_calls (s0 s : AS) (p : Nat) (st : EyeSt) (n : Int) (h : EyeS s0 s p st) :
    ACalls Tryz.prog Γ 218 [.ptr p 0, .v (.int .i64 n)] s (fun r s' => r = bytesV (eyeNext n st).1 .any ∧ EyeS s0 s' p (eyeNext n st).2) := by
  refine acalls_body Tryz.func218 rfl Tryz.ntmps218 Tryz.results218 (by simp) ?_
  obtain ⟨l, er⟩ := st
  have hx := h.obj
  simp only [bytesV] at hx
  refine wS fun K hK => ?_
  simp only [↓DN,UP,DF,Qa,Qb,Qc,Qd,Qe,Qf,Qg,Qh,reduceCtorEq,↓reduceIte,Na,Nb,Nc,Nk,Nf,Ng,Nh,Za,Zb,Zc,TT]
  refine hK _ _ ?_;clear hK K
  refine wK fun K hK => ?_
  refine awp_block ?_
  by_cases h0 : er = 0
  · subst h0
    refine wS fun K hK => ?_
    simp only [↓DN,UP,DF,Qa,Qb,Qc,Qd,Qe,Qf,Qg,Qh,reduceCtorEq,↓reduceIte,Na,Nb,Nc,Nk,Nf,Ng,Nh,Za,Zb,Zc,TT, hx, i64_ne_false 0 rfl]
    refine hK _ _ ?_;clear hK K
    refine wC fun X Y hX hY => ?_
    simp only [↓DN,UP,DF,Qa,Qb,Qc,Qd,Qe,Qf,Qg,Qh,reduceCtorEq,↓reduceIte,Na,Nb,Nc,Nk,Nf,Ng,Nh,Za,Zb,Zc,TT, DB]
    refine hY ?_;clear hX hY X Y
    by_cases h1 : n < 0
    · refine wS fun K hK => ?_
      simp only [↓DN,UP,DF,Qa,Qb,Qc,Qd,Qe,Qf,Qg,Qh,reduceCtorEq,↓reduceIte,Na,Nb,Nc,Nk,Nf,Ng,Nh,Za,Zb,Zc,TT, decide_eq_true h1]
      refine hK _ _ ?_;clear hK K
      refine wC fun X Y hX hY => ?_
      simp only [↓DN,UP,DF,Qa,Qb,Qc,Qd,Qe,Qf,Qg,Qh,reduceCtorEq,↓reduceIte,Na,Nb,Nc,Nk,Nf,Ng,Nh,Za,Zb,Zc,TT, DB]
      refine hX ?_;clear hX hY X Y
      refine wS fun K hK => ?_
      simp only [↓DN,UP,DF,Qa,Qb,Qc,Qd,Qe,Qf,Qg,Qh,reduceCtorEq,↓reduceIte,Na,Nb,Nc,Nk,Nf,Ng,Nh,Za,Zb,Zc,TT, hx]
      refine hK _ _ ?_;clear hK K
      refine wS fun K hK => ?_
      simp only [↓DN,UP,DF,Qa,Qb,Qc,Qd,Qe,Qf,Qg,Qh,reduceCtorEq,↓reduceIte,Na,Nb,Nc,Nk,Nf,Ng,Nh,Za,Zb,Zc,TT]
      refine hK _ _ ?_;clear hK K
      refine awp_ret ?_
      simp only [retQ, AEnds, aresL, ares, List.toList_toArray, ↓upd_same]; try simp only [UP,DF,Nc,↓reduceIte,DT]
      rw [eyeNext_neg h1]
      exact ⟨_, _, AV.weak_nil, AS.le.refl _, rfl, h.put⟩
    · refine wS fun K hK => ?_
      simp only [↓DN,UP,DF,Qa,Qb,Qc,Qd,Qe,Qf,Qg,Qh,reduceCtorEq,↓reduceIte,Na,Nb,Nc,Nk,Nf,Ng,Nh,Za,Zb,Zc,TT, decide_eq_false h1]
      refine hK _ _ ?_;clear hK K
      refine wC fun X Y hX hY => ?_
      simp only [↓DN,UP,DF,Qa,Qb,Qc,Qd,Qe,Qf,Qg,Qh,reduceCtorEq,↓reduceIte,Na,Nb,Nc,Nk,Nf,Ng,Nh,Za,Zb,Zc,TT, DB]
      refine hY ?_;clear hX hY X Y
      by_cases h2 : (l.length : Int) < n
      · refine wS fun K hK => ?_
        simp only [↓DN,UP,DF,Qa,Qb,Qc,Qd,Qe,Qf,Qg,Qh,reduceCtorEq,↓reduceIte,Na,Nb,Nc,Nk,Nf,Ng,Nh,Za,Zb,Zc,TT, hx, decide_eq_true h2]
        refine hK _ _ ?_;clear hK K
        refine wC fun X Y hX hY => ?_
        simp only [↓DN,UP,DF,Qa,Qb,Qc,Qd,Qe,Qf,Qg,Qh,reduceCtorEq,↓reduceIte,Na,Nb,Nc,Nk,Nf,Ng,Nh,Za,Zb,Zc,TT, DB]
        refine hX ?_;clear hX hY X Y
        refine wS fun K hK => ?_
        simp only [↓DN,UP,DF,Qa,Qb,Qc,Qd,Qe,Qf,Qg,Qh,reduceCtorEq,↓reduceIte,Na,Nb,Nc,Nk,Nf,Ng,Nh,Za,Zb,Zc,TT, hx]
        refine hK _ _ ?_;clear hK K
        refine wS fun K hK => ?_
        simp only [↓DN,UP,DF,Qa,Qb,Qc,Qd,Qe,Qf,Qg,Qh,reduceCtorEq,↓reduceIte,Na,Nb,Nc,Nk,Nf,Ng,Nh,Za,Zb,Zc,TT]
        refine hK _ _ ?_;clear hK K
        refine awp_ret ?_
        simp only [retQ, AEnds, aresL, ares, List.toList_toArray, ↓upd_same]; try simp only [UP,DF,Nc,↓reduceIte,DT]
        rw [eyeNext_short h1 h2]
        exact ⟨_, _, AV.weak_nil, AS.le.refl _, rfl, h.put⟩
      · obtain ⟨m, rfl⟩ := Int.eq_ofNat_of_zero_le (Int.not_lt.1 h1)
        have hml : m ≤ l.length := by omega
        have hm0 : (0 : Int) ≤ (m : Int) := by omega
        have hml' : (m : Int) ≤ (l.length : Int) := by omega
        refine wS fun K hK => ?_
        simp only [↓DN,UP,DF,Qa,Qb,Qc,Qd,Qe,Qf,Qg,Qh,reduceCtorEq,↓reduceIte,Na,Nb,Nc,Nk,Nf,Ng,Nh,Za,Zb,Zc,TT, hx, decide_eq_false h2]
        refine hK _ _ ?_;clear hK K
        refine wC fun X Y hX hY => ?_
        simp only [↓DN,UP,DF,Qa,Qb,Qc,Qd,Qe,Qf,Qg,Qh,reduceCtorEq,↓reduceIte,Na,Nb,Nc,Nk,Nf,Ng,Nh,Za,Zb,Zc,TT, DB]
        refine hY ?_;clear hX hY X Y
        refine awp_skip ?_
        simp only [thenQ, blockQ, if_true, if_false]
        refine hK _ _ ?_;clear hK K
        refine wS fun K hK => ?_
        simp only [↓DN,UP,DF,Qa,Qb,Qc,Qd,Qe,Qf,Qg,Qh,reduceCtorEq,↓reduceIte,Na,Nb,Nc,Nk,Nf,Ng,Nh,Za,Zb,Zc,TT, hx, hm0, hml', Int.le_refl]
        refine hK _ _ ?_;clear hK K
        refine wS fun K hK => ?_
        simp only [↓DN,UP,DF,Qa,Qb,Qc,Qd,Qe,Qf,Qg,Qh,reduceCtorEq,↓reduceIte,Na,Nb,Nc,Nk,Nf,Ng,Nh,Za,Zb,Zc,TT, hx, hm0, hml', Int.le_refl]
        refine hK _ _ ?_;clear hK K
        refine wS fun K hK => ?_
        simp only [↓DN,UP,DF,Qa,Qb,Qc,Qd,Qe,Qf,Qg,Qh,reduceCtorEq,↓reduceIte,Na,Nb,Nc,Nk,Nf,Ng,Nh,Za,Zb,Zc,TT]
        refine hK _ _ ?_;clear hK K
        refine awp_ret ?_
        simp only [retQ, AEnds, aresL, ares, List.toList_toArray, ↓upd_same]; try simp only [UP,DF,Nc,↓reduceIte,DT]
        rw [eyeNext_ok hml]
        refine ⟨_, _, AV.weak.refl _, AS.le.refl _, bytes_of ?_ rfl, h.put' ?_⟩
        · simp only [List.length_take]; omega
        · rw [bytes_of (m := l.drop m)]
          · simp only [List.length_drop]
          · rw [List.take_length]
  · refine wS fun K hK => ?_
    simp only [↓DN,UP,DF,Qa,Qb,Qc,Qd,Qe,Qf,Qg,Qh,reduceCtorEq,↓reduceIte,Na,Nb,Nc,Nk,Nf,Ng,Nh,Za,Zb,Zc,TT, hx, i64_ne_true er h0]
    refine hK _ _ ?_;clear hK K
    refine wC fun X Y hX hY => ?_
    simp only [↓DN,UP,DF,Qa,Qb,Qc,Qd,Qe,Qf,Qg,Qh,reduceCtorEq,↓reduceIte,Na,Nb,Nc,Nk,Nf,Ng,Nh,Za,Zb,Zc,TT, DB]
    refine hX ?_;clear hX hY X Y
    refine wS fun K hK => ?_
    simp only [↓DN,UP,DF,Qa,Qb,Qc,Qd,Qe,Qf,Qg,Qh,reduceCtorEq,↓reduceIte,Na,Nb,Nc,Nk,Nf,Ng,Nh,Za,Zb,Zc,TT]
    refine hK _ _ ?_;clear hK K
    refine awp_ret ?_
    simp only [retQ, AEnds, aresL, ares, List.toList_toArray, ↓upd_same]; try simp only [UP,DF,Nc,↓reduceIte,DT]
    rw [eyeNext_err h0]
    exact ⟨_, _, AV.weak_nil, AS.le.refl _, rfl, h⟩

end Go.Proofs.YtoagkleecgngdaaGreatDoor


set_option autoImplicit false
namespace Go.Proofs.YtoagkleecgngdaaGreatDoor
open Go Go.AM Go.Proofs


variable {Γ : Nat → List AV}

set_option maxHeartbeats 1000000 in
theorem eyeNumber_calls (s0 s : AS) (p : Nat) (st : EyeSt) (size : Nat) (hs : size ≤ 8) (h : EyeS s0 s p st) :
    ACalls Tryz.prog Γ 153 [.ptr p 0, .v (.int .i64 size)] s (fun r s' => r = .v (.int .u64 (eyeNum size st).1) ∧ EyeS s0 s' p (eyeNum size st).2) := by
  refine acalls_body Tryz.func153 rfl Tryz.ntmps153 Tryz.results153 (by simp) ?_
  obtain ⟨out, hout⟩ : ∃ out, out = (eyeNext size st).1 := ⟨_, rfl⟩
  have hlen : out.length ≤ 8 := by rw [hout]; exact Nat.le_trans (eyeNext_le _ _) hs
  refine wS fun K hK => ?_
  simp only [↓DN,UP,DF,Qa,Qb,Qc,Qd,Qe,Qf,Qg,Qh,reduceCtorEq,↓reduceIte,Na,Nb,Nc,Nk,Nf,Ng,Nh,Za,Zb,Zc,TT]
  refine hK _ _ ?_;clear hK K
  refine wS fun K hK => ?_
  simp only [↓DN,UP,DF,Qa,Qb,Qc,Qd,Qe,Qf,Qg,Qh,reduceCtorEq,↓reduceIte,Na,Nb,Nc,Nk,Nf,Ng,Nh,Za,Zb,Zc,TT]
  refine hK _ _ ?_;clear hK K
  refine wK fun K hK => ?_
  refine wS fun K hK => ?_
  simp only [↓DN,UP,DF,Qa,Qb,Qc,Qd,Qe,Qf,Qg,Qh,reduceCtorEq,↓reduceIte,Na,Nb,Nc,Nk,Nf,Ng,Nh,Za,Zb,Zc,TT]
  refine acallk (next_calls s0 s p st size h) ?_
  rintro r s2 ⟨rfl, he⟩
  rw [← hout]
  unfold bytesV
  simp only [↓AXq_nil,↓AXq_cons,pval,DX,Nat.reduceBEq,↓DN,UP,DF,Qa,Qb,Qc,Qd,Qe,Qf,Qg,Qh,reduceCtorEq,↓reduceIte,Na,Nb,Nc,Nk,Nf,Ng,Nh,Za,Zb,Zc,TT]
  refine hK _ _ ?_;clear hK K
  refine awp_block ?_
  refine awp_loop (fun E s3 => ∃ j y : Nat, j ≤ out.length ∧ E 10 = .sl 1 out.length (out.map byteV) .any ∧ E 11 = .v (.int .i64 out.length) ∧ E 12 = .v (.int .i64 j) ∧ E 5 = .v (.int .u64 y) ∧ y = beNat (out.take j) ∧ s3 = s2)
    (fun E _ => match E 12 with | .v (.int _ j) => out.length - j.toNat | _ => 0) ?_ ?_
  · exact ⟨0, 0, Nat.zero_le _, by simp only [upd, Nc, ↓reduceIte], by simp only [upd, Nc, ↓reduceIte], by simp only [upd, ↓reduceIte]; rfl, by simp only [upd, Nc, ↓reduceIte]; rfl, rfl, rfl⟩
  · rintro E3 s3 ⟨j, y, hj, f10, f11, f12, f5, hy, rfl⟩ -
    by_cases hj' : j < out.length
    · have hy7 : y < 2 ^ 56 := by
        rw [hy]
        refine Nat.lt_of_lt_of_le (beNat_take_lt out j) ?_
        rw [show (2 : Nat) ^ 56 = 256 ^ 7 from by decide]
        exact Nat.pow_le_pow_right (by decide) (by omega)
      have hy2 : beNat (out.take (j + 1)) = y * 256 + out[j].toNat := by rw [List.take_succ_eq_append_getElem hj', beNat_snoc, ← hy]
      have hgj : (0 : Int) ≤ (j : Int) := by omega
      have hat := eat_byte hj'
      generalize hcc : out[j] = c at *
      refine wS fun K hK => ?_
      simp only [↓DN,UP,DF,Qa,Qb,Qc,Qd,Qe,Qf,Qg,Qh,reduceCtorEq,↓reduceIte,Na,Nb,Nc,Nk,Nf,Ng,Nh,Za,Zb,Zc,TT, f11, f12, eye_lt_nat, decide_eq_true hj']
      refine hK _ _ ?_;clear hK K
      refine wK fun K5 hK5 => ?_
      refine wC fun X Y hX hY => ?_
      simp only [↓DN,UP,DF,Qa,Qb,Qc,Qd,Qe,Qf,Qg,Qh,reduceCtorEq,↓reduceIte,Na,Nb,Nc,Nk,Nf,Ng,Nh,Za,Zb,Zc,TT, DB]
      refine hX ?_;clear hX hY X Y
      refine awp_skip ?_
      refine hK5 _ _ ?_;clear hK5 K5
      refine wK fun K6 hK6 => ?_
      refine awp_block ?_
      refine wS fun K hK => ?_
      simp only [↓DN,UP,DF,Qa,Qb,Qc,Qd,Qe,Qf,Qg,Qh,reduceCtorEq,↓reduceIte,Na,Nb,Nc,Nk,Nf,Ng,Nh,Za,Zb,Zc,TT, f10, f12, eye_lt_nat, hj', hgj, hat, byteV]
      refine hK _ _ ?_;clear hK K
      refine wE fun K hK => ?_
      simp only [↓DN,UP,DF,Qa,Qb,Qc,Qd,Qe,Qf,Qg,Qh,reduceCtorEq,↓reduceIte,Na,Nb,Nc,Nk,Nf,Ng,Nh,Za,Zb,Zc,TT, f5, beNat_step y c hy7]
      refine hK _ _ ?_;clear hK K
      simp only [blockQ, thenQ, if_true, if_false]
      refine hK6 _ _ ?_;clear hK6 K6
      refine wE fun K hK => ?_
      simp only [↓DN,UP,DF,Qa,Qb,Qc,Qd,Qe,Qf,Qg,Qh,reduceCtorEq,↓reduceIte,Na,Nb,Nc,Nk,Nf,Ng,Nh,Za,Zb,Zc,TT, f12, eye_succ j (by omega)]
      refine hK _ _ ?_;clear hK K
      refine ⟨⟨j + 1, y * 256 + c.toNat, by omega, by simp only [upd, f10, Nc, ↓reduceIte], by simp only [upd, f11, Nc, ↓reduceIte], by simp only [upd, ↓reduceIte], by simp only [upd, Nc, ↓reduceIte], hy2.symm, rfl⟩, ?_⟩
      simp only [f12, upd, ↓reduceIte]
      omega
    · refine wS fun K hK => ?_
      simp only [↓DN,UP,DF,Qa,Qb,Qc,Qd,Qe,Qf,Qg,Qh,reduceCtorEq,↓reduceIte,Na,Nb,Nc,Nk,Nf,Ng,Nh,Za,Zb,Zc,TT, f11, f12, eye_lt_nat, decide_eq_false hj']
      refine hK _ _ ?_;clear hK K
      refine wK fun K5 hK5 => ?_
      refine wC fun X Y hX hY => ?_
      simp only [↓DN,UP,DF,Qa,Qb,Qc,Qd,Qe,Qf,Qg,Qh,reduceCtorEq,↓reduceIte,Na,Nb,Nc,Nk,Nf,Ng,Nh,Za,Zb,Zc,TT, DB]
      refine hY ?_;clear hX hY X Y
      refine awp_exit ?_
      simp only [thenQ, blockQ, if_true]
      refine hK _ _ ?_;clear hK hK5 K K5
      refine wS fun K hK => ?_
      simp only [↓DN,UP,DF,Qa,Qb,Qc,Qd,Qe,Qf,Qg,Qh,reduceCtorEq,↓reduceIte,Na,Nb,Nc,Nk,Nf,Ng,Nh,Za,Zb,Zc,TT, f5]
      refine hK _ _ ?_;clear hK K
      refine awp_ret ?_
      simp only [retQ, AEnds, aresL, ares, List.toList_toArray, ↓upd_same]; try simp only [UP,DF,Nc,↓reduceIte,DT]
      refine ⟨_, _, AV.weak.refl _, AS.le.refl _, ?_, he⟩
      rw [hy, List.take_of_length_le (by omega), hout]
      rfl

end Go.Proofs.YtoagkleecgngdaaGreatDoor


