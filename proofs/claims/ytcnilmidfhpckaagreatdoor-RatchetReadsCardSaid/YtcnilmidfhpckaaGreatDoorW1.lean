/- Contracts of the program's functions, each walked once; the conditions stand in each theorem. -/
import Derived.Test.YtcnilmidfhpckaaGreatDoorProg
import Derived.Test.YtcnilmidfhpckaaGreatDoorAMp4
import Derived.Test.YtcnilmidfhpckaaGreatDoorAMp5
import Derived.Test.YtcnilmidfhpckaaGreatDoorAMp6
set_option linter.unusedSimpArgs false
set_option linter.unusedVariables false
open Nat renaming reduceLT → Na, reduceLeDiff → Nb, reduceEqDiff → Nc, reduceAdd → Nk, reduceMul → Nf, reducePow → Ng, reduceSub → Nh
open Int renaming reduceLT → Za, reduceLE → Zb, reduceToNat → Zc
open Go.AM renaming ashift → Qa, aconv → Qb, aindexAddr → Qc, aindex → Qd, aslice → Qe, abuiltin → Qf, awp_reg_seq → wS, awp_reg_end → wE, awp_seq_k → wK, awp_cond_k → wC
open Go.AM.AV renaming cells → Qg, one → Qh
set_option autoImplicit false
namespace Go.Proofs.YtcnilmidfhpckaaGreatDoor
open Go Go.AM Go.Proofs
theorem T.c2 : Tryz.prog.cellsOf 2 = 1 := by kernel_rfl
theorem T.b2 : Tryz.prog.bytesOf 2 = 8 := by kernel_rfl
theorem T.g2 : isAggT Tryz.prog 2 = some false := by kernel_rfl
theorem T.c3 : Tryz.prog.cellsOf 3 = 1 := by kernel_rfl
theorem T.b3 : Tryz.prog.bytesOf 3 = 8 := by kernel_rfl
theorem T.g3 : isAggT Tryz.prog 3 = some false := by kernel_rfl
theorem T.z3 : zcells Tryz.prog 3 = some [.v (.int .i64 0)] := by kernel_rfl
theorem T.c4 : Tryz.prog.cellsOf 4 = 1 := by kernel_rfl
theorem T.b4 : Tryz.prog.bytesOf 4 = 1 := by kernel_rfl
theorem T.g4 : isAggT Tryz.prog 4 = some false := by kernel_rfl
theorem T.z4 : zcells Tryz.prog 4 = some [.v (.bool false)] := by kernel_rfl
theorem T.c5 : Tryz.prog.cellsOf 5 = 1 := by kernel_rfl
theorem T.b5 : Tryz.prog.bytesOf 5 = 1 := by kernel_rfl
theorem T.g5 : isAggT Tryz.prog 5 = some false := by kernel_rfl
theorem T.z5 : zcells Tryz.prog 5 = some [.v (.int .u8 0)] := by kernel_rfl
theorem T.c6 : Tryz.prog.cellsOf 6 = 1 := by kernel_rfl
theorem T.g6 : isAggT Tryz.prog 6 = some false := by kernel_rfl
theorem T.g7 : isAggT Tryz.prog 7 = some true := by kernel_rfl
theorem T.h7 : fieldsOk Tryz.prog 7 = true := by kernel_rfl
theorem T.g8 : isAggT Tryz.prog 8 = some true := by kernel_rfl
theorem T.h8 : fieldsOk Tryz.prog 8 = true := by kernel_rfl
theorem T.c9 : Tryz.prog.cellsOf 9 = 1 := by kernel_rfl
theorem T.b9 : Tryz.prog.bytesOf 9 = 16 := by kernel_rfl
theorem T.g9 : isAggT Tryz.prog 9 = some false := by kernel_rfl
theorem T.z9 : zcells Tryz.prog 9 = some [.v (.string ByteArray.empty)] := by kernel_rfl
theorem T.g10 : isAggT Tryz.prog 10 = some false := by kernel_rfl
theorem T.g11 : isAggT Tryz.prog 11 = some false := by kernel_rfl
theorem T.g13 : isAggT Tryz.prog 13 = some true := by kernel_rfl
theorem T.h13 : fieldsOk Tryz.prog 13 = true := by kernel_rfl
theorem T.g14 : isAggT Tryz.prog 14 = some true := by kernel_rfl
theorem T.g15 : isAggT Tryz.prog 15 = some false := by kernel_rfl
theorem T.g16 : isAggT Tryz.prog 16 = some false := by kernel_rfl
theorem T.g17 : isAggT Tryz.prog 17 = some false := by kernel_rfl
theorem T.c22 : Tryz.prog.cellsOf 22 = 1 := by kernel_rfl
theorem T.b22 : Tryz.prog.bytesOf 22 = 24 := by kernel_rfl
theorem T.g22 : isAggT Tryz.prog 22 = some false := by kernel_rfl
theorem T.z22 : zcells Tryz.prog 22 = some [.v (.slice none 0 0)] := by kernel_rfl
theorem T.s22 : isSliceT Tryz.prog 22 = true := by kernel_rfl
theorem T.c23 : Tryz.prog.cellsOf 23 = 1 := by kernel_rfl
theorem T.b23 : Tryz.prog.bytesOf 23 = 24 := by kernel_rfl
theorem T.g23 : isAggT Tryz.prog 23 = some false := by kernel_rfl
theorem T.z23 : zcells Tryz.prog 23 = some [.v (.slice none 0 0)] := by kernel_rfl
theorem T.s23 : isSliceT Tryz.prog 23 = true := by kernel_rfl
theorem T.c26 : Tryz.prog.cellsOf 26 = 1 := by kernel_rfl
theorem T.b26 : Tryz.prog.bytesOf 26 = 8 := by kernel_rfl
theorem T.g26 : isAggT Tryz.prog 26 = some false := by kernel_rfl
theorem T.z26 : zcells Tryz.prog 26 = some [.v (.pointer none)] := by kernel_rfl
theorem T.p26 : isPtrT Tryz.prog 26 = true := by kernel_rfl
theorem T.c32 : Tryz.prog.cellsOf 32 = 1 := by kernel_rfl
theorem T.b32 : Tryz.prog.bytesOf 32 = 8 := by kernel_rfl
theorem T.g32 : isAggT Tryz.prog 32 = some false := by kernel_rfl
theorem T.z32 : zcells Tryz.prog 32 = some [.v (.pointer none)] := by kernel_rfl
theorem T.p32 : isPtrT Tryz.prog 32 = true := by kernel_rfl
theorem T.c36 : Tryz.prog.cellsOf 36 = 1 := by kernel_rfl
theorem T.b36 : Tryz.prog.bytesOf 36 = 8 := by kernel_rfl
theorem T.g36 : isAggT Tryz.prog 36 = some false := by kernel_rfl
theorem T.z36 : zcells Tryz.prog 36 = some [.v (.int .i64 0)] := by kernel_rfl
theorem T.c38 : Tryz.prog.cellsOf 38 = 1 := by kernel_rfl
theorem T.b38 : Tryz.prog.bytesOf 38 = 8 := by kernel_rfl
theorem T.g38 : isAggT Tryz.prog 38 = some false := by kernel_rfl
theorem T.z38 : zcells Tryz.prog 38 = some [.v (.pointer none)] := by kernel_rfl
theorem T.p38 : isPtrT Tryz.prog 38 = true := by kernel_rfl
theorem T.c40 : Tryz.prog.cellsOf 40 = 2 := by kernel_rfl
theorem T.b40 : Tryz.prog.bytesOf 40 = 24 := by kernel_rfl
theorem T.g40 : isAggT Tryz.prog 40 = some true := by kernel_rfl
theorem T.h40 : fieldsOk Tryz.prog 40 = true := by kernel_rfl
theorem T.f40_0 : fieldOf Tryz.prog 40 0 = some (0, 9) := by kernel_rfl
theorem T.f40_1 : fieldOf Tryz.prog 40 1 = some (1, 3) := by kernel_rfl
theorem T.z40 : zcells Tryz.prog 40 = some [.v (.string ByteArray.empty), .v (.int .i64 0)] := by kernel_rfl
theorem T.c44 : Tryz.prog.cellsOf 44 = 1 := by kernel_rfl
theorem T.b44 : Tryz.prog.bytesOf 44 = 8 := by kernel_rfl
theorem T.g44 : isAggT Tryz.prog 44 = some false := by kernel_rfl
theorem T.z44 : zcells Tryz.prog 44 = some [.v (.int .u64 0)] := by kernel_rfl
theorem T.c55 : Tryz.prog.cellsOf 55 = 1 := by kernel_rfl
theorem T.b55 : Tryz.prog.bytesOf 55 = 24 := by kernel_rfl
theorem T.g55 : isAggT Tryz.prog 55 = some false := by kernel_rfl
theorem T.z55 : zcells Tryz.prog 55 = some [.v (.slice none 0 0)] := by kernel_rfl
theorem T.s55 : isSliceT Tryz.prog 55 = true := by kernel_rfl
theorem T.c68 : Tryz.prog.cellsOf 68 = 5 := by kernel_rfl
theorem T.b68 : Tryz.prog.bytesOf 68 = 88 := by kernel_rfl
theorem T.g68 : isAggT Tryz.prog 68 = some true := by kernel_rfl
theorem T.h68 : fieldsOk Tryz.prog 68 = true := by kernel_rfl
theorem T.f68_0 : fieldOf Tryz.prog 68 0 = some (0, 3) := by kernel_rfl
theorem T.f68_1 : fieldOf Tryz.prog 68 1 = some (1, 23) := by kernel_rfl
theorem T.f68_2 : fieldOf Tryz.prog 68 2 = some (2, 44) := by kernel_rfl
theorem T.f68_3 : fieldOf Tryz.prog 68 3 = some (3, 23) := by kernel_rfl
theorem T.f68_4 : fieldOf Tryz.prog 68 4 = some (4, 55) := by kernel_rfl
theorem T.z68 : zcells Tryz.prog 68 = some [.v (.int .i64 0), .v (.slice none 0 0), .v (.int .u64 0), .v (.slice none 0 0), .v (.slice none 0 0)] := by kernel_rfl
theorem T.c70 : Tryz.prog.cellsOf 70 = 2 := by kernel_rfl
theorem T.b70 : Tryz.prog.bytesOf 70 = 32 := by kernel_rfl
theorem T.g70 : isAggT Tryz.prog 70 = some true := by kernel_rfl
theorem T.h70 : fieldsOk Tryz.prog 70 = true := by kernel_rfl
theorem T.f70_0 : fieldOf Tryz.prog 70 0 = some (0, 23) := by kernel_rfl
theorem T.f70_1 : fieldOf Tryz.prog 70 1 = some (1, 4) := by kernel_rfl
theorem T.z70 : zcells Tryz.prog 70 = some [.v (.slice none 0 0), .v (.bool false)] := by kernel_rfl
theorem T.c83 : Tryz.prog.cellsOf 83 = 2 := by kernel_rfl
theorem T.b83 : Tryz.prog.bytesOf 83 = 32 := by kernel_rfl
theorem T.g83 : isAggT Tryz.prog 83 = some true := by kernel_rfl
theorem T.h83 : fieldsOk Tryz.prog 83 = true := by kernel_rfl
theorem T.f83_0 : fieldOf Tryz.prog 83 0 = some (0, 23) := by kernel_rfl
theorem T.f83_1 : fieldOf Tryz.prog 83 1 = some (1, 36) := by kernel_rfl
theorem T.z83 : zcells Tryz.prog 83 = some [.v (.slice none 0 0), .v (.int .i64 0)] := by kernel_rfl
theorem T.c137 : Tryz.prog.cellsOf 137 = 1 := by kernel_rfl
theorem T.b137 : Tryz.prog.bytesOf 137 = 8 := by kernel_rfl
theorem T.g137 : isAggT Tryz.prog 137 = some false := by kernel_rfl
theorem T.z137 : zcells Tryz.prog 137 = some [.v (.int .u64 0)] := by kernel_rfl
theorem T.c148 : Tryz.prog.cellsOf 148 = 1 := by kernel_rfl
theorem T.b148 : Tryz.prog.bytesOf 148 = 4 := by kernel_rfl
theorem T.g148 : isAggT Tryz.prog 148 = some false := by kernel_rfl
theorem T.z148 : zcells Tryz.prog 148 = some [.v (.int .u32 0)] := by kernel_rfl
theorem T.c170 : Tryz.prog.cellsOf 170 = 64 := by kernel_rfl
theorem T.b170 : Tryz.prog.bytesOf 170 = 64 := by kernel_rfl
theorem T.g170 : isAggT Tryz.prog 170 = some true := by kernel_rfl
theorem T.k3 : callable Tryz.prog 3 = true := by kernel_rfl
theorem T.k4 : callable Tryz.prog 4 = true := by kernel_rfl
theorem T.k5 : callable Tryz.prog 5 = true := by kernel_rfl
theorem T.k6 : callable Tryz.prog 6 = true := by kernel_rfl
theorem T.k7 : callable Tryz.prog 7 = true := by kernel_rfl
theorem T.k8 : callable Tryz.prog 8 = true := by kernel_rfl
theorem T.k9 : callable Tryz.prog 9 = true := by kernel_rfl
theorem T.k10 : callable Tryz.prog 10 = true := by kernel_rfl
theorem T.k11 : callable Tryz.prog 11 = true := by kernel_rfl
theorem T.k12 : callable Tryz.prog 12 = true := by kernel_rfl
theorem T.k13 : callable Tryz.prog 13 = true := by kernel_rfl
theorem T.k14 : callable Tryz.prog 14 = true := by kernel_rfl
theorem T.k15 : callable Tryz.prog 15 = true := by kernel_rfl
theorem T.k16 : callable Tryz.prog 16 = true := by kernel_rfl
theorem T.k17 : callable Tryz.prog 17 = true := by kernel_rfl
theorem T.k18 : callable Tryz.prog 18 = true := by kernel_rfl
theorem T.k19 : callable Tryz.prog 19 = true := by kernel_rfl
theorem T.k20 : callable Tryz.prog 20 = true := by kernel_rfl
theorem T.k26 : callable Tryz.prog 26 = true := by kernel_rfl
theorem T.k30 : callable Tryz.prog 30 = true := by kernel_rfl
theorem T.k31 : callable Tryz.prog 31 = true := by kernel_rfl
theorem T.k32 : callable Tryz.prog 32 = true := by kernel_rfl
theorem T.k33 : callable Tryz.prog 33 = true := by kernel_rfl
theorem T.k34 : callable Tryz.prog 34 = true := by kernel_rfl
theorem T.k35 : callable Tryz.prog 35 = true := by kernel_rfl
theorem T.k36 : callable Tryz.prog 36 = true := by kernel_rfl
theorem T.k37 : callable Tryz.prog 37 = true := by kernel_rfl
theorem T.k38 : callable Tryz.prog 38 = true := by kernel_rfl
theorem T.k39 : callable Tryz.prog 39 = true := by kernel_rfl
theorem T.k40 : callable Tryz.prog 40 = true := by kernel_rfl
theorem T.k41 : callable Tryz.prog 41 = true := by kernel_rfl
theorem T.k42 : callable Tryz.prog 42 = true := by kernel_rfl
theorem T.k43 : callable Tryz.prog 43 = true := by kernel_rfl
theorem T.k44 : callable Tryz.prog 44 = true := by kernel_rfl
theorem T.k45 : callable Tryz.prog 45 = true := by kernel_rfl
theorem T.k46 : callable Tryz.prog 46 = true := by kernel_rfl
theorem T.k47 : callable Tryz.prog 47 = true := by kernel_rfl
theorem T.k48 : callable Tryz.prog 48 = true := by kernel_rfl
theorem T.k49 : callable Tryz.prog 49 = true := by kernel_rfl
theorem T.k50 : callable Tryz.prog 50 = true := by kernel_rfl
theorem T.k51 : callable Tryz.prog 51 = true := by kernel_rfl
theorem T.k52 : callable Tryz.prog 52 = true := by kernel_rfl
theorem T.k53 : callable Tryz.prog 53 = true := by kernel_rfl
theorem T.k54 : callable Tryz.prog 54 = true := by kernel_rfl
theorem T.k55 : callable Tryz.prog 55 = true := by kernel_rfl
theorem T.k56 : callable Tryz.prog 56 = true := by kernel_rfl
theorem T.k65 : callable Tryz.prog 65 = true := by kernel_rfl
theorem T.k70 : callable Tryz.prog 70 = true := by kernel_rfl
theorem T.k74 : callable Tryz.prog 74 = true := by kernel_rfl
theorem T.k75 : callable Tryz.prog 75 = true := by kernel_rfl
theorem T.k76 : callable Tryz.prog 76 = true := by kernel_rfl
theorem T.k77 : callable Tryz.prog 77 = true := by kernel_rfl
theorem T.k78 : callable Tryz.prog 78 = true := by kernel_rfl
theorem T.k79 : callable Tryz.prog 79 = true := by kernel_rfl
theorem T.k80 : callable Tryz.prog 80 = true := by kernel_rfl
theorem T.k81 : callable Tryz.prog 81 = true := by kernel_rfl
theorem T.k82 : callable Tryz.prog 82 = true := by kernel_rfl
theorem T.k83 : callable Tryz.prog 83 = true := by kernel_rfl
theorem T.k84 : callable Tryz.prog 84 = true := by kernel_rfl
theorem T.k85 : callable Tryz.prog 85 = true := by kernel_rfl
theorem T.k86 : callable Tryz.prog 86 = true := by kernel_rfl
theorem T.k87 : callable Tryz.prog 87 = true := by kernel_rfl
theorem T.k88 : callable Tryz.prog 88 = true := by kernel_rfl
theorem T.k89 : callable Tryz.prog 89 = true := by kernel_rfl
theorem T.k90 : callable Tryz.prog 90 = true := by kernel_rfl
theorem T.k91 : callable Tryz.prog 91 = true := by kernel_rfl
theorem T.k92 : callable Tryz.prog 92 = true := by kernel_rfl
theorem T.k93 : callable Tryz.prog 93 = true := by kernel_rfl
theorem T.k94 : callable Tryz.prog 94 = true := by kernel_rfl
theorem T.k95 : callable Tryz.prog 95 = true := by kernel_rfl
theorem T.k96 : callable Tryz.prog 96 = true := by kernel_rfl
theorem T.k97 : callable Tryz.prog 97 = true := by kernel_rfl
theorem T.k100 : callable Tryz.prog 100 = true := by kernel_rfl
theorem T.k102 : callable Tryz.prog 102 = true := by kernel_rfl
theorem T.k109 : callable Tryz.prog 109 = true := by kernel_rfl
theorem T.k111 : callable Tryz.prog 111 = true := by kernel_rfl
theorem T.k112 : callable Tryz.prog 112 = true := by kernel_rfl
theorem T.k113 : callable Tryz.prog 113 = true := by kernel_rfl
theorem T.k118 : callable Tryz.prog 118 = true := by kernel_rfl
theorem T.k119 : callable Tryz.prog 119 = true := by kernel_rfl
theorem T.k120 : callable Tryz.prog 120 = true := by kernel_rfl
theorem T.k121 : callable Tryz.prog 121 = true := by kernel_rfl
theorem T.k122 : callable Tryz.prog 122 = true := by kernel_rfl
theorem T.k124 : callable Tryz.prog 124 = true := by kernel_rfl
theorem T.k135 : callable Tryz.prog 135 = true := by kernel_rfl
theorem T.k136 : callable Tryz.prog 136 = true := by kernel_rfl
theorem T.k137 : callable Tryz.prog 137 = true := by kernel_rfl
theorem T.k140 : callable Tryz.prog 140 = true := by kernel_rfl
theorem T.k141 : callable Tryz.prog 141 = true := by kernel_rfl
theorem T.k146 : callable Tryz.prog 146 = true := by kernel_rfl
theorem T.k152 : callable Tryz.prog 152 = true := by kernel_rfl
theorem T.k153 : callable Tryz.prog 153 = true := by kernel_rfl
theorem T.mixed : Tryz.prog.follows .mixedOrders = true := by kernel_rfl
end Go.Proofs.YtcnilmidfhpckaaGreatDoor


set_option autoImplicit false
set_option maxRecDepth 100000
namespace Go.Proofs.YtcnilmidfhpckaaGreatDoor
open Go Go.AM Go.Proofs
/-- The closed facts that the walks rewrite by, bound together. -/
theorem TT : type_of% (And.intro (And.intro (And.intro (And.intro (And.intro (And.intro (And.intro (And.intro @Tryz.underlying3 T.c3) (And.intro T.g3 T.b3)) (And.intro (And.intro T.z3 Tryz.ntmps135) (And.intro @Tryz.underlying5 (And.intro T.c5 T.g5)))) (And.intro (And.intro (And.intro T.b5 T.z5) (And.intro @Tryz.underlying44 T.c44)) (And.intro (And.intro T.g44 T.b44) (And.intro T.z44 (And.intro @Tryz.underlying170 T.c170))))) (And.intro (And.intro (And.intro (And.intro T.g170 T.b170) (And.intro Tryz.ntmps153 @Tryz.underlying137)) (And.intro (And.intro T.c137 T.g137) (And.intro T.b137 (And.intro T.z137 @Tryz.underlying148)))) (And.intro (And.intro (And.intro T.c148 T.g148) (And.intro T.b148 T.z148)) (And.intro (And.intro T.k153 T.k152) (And.intro Tryz.ntmps146 (And.intro @Tryz.underlying4 T.c4)))))) (And.intro (And.intro (And.intro (And.intro (And.intro T.g4 T.b4) (And.intro T.z4 T.k146)) (And.intro (And.intro T.k135 Tryz.ntmps136) (And.intro T.k136 (And.intro Tryz.ntmps109 Tryz.ntmps48)))) (And.intro (And.intro (And.intro T.k48 Tryz.ntmps50) (And.intro T.k50 Tryz.ntmps113)) (And.intro (And.intro @Tryz.underlying55 T.c55) (And.intro T.g55 (And.intro T.b55 T.z55))))) (And.intro (And.intro (And.intro (And.intro T.s55 T.k113) (And.intro Tryz.ntmps78 Tryz.ntmps53)) (And.intro (And.intro Tryz.ntmps87 T.k87) (And.intro Tryz.ntmps70 (And.intro T.k70 Tryz.ntmps41)))) (And.intro (And.intro (And.intro @Tryz.underlying23 T.c23) (And.intro T.g23 (And.intro T.b23 T.z23))) (And.intro (And.intro T.s23 Tryz.ntmps37) (And.intro @Tryz.underlying70 (And.intro T.c70 T.g70))))))) (And.intro (And.intro (And.intro (And.intro (And.intro (And.intro T.b70 T.z70) (And.intro T.h70 T.f70_0)) (And.intro (And.intro T.f70_1 Tryz.ntmps118) (And.intro Tryz.ntmps8 (And.intro @Tryz.underlying26 T.c26)))) (And.intro (And.intro (And.intro T.g26 T.b26) (And.intro T.z26 T.p26)) (And.intro (And.intro T.k118 Tryz.ntmps83) (And.intro T.k83 (And.intro Tryz.ntmps34 Tryz.ntmps85))))) (And.intro (And.intro (And.intro (And.intro Tryz.ntmps140 T.k140) (And.intro Tryz.ntmps119 T.k119)) (And.intro (And.intro Tryz.ntmps84 T.k37) (And.intro Tryz.ntmps10 (And.intro @Tryz.underlying36 T.c36)))) (And.intro (And.intro (And.intro T.g36 T.b36) (And.intro T.z36 @Tryz.underlying83)) (And.intro (And.intro T.c83 T.g83) (And.intro T.b83 (And.intro T.z83 T.h83)))))) (And.intro (And.intro (And.intro (And.intro (And.intro T.f83_0 T.f83_1) (And.intro Tryz.ntmps13 Tryz.ntmps120)) (And.intro (And.intro @Tryz.underlying32 T.c32) (And.intro T.g32 (And.intro T.b32 T.z32)))) (And.intro (And.intro (And.intro T.p32 T.k120) (And.intro Tryz.ntmps89 Tryz.ntmps141)) (And.intro (And.intro T.k89 Tryz.ntmps47) (And.intro Tryz.ntmps91 (And.intro T.k141 Tryz.ntmps121))))) (And.intro (And.intro (And.intro (And.intro T.k121 Tryz.ntmps90) (And.intro Tryz.ntmps19 Tryz.ntmps18)) (And.intro (And.intro Tryz.ntmps49 Tryz.ntmps16) (And.intro @Tryz.underlying9 (And.intro T.c9 T.g9)))) (And.intro (And.intro (And.intro T.b9 T.z9) (And.intro Tryz.ntmps44 (And.intro T.k44 Tryz.ntmps88))) (And.intro (And.intro Tryz.ntmps92 @Tryz.underlying40) (And.intro T.c40 (And.intro T.g40 T.b40)))))))) (And.intro (And.intro (And.intro (And.intro (And.intro (And.intro (And.intro T.z40 T.h40) (And.intro T.f40_0 T.f40_1)) (And.intro (And.intro T.k92 Tryz.ntmps52) (And.intro Tryz.ntmps93 (And.intro Tryz.ntmps100 Tryz.ntmps86)))) (And.intro (And.intro (And.intro Tryz.ntmps112 Tryz.ntmps122) (And.intro Tryz.ntmps26 @Tryz.underlying68)) (And.intro (And.intro T.c68 T.g68) (And.intro T.b68 (And.intro T.z68 T.h68))))) (And.intro (And.intro (And.intro (And.intro T.f68_0 T.f68_1) (And.intro T.f68_2 T.f68_3)) (And.intro (And.intro T.f68_4 T.k122) (And.intro T.k112 (And.intro Tryz.ntmps95 T.k26)))) (And.intro (And.intro (And.intro Tryz.ntmps46 Tryz.ntmps97) (And.intro T.k100 Tryz.ntmps96)) (And.intro (And.intro T.k97 T.k96) (And.intro T.k95 (And.intro Tryz.ntmps56 T.k86)))))) (And.intro (And.intro (And.intro (And.intro (And.intro T.k46 Tryz.ntmps39) (And.intro T.k85 T.k34)) (And.intro (And.intro T.k56 T.k84) (And.intro Tryz.ntmps36 (And.intro T.k88 Tryz.ntmps45)))) (And.intro (And.intro (And.intro T.k91 T.k18) (And.intro T.k47 T.k49)) (And.intro (And.intro T.k90 Tryz.ntmps51) (And.intro @Tryz.underlying22 (And.intro T.c22 T.g22))))) (And.intro (And.intro (And.intro (And.intro T.b22 T.z22) (And.intro T.s22 Tryz.ntmps35)) (And.intro (And.intro T.k35 Tryz.ntmps75) (And.intro T.k75 (And.intro Tryz.ntmps77 Tryz.ntmps76)))) (And.intro (And.intro (And.intro Tryz.ntmps137 T.k137) (And.intro Tryz.ntmps111 (And.intro Tryz.ntmps110 T.k109))) (And.intro (And.intro T.k111 Tryz.ntmps74) (And.intro T.k74 (And.intro T.k77 T.k76))))))) (And.intro (And.intro (And.intro (And.intro (And.intro (And.intro Tryz.ntmps30 T.k30) (And.intro T.k36 Tryz.ntmps9)) (And.intro (And.intro @Tryz.underlying38 T.c38) (And.intro T.g38 (And.intro T.b38 T.z38)))) (And.intro (And.intro (And.intro T.p38 T.k52) (And.intro T.k93 T.k39)) (And.intro (And.intro Tryz.ntmps54 Tryz.ntmps38) (And.intro Tryz.ntmps42 (And.intro T.k42 Tryz.ntmps43))))) (And.intro (And.intro (And.intro (And.intro Tryz.ntmps40 T.k43) (And.intro T.k41 T.k40)) (And.intro (And.intro T.k38 Tryz.ntmps11) (And.intro Tryz.ntmps94 (And.intro Tryz.ntmps33 Tryz.ntmps14)))) (And.intro (And.intro (And.intro Tryz.ntmps124 T.k124) (And.intro T.k94 Tryz.ntmps102)) (And.intro (And.intro T.k102 Tryz.ntmps65) (And.intro T.k51 (And.intro Tryz.ntmps15 T.k45)))))) (And.intro (And.intro (And.intro (And.intro (And.intro Tryz.ntmps12 T.k11) (And.intro T.k53 T.k54)) (And.intro (And.intro Tryz.ntmps17 Tryz.ntmps55) (And.intro T.k55 (And.intro Tryz.ntmps20 T.k65)))) (And.intro (And.intro (And.intro T.k78 T.k79) (And.intro T.k80 Tryz.ntmps31)) (And.intro (And.intro Tryz.ntmps81 Tryz.ntmps82) (And.intro T.k81 (And.intro T.k82 Tryz.ntmps32))))) (And.intro (And.intro (And.intro (And.intro T.k31 T.k32) (And.intro T.k20 T.k33)) (And.intro (And.intro Tryz.ntmps6 Tryz.ntmps7) (And.intro T.k8 (And.intro T.k7 T.k15)))) (And.intro (And.intro (And.intro T.k16 T.k6) (And.intro T.k12 (And.intro T.k19 T.k17))) (And.intro (And.intro T.k9 T.k13) (And.intro T.k14 (And.intro T.k10 Tryz.ntmps3))))))))) :=
  (And.intro (And.intro (And.intro (And.intro (And.intro (And.intro (And.intro (And.intro @Tryz.underlying3 T.c3) (And.intro T.g3 T.b3)) (And.intro (And.intro T.z3 Tryz.ntmps135) (And.intro @Tryz.underlying5 (And.intro T.c5 T.g5)))) (And.intro (And.intro (And.intro T.b5 T.z5) (And.intro @Tryz.underlying44 T.c44)) (And.intro (And.intro T.g44 T.b44) (And.intro T.z44 (And.intro @Tryz.underlying170 T.c170))))) (And.intro (And.intro (And.intro (And.intro T.g170 T.b170) (And.intro Tryz.ntmps153 @Tryz.underlying137)) (And.intro (And.intro T.c137 T.g137) (And.intro T.b137 (And.intro T.z137 @Tryz.underlying148)))) (And.intro (And.intro (And.intro T.c148 T.g148) (And.intro T.b148 T.z148)) (And.intro (And.intro T.k153 T.k152) (And.intro Tryz.ntmps146 (And.intro @Tryz.underlying4 T.c4)))))) (And.intro (And.intro (And.intro (And.intro (And.intro T.g4 T.b4) (And.intro T.z4 T.k146)) (And.intro (And.intro T.k135 Tryz.ntmps136) (And.intro T.k136 (And.intro Tryz.ntmps109 Tryz.ntmps48)))) (And.intro (And.intro (And.intro T.k48 Tryz.ntmps50) (And.intro T.k50 Tryz.ntmps113)) (And.intro (And.intro @Tryz.underlying55 T.c55) (And.intro T.g55 (And.intro T.b55 T.z55))))) (And.intro (And.intro (And.intro (And.intro T.s55 T.k113) (And.intro Tryz.ntmps78 Tryz.ntmps53)) (And.intro (And.intro Tryz.ntmps87 T.k87) (And.intro Tryz.ntmps70 (And.intro T.k70 Tryz.ntmps41)))) (And.intro (And.intro (And.intro @Tryz.underlying23 T.c23) (And.intro T.g23 (And.intro T.b23 T.z23))) (And.intro (And.intro T.s23 Tryz.ntmps37) (And.intro @Tryz.underlying70 (And.intro T.c70 T.g70))))))) (And.intro (And.intro (And.intro (And.intro (And.intro (And.intro T.b70 T.z70) (And.intro T.h70 T.f70_0)) (And.intro (And.intro T.f70_1 Tryz.ntmps118) (And.intro Tryz.ntmps8 (And.intro @Tryz.underlying26 T.c26)))) (And.intro (And.intro (And.intro T.g26 T.b26) (And.intro T.z26 T.p26)) (And.intro (And.intro T.k118 Tryz.ntmps83) (And.intro T.k83 (And.intro Tryz.ntmps34 Tryz.ntmps85))))) (And.intro (And.intro (And.intro (And.intro Tryz.ntmps140 T.k140) (And.intro Tryz.ntmps119 T.k119)) (And.intro (And.intro Tryz.ntmps84 T.k37) (And.intro Tryz.ntmps10 (And.intro @Tryz.underlying36 T.c36)))) (And.intro (And.intro (And.intro T.g36 T.b36) (And.intro T.z36 @Tryz.underlying83)) (And.intro (And.intro T.c83 T.g83) (And.intro T.b83 (And.intro T.z83 T.h83)))))) (And.intro (And.intro (And.intro (And.intro (And.intro T.f83_0 T.f83_1) (And.intro Tryz.ntmps13 Tryz.ntmps120)) (And.intro (And.intro @Tryz.underlying32 T.c32) (And.intro T.g32 (And.intro T.b32 T.z32)))) (And.intro (And.intro (And.intro T.p32 T.k120) (And.intro Tryz.ntmps89 Tryz.ntmps141)) (And.intro (And.intro T.k89 Tryz.ntmps47) (And.intro Tryz.ntmps91 (And.intro T.k141 Tryz.ntmps121))))) (And.intro (And.intro (And.intro (And.intro T.k121 Tryz.ntmps90) (And.intro Tryz.ntmps19 Tryz.ntmps18)) (And.intro (And.intro Tryz.ntmps49 Tryz.ntmps16) (And.intro @Tryz.underlying9 (And.intro T.c9 T.g9)))) (And.intro (And.intro (And.intro T.b9 T.z9) (And.intro Tryz.ntmps44 (And.intro T.k44 Tryz.ntmps88))) (And.intro (And.intro Tryz.ntmps92 @Tryz.underlying40) (And.intro T.c40 (And.intro T.g40 T.b40)))))))) (And.intro (And.intro (And.intro (And.intro (And.intro (And.intro (And.intro T.z40 T.h40) (And.intro T.f40_0 T.f40_1)) (And.intro (And.intro T.k92 Tryz.ntmps52) (And.intro Tryz.ntmps93 (And.intro Tryz.ntmps100 Tryz.ntmps86)))) (And.intro (And.intro (And.intro Tryz.ntmps112 Tryz.ntmps122) (And.intro Tryz.ntmps26 @Tryz.underlying68)) (And.intro (And.intro T.c68 T.g68) (And.intro T.b68 (And.intro T.z68 T.h68))))) (And.intro (And.intro (And.intro (And.intro T.f68_0 T.f68_1) (And.intro T.f68_2 T.f68_3)) (And.intro (And.intro T.f68_4 T.k122) (And.intro T.k112 (And.intro Tryz.ntmps95 T.k26)))) (And.intro (And.intro (And.intro Tryz.ntmps46 Tryz.ntmps97) (And.intro T.k100 Tryz.ntmps96)) (And.intro (And.intro T.k97 T.k96) (And.intro T.k95 (And.intro Tryz.ntmps56 T.k86)))))) (And.intro (And.intro (And.intro (And.intro (And.intro T.k46 Tryz.ntmps39) (And.intro T.k85 T.k34)) (And.intro (And.intro T.k56 T.k84) (And.intro Tryz.ntmps36 (And.intro T.k88 Tryz.ntmps45)))) (And.intro (And.intro (And.intro T.k91 T.k18) (And.intro T.k47 T.k49)) (And.intro (And.intro T.k90 Tryz.ntmps51) (And.intro @Tryz.underlying22 (And.intro T.c22 T.g22))))) (And.intro (And.intro (And.intro (And.intro T.b22 T.z22) (And.intro T.s22 Tryz.ntmps35)) (And.intro (And.intro T.k35 Tryz.ntmps75) (And.intro T.k75 (And.intro Tryz.ntmps77 Tryz.ntmps76)))) (And.intro (And.intro (And.intro Tryz.ntmps137 T.k137) (And.intro Tryz.ntmps111 (And.intro Tryz.ntmps110 T.k109))) (And.intro (And.intro T.k111 Tryz.ntmps74) (And.intro T.k74 (And.intro T.k77 T.k76))))))) (And.intro (And.intro (And.intro (And.intro (And.intro (And.intro Tryz.ntmps30 T.k30) (And.intro T.k36 Tryz.ntmps9)) (And.intro (And.intro @Tryz.underlying38 T.c38) (And.intro T.g38 (And.intro T.b38 T.z38)))) (And.intro (And.intro (And.intro T.p38 T.k52) (And.intro T.k93 T.k39)) (And.intro (And.intro Tryz.ntmps54 Tryz.ntmps38) (And.intro Tryz.ntmps42 (And.intro T.k42 Tryz.ntmps43))))) (And.intro (And.intro (And.intro (And.intro Tryz.ntmps40 T.k43) (And.intro T.k41 T.k40)) (And.intro (And.intro T.k38 Tryz.ntmps11) (And.intro Tryz.ntmps94 (And.intro Tryz.ntmps33 Tryz.ntmps14)))) (And.intro (And.intro (And.intro Tryz.ntmps124 T.k124) (And.intro T.k94 Tryz.ntmps102)) (And.intro (And.intro T.k102 Tryz.ntmps65) (And.intro T.k51 (And.intro Tryz.ntmps15 T.k45)))))) (And.intro (And.intro (And.intro (And.intro (And.intro Tryz.ntmps12 T.k11) (And.intro T.k53 T.k54)) (And.intro (And.intro Tryz.ntmps17 Tryz.ntmps55) (And.intro T.k55 (And.intro Tryz.ntmps20 T.k65)))) (And.intro (And.intro (And.intro T.k78 T.k79) (And.intro T.k80 Tryz.ntmps31)) (And.intro (And.intro Tryz.ntmps81 Tryz.ntmps82) (And.intro T.k81 (And.intro T.k82 Tryz.ntmps32))))) (And.intro (And.intro (And.intro (And.intro T.k31 T.k32) (And.intro T.k20 T.k33)) (And.intro (And.intro Tryz.ntmps6 Tryz.ntmps7) (And.intro T.k8 (And.intro T.k7 T.k15)))) (And.intro (And.intro (And.intro T.k16 T.k6) (And.intro T.k12 (And.intro T.k19 T.k17))) (And.intro (And.intro T.k9 T.k13) (And.intro T.k14 (And.intro T.k10 Tryz.ntmps3)))))))))
end Go.Proofs.YtcnilmidfhpckaaGreatDoor

set_option autoImplicit false
namespace Go.AM
open Go

/-! ### What is written is read back; and what is cut off is too short -/
theorem take_be {k n : Nat} (m : List UInt8) : (be k n ++ m).take k = be k n := by
  rw [List.take_append_of_le_length (by simp), List.take_of_length_le (by simp)]
theorem drop_be {k n : Nat} (m : List UInt8) : (be k n ++ m).drop k = m := by
  rw [List.drop_append_of_le_length (by simp), List.drop_eq_nil_of_le (by simp)]; rfl
theorem eyeNum_be {k n : Nat} {rest : List UInt8} (h : n < 256 ^ k) : eyeNum k (be k n ++ rest, 0) = (n, rest, 0) := by
  rw [eyeNum_ok (by simp), take_be, drop_be, beNat_be k n h]
theorem eyeText_be {k : Nat} {m rest : List UInt8} {most : Int} (h : m.length < 256 ^ k) (hm : (m.length : Int) ≤ most) : eyeText k most (be k m.length ++ m ++ rest, 0) = (m, rest, 0) := by
  unfold eyeText
  rw [List.append_assoc, eyeNum_be h]
  refine (if_pos rfl).trans ((if_neg (by simp only; omega)).trans ((if_neg (by simp)).trans ?_))
  simp only
  rw [eyeNext_ok (by simp), List.take_left, List.drop_left]
end Go.AM


set_option autoImplicit false
namespace Go.AM
open Go

/-! ### Slices of whole numbers; nodes -/
def intC (n : Int) : AV := .v (.int .i64 n)
def intsV (l : List Int) (sp : Sp) : AV := .sl 1 l.length (l.map intC) sp
theorem eat_int {l : List Int} {i : Nat} (h : i < l.length) : List.take 1 (List.drop i (l.map intC)) = [.v (.int .i64 l[i])] := by
  rw [List.drop_eq_getElem_cons (by simpa using h)]
  simp [intC]

theorem IsTy.ints {avs : List AV} (h : IsTy (.slice 1 tyI) avs) : ∃ l : List Int, avs = [intsV l .any] := by
  obtain ⟨els, rfl, _, hall⟩ := IsTy.rows h
  have key : ∀ els : List (List AV), (∀ el ∈ els, el.length = 1 ∧ IsTy tyI el) → ∃ l : List Int, l.length = els.length ∧ els.flatten = l.map intC := by
    intro els
    induction els with
    | nil => intro _; exact ⟨[], rfl, rfl⟩
    | cons e els ih =>
      intro h
      obtain ⟨l, h1, h2⟩ := ih (fun el hel => h el (by simp [hel]))
      obtain ⟨_, t⟩ := h e (by simp)
      obtain ⟨n, rfl, _⟩ := isTy_int t
      exact ⟨n :: l, by simp [h1], by simp [h2, intC]⟩
  obtain ⟨l, h1, h2⟩ := key els hall
  exact ⟨l, by rw [← h1, h2]; rfl⟩

theorem take_eq_succ {α : Type} {a b : List α} {i : Nat} (ha : i < a.length) (hb : i < b.length) (h : a.take i = b.take i) (e : a[i] = b[i]) : a.take (i + 1) = b.take (i + 1) := by
  rw [List.take_succ_eq_append_getElem ha, List.take_succ_eq_append_getElem hb, h, e]

structure NodeV where
  kind : Int
  name : List UInt8
  key : Nat
  parent : List UInt8
  unm : List Int
  deriving DecidableEq
def NodeV.cells (n : NodeV) : List AV := [.v (.int .i64 n.kind), bytesV n.name .any, .v (.int .u64 n.key), bytesV n.parent .any, intsV n.unm .any]
def NodeV.nought : NodeV := ⟨0, [], 0, [], []⟩

theorem node_eq_bool (k k' : Int) (m m' p p' : List UInt8) (y y' : Nat) (u u' : List Int) :
    decide ((⟨k, m, y, p, u⟩ : NodeV) = ⟨k', m', y', p', u'⟩) = ((k == k') && (((y : Int) == (y' : Int)) && (decide (m = m') && (decide (p = p') && decide (u = u'))))) := by
  rw [Bool.eq_iff_iff, decide_eq_true_iff]
  simp only [NodeV.mk.injEq, Bool.and_eq_true, beq_iff_eq, decide_eq_true_eq, Int.natCast_inj]
  constructor
  · rintro ⟨h1, h2, h3, h4, h5⟩
    exact ⟨h1, h3, h2, h4, h5⟩
  · rintro ⟨h1, h3, h2, h4, h5⟩
    exact ⟨h1, h2, h3, h4, h5⟩

theorem IsTy.node {avs : List AV} (h : IsTy (.struct (.cons tyI (.cons tyB (.cons (.int .u64) (.cons tyB (.cons (.slice 1 tyI) .nil)))))) avs) : ∃ N : NodeV, avs = N.cells ∧ N.key < 2 ^ 64 := by
  obtain ⟨x1, y1, rfl, t1, h⟩ := isF_cons (isTy_struct h)
  obtain ⟨x2, y2, rfl, t2, h⟩ := isF_cons h
  obtain ⟨x3, y3, rfl, t3, h⟩ := isF_cons h
  obtain ⟨x4, y4, rfl, t4, h⟩ := isF_cons h
  obtain ⟨x5, y5, rfl, t5, h⟩ := isF_cons h
  obtain rfl := isF_nil h
  obtain ⟨n1, rfl, _⟩ := isTy_int t1
  obtain ⟨l2, rfl, _⟩ := t2.bytes
  obtain ⟨n3, rfl, w3⟩ := isTy_int t3
  obtain ⟨m3, rfl, h3⟩ := nat_u64 w3
  obtain ⟨l4, rfl, _⟩ := t4.bytes
  obtain ⟨l5, rfl⟩ := t5.ints
  exact ⟨⟨n1, l2, m3, l4, l5⟩, rfl, h3⟩
def okAt (l : List Int) (i : Nat) : Prop := 0 ≤ l.getD i 0 ∧ l.getD i 0 < 32 ∧ (0 < i → l.getD (i - 1) 0 < l.getD i 0)
instance decOkAt (l : List Int) (i : Nat) : Decidable (okAt l i) := by unfold okAt; infer_instance
def Rising (l : List Int) : Prop := ∀ i, i < l.length → okAt l i
instance decRising (l : List Int) : Decidable (Rising l) := by unfold Rising; infer_instance
theorem okAt_of {l : List Int} {i : Nat} (h : i < l.length) (h1 : 0 ≤ l[i]) (h2 : l[i] < 32) (h3 : ∀ k : 0 < i, l[i - 1] < l[i]) : okAt l i := by
  unfold okAt
  have e : l.getD i 0 = l[i] := by simp [List.getD, h]
  refine ⟨by rw [e]; exact h1, by rw [e]; exact h2, fun k => ?_⟩
  have e2 : l.getD (i - 1) 0 = l[i - 1] := by simp [List.getD, show i - 1 < l.length by omega]
  rw [e, e2]
  exact h3 k
theorem okAt_get {l : List Int} {i : Nat} (h : i < l.length) (k : okAt l i) : 0 ≤ l[i] ∧ l[i] < 32 ∧ (∀ q : 0 < i, l[i - 1] < l[i]) := by
  unfold okAt at k
  have e : l.getD i 0 = l[i] := by simp [List.getD, h]
  rw [e] at k
  refine ⟨k.1, k.2.1, fun q => ?_⟩
  have e2 : l.getD (i - 1) 0 = l[i - 1] := by simp [List.getD, show i - 1 < l.length by omega]
  have := k.2.2 q
  rwa [e2] at this

def NodeV.held (N : NodeV) : Prop := 2 ≤ N.key ∧ N.key ≤ 2305843009213693949 ∧ (N.parent.length = 0 ∨ N.parent.length = 32)
instance decNodeHeld (N : NodeV) : Decidable N.held := by unfold NodeV.held; infer_instance
def NodeV.right (N : NodeV) : Prop :=
  if N.kind = 0 then N = NodeV.nought
  else if N.kind = 1 then (1 ≤ N.name.length ∧ N.name.length ≤ 16 ∧ N.held ∧ N.unm.length = 0)
  else if N.kind = 2 then (N.name.length = 0 ∧ N.held ∧ Rising N.unm)
  else False
instance decNodeRight (N : NodeV) : Decidable N.right := by unfold NodeV.right; infer_instance
theorem right_zero {N : NodeV} (h : N.kind = 0) : N.right ↔ N = NodeV.nought := by unfold NodeV.right; rw [if_pos h]
theorem right_one {N : NodeV} (h : N.kind = 1) : N.right ↔ (1 ≤ N.name.length ∧ N.name.length ≤ 16 ∧ N.held ∧ N.unm.length = 0) := by unfold NodeV.right; rw [if_neg (by omega), if_pos h]
theorem right_two {N : NodeV} (h : N.kind = 2) : N.right ↔ (N.name.length = 0 ∧ N.held ∧ Rising N.unm) := by unfold NodeV.right; rw [if_neg (by omega), if_neg (by omega), if_pos h]
theorem right_else {N : NodeV} (h0 : N.kind ≠ 0) (h1 : N.kind ≠ 1) (h2 : N.kind ≠ 2) : ¬ N.right := by unfold NodeV.right; rw [if_neg h0, if_neg h1, if_neg h2]; exact id
end Go.AM


set_option autoImplicit false
namespace Go.AM
open Go

/-! ### Records -/
structure Rec where
  kind : Int
  group : List UInt8
  epoch : Int
  time : Int
  bucket : Int
  body : List UInt8
  tree : List UInt8
  script : List UInt8
  wrapped : List UInt8
  deriving DecidableEq

def Rec.cells (r : Rec) : List AV := [.v (.int .i64 r.kind), bytesV r.group .any, .v (.int .i64 r.epoch), .v (.int .i64 r.time), .v (.int .i64 r.bucket), bytesV r.body .any, bytesV r.tree .any, bytesV r.script .any, bytesV r.wrapped .any]
def Rec.nought : Rec := ⟨0, [], 0, 0, 0, [], [], [], []⟩

def Rec.right (r : Rec) : Prop :=
  1 ≤ r.kind ∧ r.kind ≤ 3 ∧ 1 ≤ r.group.length ∧ r.group.length ≤ 16 ∧ 0 ≤ r.epoch ∧ r.epoch ≤ 1048576 ∧ 0 ≤ r.time ∧ r.time ≤ 1099511627776 ∧ 0 ≤ r.bucket ∧ r.bucket ≤ 1099511627776 ∧ r.body.length ≤ 60000 ∧
    r.tree.length = (if r.kind = 3 then 0 else 32) ∧ r.script.length = (if r.kind = 3 then 0 else 32) ∧ r.wrapped.length = (if r.kind = 3 then 0 else 48)
instance (r : Rec) : Decidable r.right := by unfold Rec.right; infer_instance

def Rec.text (r : Rec) : List UInt8 :=
  be 1 r.kind.toNat ++ (be 1 r.group.length ++ r.group ++ (be 8 r.epoch.toNat ++ (be 8 r.time.toNat ++ (be 8 r.bucket.toNat ++
    (be 2 r.body.length ++ r.body ++ (be 1 r.tree.length ++ r.tree ++ (be 1 r.script.length ++ r.script ++ (be 1 r.wrapped.length ++ r.wrapped ++ []))))))))

/-! What was read is written back. -/
end Go.AM


set_option autoImplicit false
namespace Go.AM
open Go

/-! ### Pens: octets put, whether bad or not -/
theorem penNum_raw (k n : Nat) (st : List UInt8 × Bool) : penNum k n st = penRaw (be k n) st := rfl
theorem penSmall_raw {k n : Nat} (h : n < 256 ^ k) (st : List UInt8 × Bool) : penSmall k (n : Int) st = penRaw (be k n) st := by
  have e : (256 : Nat) ^ k = 2 ^ (8 * k) := by rw [Nat.pow_mul]
  have hh : (n : Int) < 2 ^ (8 * k) := by
    rw [e] at h
    exact_mod_cast h
  unfold penSmall
  rw [if_pos ⟨by omega, hh⟩]
  simp only [Int.toNat_natCast, penNum_raw]
theorem penRaw_raw (a b : List UInt8) (st : List UInt8 × Bool) : penRaw a (penRaw b st) = penRaw (b ++ a) st := by
  unfold penRaw
  by_cases h : st.2 = true
  · simp [h]
  · simp [h]
theorem penText_raw {k : Nat} {m : List UInt8} (h : m.length < 256 ^ k) (st : List UInt8 × Bool) : penText k m st = penRaw (be k m.length ++ m) st := by
  unfold penText
  rw [penSmall_raw h, penRaw_raw]
/-! ### A node's octets, and back -/
def intsText (l : List Int) : List UInt8 := (l.map fun x => be 1 x.toNat).flatten
def NodeV.text (N : NodeV) : List UInt8 :=
  if N.kind = 0 then be 1 0
  else if N.kind = 1 then be 1 1 ++ (be 1 N.name.length ++ N.name) ++ be 8 N.key ++ (be 1 N.parent.length ++ N.parent)
  else be 1 2 ++ be 8 N.key ++ (be 1 N.parent.length ++ N.parent) ++ be 1 N.unm.length ++ intsText N.unm

def eyeInts : Nat → EyeSt → List Int × EyeSt
  | 0, st => ([], st)
  | n + 1, st => ((eyeInts n st).1 ++ [((eyeNum 1 (eyeInts n st).2).1 : Int)], (eyeNum 1 (eyeInts n st).2).2)
theorem eyeInts_len : ∀ (n : Nat) (st : EyeSt), (eyeInts n st).1.length = n
  | 0, _ => rfl
  | n + 1, st => by simp [eyeInts, eyeInts_len n st]
theorem eyeInts_left : ∀ (n : Nat) (st : EyeSt), (eyeInts n st).2.1.length ≤ st.1.length
  | 0, _ => Nat.le_refl _
  | n + 1, st => Nat.le_trans (eyeNum_len _ _) (eyeInts_left n st)

def nodeB (k : Nat) (st : EyeSt) : List UInt8 × EyeSt := if k = 1 then eyeText 1 16 st else ([], st)
def nodeC (k : Nat) (st : EyeSt) : Nat × EyeSt := if k = 1 ∨ k = 2 then eyeNum 8 st else (0, st)
def nodeD (k : Nat) (st : EyeSt) : List UInt8 × EyeSt := if k = 1 ∨ k = 2 then eyeText 1 32 st else ([], st)
def nodeE (k : Nat) (st : EyeSt) : List Int × EyeSt := if k = 2 then eyeInts (eyeNum 1 st).1 (eyeNum 1 st).2 else ([], st)
def nodeF (N : NodeV) (st : EyeSt) : EyeSt := (st.1, if ¬ N.right ∧ st.2 = 0 then 12 else st.2)
def nodeRaw (st : EyeSt) : NodeV × EyeSt :=
  let a := eyeNum 1 st
  let b := nodeB a.1 a.2
  let c := nodeC a.1 b.2
  let d := nodeD a.1 c.2
  let e := nodeE a.1 d.2
  (⟨a.1, b.1, c.1, d.1, e.1⟩, e.2)
def nodeRead (st : EyeSt) : NodeV × EyeSt :=
  let q := nodeRaw st
  (if (nodeF q.1 q.2).2 = 0 then q.1 else NodeV.nought, nodeF q.1 q.2)

theorem nodeB_left (k : Nat) (st : EyeSt) : (nodeB k st).2.1.length ≤ st.1.length := by
  unfold nodeB; split
  · exact (eyeText_len _ _ _).2
  · exact Nat.le_refl _
theorem nodeC_left (k : Nat) (st : EyeSt) : (nodeC k st).2.1.length ≤ st.1.length := by
  unfold nodeC; split
  · exact eyeNum_len _ _
  · exact Nat.le_refl _
theorem nodeD_left (k : Nat) (st : EyeSt) : (nodeD k st).2.1.length ≤ st.1.length := by
  unfold nodeD; split
  · exact (eyeText_len _ _ _).2
  · exact Nat.le_refl _
theorem nodeE_left (k : Nat) (st : EyeSt) : (nodeE k st).2.1.length ≤ st.1.length := by
  unfold nodeE; split
  · exact Nat.le_trans (eyeInts_left _ _) (eyeNum_len _ _)
  · exact Nat.le_refl _
theorem nodeE_len (k : Nat) (st : EyeSt) : (nodeE k st).1.length < 256 := by
  unfold nodeE; split
  · rw [eyeInts_len]; exact Nat.lt_of_lt_of_le (eyeNum_lt 1 _) (by decide)
  · simp
theorem nodeRead_left (st : EyeSt) : (nodeRead st).2.1.length ≤ st.1.length := by
  simp only [nodeRead, nodeF, nodeRaw]
  exact Nat.le_trans (nodeE_left _ _) (Nat.le_trans (nodeD_left _ _) (Nat.le_trans (nodeC_left _ _) (Nat.le_trans (nodeB_left _ _) (eyeNum_len _ _))))
theorem nodeRead_unm (st : EyeSt) : (nodeRead st).1.unm.length < 256 := by
  simp only [nodeRead]
  split
  · exact nodeE_len _ _
  · simp [NodeV.nought]

theorem rising_at {l : List Int} (h : Rising l) : ∀ i, i < l.length → (i : Int) ≤ l.getD i 0
  | 0, k => (h 0 k).1
  | i + 1, k => by
    have := rising_at h i (by omega)
    have h3 := (h (i + 1) k).2.2 (by omega)
    simp only [Nat.add_sub_cancel] at h3
    omega
theorem rising_len {l : List Int} (h : Rising l) : l.length ≤ 32 := by
  by_cases k : l.length = 0
  · omega
  · have h1 := rising_at h (l.length - 1) (by omega)
    have h2 := (h (l.length - 1) (by omega)).2.1
    omega
theorem rising_mem {l : List Int} (h : Rising l) {x : Int} (hx : x ∈ l) : 0 ≤ x ∧ x < 32 := by
  obtain ⟨i, hi, rfl⟩ := List.getElem_of_mem hx
  have := okAt_get hi (h i hi)
  exact ⟨this.1, this.2.1⟩

theorem intsText_len : ∀ (l : List Int), (intsText l).length = l.length
  | [] => rfl
  | x :: l => by
    have := intsText_len l
    simp only [intsText, List.map_cons, List.flatten_cons, List.length_append, length_be, List.length_cons] at *
    omega
theorem intsText_snoc (l : List Int) (x : Int) : intsText (l ++ [x]) = intsText l ++ be 1 x.toNat := by
  simp [intsText]

theorem eyeInts_text {l : List Int} (hl : ∀ x ∈ l, 0 ≤ x ∧ x < 256) (rest : List UInt8) : ∀ n, n ≤ l.length → eyeInts n (intsText l ++ rest, 0) = (l.take n, (intsText (l.drop n) ++ rest, 0))
  | 0, _ => by simp [eyeInts]
  | n + 1, h => by
    have ih := eyeInts_text hl rest n (by omega)
    have hn : n < l.length := by omega
    have hx := hl l[n] (List.getElem_mem hn)
    have e : intsText (l.drop n) = be 1 (l[n]).toNat ++ intsText (l.drop (n + 1)) := by
      rw [List.drop_eq_getElem_cons hn]
      simp only [intsText, List.map_cons, List.flatten_cons]
    have e2 : eyeNum 1 (intsText (l.drop n) ++ rest, 0) = ((l[n]).toNat, intsText (l.drop (n + 1)) ++ rest, 0) := by
      rw [e, List.append_assoc]
      exact eyeNum_be (by omega)
    simp only [eyeInts, ih, e2]
    rw [List.take_succ_eq_append_getElem hn]
    congr 2
    congr 1
    omega

theorem nought_right : NodeV.nought.right := by decide
theorem node_kind {N : NodeV} (h : N.right) : N.kind = 0 ∨ N.kind = 1 ∨ N.kind = 2 := by
  unfold NodeV.right at h
  split at h
  · left; assumption
  · split at h
    · right; left; assumption
    · split at h
      · right; right; assumption
      · exact h.elim

theorem nodeRaw_text {N : NodeV} (h : N.right) (rest : List UInt8) : nodeRaw (N.text ++ rest, 0) = (N, rest, 0) := by
  obtain ⟨k, m, y, p, u⟩ := N
  rcases node_kind h with hk | hk | hk
  · have h1 := (right_zero hk).1 h
    rw [h1]
    have e1 : eyeNum 1 (be 1 0 ++ rest, 0) = (0, rest, 0) := eyeNum_be (by decide)
    simp only [nodeRaw, NodeV.text, NodeV.nought, if_true, e1, nodeB, nodeC, nodeD, nodeE]
    simp
  · obtain ⟨h1, h2, ⟨h3, h4, h5⟩, h6⟩ := (right_one hk).1 h
    simp only at hk h1 h2 h3 h4 h5 h6
    subst hk
    obtain rfl : u = [] := List.eq_nil_of_length_eq_zero h6
    have et : NodeV.text ⟨1, m, y, p, []⟩ ++ rest = be 1 1 ++ (be 1 m.length ++ m ++ (be 8 y ++ (be 1 p.length ++ p ++ rest))) := by
      simp [NodeV.text]
    have e1 : eyeNum 1 (be 1 1 ++ (be 1 m.length ++ m ++ (be 8 y ++ (be 1 p.length ++ p ++ rest))), 0) = (1, _, 0) := eyeNum_be (by decide)
    have e2 : eyeText 1 16 (be 1 m.length ++ m ++ (be 8 y ++ (be 1 p.length ++ p ++ rest)), 0) = (m, _, 0) := eyeText_be (by omega) (by omega)
    have e3 : eyeNum 8 (be 8 y ++ (be 1 p.length ++ p ++ rest), 0) = (y, _, 0) := eyeNum_be (by omega)
    have e4 : eyeText 1 32 (be 1 p.length ++ p ++ rest, 0) = (p, rest, 0) := eyeText_be (by omega) (by omega)
    rw [et]
    simp only [nodeRaw, e1, nodeB, nodeC, nodeD, nodeE, if_true, true_or, e2, e3, e4]
    simp
  · obtain ⟨h1, ⟨h3, h4, h5⟩, h6⟩ := (right_two hk).1 h
    simp only at hk h1 h3 h4 h5 h6
    subst hk
    obtain rfl : m = [] := List.eq_nil_of_length_eq_zero h1
    have hu := rising_len h6
    have et : NodeV.text ⟨2, [], y, p, u⟩ ++ rest = be 1 2 ++ (be 8 y ++ (be 1 p.length ++ p ++ (be 1 u.length ++ (intsText u ++ rest)))) := by
      simp [NodeV.text]
    have e1 : eyeNum 1 (be 1 2 ++ (be 8 y ++ (be 1 p.length ++ p ++ (be 1 u.length ++ (intsText u ++ rest)))), 0) = (2, _, 0) := eyeNum_be (by decide)
    have e3 : eyeNum 8 (be 8 y ++ (be 1 p.length ++ p ++ (be 1 u.length ++ (intsText u ++ rest))), 0) = (y, _, 0) := eyeNum_be (by omega)
    have e4 : eyeText 1 32 (be 1 p.length ++ p ++ (be 1 u.length ++ (intsText u ++ rest)), 0) = (p, _, 0) := eyeText_be (by omega) (by omega)
    have e5 : eyeNum 1 (be 1 u.length ++ (intsText u ++ rest), 0) = (u.length, _, 0) := eyeNum_be (by omega)
    have e6 : eyeInts u.length (intsText u ++ rest, 0) = (u, rest, 0) := by
      rw [eyeInts_text (fun x hx => by have := rising_mem h6 hx; omega) rest _ (Nat.le_refl _)]
      simp [intsText]
    rw [et]
    simp only [nodeRaw, e1, nodeB, nodeC, nodeD, nodeE, if_true, or_true, e3, e4, e5, e6, show ¬ (2 : Nat) = 1 from by decide, if_false]
    simp
theorem nodeRead_text {N : NodeV} (h : N.right) (rest : List UInt8) : nodeRead (N.text ++ rest, 0) = (N, rest, 0) := by
  simp only [nodeRead, nodeRaw_text h, nodeF, h, not_true_eq_false, false_and, if_false, if_true]

theorem NodeV.text_len {N : NodeV} (h : N.right) : N.text.length ≤ 100 := by
  obtain ⟨k, m, y, p, u⟩ := N
  rcases node_kind h with hk | hk | hk
  · simp only at hk
    simp [NodeV.text, hk]
  · obtain ⟨h1, h2, ⟨h3, h4, h5⟩, h6⟩ := (right_one hk).1 h
    simp only at hk h1 h2 h3 h4 h5 h6
    simp [NodeV.text, hk]
    omega
  · obtain ⟨h1, ⟨h3, h4, h5⟩, h6⟩ := (right_two hk).1 h
    simp only at hk h1 h3 h4 h5 h6
    have hu := rising_len h6
    simp [NodeV.text, hk, intsText_len]
    omega

/-! ### A reader: an eye at p, the result at o2, the variable at o3 -/
structure RdS (s s1 : AS) (p o2 o3 : Nat) (ce z cs : List AV) : Prop where
  le : (s.drop p).le s1
  eye : s1.objs p = some ce
  res : s1.objs o2 = some z
  var : s1.objs o3 = some cs
  n2 : s.objs o2 = none
  n3 : s.objs o3 = none
  p2 : p ≠ o2
  p3 : p ≠ o3
  d : o2 ≠ o3
theorem AS.drop_objs_none {s : AS} {p o : Nat} (h : s.objs o = none) : (s.drop p).objs o = none := by
  simp only [AS.drop, upd]; split
  · rfl
  · exact h
theorem AS.drop_self (s : AS) (p : Nat) : (s.drop p).objs p = none := by simp [AS.drop]
theorem RdS.setEye {s s1 : AS} {p o2 o3 : Nat} {ce z cs : List AV} (h : RdS s s1 p o2 o3 ce z cs) (ce' : List AV) : RdS s (s1.set p ce') p o2 o3 ce' z cs :=
  ⟨AS.le_set h.le (AS.drop_self _ _) _, AS.set_objs_same _ _ _, by rw [AS.set_objs_ne _ h.p2.symm]; exact h.res, by rw [AS.set_objs_ne _ h.p3.symm]; exact h.var, h.n2, h.n3, h.p2, h.p3, h.d⟩
theorem RdS.setRes {s s1 : AS} {p o2 o3 : Nat} {ce z cs : List AV} (h : RdS s s1 p o2 o3 ce z cs) (z' : List AV) : RdS s (s1.set o2 z') p o2 o3 ce z' cs :=
  ⟨AS.le_set h.le (AS.drop_objs_none h.n2) _, by rw [AS.set_objs_ne _ h.p2]; exact h.eye, AS.set_objs_same _ _ _, by rw [AS.set_objs_ne _ h.d.symm]; exact h.var, h.n2, h.n3, h.p2, h.p3, h.d⟩
theorem RdS.setVar {s s1 : AS} {p o2 o3 : Nat} {ce z cs : List AV} (h : RdS s s1 p o2 o3 ce z cs) (cs' : List AV) : RdS s (s1.set o3 cs') p o2 o3 ce z cs' :=
  ⟨AS.le_set h.le (AS.drop_objs_none h.n3) _, by rw [AS.set_objs_ne _ h.p3]; exact h.eye, by rw [AS.set_objs_ne _ h.d]; exact h.res, AS.set_objs_same _ _ _, h.n2, h.n3, h.p2, h.p3, h.d⟩
theorem RdS.gain {s s1 : AS} {p o2 o3 : Nat} {ce z cs : List AV} (h : RdS s s1 p o2 o3 ce z cs) {t : Nat} (ht : s.own t = none) (e : Nat) : RdS s (s1.gain t e) p o2 o3 ce z cs :=
  ⟨AS.le_gain h.le (by simpa [AS.drop] using ht) e, h.eye, h.res, h.var, h.n2, h.n3, h.p2, h.p3, h.d⟩
theorem RdS.out {s s1 : AS} {p o2 o3 : Nat} {ce z cs : List AV} (h : RdS s s1 p o2 o3 ce z cs) : (s.set p ce).le s1 := AS.set_le_of h.le h.eye
theorem RdS.own_none {s s1 : AS} {p o2 o3 : Nat} {ce z cs : List AV} (h : RdS s s1 p o2 o3 ce z cs) {t : Nat} (ht : s1.own t = none) : s.own t = none := by
  cases h0 : s.own t with
  | none => rfl
  | some e =>
    have := h.le.own t e (by simpa [AS.drop] using h0)
    rw [ht] at this
    cases this
/-- A slice of whole numbers that grows. -/
def IBuf (s0 s : AS) (x : AV) (l : List Int) : Prop := (x = nilS ∧ l = []) ∨ ∃ t e, x = intsV l (.own t e) ∧ s.own t = some e ∧ s0.own t = none
theorem IBuf.weak {s0 s : AS} {x : AV} {l : List Int} (h : IBuf s0 s x l) : x.weak (intsV l .any) := by
  rcases h with ⟨rfl, rfl⟩ | ⟨t, e, rfl, _, _⟩
  · exact AV.weak_nil
  · exact AV.weak_any
end Go.AM


set_option autoImplicit false
namespace Go.AM
open Go

theorem some_neO {s : AS} {p o : Nat} {cs : List AV} (h : s.objs p = some cs) (k : s.objs o = none) : p ≠ o := by
  rintro rfl
  rw [h] at k
  cases k
/-- What an eye's reader knows of one more object. -/
structure Rd4 (s s1 : AS) (p o2 o3 o4 : Nat) (ce z cs ds : List AV) : Prop where
  rd : RdS s s1 p o2 o3 ce z cs
  obj : s1.objs o4 = some ds
  n4 : s.objs o4 = none
  p4 : p ≠ o4
  d2 : o2 ≠ o4
  d3 : o3 ≠ o4
theorem Rd4.setEye {s s1 : AS} {p o2 o3 o4 : Nat} {ce z cs ds : List AV} (h : Rd4 s s1 p o2 o3 o4 ce z cs ds) (ce' : List AV) : Rd4 s (s1.set p ce') p o2 o3 o4 ce' z cs ds :=
  ⟨h.rd.setEye ce', by rw [AS.set_objs_ne _ h.p4.symm]; exact h.obj, h.n4, h.p4, h.d2, h.d3⟩
theorem RdS.setNew {s s1 : AS} {p o2 o3 o4 : Nat} {ce z cs : List AV} (h : RdS s s1 p o2 o3 ce z cs) (h4 : s1.objs o4 = none) (ds : List AV) : Rd4 s (s1.set o4 ds) p o2 o3 o4 ce z cs ds := by
  have hp : p ≠ o4 := by rintro rfl; rw [h.eye] at h4; cases h4
  have h2 : o2 ≠ o4 := by rintro rfl; rw [h.res] at h4; cases h4
  have h3 : o3 ≠ o4 := by rintro rfl; rw [h.var] at h4; cases h4
  have hn : (s.drop p).objs o4 = none := by
    cases e : (s.drop p).objs o4 with
    | none => rfl
    | some x => have := h.le.objs _ _ e; rw [h4] at this; cases this
  have hn' : s.objs o4 = none := by simpa [AS.drop, upd, hp.symm] using hn
  refine ⟨⟨AS.le_set h.le hn _, ?_, ?_, ?_, h.n2, h.n3, h.p2, h.p3, h.d⟩, AS.set_objs_same _ _ _, hn', hp, h2, h3⟩
  · rw [AS.set_objs_ne _ hp]; exact h.eye
  · rw [AS.set_objs_ne _ h2]; exact h.res
  · rw [AS.set_objs_ne _ h3]; exact h.var
theorem Rd4.gain {s s1 : AS} {p o2 o3 o4 : Nat} {ce z cs ds : List AV} (h : Rd4 s s1 p o2 o3 o4 ce z cs ds) {t : Nat} (ht : s.own t = none) (e : Nat) : Rd4 s (s1.gain t e) p o2 o3 o4 ce z cs ds :=
  ⟨h.rd.gain ht e, h.obj, h.n4, h.p4, h.d2, h.d3⟩

theorem own_none_le {a b : AS} (h : a.le b) {t : Nat} (k : b.own t = none) : a.own t = none := by
  cases e : a.own t with
  | none => rfl
  | some x => rw [h.own t x e] at k; cases k
theorem RdS.fresh {s s1 : AS} {p o2 o3 o5 : Nat} {ce z cs : List AV} (h : RdS s s1 p o2 o3 ce z cs) (h5 : s1.objs o5 = none) (ds : List AV) : RdS s (s1.set o5 ds) p o2 o3 ce z cs := (h.setNew h5 ds).rd
theorem Rd4.fresh {s s1 : AS} {p o2 o3 o4 o5 : Nat} {ce z cs ds : List AV} (h : Rd4 s s1 p o2 o3 o4 ce z cs ds) (h5 : s1.objs o5 = none) (es : List AV) : Rd4 s (s1.set o5 es) p o2 o3 o4 ce z cs ds :=
  ⟨h.rd.fresh h5 es, by rw [AS.set_objs_ne _ (some_neO h.obj h5)]; exact h.obj, h.n4, h.p4, h.d2, h.d3⟩
end Go.AM


set_option autoImplicit false
namespace Go.AM
open Go

/-! ### The shape of a tree: nodes by number -/
def lvT : List Nat := [0, 1, 0, 2, 0, 1, 0, 3, 0, 1, 0, 2, 0, 1, 0, 4, 0, 1, 0, 2, 0, 1, 0, 3, 0, 1, 0, 2, 0, 1, 0, 5, 0, 1, 0, 2, 0, 1, 0, 3, 0, 1, 0, 2, 0, 1, 0, 4, 0, 1, 0, 2, 0, 1, 0, 3, 0, 1, 0, 2, 0, 1, 0]
/-- A node's level. -/
def lv (n : Nat) : Nat := lvT.getD n 0
def lvI (x : Int) : Nat := if 0 ≤ x ∧ x < 63 then lv x.toNat else 0
/-- How far a branch's kids are. -/
def hf (n : Nat) : Nat := 2 ^ lv n / 2
def lo (n : Nat) : Nat := (n - (2 ^ lv n - 1)) / 2
def hi (n : Nat) : Nat := (n + (2 ^ lv n - 1)) / 2
def Fit (n : Nat) : Prop := n = 1 ∨ n = 2 ∨ n = 4 ∨ n = 8 ∨ n = 16 ∨ n = 32
instance (n : Nat) : Decidable (Fit n) := by unfold Fit; infer_instance
theorem Fit.le {n : Nat} (h : Fit n) : 1 ≤ n ∧ n ≤ 32 := by rcases h with h | h | h | h | h | h <;> omega
theorem lv_le (n : Nat) : lv n ≤ 5 := by
  by_cases h : n < 63
  · exact (by decide : ∀ n < 63, lv n ≤ 5) n h
  · have : lv n = 0 := by simp [lv, List.getD, lvT, show 63 ≤ n by omega]
    omega
/-- The node above a node. -/
def up1 (n : Nat) : Nat := if n / 2 ^ (lv n + 1) % 2 = 0 then n + 2 ^ lv n else n - 2 ^ lv n
/-- The branches above a node of a tree of so many leaves, so many at most. -/
def climbL : Nat → Nat → Nat → List Nat
  | 0, _, _ => []
  | k + 1, n, leaves => if n = leaves - 1 then [] else up1 n :: climbL k (up1 n) leaves
def pathL (leaf leaves : Nat) : List Nat := climbL 6 (2 * leaf) leaves

def dB64 : List Nat := [0, 1, 56, 2, 57, 49, 28, 3, 61, 58, 42, 50, 38, 29, 17, 4, 62, 47, 59, 36, 45, 43, 51, 22, 53, 39, 33, 30, 24, 18, 12, 5, 63, 55, 48, 27, 60, 41, 37, 16, 46, 35, 44, 21, 52, 32, 23, 11, 54, 26, 40, 15, 34, 20, 31, 10, 25, 14, 19, 9, 13, 8, 7, 6]
def u8C (n : Nat) : AV := .v (.int .u8 n)
def fitI (x : Int) : Prop := 0 ≤ x ∧ Fit x.toNat
instance (x : Int) : Decidable (fitI x) := by unfold fitI; infer_instance
theorem tz_idx : ∀ n < 63, ∃ k < 64, ishr .u64 (imul .u64 (iand .u64 ((n + 1 : Nat) : Int) (ineg .u64 ((n + 1 : Nat) : Int))) 285870213051353865) 58 = ((k : Nat) : Int) ∧ (List.drop k (dB64.map u8C))[0]? = some (u8C (lv n)) := by
  have key : ∀ n < 63, ∃ k < 64, ishr .u64 (imul .u64 (iand .u64 ((n + 1 : Nat) : Int) (ineg .u64 ((n + 1 : Nat) : Int))) 285870213051353865) 58 = ((k : Nat) : Int) ∧ dB64[k]? = some (lv n) := by decide +kernel
  intro n hn
  obtain ⟨k, h1, h2, h3⟩ := key n hn
  refine ⟨k, h1, h2, ?_⟩
  rw [List.getElem?_drop, Nat.add_zero, List.getElem?_map, h3]
  rfl
theorem lvI_nat {n : Nat} (h : n < 63) : lvI (n : Int) = lv n := by
  unfold lvI
  rw [if_pos (by omega), Int.toNat_natCast]
theorem lvI_le (x : Int) : lvI x ≤ 5 := by unfold lvI; split; exact lv_le _; omega
theorem sh_one {l : Nat} (h : l ≤ 5) : ishl .i64 1 (l : Int) = ((2 ^ l : Nat) : Int) := (by decide : ∀ l ≤ 5, ishl .i64 1 ((l : Nat) : Int) = ((2 ^ l : Nat) : Int)) l h
theorem pow_le5 {l : Nat} (h : l ≤ 5) : 1 ≤ 2 ^ l ∧ 2 ^ l ≤ 32 := (by decide : ∀ l ≤ 5, 1 ≤ 2 ^ l ∧ 2 ^ l ≤ 32) l h
/-- The kids of a node that may be none. -/
def kidsI (x : Int) : Option (Int × Int) := if lvI x = 0 then none else some (x - ((2 ^ lvI x / 2 : Nat) : Int), x + ((2 ^ lvI x / 2 : Nat) : Int))
def undI (x : Int) : Int × Int := if 0 ≤ x ∧ x < 63 then ((lo x.toNat : Int), (hi x.toNat : Int)) else (0, -1)
theorem und_eq : ∀ n : Nat, n < 63 → iquo .i64 (isub .i64 (n : Int) (isub .i64 ((2 ^ lv n : Nat) : Int) 1)) 2 = (lo n : Int) ∧ iquo .i64 (iadd .i64 (n : Int) (isub .i64 ((2 ^ lv n : Nat) : Int) 1)) 2 = (hi n : Int) := by decide +kernel
end Go.AM


set_option autoImplicit false
namespace Go.Proofs.YtcnilmidfhpckaaGreatDoor
open Go Go.AM Go.Proofs


variable {Γ : Nat → List AV}

theorem is18_calls (x : Int) (s : AS) : ACalls Tryz.prog Γ 135 [.v (.int .i64 x)] s (fun r s' => r = .v (.bool (decide (0 ≤ x ∧ x < 63))) ∧ s' = s) := by
  refine acalls_body Tryz.func135 rfl Tryz.ntmps135 Tryz.results135 (by simp) ?_
  refine wS fun K hK => ?_
  simp only [↓DN,UP,DF,Qa,Qb,Qc,Qd,Qe,Qf,Qg,Qh,reduceCtorEq,↓reduceIte,Na,Nb,Nc,Nk,Nf,Ng,Nh,Za,Zb,Zc,TT]
  refine hK _ _ ?_;clear hK K
  by_cases h : 0 ≤ x
  · refine wS fun K hK => ?_
    simp only [↓DN,UP,DF,Qa,Qb,Qc,Qd,Qe,Qf,Qg,Qh,reduceCtorEq,↓reduceIte,Na,Nb,Nc,Nk,Nf,Ng,Nh,Za,Zb,Zc,TT, decide_eq_true h]
    refine hK _ _ ?_;clear hK K
    refine awp_ret ?_
    try simp only [thenQ, blockQ]
    simp only [retQ, AEnds, aresL, ares, List.toList_toArray, ↓upd_same]; try simp only [UP,DF,Nc,↓reduceIte,DT]
    exact ⟨_, _, AV.weak.refl _, AS.le.refl _, by simp [h], rfl⟩
  · refine wS fun K hK => ?_
    simp only [↓DN,UP,DF,Qa,Qb,Qc,Qd,Qe,Qf,Qg,Qh,reduceCtorEq,↓reduceIte,Na,Nb,Nc,Nk,Nf,Ng,Nh,Za,Zb,Zc,TT, decide_eq_false h]
    refine hK _ _ ?_;clear hK K
    refine awp_ret ?_
    try simp only [thenQ, blockQ]
    simp only [retQ, AEnds, aresL, ares, List.toList_toArray, ↓upd_same]; try simp only [UP,DF,Nc,↓reduceIte,DT]
    exact ⟨_, _, AV.weak.refl _, AS.le.refl _, by simp [h], rfl⟩

theorem tz64_calls (hG : Γ 3 = dB64.map u8C) (n : Nat) (hn : n < 63) (s : AS) : ACalls Tryz.prog Γ 153 [.v (.int .u64 ((n + 1 : Nat) : Int))] s (fun r s' => r = .v (.int .i64 (lv n)) ∧ s' = s) := by
  refine acalls_body Tryz.func153 rfl Tryz.ntmps153 Tryz.results153 (by simp) ?_
  have h0 : (((n + 1 : Nat) : Int) == 0) = false := by simp; omega
  refine wS fun K hK => ?_
  simp only [↓DN,UP,DF,Qa,Qb,Qc,Qd,Qe,Qf,Qg,Qh,reduceCtorEq,↓reduceIte,Na,Nb,Nc,Nk,Nf,Ng,Nh,Za,Zb,Zc,TT]
  refine hK _ _ ?_;clear hK K
  refine wK fun K hK => ?_
  refine wS fun K hK => ?_
  simp only [↓DN,UP,DF,Qa,Qb,Qc,Qd,Qe,Qf,Qg,Qh,reduceCtorEq,↓reduceIte,Na,Nb,Nc,Nk,Nf,Ng,Nh,Za,Zb,Zc,TT, h0]
  refine hK _ _ ?_;clear hK K
  refine wC fun X Y hX hY => ?_
  simp only [↓DN,UP,DF,Qa,Qb,Qc,Qd,Qe,Qf,Qg,Qh,reduceCtorEq,↓reduceIte,Na,Nb,Nc,Nk,Nf,Ng,Nh,Za,Zb,Zc,TT, DB]
  refine hY ?_;clear hX hY X Y
  refine awp_skip ?_
  refine hK _ _ ?_;clear hK K
  obtain ⟨k, hk, hidx, hget⟩ := tz_idx n hn
  have hl := lv_le n
  have hk0 : ((0 : Int) ≤ (k : Int)) = True := eq_true (by omega)
  have hk1 : ((k : Int) < ((64 : Nat) : Int)) = True := eq_true (by omega)
  refine wS fun K hK => ?_
  simp only [↓DN,UP,DF,Qa,Qb,Qc,Qd,Qe,Qf,Qg,Qh,reduceCtorEq,↓reduceIte,Na,Nb,Nc,Nk,Nf,Ng,Nh,Za,Zb,Zc,TT, hG, hidx, hk0, hk1, hget, u8C, i64_conv (show lv n < 2 ^ 62 by omega)]
  refine hK _ _ ?_;clear hK K
  refine awp_ret ?_
  try simp only [thenQ, blockQ]
  simp only [retQ, AEnds, aresL, ares, List.toList_toArray, ↓upd_same]; try simp only [UP,DF,Nc,↓reduceIte,DT]
  exact ⟨_, _, AV.weak.refl _, AS.le.refl _, rfl, rfl⟩

theorem tz_calls (hG : Γ 3 = dB64.map u8C) (n : Nat) (hn : n < 63) (s : AS) : ACalls Tryz.prog Γ 146 [.v (.int .u64 ((n + 1 : Nat) : Int))] s (fun r s' => r = .v (.int .i64 (lv n)) ∧ s' = s) := by
  refine acalls_body Tryz.func146 rfl Tryz.ntmps146 Tryz.results146 (by simp) ?_
  refine wS fun K hK => ?_
  simp only [↓DN,UP,DF,Qa,Qb,Qc,Qd,Qe,Qf,Qg,Qh,reduceCtorEq,↓reduceIte,Na,Nb,Nc,Nk,Nf,Ng,Nh,Za,Zb,Zc,TT]
  refine hK _ _ ?_;clear hK K
  refine wK fun K hK => ?_
  refine wC fun X Y hX hY => ?_
  simp only [↓DN,UP,DF,Qa,Qb,Qc,Qd,Qe,Qf,Qg,Qh,reduceCtorEq,↓reduceIte,Na,Nb,Nc,Nk,Nf,Ng,Nh,Za,Zb,Zc,TT, DB]
  refine hY ?_;clear hX hY X Y
  refine awp_skip ?_
  refine hK _ _ ?_;clear hK K
  refine wS fun K hK => ?_
  simp only [↓DN,UP,DF,Qa,Qb,Qc,Qd,Qe,Qf,Qg,Qh,reduceCtorEq,↓reduceIte,Na,Nb,Nc,Nk,Nf,Ng,Nh,Za,Zb,Zc,TT]
  refine acallk (tz64_calls hG n hn _) ?_
  rintro r s1 ⟨rfl, rfl⟩
  simp only [↓AXq_nil,↓AXq_cons,pval,DX,Nat.reduceBEq,↓DN,UP,DF,Qa,Qb,Qc,Qd,Qe,Qf,Qg,Qh,reduceCtorEq,↓reduceIte,Na,Nb,Nc,Nk,Nf,Ng,Nh,Za,Zb,Zc,TT]
  refine hK _ _ ?_;clear hK K
  refine awp_ret ?_
  try simp only [thenQ, blockQ]
  simp only [retQ, AEnds, aresL, ares, List.toList_toArray, ↓upd_same]; try simp only [UP,DF,Nc,↓reduceIte,DT]
  exact ⟨_, _, AV.weak.refl _, AS.le.refl _, rfl, rfl⟩

theorem level_calls (hG : Γ 3 = dB64.map u8C) (x : Int) (s : AS) : ACalls Tryz.prog Γ 136 [.v (.int .i64 x)] s (fun r s' => r = .v (.int .i64 (lvI x)) ∧ s' = s) := by
  refine acalls_body Tryz.func136 rfl Tryz.ntmps136 Tryz.results136 (by simp) ?_
  refine wS fun K hK => ?_
  simp only [↓DN,UP,DF,Qa,Qb,Qc,Qd,Qe,Qf,Qg,Qh,reduceCtorEq,↓reduceIte,Na,Nb,Nc,Nk,Nf,Ng,Nh,Za,Zb,Zc,TT]
  refine hK _ _ ?_;clear hK K
  refine wK fun K hK => ?_
  refine wS fun K hK => ?_
  simp only [↓DN,UP,DF,Qa,Qb,Qc,Qd,Qe,Qf,Qg,Qh,reduceCtorEq,↓reduceIte,Na,Nb,Nc,Nk,Nf,Ng,Nh,Za,Zb,Zc,TT]
  refine acallk (is18_calls x _) ?_
  rintro r s1 ⟨rfl, rfl⟩
  by_cases h : 0 ≤ x ∧ x < 63
  · obtain ⟨n, rfl⟩ := Int.eq_ofNat_of_zero_le h.1
    have hn : n < 63 := by omega
    rw [decide_eq_true h]
    simp only [↓AXq_nil,↓AXq_cons,pval,DX,Nat.reduceBEq,↓DN,UP,DF,Qa,Qb,Qc,Qd,Qe,Qf,Qg,Qh,reduceCtorEq,↓reduceIte,Na,Nb,Nc,Nk,Nf,Ng,Nh,Za,Zb,Zc,TT]
    refine hK _ _ ?_;clear hK K
    refine wC fun X Y hX hY => ?_
    simp only [↓DN,UP,DF,Qa,Qb,Qc,Qd,Qe,Qf,Qg,Qh,reduceCtorEq,↓reduceIte,Na,Nb,Nc,Nk,Nf,Ng,Nh,Za,Zb,Zc,TT, DB]
    refine hY ?_;clear hX hY X Y
    refine awp_skip ?_
    refine hK _ _ ?_;clear hK K
    have e1 : iconv .u64 (iadd .i64 (n : Int) 1) = ((n + 1 : Nat) : Int) := by rw [eye_succ n (by omega), u64_conv (by omega)]
    refine wS fun K hK => ?_
    simp only [↓DN,UP,DF,Qa,Qb,Qc,Qd,Qe,Qf,Qg,Qh,reduceCtorEq,↓reduceIte,Na,Nb,Nc,Nk,Nf,Ng,Nh,Za,Zb,Zc,TT, e1]
    refine acallk (tz_calls hG n hn _) ?_
    rintro r s2 ⟨rfl, rfl⟩
    simp only [↓AXq_nil,↓AXq_cons,pval,DX,Nat.reduceBEq,↓DN,UP,DF,Qa,Qb,Qc,Qd,Qe,Qf,Qg,Qh,reduceCtorEq,↓reduceIte,Na,Nb,Nc,Nk,Nf,Ng,Nh,Za,Zb,Zc,TT]
    refine hK _ _ ?_;clear hK K
    refine awp_ret ?_
    try simp only [thenQ, blockQ]
    simp only [retQ, AEnds, aresL, ares, List.toList_toArray, ↓upd_same]; try simp only [UP,DF,Nc,↓reduceIte,DT]
    rw [lvI_nat hn]
    exact ⟨_, _, AV.weak.refl _, AS.le.refl _, rfl, rfl⟩
  · rw [decide_eq_false h]
    simp only [↓AXq_nil,↓AXq_cons,pval,DX,Nat.reduceBEq,↓DN,UP,DF,Qa,Qb,Qc,Qd,Qe,Qf,Qg,Qh,reduceCtorEq,↓reduceIte,Na,Nb,Nc,Nk,Nf,Ng,Nh,Za,Zb,Zc,TT]
    refine hK _ _ ?_;clear hK K
    refine wC fun X Y hX hY => ?_
    simp only [↓DN,UP,DF,Qa,Qb,Qc,Qd,Qe,Qf,Qg,Qh,reduceCtorEq,↓reduceIte,Na,Nb,Nc,Nk,Nf,Ng,Nh,Za,Zb,Zc,TT, DB]
    refine hX ?_;clear hX hY X Y
    refine wS fun K hK => ?_
    simp only [↓DN,UP,DF,Qa,Qb,Qc,Qd,Qe,Qf,Qg,Qh,reduceCtorEq,↓reduceIte,Na,Nb,Nc,Nk,Nf,Ng,Nh,Za,Zb,Zc,TT]
    refine hK _ _ ?_;clear hK K
    refine awp_ret ?_
    try simp only [thenQ, blockQ]
    simp only [retQ, AEnds, aresL, ares, List.toList_toArray, ↓upd_same]; try simp only [UP,DF,Nc,↓reduceIte,DT]
    rw [show lvI x = 0 from if_neg h]
    exact ⟨_, _, AV.weak.refl _, AS.le.refl _, rfl, rfl⟩

theorem under18_calls (hG : Γ 3 = dB64.map u8C) (x : Int) (s : AS) : ACalls Tryz.prog Γ 109 [.v (.int .i64 x)] s (fun r s' => r = .tup [.v (.int .i64 (undI x).1), .v (.int .i64 (undI x).2)] ∧ s' = s) := by
  refine acalls_body Tryz.func109 rfl Tryz.ntmps109 Tryz.results109 (by simp) ?_
  refine wS fun K hK => ?_
  simp only [↓DN,UP,DF,Qa,Qb,Qc,Qd,Qe,Qf,Qg,Qh,reduceCtorEq,↓reduceIte,Na,Nb,Nc,Nk,Nf,Ng,Nh,Za,Zb,Zc,TT]
  refine hK _ _ ?_;clear hK K
  refine wK fun K hK => ?_
  refine wS fun K hK => ?_
  simp only [↓DN,UP,DF,Qa,Qb,Qc,Qd,Qe,Qf,Qg,Qh,reduceCtorEq,↓reduceIte,Na,Nb,Nc,Nk,Nf,Ng,Nh,Za,Zb,Zc,TT]
  refine acallk (is18_calls x _) ?_
  rintro r s1 ⟨rfl, rfl⟩
  by_cases h : 0 ≤ x ∧ x < 63
  · obtain ⟨n, rfl⟩ := Int.eq_ofNat_of_zero_le h.1
    have hn : n < 63 := by omega
    have hl := lv_le n
    have hp := pow_le5 hl
    obtain ⟨u1, u2⟩ := und_eq n hn
    rw [decide_eq_true h]
    simp only [↓AXq_nil,↓AXq_cons,pval,DX,Nat.reduceBEq,↓DN,UP,DF,Qa,Qb,Qc,Qd,Qe,Qf,Qg,Qh,reduceCtorEq,↓reduceIte,Na,Nb,Nc,Nk,Nf,Ng,Nh,Za,Zb,Zc,TT]
    refine hK _ _ ?_;clear hK K
    refine wC fun X Y hX hY => ?_
    simp only [↓DN,UP,DF,Qa,Qb,Qc,Qd,Qe,Qf,Qg,Qh,reduceCtorEq,↓reduceIte,Na,Nb,Nc,Nk,Nf,Ng,Nh,Za,Zb,Zc,TT, DB]
    refine hY ?_;clear hX hY X Y
    refine awp_skip ?_
    refine hK _ _ ?_;clear hK K
    refine wS fun K hK => ?_
    simp only [↓DN,UP,DF,Qa,Qb,Qc,Qd,Qe,Qf,Qg,Qh,reduceCtorEq,↓reduceIte,Na,Nb,Nc,Nk,Nf,Ng,Nh,Za,Zb,Zc,TT]
    refine acallk (level_calls hG n _) ?_
    rintro r s2 ⟨rfl, rfl⟩
    simp only [↓AXq_nil,↓AXq_cons,pval,DX,Nat.reduceBEq,↓DN,UP,DF,Qa,Qb,Qc,Qd,Qe,Qf,Qg,Qh,reduceCtorEq,↓reduceIte,Na,Nb,Nc,Nk,Nf,Ng,Nh,Za,Zb,Zc,TT, lvI_nat hn, sh_one hl]
    refine hK _ _ ?_;clear hK K
    refine wS fun K hK => ?_
    simp only [↓DN,UP,DF,Qa,Qb,Qc,Qd,Qe,Qf,Qg,Qh,reduceCtorEq,↓reduceIte,Na,Nb,Nc,Nk,Nf,Ng,Nh,Za,Zb,Zc,TT, u1, u2]
    refine hK _ _ ?_;clear hK K
    refine awp_ret ?_
    try simp only [thenQ, blockQ]
    simp only [retQ, AEnds, aresL, ares, List.toList_toArray, ↓upd_same]; try simp only [UP,DF,Nc,↓reduceIte,DT]
    rw [show undI (n : Int) = ((lo n : Int), (hi n : Int)) from if_pos h]
    exact ⟨_, _, AV.weak.refl _, AS.le.refl _, rfl, rfl⟩
  · rw [decide_eq_false h]
    simp only [↓AXq_nil,↓AXq_cons,pval,DX,Nat.reduceBEq,↓DN,UP,DF,Qa,Qb,Qc,Qd,Qe,Qf,Qg,Qh,reduceCtorEq,↓reduceIte,Na,Nb,Nc,Nk,Nf,Ng,Nh,Za,Zb,Zc,TT]
    refine hK _ _ ?_;clear hK K
    refine wC fun X Y hX hY => ?_
    simp only [↓DN,UP,DF,Qa,Qb,Qc,Qd,Qe,Qf,Qg,Qh,reduceCtorEq,↓reduceIte,Na,Nb,Nc,Nk,Nf,Ng,Nh,Za,Zb,Zc,TT, DB]
    refine hX ?_;clear hX hY X Y
    refine wS fun K hK => ?_
    simp only [↓DN,UP,DF,Qa,Qb,Qc,Qd,Qe,Qf,Qg,Qh,reduceCtorEq,↓reduceIte,Na,Nb,Nc,Nk,Nf,Ng,Nh,Za,Zb,Zc,TT]
    refine hK _ _ ?_;clear hK K
    refine awp_ret ?_
    try simp only [thenQ, blockQ]
    simp only [retQ, AEnds, aresL, ares, List.toList_toArray, ↓upd_same]; try simp only [UP,DF,Nc,↓reduceIte,DT]
    rw [show undI x = (0, -1) from if_neg h]
    exact ⟨_, _, AV.weak.refl _, AS.le.refl _, rfl, rfl⟩

end Go.Proofs.YtcnilmidfhpckaaGreatDoor


set_option autoImplicit false
namespace Go.AM
open Go

/-! ### Tests, as a walk meets them -/
theorem yesI {a b : Int} (h : a = b) : (a == b) = true := by simpa using h
theorem notI {a b : Int} (h : a ≠ b) : (a == b) = false := by simpa using h
theorem neI {a b : Int} (h : a ≠ b) : (a != b) = true := by simpa using h
theorem eqI {a b : Int} (h : a = b) : (a != b) = false := by simpa using h
theorem two0 : ((2 : Int) = 0) = False := by decide
theorem nat0 {a : Nat} (h : a = 0) : ((a : Int) == 0) = true := by subst h; rfl
theorem nat0F {a : Nat} (h : a ≠ 0) : ((a : Int) == 0) = false := by simpa using h
theorem natN {a k : Nat} (h : a = k) : ((a : Int) == (k : Int)) = true := by subst h; simp
theorem natF {a k : Nat} (h : a ≠ k) : ((a : Int) == (k : Int)) = false := by simp only [beq_eq_false_iff_ne, ne_eq]; omega
theorem natNe {a b : Nat} (h : a ≠ b) : ((a : Int) != (b : Int)) = true := by simp only [bne_iff_ne, ne_eq]; omega
theorem natEq {a b : Nat} (h : a = b) : ((a : Int) != (b : Int)) = false := by subst h; simp
theorem eye_succM (i : Nat) (h : i < 9223372036854775807) : iadd .i64 (i : Int) 1 = ((i + 1 : Nat) : Int) := by
  rw [iadd_i64 (by omega)]; omega
theorem iquo_nat (m : Nat) (h : m < 9223372036854775807) : iquo .i64 (m : Int) 2 = ((m / 2 : Nat) : Int) := by
  have e : (m : Int).tdiv 2 = ((m / 2 : Nat) : Int) := (Int.ofNat_tdiv m 2).symm
  unfold iquo
  rw [e]
  exact IntWalk.i64_in _ (by omega)
theorem imul2_nat (m : Nat) (h : m < 4611686018427387904) : imul .i64 2 (m : Int) = ((2 * m : Nat) : Int) := by
  rw [imul_i64 (by omega)]; omega
theorem negF (a : Nat) : decide ((a : Int) < 0) = false := decide_eq_false (by omega)
end Go.AM


set_option autoImplicit false
namespace Go.AM
open Go

theorem fit_and : ∀ n : Nat, n ≤ 32 → 1 ≤ n → (iand .i64 (n : Int) (isub .i64 (n : Int) 1) == 0) = decide (Fit n) := by decide +kernel
theorem fitI_nat {n : Nat} : fitI (n : Int) ↔ Fit n := by unfold fitI; rw [Int.toNat_natCast]; exact ⟨fun h => h.2, fun h => ⟨by omega, h⟩⟩
theorem fitI_bounds {x : Int} (h : fitI x) : 1 ≤ x ∧ x ≤ 32 := by have := h.2.le; have := h.1; omega
def widI (x : Int) : Int := if fitI x then 2 * x - 1 else 0
def aboveN (n l : Nat) : Option Nat := if n = l - 1 then none else some (up1 n)
theorem above_and : ∀ n : Nat, n < 63 → (iand .i64 (n : Int) (imul .i64 2 ((2 ^ lv n : Nat) : Int)) == 0) = decide (n / 2 ^ (lv n + 1) % 2 = 0) ∧ iadd .i64 (n : Int) ((2 ^ lv n : Nat) : Int) = ((n + 2 ^ lv n : Nat) : Int) ∧
    (¬ n / 2 ^ (lv n + 1) % 2 = 0 → isub .i64 (n : Int) ((2 ^ lv n : Nat) : Int) = ((n - 2 ^ lv n : Nat) : Int)) := by decide +kernel
/-- Where the walk up stands. -/
def nodeAt (leaf l : Nat) : Nat → Nat
  | 0 => 2 * leaf
  | i + 1 => (pathL leaf l).getD i 0
theorem Fit.pow {n : Nat} (h : Fit n) : ∃ m, m ≤ 5 ∧ n = 2 ^ m := by
  rcases h with rfl | rfl | rfl | rfl | rfl | rfl
  · exact ⟨0, by decide, rfl⟩
  · exact ⟨1, by decide, rfl⟩
  · exact ⟨2, by decide, rfl⟩
  · exact ⟨3, by decide, rfl⟩
  · exact ⟨4, by decide, rfl⟩
  · exact ⟨5, by decide, rfl⟩
theorem path_steps {leaf l : Nat} (hl : Fit l) (h : leaf < l) {i : Nat} (hi : i ≤ (pathL leaf l).length) : nodeAt leaf l i < 2 * l - 1 ∧ aboveN (nodeAt leaf l i) l = (pathL leaf l)[i]? := by
  obtain ⟨m, hm, rfl⟩ := hl.pow
  exact (by decide +kernel : ∀ m ≤ 5, ∀ leaf < 2 ^ m, ∀ i ≤ (pathL leaf (2 ^ m)).length, nodeAt leaf (2 ^ m) i < 2 * 2 ^ m - 1 ∧ aboveN (nodeAt leaf (2 ^ m) i) (2 ^ m) = (pathL leaf (2 ^ m))[i]?) m hm leaf h i hi
theorem path_len {leaf l : Nat} (hl : Fit l) (h : leaf < l) : (pathL leaf l).length ≤ 5 := by
  obtain ⟨m, hm, rfl⟩ := hl.pow
  exact (by decide +kernel : ∀ m ≤ 5, ∀ leaf < 2 ^ m, (pathL leaf (2 ^ m)).length ≤ 5) m hm leaf h
theorem path_mem {leaf l : Nat} (hl : Fit l) (h : leaf < l) : ∀ x ∈ pathL leaf l, x < 2 * l - 1 ∧ x % 2 = 1 ∧ lo x ≤ leaf ∧ leaf ≤ hi x := by
  obtain ⟨m, hm, rfl⟩ := hl.pow
  exact (by decide +kernel : ∀ m ≤ 5, ∀ leaf < 2 ^ m, ∀ x ∈ pathL leaf (2 ^ m), x < 2 * 2 ^ m - 1 ∧ x % 2 = 1 ∧ lo x ≤ leaf ∧ leaf ≤ hi x) m hm leaf h

/-! the reference's halving -/
theorem lv_half : ∀ n < 63, (n % 2 = 1 → lv n = lv (n / 2) + 1) ∧ (n % 2 = 0 → lv n = 0) := by decide +kernel
theorem lo_step : ∀ n < 63, lv n ≠ 0 → lo (n - hf n) = lo n ∧ lv (n - hf n) + 1 = lv n ∧ n - hf n < 63 ∧ hf n ≤ n := by decide +kernel
theorem hi_step : ∀ n < 63, lv n ≠ 0 → hi (n + hf n) = hi n ∧ lv (n + hf n) + 1 = lv n ∧ n + hf n < 63 := by decide +kernel
theorem lo_leaf : ∀ n < 63, lv n = 0 → lo n = n / 2 ∧ hi n = n / 2 := by decide +kernel
/-- Whole numbers as cells. -/
def natsI (l : List Nat) : List Int := l.map fun (n : Nat) => (n : Int)
theorem natsI_len (l : List Nat) : (natsI l).length = l.length := by simp [natsI]
end Go.AM


set_option autoImplicit false
namespace Go.Proofs.YtcnilmidfhpckaaGreatDoor
open Go Go.AM Go.Proofs


variable {Γ : Nat → List AV}

theorem fits18_calls (x : Int) (s : AS) : ACalls Tryz.prog Γ 48 [.v (.int .i64 x)] s (fun r s' => r = .v (.bool (decide (fitI x))) ∧ s' = s) := by
  refine acalls_body Tryz.func48 rfl Tryz.ntmps48 Tryz.results48 (by simp) ?_
  refine wS fun K hK => ?_
  simp only [↓DN,UP,DF,Qa,Qb,Qc,Qd,Qe,Qf,Qg,Qh,reduceCtorEq,↓reduceIte,Na,Nb,Nc,Nk,Nf,Ng,Nh,Za,Zb,Zc,TT]
  refine hK _ _ ?_;clear hK K
  by_cases h1 : 1 ≤ x
  · by_cases h2 : x ≤ 32
    · obtain ⟨n, rfl⟩ := Int.eq_ofNat_of_zero_le (show 0 ≤ x by omega)
      refine wS fun K hK => ?_
      simp only [↓DN,UP,DF,Qa,Qb,Qc,Qd,Qe,Qf,Qg,Qh,reduceCtorEq,↓reduceIte,Na,Nb,Nc,Nk,Nf,Ng,Nh,Za,Zb,Zc,TT, decide_eq_true h1, decide_eq_true h2, fit_and n (by omega) (by omega)]
      refine hK _ _ ?_;clear hK K
      refine awp_ret ?_
      try simp only [thenQ, blockQ]
      simp only [retQ, AEnds, aresL, ares, List.toList_toArray, ↓upd_same]; try simp only [UP,DF,Nc,↓reduceIte,DT]
      exact ⟨_, _, AV.weak.refl _, AS.le.refl _, by simp only [fitI_nat], rfl⟩
    · have hn : decide (fitI x) = false := decide_eq_false fun h => by have := fitI_bounds h; omega
      refine wS fun K hK => ?_
      simp only [↓DN,UP,DF,Qa,Qb,Qc,Qd,Qe,Qf,Qg,Qh,reduceCtorEq,↓reduceIte,Na,Nb,Nc,Nk,Nf,Ng,Nh,Za,Zb,Zc,TT, decide_eq_true h1, decide_eq_false h2]
      refine hK _ _ ?_;clear hK K
      refine awp_ret ?_
      try simp only [thenQ, blockQ]
      simp only [retQ, AEnds, aresL, ares, List.toList_toArray, ↓upd_same]; try simp only [UP,DF,Nc,↓reduceIte,DT]
      rw [hn]
      exact ⟨_, _, AV.weak.refl _, AS.le.refl _, rfl, rfl⟩
  · have hn : decide (fitI x) = false := decide_eq_false fun h => by have := fitI_bounds h; omega
    refine wS fun K hK => ?_
    simp only [↓DN,UP,DF,Qa,Qb,Qc,Qd,Qe,Qf,Qg,Qh,reduceCtorEq,↓reduceIte,Na,Nb,Nc,Nk,Nf,Ng,Nh,Za,Zb,Zc,TT, decide_eq_false h1]
    refine hK _ _ ?_;clear hK K
    refine awp_ret ?_
    try simp only [thenQ, blockQ]
    simp only [retQ, AEnds, aresL, ares, List.toList_toArray, ↓upd_same]; try simp only [UP,DF,Nc,↓reduceIte,DT]
    rw [hn]
    exact ⟨_, _, AV.weak.refl _, AS.le.refl _, rfl, rfl⟩

theorem width18_calls (x : Int) (s : AS) : ACalls Tryz.prog Γ 50 [.v (.int .i64 x)] s (fun r s' => r = .v (.int .i64 (widI x)) ∧ s' = s) := by
  refine acalls_body Tryz.func50 rfl Tryz.ntmps50 Tryz.results50 (by simp) ?_
  refine wS fun K hK => ?_
  simp only [↓DN,UP,DF,Qa,Qb,Qc,Qd,Qe,Qf,Qg,Qh,reduceCtorEq,↓reduceIte,Na,Nb,Nc,Nk,Nf,Ng,Nh,Za,Zb,Zc,TT]
  refine hK _ _ ?_;clear hK K
  refine wK fun K hK => ?_
  refine wS fun K hK => ?_
  simp only [↓DN,UP,DF,Qa,Qb,Qc,Qd,Qe,Qf,Qg,Qh,reduceCtorEq,↓reduceIte,Na,Nb,Nc,Nk,Nf,Ng,Nh,Za,Zb,Zc,TT]
  refine acallk (fits18_calls x _) ?_
  rintro r s1 ⟨rfl, rfl⟩
  by_cases h : fitI x
  · have hb := fitI_bounds h
    rw [decide_eq_true h]
    simp only [↓AXq_nil,↓AXq_cons,pval,DX,Nat.reduceBEq,↓DN,UP,DF,Qa,Qb,Qc,Qd,Qe,Qf,Qg,Qh,reduceCtorEq,↓reduceIte,Na,Nb,Nc,Nk,Nf,Ng,Nh,Za,Zb,Zc,TT]
    refine hK _ _ ?_;clear hK K
    refine wC fun X Y hX hY => ?_
    simp only [↓DN,UP,DF,Qa,Qb,Qc,Qd,Qe,Qf,Qg,Qh,reduceCtorEq,↓reduceIte,Na,Nb,Nc,Nk,Nf,Ng,Nh,Za,Zb,Zc,TT, DB]
    refine hY ?_;clear hX hY X Y
    refine awp_skip ?_
    refine hK _ _ ?_;clear hK K
    refine wS fun K hK => ?_
    simp only [↓DN,UP,DF,Qa,Qb,Qc,Qd,Qe,Qf,Qg,Qh,reduceCtorEq,↓reduceIte,Na,Nb,Nc,Nk,Nf,Ng,Nh,Za,Zb,Zc,TT]
    refine hK _ _ ?_;clear hK K
    refine awp_ret ?_
    try simp only [thenQ, blockQ]
    simp only [retQ, AEnds, aresL, ares, List.toList_toArray, ↓upd_same]; try simp only [UP,DF,Nc,↓reduceIte,DT]
    rw [imul_i64 (a := 2) (b := x) (by omega), isub_i64 (a := 2 * x) (b := 1) (by omega), show widI x = 2 * x - 1 from if_pos h]
    exact ⟨_, _, AV.weak.refl _, AS.le.refl _, rfl, rfl⟩
  · rw [decide_eq_false h]
    simp only [↓AXq_nil,↓AXq_cons,pval,DX,Nat.reduceBEq,↓DN,UP,DF,Qa,Qb,Qc,Qd,Qe,Qf,Qg,Qh,reduceCtorEq,↓reduceIte,Na,Nb,Nc,Nk,Nf,Ng,Nh,Za,Zb,Zc,TT]
    refine hK _ _ ?_;clear hK K
    refine wC fun X Y hX hY => ?_
    simp only [↓DN,UP,DF,Qa,Qb,Qc,Qd,Qe,Qf,Qg,Qh,reduceCtorEq,↓reduceIte,Na,Nb,Nc,Nk,Nf,Ng,Nh,Za,Zb,Zc,TT, DB]
    refine hX ?_;clear hX hY X Y
    refine wS fun K hK => ?_
    simp only [↓DN,UP,DF,Qa,Qb,Qc,Qd,Qe,Qf,Qg,Qh,reduceCtorEq,↓reduceIte,Na,Nb,Nc,Nk,Nf,Ng,Nh,Za,Zb,Zc,TT]
    refine hK _ _ ?_;clear hK K
    refine awp_ret ?_
    try simp only [thenQ, blockQ]
    simp only [retQ, AEnds, aresL, ares, List.toList_toArray, ↓upd_same]; try simp only [UP,DF,Nc,↓reduceIte,DT]
    rw [show widI x = 0 from if_neg h]
    exact ⟨_, _, AV.weak.refl _, AS.le.refl _, rfl, rfl⟩

theorem widI_nat {l : Nat} (h : Fit l) : widI (l : Int) = ((2 * l - 1 : Nat) : Int) := by
  have := h.le
  unfold widI
  rw [if_pos (fitI_nat.2 h)]
  omega

theorem above18_calls (hG : Γ 3 = dB64.map u8C) (n l : Nat) (hl : Fit l) (hn : n < 2 * l - 1) (s : AS) : ACalls Tryz.prog Γ 113 [.v (.int .i64 n), .v (.int .i64 l)] s
    (fun r s' => r = .tup [.v (.int .i64 ((aboveN n l).getD 0)), .v (.bool (aboveN n l).isSome)] ∧ s' = s) := by
  refine acalls_body Tryz.func113 rfl Tryz.ntmps113 Tryz.results113 (by simp) ?_
  have hl' := hl.le
  have hn63 : n < 63 := by omega
  have h0 : decide ((n : Int) < 0) = false := decide_eq_false (by omega)
  have h1 : decide (((2 * l - 1 : Nat) : Int) ≤ (n : Int)) = false := decide_eq_false (by omega)
  have hw := widI_nat hl
  have hp := pow_le5 (lv_le n)
  obtain ⟨a1, a2, a3⟩ := above_and n hn63
  refine wS fun K hK => ?_
  simp only [↓DN,UP,DF,Qa,Qb,Qc,Qd,Qe,Qf,Qg,Qh,reduceCtorEq,↓reduceIte,Na,Nb,Nc,Nk,Nf,Ng,Nh,Za,Zb,Zc,TT]
  refine hK _ _ ?_;clear hK K
  refine wK fun K hK => ?_
  refine wS fun K hK => ?_
  simp only [↓DN,UP,DF,Qa,Qb,Qc,Qd,Qe,Qf,Qg,Qh,reduceCtorEq,↓reduceIte,Na,Nb,Nc,Nk,Nf,Ng,Nh,Za,Zb,Zc,TT, h0]
  refine acallk (width18_calls l _) ?_
  rintro r s1 ⟨rfl, rfl⟩
  by_cases he : n = l - 1
  · have h2 : (((n : Nat) : Int) == isub .i64 (l : Int) 1) = true := by rw [isub_i64 (by omega), beq_iff_eq]; omega
    simp only [↓AXq_nil,↓AXq_cons,pval,DX,Nat.reduceBEq,↓DN,UP,DF,Qa,Qb,Qc,Qd,Qe,Qf,Qg,Qh,reduceCtorEq,↓reduceIte,Na,Nb,Nc,Nk,Nf,Ng,Nh,Za,Zb,Zc,TT, hw, h1, h2]
    refine hK _ _ ?_;clear hK K
    refine wC fun X Y hX hY => ?_
    simp only [↓DN,UP,DF,Qa,Qb,Qc,Qd,Qe,Qf,Qg,Qh,reduceCtorEq,↓reduceIte,Na,Nb,Nc,Nk,Nf,Ng,Nh,Za,Zb,Zc,TT, DB]
    refine hX ?_;clear hX hY X Y
    refine wS fun K hK => ?_
    simp only [↓DN,UP,DF,Qa,Qb,Qc,Qd,Qe,Qf,Qg,Qh,reduceCtorEq,↓reduceIte,Na,Nb,Nc,Nk,Nf,Ng,Nh,Za,Zb,Zc,TT]
    refine hK _ _ ?_;clear hK K
    refine awp_ret ?_
    try simp only [thenQ, blockQ]
    simp only [retQ, AEnds, aresL, ares, List.toList_toArray, ↓upd_same]; try simp only [UP,DF,Nc,↓reduceIte,DT]
    rw [show aboveN n l = none from if_pos he]
    exact ⟨_, _, AV.weak.refl _, AS.le.refl _, rfl, rfl⟩
  · have h2 : (((n : Nat) : Int) == isub .i64 (l : Int) 1) = false := by rw [isub_i64 (by omega), beq_eq_false_iff_ne]; omega
    have ha : aboveN n l = some (up1 n) := if_neg he
    simp only [↓AXq_nil,↓AXq_cons,pval,DX,Nat.reduceBEq,↓DN,UP,DF,Qa,Qb,Qc,Qd,Qe,Qf,Qg,Qh,reduceCtorEq,↓reduceIte,Na,Nb,Nc,Nk,Nf,Ng,Nh,Za,Zb,Zc,TT, hw, h1, h2]
    refine hK _ _ ?_;clear hK K
    refine wC fun X Y hX hY => ?_
    simp only [↓DN,UP,DF,Qa,Qb,Qc,Qd,Qe,Qf,Qg,Qh,reduceCtorEq,↓reduceIte,Na,Nb,Nc,Nk,Nf,Ng,Nh,Za,Zb,Zc,TT, DB]
    refine hY ?_;clear hX hY X Y
    refine awp_skip ?_
    refine hK _ _ ?_;clear hK K
    refine wS fun K hK => ?_
    simp only [↓DN,UP,DF,Qa,Qb,Qc,Qd,Qe,Qf,Qg,Qh,reduceCtorEq,↓reduceIte,Na,Nb,Nc,Nk,Nf,Ng,Nh,Za,Zb,Zc,TT]
    refine acallk (level_calls hG n _) ?_
    rintro r s2 ⟨rfl, rfl⟩
    simp only [↓AXq_nil,↓AXq_cons,pval,DX,Nat.reduceBEq,↓DN,UP,DF,Qa,Qb,Qc,Qd,Qe,Qf,Qg,Qh,reduceCtorEq,↓reduceIte,Na,Nb,Nc,Nk,Nf,Ng,Nh,Za,Zb,Zc,TT, lvI_nat hn63, sh_one (lv_le n)]
    refine hK _ _ ?_;clear hK K
    refine wK fun K hK => ?_
    by_cases hb : n / 2 ^ (lv n + 1) % 2 = 0
    · rw [decide_eq_true hb] at a1
      refine wS fun K hK => ?_
      simp only [↓DN,UP,DF,Qa,Qb,Qc,Qd,Qe,Qf,Qg,Qh,reduceCtorEq,↓reduceIte,Na,Nb,Nc,Nk,Nf,Ng,Nh,Za,Zb,Zc,TT, a1]
      refine hK _ _ ?_;clear hK K
      refine wC fun X Y hX hY => ?_
      simp only [↓DN,UP,DF,Qa,Qb,Qc,Qd,Qe,Qf,Qg,Qh,reduceCtorEq,↓reduceIte,Na,Nb,Nc,Nk,Nf,Ng,Nh,Za,Zb,Zc,TT, DB]
      refine hX ?_;clear hX hY X Y
      refine wS fun K hK => ?_
      simp only [↓DN,UP,DF,Qa,Qb,Qc,Qd,Qe,Qf,Qg,Qh,reduceCtorEq,↓reduceIte,Na,Nb,Nc,Nk,Nf,Ng,Nh,Za,Zb,Zc,TT, a2]
      refine hK _ _ ?_;clear hK K
      refine awp_ret ?_
      try simp only [thenQ, blockQ]
      simp only [retQ, AEnds, aresL, ares, List.toList_toArray, ↓upd_same]; try simp only [UP,DF,Nc,↓reduceIte,DT]
      rw [ha, show up1 n = n + 2 ^ lv n from if_pos hb]
      exact ⟨_, _, AV.weak.refl _, AS.le.refl _, rfl, rfl⟩
    · rw [decide_eq_false hb] at a1
      refine wS fun K hK => ?_
      simp only [↓DN,UP,DF,Qa,Qb,Qc,Qd,Qe,Qf,Qg,Qh,reduceCtorEq,↓reduceIte,Na,Nb,Nc,Nk,Nf,Ng,Nh,Za,Zb,Zc,TT, a1]
      refine hK _ _ ?_;clear hK K
      refine wC fun X Y hX hY => ?_
      simp only [↓DN,UP,DF,Qa,Qb,Qc,Qd,Qe,Qf,Qg,Qh,reduceCtorEq,↓reduceIte,Na,Nb,Nc,Nk,Nf,Ng,Nh,Za,Zb,Zc,TT, DB]
      refine hY ?_;clear hX hY X Y
      refine awp_skip ?_
      refine hK _ _ ?_;clear hK K
      refine wS fun K hK => ?_
      simp only [↓DN,UP,DF,Qa,Qb,Qc,Qd,Qe,Qf,Qg,Qh,reduceCtorEq,↓reduceIte,Na,Nb,Nc,Nk,Nf,Ng,Nh,Za,Zb,Zc,TT, a3 hb]
      refine hK _ _ ?_;clear hK K
      refine awp_ret ?_
      try simp only [thenQ, blockQ]
      simp only [retQ, AEnds, aresL, ares, List.toList_toArray, ↓upd_same]; try simp only [UP,DF,Nc,↓reduceIte,DT]
      rw [ha, show up1 n = n - 2 ^ lv n from if_neg hb]
      exact ⟨_, _, AV.weak.refl _, AS.le.refl _, rfl, rfl⟩

def cellN : AV → Nat
  | .sl _ n _ _ => n
  | _ => 0
set_option maxRecDepth 100000 in
set_option maxHeartbeats 4000000 in
theorem path18_calls (hG : Γ 3 = dB64.map u8C) (leaf l : Nat) (hl : Fit l) (hn : leaf < l) (s : AS) : ACalls Tryz.prog Γ 78 [.v (.int .i64 leaf), .v (.int .i64 l)] s
    (fun r s' => r = intsV (natsI (pathL leaf l)) .any ∧ s' = s) := by
  refine acalls_body Tryz.func78 rfl Tryz.ntmps78 Tryz.results78 (by simp) ?_
  have hl' := hl.le
  have hpl := path_len hl hn
  have h0 : decide ((leaf : Int) < 0) = false := decide_eq_false (by omega)
  have h1 : decide ((l : Int) ≤ (leaf : Int)) = false := decide_eq_false (by omega)
  have hst := fun (i : Nat) (h : i ≤ (pathL leaf l).length) => path_steps hl hn h
  have hnx : ∀ i, i < (pathL leaf l).length → nodeAt leaf l (i + 1) = (pathL leaf l).getD i 0 := fun i _ => rfl
  have hna : nodeAt leaf l 0 = 2 * leaf := rfl
  generalize pathL leaf l = P at *
  refine wS fun K hK => ?_
  simp only [↓DN,UP,DF,Qa,Qb,Qc,Qd,Qe,Qf,Qg,Qh,reduceCtorEq,↓reduceIte,Na,Nb,Nc,Nk,Nf,Ng,Nh,Za,Zb,Zc,TT]
  refine hK _ _ ?_;clear hK K
  refine wK fun K hK => ?_
  refine wS fun K hK => ?_
  simp only [↓DN,UP,DF,Qa,Qb,Qc,Qd,Qe,Qf,Qg,Qh,reduceCtorEq,↓reduceIte,Na,Nb,Nc,Nk,Nf,Ng,Nh,Za,Zb,Zc,TT, h0, h1]
  refine hK _ _ ?_;clear hK K
  refine wC fun X Y hX hY => ?_
  simp only [↓DN,UP,DF,Qa,Qb,Qc,Qd,Qe,Qf,Qg,Qh,reduceCtorEq,↓reduceIte,Na,Nb,Nc,Nk,Nf,Ng,Nh,Za,Zb,Zc,TT, DB]
  refine hY ?_;clear hX hY X Y
  refine awp_skip ?_
  refine hK _ _ ?_;clear hK K
  refine wS fun K hK => ?_
  simp only [↓DN,UP,DF,Qa,Qb,Qc,Qd,Qe,Qf,Qg,Qh,reduceCtorEq,↓reduceIte,Na,Nb,Nc,Nk,Nf,Ng,Nh,Za,Zb,Zc,TT]
  refine hK _ _ ?_;clear hK K
  refine wK fun K hK => ?_
  refine wS fun K hK => ?_
  simp only [↓DN,UP,DF,Qa,Qb,Qc,Qd,Qe,Qf,Qg,Qh,reduceCtorEq,↓reduceIte,Na,Nb,Nc,Nk,Nf,Ng,Nh,Za,Zb,Zc,TT]
  obtain ⟨w0, w1⟩ := hst 0 (Nat.zero_le _)
  rw [hna] at w0 w1
  have e0 : imul .i64 2 (leaf : Int) = ((2 * leaf : Nat) : Int) := by rw [imul_i64 (by omega)]; omega
  rw [e0]
  refine acallk (above18_calls hG (2 * leaf) l hl w0 _) ?_
  rintro r s1 ⟨rfl, rfl⟩
  rw [w1]
  simp only [↓AXq_nil,↓AXq_cons,pval,DX,Nat.reduceBEq,↓DN,UP,DF,Qa,Qb,Qc,Qd,Qe,Qf,Qg,Qh,reduceCtorEq,↓reduceIte,Na,Nb,Nc,Nk,Nf,Ng,Nh,Za,Zb,Zc,TT]
  refine hK _ _ ?_;clear hK K
  refine awp_block ?_
  refine awp_loop (fun E s2 => ∃ (i : Nat) (x : AV), i ≤ P.length ∧ E 6 = .v (.int .i64 (((P[i]?).getD 0 : Nat) : Int)) ∧ E 7 = .v (.bool (P[i]?).isSome) ∧ E 1 = .v (.int .i64 l) ∧ E 5 = x ∧ RBuf 1 s1 s2 x i ((natsI (P.take i)).map intC) ∧ s1.le s2)
    (fun E _ => P.length + 1 - cellN (E 5)) ?_ ?_
  · exact ⟨0, nilS, Nat.zero_le _, by simp only [upd, Nc, ↓reduceIte], by simp only [upd, Nc, ↓reduceIte], by simp only [upd, initE, List.getD_cons_zero, List.getD_cons_succ, Nc, ↓reduceIte], by simp only [upd, Nc, ↓reduceIte]; rfl, RBuf.nil _ _ _, AS.le.refl _⟩
  · rintro E1 s2 ⟨i, x, hi, g6, g7, g1, g5, hx, hle⟩ -
    refine wK fun K2 hK2 => ?_
    by_cases hi' : i < P.length
    · have hp : P[i]? = some P[i] := List.getElem?_eq_getElem hi'
      rw [hp] at g6 g7
      simp only [Option.getD_some, Option.isSome_some] at g6 g7
      refine wS fun K hK => ?_
      simp only [↓DN,UP,DF,Qa,Qb,Qc,Qd,Qe,Qf,Qg,Qh,reduceCtorEq,↓reduceIte,Na,Nb,Nc,Nk,Nf,Ng,Nh,Za,Zb,Zc,TT, g7]
      refine hK _ _ ?_;clear hK K
      refine wC fun X Y hX hY => ?_
      simp only [↓DN,UP,DF,Qa,Qb,Qc,Qd,Qe,Qf,Qg,Qh,reduceCtorEq,↓reduceIte,Na,Nb,Nc,Nk,Nf,Ng,Nh,Za,Zb,Zc,TT, DB]
      refine hX ?_;clear hX hY X Y
      refine awp_skip ?_
      refine hK2 _ _ ?_;clear hK2 K2
      refine wK fun K3 hK3 => ?_
      refine awp_block ?_
      have hnode : nodeAt leaf l (i + 1) = P[i] := by rw [hnx i hi', List.getD, hp]; rfl
      obtain ⟨w2, w3⟩ := hst (i + 1) hi'
      rw [hnode] at w2 w3
      have htk : natsI (P.take (i + 1)) = natsI (P.take i) ++ [((P[i] : Nat) : Int)] := by unfold natsI; rw [List.take_succ_eq_append_getElem hi', List.map_append]; rfl
      have hend : ∀ (E : Env) (s3 : AS) (x3 : AV), E 6 = .v (.int .i64 (P[i] : Nat)) → E 1 = .v (.int .i64 l) → E 5 = x3 → RBuf 1 s1 s3 x3 (i + 1) ((natsI (P.take (i + 1))).map intC) → s1.le s3 → K3 E s3 := by
        intro E s3 x3 f6 f1 f5 fx fle
        refine hK3 _ _ ?_;clear hK3 K3
        refine wE fun K hK => ?_
        simp only [↓DN,UP,DF,Qa,Qb,Qc,Qd,Qe,Qf,Qg,Qh,reduceCtorEq,↓reduceIte,Na,Nb,Nc,Nk,Nf,Ng,Nh,Za,Zb,Zc,TT, f6, f1]
        refine acallk (above18_calls hG (P[i]) l hl w2 _) ?_
        rintro r s4 ⟨rfl, rfl⟩
        rw [w3]
        simp only [↓AXq_nil,↓AXq_cons,pval,DX,Nat.reduceBEq,↓DN,UP,DF,Qa,Qb,Qc,Qd,Qe,Qf,Qg,Qh,reduceCtorEq,↓reduceIte,Na,Nb,Nc,Nk,Nf,Ng,Nh,Za,Zb,Zc,TT]
        refine hK _ _ ⟨⟨i + 1, x3, hi', by simp only [upd, Nc, ↓reduceIte], by simp only [upd, Nc, ↓reduceIte], by simp only [upd, f1, Nc, ↓reduceIte], by simp only [upd, f5, Nc, ↓reduceIte], fx, fle⟩, ?_⟩
        have m1 : cellN (E1 5) = i := by
          rw [g5]
          rcases hx with ⟨rfl, rfl, _⟩ | ⟨t, e, rfl, _⟩ <;> rfl
        have m2 : cellN (E 5) = i + 1 := by
          rw [f5]
          rcases fx with ⟨rfl, h, _⟩ | ⟨t, e, rfl, _⟩
          · omega
          · rfl
        simp only [upd, Nc, ↓reduceIte, m1, m2]
        omega
      clear hK3
      rcases hx with ⟨rfl, hi0, hL0⟩ | ⟨t, e, rfl, ht, ht0⟩
      · refine wE fun K hK => ?_
        simp only [↓DN,UP,DF,Qa,Qb,Qc,Qd,Qe,Qf,Qg,Qh,reduceCtorEq,↓reduceIte,Na,Nb,Nc,Nk,Nf,Ng,Nh,Za,Zb,Zc,TT, g5, g6, nilS, List.replicate_succ]
        intro t ht
        refine hK _ _ (hend _ _ (.sl 1 1 [.v (.int .i64 ((P[i] : Nat) : Int))] (.own t 0)) (by simp only [upd, g6, Nc, ↓reduceIte]) (by simp only [upd, g1, Nc, ↓reduceIte]) (by simp only [upd, Nc, ↓reduceIte]) ?_ ?_)
        · refine .inr ⟨t, 0, ?_, by simp [AS.gain], own_none_le hle ht⟩
          rw [htk, List.map_append, hL0]
          subst hi0
          rfl
        · exact AS.le_gain hle (own_none_le hle ht) 0
      · refine wE fun K hK => ?_
        simp only [↓DN,UP,DF,Qa,Qb,Qc,Qd,Qe,Qf,Qg,Qh,reduceCtorEq,↓reduceIte,Na,Nb,Nc,Nk,Nf,Ng,Nh,Za,Zb,Zc,TT, g5, g6, ht, List.replicate_succ]
        have hln : (natsI (P.take i)).length = i := by rw [natsI_len, List.length_take]; omega
        refine ⟨by omega, by omega, hK _ _ (hend _ _ (.sl 1 (i + 1) ((natsI (P.take i)).map intC ++ [.v (.int .i64 ((P[i] : Nat) : Int))]) (.own t (e + 1))) (by simp only [upd, g6, Nc, ↓reduceIte]) (by simp only [upd, g1, Nc, ↓reduceIte]) (by simp only [upd, Nc, ↓reduceIte]) ?_ ?_)⟩
        · exact .inr ⟨t, e + 1, by rw [htk, List.map_append]; rfl, by simp [AS.gain], ht0⟩
        · exact AS.le_gain hle ht0 (e + 1)
    · have hp : P[i]? = none := List.getElem?_eq_none (by omega)
      rw [hp] at g7
      simp only [Option.isSome_none] at g7
      refine wS fun K hK => ?_
      simp only [↓DN,UP,DF,Qa,Qb,Qc,Qd,Qe,Qf,Qg,Qh,reduceCtorEq,↓reduceIte,Na,Nb,Nc,Nk,Nf,Ng,Nh,Za,Zb,Zc,TT, g7]
      refine hK _ _ ?_;clear hK K
      refine wC fun X Y hX hY => ?_
      simp only [↓DN,UP,DF,Qa,Qb,Qc,Qd,Qe,Qf,Qg,Qh,reduceCtorEq,↓reduceIte,Na,Nb,Nc,Nk,Nf,Ng,Nh,Za,Zb,Zc,TT, DB]
      refine hY ?_;clear hX hY X Y
      refine awp_exit ?_
      simp only [thenQ, blockQ, if_true]
      refine hK _ _ ?_;clear hK hK2 K2 K
      obtain rfl : i = P.length := by omega
      rw [List.take_of_length_le (Nat.le_refl _)] at hx
      have hw := hx.weak
      refine wS fun K hK => ?_
      simp only [↓DN,UP,DF,Qa,Qb,Qc,Qd,Qe,Qf,Qg,Qh,reduceCtorEq,↓reduceIte,Na,Nb,Nc,Nk,Nf,Ng,Nh,Za,Zb,Zc,TT, g5]
      refine hK _ _ ?_;clear hK K
      refine awp_ret ?_
      try simp only [thenQ, blockQ]
      simp only [retQ, AEnds, aresL, ares, List.toList_toArray, ↓upd_same]; try simp only [UP,DF,Nc,↓reduceIte,DT]
      refine ⟨_, _, ?_, hle, rfl, rfl⟩
      have hln := natsI_len P
      unfold intsV
      rw [hln]
      exact hw

end Go.Proofs.YtcnilmidfhpckaaGreatDoor


