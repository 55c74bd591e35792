/- Contracts of the program's functions, each walked once; the conditions stand in each theorem. -/
import Derived.Test.YtcnilmidfhpckaaDoorProg
import Derived.Test.YtcnilmidfhpckaaDoorAMp4
import Derived.Test.YtcnilmidfhpckaaDoorAMp5
import Derived.Test.YtcnilmidfhpckaaDoorAMp6
import Derived.Test.YtcnilmidfhpckaaDoorAMp3
set_option linter.unusedSimpArgs false
set_option linter.unusedVariables false
open Nat renaming reduceLT → Na, reduceLeDiff → Nb, reduceEqDiff → Nc, reduceAdd → Nk, reduceMul → Nf, reducePow → Ng, reduceSub → Nh
open Int renaming reduceLT → Za, reduceLE → Zb, reduceToNat → Zc
open Go.AM renaming ashift → Qa, aconv → Qb, aindexAddr → Qc, aindex → Qd, aslice → Qe, abuiltin → Qf, awp_reg_seq → wS, awp_reg_end → wE, awp_seq_k → wK, awp_cond_k → wC
open Go.AM.AV renaming cells → Qg, one → Qh
set_option autoImplicit false
namespace Go.Proofs.YtcnilmidfhpckaaDoor
open Go Go.AM Go.Proofs
theorem T.c2 : Tryd.prog.cellsOf 2 = 1 := by kernel_rfl
theorem T.b2 : Tryd.prog.bytesOf 2 = 8 := by kernel_rfl
theorem T.g2 : isAggT Tryd.prog 2 = some false := by kernel_rfl
theorem T.z2 : zcells Tryd.prog 2 = some [.v (.int .i64 0)] := by kernel_rfl
theorem T.c3 : Tryd.prog.cellsOf 3 = 1 := by kernel_rfl
theorem T.b3 : Tryd.prog.bytesOf 3 = 8 := by kernel_rfl
theorem T.g3 : isAggT Tryd.prog 3 = some false := by kernel_rfl
theorem T.z3 : zcells Tryd.prog 3 = some [.v (.int .i64 0)] := by kernel_rfl
theorem T.c4 : Tryd.prog.cellsOf 4 = 1 := by kernel_rfl
theorem T.b4 : Tryd.prog.bytesOf 4 = 1 := by kernel_rfl
theorem T.g4 : isAggT Tryd.prog 4 = some false := by kernel_rfl
theorem T.z4 : zcells Tryd.prog 4 = some [.v (.bool false)] := by kernel_rfl
theorem T.c5 : Tryd.prog.cellsOf 5 = 1 := by kernel_rfl
theorem T.b5 : Tryd.prog.bytesOf 5 = 1 := by kernel_rfl
theorem T.g5 : isAggT Tryd.prog 5 = some false := by kernel_rfl
theorem T.z5 : zcells Tryd.prog 5 = some [.v (.int .u8 0)] := by kernel_rfl
theorem T.c6 : Tryd.prog.cellsOf 6 = 1 := by kernel_rfl
theorem T.g6 : isAggT Tryd.prog 6 = some false := by kernel_rfl
theorem T.g7 : isAggT Tryd.prog 7 = some true := by kernel_rfl
theorem T.h7 : fieldsOk Tryd.prog 7 = true := by kernel_rfl
theorem T.g8 : isAggT Tryd.prog 8 = some true := by kernel_rfl
theorem T.h8 : fieldsOk Tryd.prog 8 = true := by kernel_rfl
theorem T.c9 : Tryd.prog.cellsOf 9 = 1 := by kernel_rfl
theorem T.b9 : Tryd.prog.bytesOf 9 = 16 := by kernel_rfl
theorem T.g9 : isAggT Tryd.prog 9 = some false := by kernel_rfl
theorem T.z9 : zcells Tryd.prog 9 = some [.v (.string ByteArray.empty)] := by kernel_rfl
theorem T.g10 : isAggT Tryd.prog 10 = some false := by kernel_rfl
theorem T.g11 : isAggT Tryd.prog 11 = some false := by kernel_rfl
theorem T.g13 : isAggT Tryd.prog 13 = some true := by kernel_rfl
theorem T.h13 : fieldsOk Tryd.prog 13 = true := by kernel_rfl
theorem T.g14 : isAggT Tryd.prog 14 = some true := by kernel_rfl
theorem T.g15 : isAggT Tryd.prog 15 = some false := by kernel_rfl
theorem T.g16 : isAggT Tryd.prog 16 = some false := by kernel_rfl
theorem T.g17 : isAggT Tryd.prog 17 = some false := by kernel_rfl
theorem T.g18 : isAggT Tryd.prog 18 = some true := by kernel_rfl
theorem T.c22 : Tryd.prog.cellsOf 22 = 1 := by kernel_rfl
theorem T.b22 : Tryd.prog.bytesOf 22 = 24 := by kernel_rfl
theorem T.g22 : isAggT Tryd.prog 22 = some false := by kernel_rfl
theorem T.z22 : zcells Tryd.prog 22 = some [.v (.slice none 0 0)] := by kernel_rfl
theorem T.s22 : isSliceT Tryd.prog 22 = true := by kernel_rfl
theorem T.c24 : Tryd.prog.cellsOf 24 = 1 := by kernel_rfl
theorem T.b24 : Tryd.prog.bytesOf 24 = 24 := by kernel_rfl
theorem T.g24 : isAggT Tryd.prog 24 = some false := by kernel_rfl
theorem T.z24 : zcells Tryd.prog 24 = some [.v (.slice none 0 0)] := by kernel_rfl
theorem T.s24 : isSliceT Tryd.prog 24 = true := by kernel_rfl
theorem T.c25 : Tryd.prog.cellsOf 25 = 1 := by kernel_rfl
theorem T.b25 : Tryd.prog.bytesOf 25 = 8 := by kernel_rfl
theorem T.g25 : isAggT Tryd.prog 25 = some false := by kernel_rfl
theorem T.z25 : zcells Tryd.prog 25 = some [.v (.int .i64 0)] := by kernel_rfl
theorem T.c28 : Tryd.prog.cellsOf 28 = 1 := by kernel_rfl
theorem T.b28 : Tryd.prog.bytesOf 28 = 24 := by kernel_rfl
theorem T.g28 : isAggT Tryd.prog 28 = some false := by kernel_rfl
theorem T.z28 : zcells Tryd.prog 28 = some [.v (.slice none 0 0)] := by kernel_rfl
theorem T.s28 : isSliceT Tryd.prog 28 = true := by kernel_rfl
theorem T.c29 : Tryd.prog.cellsOf 29 = 1 := by kernel_rfl
theorem T.b29 : Tryd.prog.bytesOf 29 = 8 := by kernel_rfl
theorem T.g29 : isAggT Tryd.prog 29 = some false := by kernel_rfl
theorem T.z29 : zcells Tryd.prog 29 = some [.v (.int .u64 0)] := by kernel_rfl
theorem T.c30 : Tryd.prog.cellsOf 30 = 1 := by kernel_rfl
theorem T.b30 : Tryd.prog.bytesOf 30 = 24 := by kernel_rfl
theorem T.g30 : isAggT Tryd.prog 30 = some false := by kernel_rfl
theorem T.z30 : zcells Tryd.prog 30 = some [.v (.slice none 0 0)] := by kernel_rfl
theorem T.s30 : isSliceT Tryd.prog 30 = true := by kernel_rfl
theorem T.c32 : Tryd.prog.cellsOf 32 = 4 := by kernel_rfl
theorem T.b32 : Tryd.prog.bytesOf 32 = 48 := by kernel_rfl
theorem T.g32 : isAggT Tryd.prog 32 = some true := by kernel_rfl
theorem T.h32 : fieldsOk Tryd.prog 32 = true := by kernel_rfl
theorem T.f32_0 : fieldOf Tryd.prog 32 0 = some (0, 3) := by kernel_rfl
theorem T.f32_1 : fieldOf Tryd.prog 32 1 = some (1, 3) := by kernel_rfl
theorem T.f32_2 : fieldOf Tryd.prog 32 2 = some (2, 28) := by kernel_rfl
theorem T.f32_3 : fieldOf Tryd.prog 32 3 = some (3, 29) := by kernel_rfl
theorem T.z32 : zcells Tryd.prog 32 = some [.v (.int .i64 0), .v (.int .i64 0), .v (.slice none 0 0), .v (.int .u64 0)] := by kernel_rfl
theorem T.c38 : Tryd.prog.cellsOf 38 = 1 := by kernel_rfl
theorem T.b38 : Tryd.prog.bytesOf 38 = 24 := by kernel_rfl
theorem T.g38 : isAggT Tryd.prog 38 = some false := by kernel_rfl
theorem T.z38 : zcells Tryd.prog 38 = some [.v (.slice none 0 0)] := by kernel_rfl
theorem T.s38 : isSliceT Tryd.prog 38 = true := by kernel_rfl
theorem T.h40 : fieldsOk Tryd.prog 40 = true := by kernel_rfl
theorem T.z40 : zcells Tryd.prog 40 = some [.v (.int .i64 0), .v (.slice none 0 0)] := by kernel_rfl
theorem T.c41 : Tryd.prog.cellsOf 41 = 2 := by kernel_rfl
theorem T.b41 : Tryd.prog.bytesOf 41 = 32 := by kernel_rfl
theorem T.g41 : isAggT Tryd.prog 41 = some true := by kernel_rfl
theorem T.h41 : fieldsOk Tryd.prog 41 = true := by kernel_rfl
theorem T.f41_0 : fieldOf Tryd.prog 41 0 = some (0, 3) := by kernel_rfl
theorem T.f41_1 : fieldOf Tryd.prog 41 1 = some (1, 28) := by kernel_rfl
theorem T.z41 : zcells Tryd.prog 41 = some [.v (.int .i64 0), .v (.slice none 0 0)] := by kernel_rfl
theorem T.c44 : Tryd.prog.cellsOf 44 = 1 := by kernel_rfl
theorem T.b44 : Tryd.prog.bytesOf 44 = 24 := by kernel_rfl
theorem T.g44 : isAggT Tryd.prog 44 = some false := by kernel_rfl
theorem T.z44 : zcells Tryd.prog 44 = some [.v (.slice none 0 0)] := by kernel_rfl
theorem T.s44 : isSliceT Tryd.prog 44 = true := by kernel_rfl
theorem T.c46 : Tryd.prog.cellsOf 46 = 5 := by kernel_rfl
theorem T.b46 : Tryd.prog.bytesOf 46 = 88 := by kernel_rfl
theorem T.g46 : isAggT Tryd.prog 46 = some true := by kernel_rfl
theorem T.h46 : fieldsOk Tryd.prog 46 = true := by kernel_rfl
theorem T.f46_0 : fieldOf Tryd.prog 46 0 = some (0, 3) := by kernel_rfl
theorem T.f46_1 : fieldOf Tryd.prog 46 1 = some (1, 28) := by kernel_rfl
theorem T.f46_2 : fieldOf Tryd.prog 46 2 = some (2, 29) := by kernel_rfl
theorem T.f46_3 : fieldOf Tryd.prog 46 3 = some (3, 28) := by kernel_rfl
theorem T.f46_4 : fieldOf Tryd.prog 46 4 = some (4, 44) := by kernel_rfl
theorem T.z46 : zcells Tryd.prog 46 = some [.v (.int .i64 0), .v (.slice none 0 0), .v (.int .u64 0), .v (.slice none 0 0), .v (.slice none 0 0)] := by kernel_rfl
theorem T.c69 : Tryd.prog.cellsOf 69 = 1 := by kernel_rfl
theorem T.b69 : Tryd.prog.bytesOf 69 = 8 := by kernel_rfl
theorem T.g69 : isAggT Tryd.prog 69 = some false := by kernel_rfl
theorem T.z69 : zcells Tryd.prog 69 = some [.v (.int .u64 0)] := by kernel_rfl
theorem T.c81 : Tryd.prog.cellsOf 81 = 1 := by kernel_rfl
theorem T.b81 : Tryd.prog.bytesOf 81 = 4 := by kernel_rfl
theorem T.g81 : isAggT Tryd.prog 81 = some false := by kernel_rfl
theorem T.z81 : zcells Tryd.prog 81 = some [.v (.int .u32 0)] := by kernel_rfl
theorem T.c84 : Tryd.prog.cellsOf 84 = 64 := by kernel_rfl
theorem T.b84 : Tryd.prog.bytesOf 84 = 64 := by kernel_rfl
theorem T.g84 : isAggT Tryd.prog 84 = some true := by kernel_rfl
theorem T.k3 : callable Tryd.prog 3 = true := by kernel_rfl
theorem T.k4 : callable Tryd.prog 4 = true := by kernel_rfl
theorem T.k5 : callable Tryd.prog 5 = true := by kernel_rfl
theorem T.k6 : callable Tryd.prog 6 = true := by kernel_rfl
theorem T.k7 : callable Tryd.prog 7 = true := by kernel_rfl
theorem T.k8 : callable Tryd.prog 8 = true := by kernel_rfl
theorem T.k9 : callable Tryd.prog 9 = true := by kernel_rfl
theorem T.k10 : callable Tryd.prog 10 = true := by kernel_rfl
theorem T.k11 : callable Tryd.prog 11 = true := by kernel_rfl
theorem T.k12 : callable Tryd.prog 12 = true := by kernel_rfl
theorem T.k13 : callable Tryd.prog 13 = true := by kernel_rfl
theorem T.k14 : callable Tryd.prog 14 = true := by kernel_rfl
theorem T.k15 : callable Tryd.prog 15 = true := by kernel_rfl
theorem T.k16 : callable Tryd.prog 16 = true := by kernel_rfl
theorem T.k17 : callable Tryd.prog 17 = true := by kernel_rfl
theorem T.k18 : callable Tryd.prog 18 = true := by kernel_rfl
theorem T.k19 : callable Tryd.prog 19 = true := by kernel_rfl
theorem T.k20 : callable Tryd.prog 20 = true := by kernel_rfl
theorem T.k21 : callable Tryd.prog 21 = true := by kernel_rfl
theorem T.k22 : callable Tryd.prog 22 = true := by kernel_rfl
theorem T.k23 : callable Tryd.prog 23 = true := by kernel_rfl
theorem T.k24 : callable Tryd.prog 24 = true := by kernel_rfl
theorem T.k25 : callable Tryd.prog 25 = true := by kernel_rfl
theorem T.k26 : callable Tryd.prog 26 = true := by kernel_rfl
theorem T.k27 : callable Tryd.prog 27 = true := by kernel_rfl
theorem T.k28 : callable Tryd.prog 28 = true := by kernel_rfl
theorem T.k29 : callable Tryd.prog 29 = true := by kernel_rfl
theorem T.k30 : callable Tryd.prog 30 = true := by kernel_rfl
theorem T.k31 : callable Tryd.prog 31 = true := by kernel_rfl
theorem T.k32 : callable Tryd.prog 32 = true := by kernel_rfl
theorem T.k33 : callable Tryd.prog 33 = true := by kernel_rfl
theorem T.k34 : callable Tryd.prog 34 = true := by kernel_rfl
theorem T.k35 : callable Tryd.prog 35 = true := by kernel_rfl
theorem T.k40 : callable Tryd.prog 40 = true := by kernel_rfl
theorem T.k41 : callable Tryd.prog 41 = true := by kernel_rfl
theorem T.k43 : callable Tryd.prog 43 = true := by kernel_rfl
theorem T.k44 : callable Tryd.prog 44 = true := by kernel_rfl
theorem T.k45 : callable Tryd.prog 45 = true := by kernel_rfl
theorem T.k48 : callable Tryd.prog 48 = true := by kernel_rfl
theorem T.k49 : callable Tryd.prog 49 = true := by kernel_rfl
theorem T.k50 : callable Tryd.prog 50 = true := by kernel_rfl
theorem T.k52 : callable Tryd.prog 52 = true := by kernel_rfl
theorem T.k53 : callable Tryd.prog 53 = true := by kernel_rfl
theorem T.mixed : Tryd.prog.follows .mixedOrders = true := by kernel_rfl
end Go.Proofs.YtcnilmidfhpckaaDoor


set_option autoImplicit false
set_option maxRecDepth 100000
namespace Go.Proofs.YtcnilmidfhpckaaDoor
open Go Go.AM Go.Proofs
/-- The closed facts that the walks rewrite by, bound together. -/
theorem TT : type_of% (And.intro (And.intro (And.intro (And.intro (And.intro (And.intro (And.intro @Tryd.underlying3 (And.intro T.c3 T.g3)) (And.intro T.b3 (And.intro T.z3 Tryd.ntmps48))) (And.intro (And.intro @Tryd.underlying5 (And.intro T.c5 T.g5)) (And.intro T.b5 (And.intro T.z5 @Tryd.underlying29)))) (And.intro (And.intro (And.intro T.c29 (And.intro T.g29 T.b29)) (And.intro T.z29 (And.intro @Tryd.underlying84 T.c84))) (And.intro (And.intro T.g84 (And.intro T.b84 Tryd.ntmps53)) (And.intro @Tryd.underlying69 (And.intro T.c69 T.g69))))) (And.intro (And.intro (And.intro (And.intro T.b69 (And.intro T.z69 @Tryd.underlying81)) (And.intro T.c81 (And.intro T.g81 T.b81))) (And.intro (And.intro T.z81 (And.intro T.k53 T.k52)) (And.intro Tryd.ntmps50 (And.intro @Tryd.underlying4 T.c4)))) (And.intro (And.intro (And.intro T.g4 (And.intro T.b4 T.z4)) (And.intro T.k50 (And.intro T.k48 Tryd.ntmps45))) (And.intro (And.intro T.k45 (And.intro Tryd.ntmps41 Tryd.ntmps34)) (And.intro T.k34 (And.intro Tryd.ntmps25 T.k25)))))) (And.intro (And.intro (And.intro (And.intro (And.intro Tryd.ntmps35 (And.intro @Tryd.underlying44 T.c44)) (And.intro T.g44 (And.intro T.b44 T.z44))) (And.intro (And.intro T.s44 (And.intro T.k35 Tryd.ntmps19)) (And.intro Tryd.ntmps22 (And.intro @Tryd.underlying9 T.c9)))) (And.intro (And.intro (And.intro T.g9 (And.intro T.b9 T.z9)) (And.intro @Tryd.underlying28 (And.intro T.c28 T.g28))) (And.intro (And.intro T.b28 (And.intro T.z28 T.s28)) (And.intro Tryd.ntmps32 (And.intro Tryd.ntmps40 @Tryd.underlying46))))) (And.intro (And.intro (And.intro (And.intro T.c46 (And.intro T.g46 T.b46)) (And.intro T.z46 (And.intro T.h46 T.f46_0))) (And.intro (And.intro T.f46_1 (And.intro T.f46_2 T.f46_3)) (And.intro T.f46_4 (And.intro T.k40 T.k32)))) (And.intro (And.intro (And.intro Tryd.ntmps28 (And.intro Tryd.ntmps30 T.k22)) (And.intro Tryd.ntmps29 (And.intro T.k29 T.k28))) (And.intro (And.intro T.k30 (And.intro Tryd.ntmps13 @Tryd.underlying24)) (And.intro T.c24 (And.intro T.g24 T.b24))))))) (And.intro (And.intro (And.intro (And.intro (And.intro (And.intro T.z24 (And.intro T.s24 Tryd.ntmps18)) (And.intro T.k18 (And.intro Tryd.ntmps17 T.k17))) (And.intro (And.intro Tryd.ntmps24 (And.intro Tryd.ntmps15 Tryd.ntmps49)) (And.intro T.k49 (And.intro Tryd.ntmps43 Tryd.ntmps42)))) (And.intro (And.intro (And.intro T.k13 (And.intro T.k41 T.k43)) (And.intro Tryd.ntmps31 (And.intro T.k15 T.k24))) (And.intro (And.intro T.k31 (And.intro Tryd.ntmps14 Tryd.ntmps27)) (And.intro T.k14 (And.intro Tryd.ntmps11 @Tryd.underlying38))))) (And.intro (And.intro (And.intro (And.intro T.c38 (And.intro T.g38 T.b38)) (And.intro T.z38 (And.intro T.s38 @Tryd.underlying41))) (And.intro (And.intro T.c41 (And.intro T.g41 T.b41)) (And.intro T.z41 (And.intro T.h41 T.f41_0)))) (And.intro (And.intro (And.intro T.f41_1 (And.intro T.k11 T.k27)) (And.intro Tryd.ntmps10 (And.intro Tryd.ntmps44 T.k44))) (And.intro (And.intro Tryd.ntmps33 (And.intro T.k33 Tryd.ntmps16)) (And.intro Tryd.ntmps12 (And.intro T.k12 Tryd.ntmps5)))))) (And.intro (And.intro (And.intro (And.intro (And.intro T.k20 (And.intro T.k16 T.k21)) (And.intro T.k19 (And.intro Tryd.ntmps7 Tryd.ntmps23))) (And.intro (And.intro T.k23 (And.intro Tryd.ntmps8 Tryd.ntmps26)) (And.intro T.k26 (And.intro Tryd.ntmps9 @Tryd.underlying25)))) (And.intro (And.intro (And.intro T.c25 (And.intro T.g25 T.b25)) (And.intro T.z25 (And.intro T.k7 T.k5))) (And.intro (And.intro T.k9 (And.intro Tryd.ntmps4 Tryd.ntmps6)) (And.intro @Tryd.underlying22 (And.intro T.c22 T.g22))))) (And.intro (And.intro (And.intro (And.intro T.b22 (And.intro T.z22 T.s22)) (And.intro @Tryd.underlying30 (And.intro T.c30 T.g30))) (And.intro (And.intro T.b30 (And.intro T.z30 T.s30)) (And.intro @Tryd.underlying32 (And.intro T.c32 T.g32)))) (And.intro (And.intro (And.intro T.b32 (And.intro T.z32 T.h32)) (And.intro T.f32_0 (And.intro T.f32_1 T.f32_2))) (And.intro (And.intro T.f32_3 (And.intro T.k6 T.k4)) (And.intro T.k8 (And.intro T.k10 Tryd.ntmps3)))))))) :=
  (And.intro (And.intro (And.intro (And.intro (And.intro (And.intro (And.intro @Tryd.underlying3 (And.intro T.c3 T.g3)) (And.intro T.b3 (And.intro T.z3 Tryd.ntmps48))) (And.intro (And.intro @Tryd.underlying5 (And.intro T.c5 T.g5)) (And.intro T.b5 (And.intro T.z5 @Tryd.underlying29)))) (And.intro (And.intro (And.intro T.c29 (And.intro T.g29 T.b29)) (And.intro T.z29 (And.intro @Tryd.underlying84 T.c84))) (And.intro (And.intro T.g84 (And.intro T.b84 Tryd.ntmps53)) (And.intro @Tryd.underlying69 (And.intro T.c69 T.g69))))) (And.intro (And.intro (And.intro (And.intro T.b69 (And.intro T.z69 @Tryd.underlying81)) (And.intro T.c81 (And.intro T.g81 T.b81))) (And.intro (And.intro T.z81 (And.intro T.k53 T.k52)) (And.intro Tryd.ntmps50 (And.intro @Tryd.underlying4 T.c4)))) (And.intro (And.intro (And.intro T.g4 (And.intro T.b4 T.z4)) (And.intro T.k50 (And.intro T.k48 Tryd.ntmps45))) (And.intro (And.intro T.k45 (And.intro Tryd.ntmps41 Tryd.ntmps34)) (And.intro T.k34 (And.intro Tryd.ntmps25 T.k25)))))) (And.intro (And.intro (And.intro (And.intro (And.intro Tryd.ntmps35 (And.intro @Tryd.underlying44 T.c44)) (And.intro T.g44 (And.intro T.b44 T.z44))) (And.intro (And.intro T.s44 (And.intro T.k35 Tryd.ntmps19)) (And.intro Tryd.ntmps22 (And.intro @Tryd.underlying9 T.c9)))) (And.intro (And.intro (And.intro T.g9 (And.intro T.b9 T.z9)) (And.intro @Tryd.underlying28 (And.intro T.c28 T.g28))) (And.intro (And.intro T.b28 (And.intro T.z28 T.s28)) (And.intro Tryd.ntmps32 (And.intro Tryd.ntmps40 @Tryd.underlying46))))) (And.intro (And.intro (And.intro (And.intro T.c46 (And.intro T.g46 T.b46)) (And.intro T.z46 (And.intro T.h46 T.f46_0))) (And.intro (And.intro T.f46_1 (And.intro T.f46_2 T.f46_3)) (And.intro T.f46_4 (And.intro T.k40 T.k32)))) (And.intro (And.intro (And.intro Tryd.ntmps28 (And.intro Tryd.ntmps30 T.k22)) (And.intro Tryd.ntmps29 (And.intro T.k29 T.k28))) (And.intro (And.intro T.k30 (And.intro Tryd.ntmps13 @Tryd.underlying24)) (And.intro T.c24 (And.intro T.g24 T.b24))))))) (And.intro (And.intro (And.intro (And.intro (And.intro (And.intro T.z24 (And.intro T.s24 Tryd.ntmps18)) (And.intro T.k18 (And.intro Tryd.ntmps17 T.k17))) (And.intro (And.intro Tryd.ntmps24 (And.intro Tryd.ntmps15 Tryd.ntmps49)) (And.intro T.k49 (And.intro Tryd.ntmps43 Tryd.ntmps42)))) (And.intro (And.intro (And.intro T.k13 (And.intro T.k41 T.k43)) (And.intro Tryd.ntmps31 (And.intro T.k15 T.k24))) (And.intro (And.intro T.k31 (And.intro Tryd.ntmps14 Tryd.ntmps27)) (And.intro T.k14 (And.intro Tryd.ntmps11 @Tryd.underlying38))))) (And.intro (And.intro (And.intro (And.intro T.c38 (And.intro T.g38 T.b38)) (And.intro T.z38 (And.intro T.s38 @Tryd.underlying41))) (And.intro (And.intro T.c41 (And.intro T.g41 T.b41)) (And.intro T.z41 (And.intro T.h41 T.f41_0)))) (And.intro (And.intro (And.intro T.f41_1 (And.intro T.k11 T.k27)) (And.intro Tryd.ntmps10 (And.intro Tryd.ntmps44 T.k44))) (And.intro (And.intro Tryd.ntmps33 (And.intro T.k33 Tryd.ntmps16)) (And.intro Tryd.ntmps12 (And.intro T.k12 Tryd.ntmps5)))))) (And.intro (And.intro (And.intro (And.intro (And.intro T.k20 (And.intro T.k16 T.k21)) (And.intro T.k19 (And.intro Tryd.ntmps7 Tryd.ntmps23))) (And.intro (And.intro T.k23 (And.intro Tryd.ntmps8 Tryd.ntmps26)) (And.intro T.k26 (And.intro Tryd.ntmps9 @Tryd.underlying25)))) (And.intro (And.intro (And.intro T.c25 (And.intro T.g25 T.b25)) (And.intro T.z25 (And.intro T.k7 T.k5))) (And.intro (And.intro T.k9 (And.intro Tryd.ntmps4 Tryd.ntmps6)) (And.intro @Tryd.underlying22 (And.intro T.c22 T.g22))))) (And.intro (And.intro (And.intro (And.intro T.b22 (And.intro T.z22 T.s22)) (And.intro @Tryd.underlying30 (And.intro T.c30 T.g30))) (And.intro (And.intro T.b30 (And.intro T.z30 T.s30)) (And.intro @Tryd.underlying32 (And.intro T.c32 T.g32)))) (And.intro (And.intro (And.intro T.b32 (And.intro T.z32 T.h32)) (And.intro T.f32_0 (And.intro T.f32_1 T.f32_2))) (And.intro (And.intro T.f32_3 (And.intro T.k6 T.k4)) (And.intro T.k8 (And.intro T.k10 Tryd.ntmps3))))))))
end Go.Proofs.YtcnilmidfhpckaaDoor

set_option autoImplicit false
namespace Go.AM
open Go

/-! ### Slices of whole numbers; nodes -/
def intC (n : Int) : AV := .v (.int .i64 n)
def intsV (l : List Int) (sp : Sp) : AV := .sl 1 l.length (l.map intC) sp
theorem eat_int {l : List Int} {i : Nat} (h : i < l.length) : List.take 1 (List.drop i (l.map intC)) = [.v (.int .i64 l[i])] := by
  rw [List.drop_eq_getElem_cons (by simpa using h)]
  simp [intC]

theorem IsTy.ints {avs : List AV} (h : IsTy (.slice 1 tyI) avs) : ∃ l : List Int, avs = [intsV l .any] := by
  obtain ⟨els, rfl, _, hall⟩ := IsTy.rows h
  have key : ∀ els : List (List AV), (∀ el ∈ els, el.length = 1 ∧ IsTy tyI el) → ∃ l : List Int, l.length = els.length ∧ els.flatten = l.map intC := by
    intro els
    induction els with
    | nil => intro _; exact ⟨[], rfl, rfl⟩
    | cons e els ih =>
      intro h
      obtain ⟨l, h1, h2⟩ := ih (fun el hel => h el (by simp [hel]))
      obtain ⟨_, t⟩ := h e (by simp)
      obtain ⟨n, rfl, _⟩ := isTy_int t
      exact ⟨n :: l, by simp [h1], by simp [h2, intC]⟩
  obtain ⟨l, h1, h2⟩ := key els hall
  exact ⟨l, by rw [← h1, h2]; rfl⟩

theorem take_eq_succ {α : Type} {a b : List α} {i : Nat} (ha : i < a.length) (hb : i < b.length) (h : a.take i = b.take i) (e : a[i] = b[i]) : a.take (i + 1) = b.take (i + 1) := by
  rw [List.take_succ_eq_append_getElem ha, List.take_succ_eq_append_getElem hb, h, e]

structure NodeV where
  kind : Int
  name : List UInt8
  key : Nat
  parent : List UInt8
  unm : List Int
  deriving DecidableEq
def NodeV.cells (n : NodeV) : List AV := [.v (.int .i64 n.kind), bytesV n.name .any, .v (.int .u64 n.key), bytesV n.parent .any, intsV n.unm .any]
def NodeV.nought : NodeV := ⟨0, [], 0, [], []⟩

theorem node_eq_bool (k k' : Int) (m m' p p' : List UInt8) (y y' : Nat) (u u' : List Int) :
    decide ((⟨k, m, y, p, u⟩ : NodeV) = ⟨k', m', y', p', u'⟩) = ((k == k') && (((y : Int) == (y' : Int)) && (decide (m = m') && (decide (p = p') && decide (u = u'))))) := by
  rw [Bool.eq_iff_iff, decide_eq_true_iff]
  simp only [NodeV.mk.injEq, Bool.and_eq_true, beq_iff_eq, decide_eq_true_eq, Int.natCast_inj]
  constructor
  · rintro ⟨h1, h2, h3, h4, h5⟩
    exact ⟨h1, h3, h2, h4, h5⟩
  · rintro ⟨h1, h3, h2, h4, h5⟩
    exact ⟨h1, h2, h3, h4, h5⟩

theorem IsTy.node {avs : List AV} (h : IsTy (.struct (.cons tyI (.cons tyB (.cons (.int .u64) (.cons tyB (.cons (.slice 1 tyI) .nil)))))) avs) : ∃ N : NodeV, avs = N.cells ∧ N.key < 2 ^ 64 := by
  obtain ⟨x1, y1, rfl, t1, h⟩ := isF_cons (isTy_struct h)
  obtain ⟨x2, y2, rfl, t2, h⟩ := isF_cons h
  obtain ⟨x3, y3, rfl, t3, h⟩ := isF_cons h
  obtain ⟨x4, y4, rfl, t4, h⟩ := isF_cons h
  obtain ⟨x5, y5, rfl, t5, h⟩ := isF_cons h
  obtain rfl := isF_nil h
  obtain ⟨n1, rfl, _⟩ := isTy_int t1
  obtain ⟨l2, rfl, _⟩ := t2.bytes
  obtain ⟨n3, rfl, w3⟩ := isTy_int t3
  obtain ⟨m3, rfl, h3⟩ := nat_u64 w3
  obtain ⟨l4, rfl, _⟩ := t4.bytes
  obtain ⟨l5, rfl⟩ := t5.ints
  exact ⟨⟨n1, l2, m3, l4, l5⟩, rfl, h3⟩
def okAt (l : List Int) (i : Nat) : Prop := 0 ≤ l.getD i 0 ∧ l.getD i 0 < 32 ∧ (0 < i → l.getD (i - 1) 0 < l.getD i 0)
instance decOkAt (l : List Int) (i : Nat) : Decidable (okAt l i) := by unfold okAt; infer_instance
def Rising (l : List Int) : Prop := ∀ i, i < l.length → okAt l i
instance decRising (l : List Int) : Decidable (Rising l) := by unfold Rising; infer_instance
theorem okAt_of {l : List Int} {i : Nat} (h : i < l.length) (h1 : 0 ≤ l[i]) (h2 : l[i] < 32) (h3 : ∀ k : 0 < i, l[i - 1] < l[i]) : okAt l i := by
  unfold okAt
  have e : l.getD i 0 = l[i] := by simp [List.getD, h]
  refine ⟨by rw [e]; exact h1, by rw [e]; exact h2, fun k => ?_⟩
  have e2 : l.getD (i - 1) 0 = l[i - 1] := by simp [List.getD, show i - 1 < l.length by omega]
  rw [e, e2]
  exact h3 k
theorem okAt_get {l : List Int} {i : Nat} (h : i < l.length) (k : okAt l i) : 0 ≤ l[i] ∧ l[i] < 32 ∧ (∀ q : 0 < i, l[i - 1] < l[i]) := by
  unfold okAt at k
  have e : l.getD i 0 = l[i] := by simp [List.getD, h]
  rw [e] at k
  refine ⟨k.1, k.2.1, fun q => ?_⟩
  have e2 : l.getD (i - 1) 0 = l[i - 1] := by simp [List.getD, show i - 1 < l.length by omega]
  have := k.2.2 q
  rwa [e2] at this

def NodeV.held (N : NodeV) : Prop := 2 ≤ N.key ∧ N.key ≤ 2305843009213693949 ∧ (N.parent.length = 0 ∨ N.parent.length = 32)
instance decNodeHeld (N : NodeV) : Decidable N.held := by unfold NodeV.held; infer_instance
def NodeV.right (N : NodeV) : Prop :=
  if N.kind = 0 then N = NodeV.nought
  else if N.kind = 1 then (1 ≤ N.name.length ∧ N.name.length ≤ 16 ∧ N.held ∧ N.unm.length = 0)
  else if N.kind = 2 then (N.name.length = 0 ∧ N.held ∧ Rising N.unm)
  else False
instance decNodeRight (N : NodeV) : Decidable N.right := by unfold NodeV.right; infer_instance
theorem right_zero {N : NodeV} (h : N.kind = 0) : N.right ↔ N = NodeV.nought := by unfold NodeV.right; rw [if_pos h]
theorem right_one {N : NodeV} (h : N.kind = 1) : N.right ↔ (1 ≤ N.name.length ∧ N.name.length ≤ 16 ∧ N.held ∧ N.unm.length = 0) := by unfold NodeV.right; rw [if_neg (by omega), if_pos h]
theorem right_two {N : NodeV} (h : N.kind = 2) : N.right ↔ (N.name.length = 0 ∧ N.held ∧ Rising N.unm) := by unfold NodeV.right; rw [if_neg (by omega), if_neg (by omega), if_pos h]
theorem right_else {N : NodeV} (h0 : N.kind ≠ 0) (h1 : N.kind ≠ 1) (h2 : N.kind ≠ 2) : ¬ N.right := by unfold NodeV.right; rw [if_neg h0, if_neg h1, if_neg h2]; exact id
end Go.AM


set_option autoImplicit false
namespace Go.AM
open Go

/-! ### Records -/
structure Rec where
  kind : Int
  group : List UInt8
  epoch : Int
  time : Int
  bucket : Int
  body : List UInt8
  tree : List UInt8
  script : List UInt8
  wrapped : List UInt8
  deriving DecidableEq

def Rec.cells (r : Rec) : List AV := [.v (.int .i64 r.kind), bytesV r.group .any, .v (.int .i64 r.epoch), .v (.int .i64 r.time), .v (.int .i64 r.bucket), bytesV r.body .any, bytesV r.tree .any, bytesV r.script .any, bytesV r.wrapped .any]
def Rec.nought : Rec := ⟨0, [], 0, 0, 0, [], [], [], []⟩

def Rec.right (r : Rec) : Prop :=
  1 ≤ r.kind ∧ r.kind ≤ 3 ∧ 1 ≤ r.group.length ∧ r.group.length ≤ 16 ∧ 0 ≤ r.epoch ∧ r.epoch ≤ 1048576 ∧ 0 ≤ r.time ∧ r.time ≤ 1099511627776 ∧ 0 ≤ r.bucket ∧ r.bucket ≤ 1099511627776 ∧ r.body.length ≤ 60000 ∧
    r.tree.length = (if r.kind = 3 then 0 else 32) ∧ r.script.length = (if r.kind = 3 then 0 else 32) ∧ r.wrapped.length = (if r.kind = 3 then 0 else 48)
instance (r : Rec) : Decidable r.right := by unfold Rec.right; infer_instance

def Rec.text (r : Rec) : List UInt8 :=
  be 1 r.kind.toNat ++ (be 1 r.group.length ++ r.group ++ (be 8 r.epoch.toNat ++ (be 8 r.time.toNat ++ (be 8 r.bucket.toNat ++
    (be 2 r.body.length ++ r.body ++ (be 1 r.tree.length ++ r.tree ++ (be 1 r.script.length ++ r.script ++ (be 1 r.wrapped.length ++ r.wrapped ++ []))))))))

/-! What was read is written back. -/
end Go.AM


set_option autoImplicit false
namespace Go.AM
open Go

/-! ### Pens: octets put, whether bad or not -/
/-! ### A node's octets, and back -/
def intsText (l : List Int) : List UInt8 := (l.map fun x => be 1 x.toNat).flatten
def NodeV.text (N : NodeV) : List UInt8 :=
  if N.kind = 0 then be 1 0
  else if N.kind = 1 then be 1 1 ++ (be 1 N.name.length ++ N.name) ++ be 8 N.key ++ (be 1 N.parent.length ++ N.parent)
  else be 1 2 ++ be 8 N.key ++ (be 1 N.parent.length ++ N.parent) ++ be 1 N.unm.length ++ intsText N.unm

theorem rising_at {l : List Int} (h : Rising l) : ∀ i, i < l.length → (i : Int) ≤ l.getD i 0
  | 0, k => (h 0 k).1
  | i + 1, k => by
    have := rising_at h i (by omega)
    have h3 := (h (i + 1) k).2.2 (by omega)
    simp only [Nat.add_sub_cancel] at h3
    omega
theorem rising_len {l : List Int} (h : Rising l) : l.length ≤ 32 := by
  by_cases k : l.length = 0
  · omega
  · have h1 := rising_at h (l.length - 1) (by omega)
    have h2 := (h (l.length - 1) (by omega)).2.1
    omega
theorem rising_mem {l : List Int} (h : Rising l) {x : Int} (hx : x ∈ l) : 0 ≤ x ∧ x < 32 := by
  obtain ⟨i, hi, rfl⟩ := List.getElem_of_mem hx
  have := okAt_get hi (h i hi)
  exact ⟨this.1, this.2.1⟩

theorem nought_right : NodeV.nought.right := by decide
theorem node_kind {N : NodeV} (h : N.right) : N.kind = 0 ∨ N.kind = 1 ∨ N.kind = 2 := by
  unfold NodeV.right at h
  split at h
  · left; assumption
  · split at h
    · right; left; assumption
    · split at h
      · right; right; assumption
      · exact h.elim

/-! ### A reader: an eye at p, the result at o2, the variable at o3 -/
structure RdS (s s1 : AS) (p o2 o3 : Nat) (ce z cs : List AV) : Prop where
  le : (s.drop p).le s1
  eye : s1.objs p = some ce
  res : s1.objs o2 = some z
  var : s1.objs o3 = some cs
  n2 : s.objs o2 = none
  n3 : s.objs o3 = none
  p2 : p ≠ o2
  p3 : p ≠ o3
  d : o2 ≠ o3
theorem RdS.gain {s s1 : AS} {p o2 o3 : Nat} {ce z cs : List AV} (h : RdS s s1 p o2 o3 ce z cs) {t : Nat} (ht : s.own t = none) (e : Nat) : RdS s (s1.gain t e) p o2 o3 ce z cs :=
  ⟨AS.le_gain h.le (by simpa [AS.drop] using ht) e, h.eye, h.res, h.var, h.n2, h.n3, h.p2, h.p3, h.d⟩
theorem RdS.out {s s1 : AS} {p o2 o3 : Nat} {ce z cs : List AV} (h : RdS s s1 p o2 o3 ce z cs) : (s.set p ce).le s1 := AS.set_le_of h.le h.eye
theorem RdS.own_none {s s1 : AS} {p o2 o3 : Nat} {ce z cs : List AV} (h : RdS s s1 p o2 o3 ce z cs) {t : Nat} (ht : s1.own t = none) : s.own t = none := by
  cases h0 : s.own t with
  | none => rfl
  | some e =>
    have := h.le.own t e (by simpa [AS.drop] using h0)
    rw [ht] at this
    cases this
/-- A slice of whole numbers that grows. -/
def IBuf (s0 s : AS) (x : AV) (l : List Int) : Prop := (x = nilS ∧ l = []) ∨ ∃ t e, x = intsV l (.own t e) ∧ s.own t = some e ∧ s0.own t = none
theorem IBuf.weak {s0 s : AS} {x : AV} {l : List Int} (h : IBuf s0 s x l) : x.weak (intsV l .any) := by
  rcases h with ⟨rfl, rfl⟩ | ⟨t, e, rfl, _, _⟩
  · exact AV.weak_nil
  · exact AV.weak_any
end Go.AM


set_option autoImplicit false
namespace Go.AM
open Go

theorem some_neO {s : AS} {p o : Nat} {cs : List AV} (h : s.objs p = some cs) (k : s.objs o = none) : p ≠ o := by
  rintro rfl
  rw [h] at k
  cases k
/-- What an eye's reader knows of one more object. -/
structure Rd4 (s s1 : AS) (p o2 o3 o4 : Nat) (ce z cs ds : List AV) : Prop where
  rd : RdS s s1 p o2 o3 ce z cs
  obj : s1.objs o4 = some ds
  n4 : s.objs o4 = none
  p4 : p ≠ o4
  d2 : o2 ≠ o4
  d3 : o3 ≠ o4
theorem RdS.setNew {s s1 : AS} {p o2 o3 o4 : Nat} {ce z cs : List AV} (h : RdS s s1 p o2 o3 ce z cs) (h4 : s1.objs o4 = none) (ds : List AV) : Rd4 s (s1.set o4 ds) p o2 o3 o4 ce z cs ds := by
  have hp : p ≠ o4 := by rintro rfl; rw [h.eye] at h4; cases h4
  have h2 : o2 ≠ o4 := by rintro rfl; rw [h.res] at h4; cases h4
  have h3 : o3 ≠ o4 := by rintro rfl; rw [h.var] at h4; cases h4
  have hn : (s.drop p).objs o4 = none := by
    cases e : (s.drop p).objs o4 with
    | none => rfl
    | some x => have := h.le.objs _ _ e; rw [h4] at this; cases this
  have hn' : s.objs o4 = none := by simpa [AS.drop, upd, hp.symm] using hn
  refine ⟨⟨AS.le_set h.le hn _, ?_, ?_, ?_, h.n2, h.n3, h.p2, h.p3, h.d⟩, AS.set_objs_same _ _ _, hn', hp, h2, h3⟩
  · rw [AS.set_objs_ne _ hp]; exact h.eye
  · rw [AS.set_objs_ne _ h2]; exact h.res
  · rw [AS.set_objs_ne _ h3]; exact h.var
theorem Rd4.gain {s s1 : AS} {p o2 o3 o4 : Nat} {ce z cs ds : List AV} (h : Rd4 s s1 p o2 o3 o4 ce z cs ds) {t : Nat} (ht : s.own t = none) (e : Nat) : Rd4 s (s1.gain t e) p o2 o3 o4 ce z cs ds :=
  ⟨h.rd.gain ht e, h.obj, h.n4, h.p4, h.d2, h.d3⟩

theorem own_none_le {a b : AS} (h : a.le b) {t : Nat} (k : b.own t = none) : a.own t = none := by
  cases e : a.own t with
  | none => rfl
  | some x => rw [h.own t x e] at k; cases k
theorem RdS.fresh {s s1 : AS} {p o2 o3 o5 : Nat} {ce z cs : List AV} (h : RdS s s1 p o2 o3 ce z cs) (h5 : s1.objs o5 = none) (ds : List AV) : RdS s (s1.set o5 ds) p o2 o3 ce z cs := (h.setNew h5 ds).rd
theorem Rd4.fresh {s s1 : AS} {p o2 o3 o4 o5 : Nat} {ce z cs ds : List AV} (h : Rd4 s s1 p o2 o3 o4 ce z cs ds) (h5 : s1.objs o5 = none) (es : List AV) : Rd4 s (s1.set o5 es) p o2 o3 o4 ce z cs ds :=
  ⟨h.rd.fresh h5 es, by rw [AS.set_objs_ne _ (some_neO h.obj h5)]; exact h.obj, h.n4, h.p4, h.d2, h.d3⟩
end Go.AM


set_option autoImplicit false
namespace Go.AM
open Go

/-! ### The shape of a tree: nodes by number -/
def lvT : List Nat := [0, 1, 0, 2, 0, 1, 0, 3, 0, 1, 0, 2, 0, 1, 0, 4, 0, 1, 0, 2, 0, 1, 0, 3, 0, 1, 0, 2, 0, 1, 0, 5, 0, 1, 0, 2, 0, 1, 0, 3, 0, 1, 0, 2, 0, 1, 0, 4, 0, 1, 0, 2, 0, 1, 0, 3, 0, 1, 0, 2, 0, 1, 0]
/-- A node's level. -/
def lv (n : Nat) : Nat := lvT.getD n 0
def lvI (x : Int) : Nat := if 0 ≤ x ∧ x < 63 then lv x.toNat else 0
/-- How far a branch's kids are. -/
def hf (n : Nat) : Nat := 2 ^ lv n / 2
def lo (n : Nat) : Nat := (n - (2 ^ lv n - 1)) / 2
def hi (n : Nat) : Nat := (n + (2 ^ lv n - 1)) / 2
def Fit (n : Nat) : Prop := n = 1 ∨ n = 2 ∨ n = 4 ∨ n = 8 ∨ n = 16 ∨ n = 32
instance (n : Nat) : Decidable (Fit n) := by unfold Fit; infer_instance
theorem Fit.le {n : Nat} (h : Fit n) : 1 ≤ n ∧ n ≤ 32 := by rcases h with h | h | h | h | h | h <;> omega
theorem lv_le (n : Nat) : lv n ≤ 5 := by
  by_cases h : n < 63
  · exact (by decide : ∀ n < 63, lv n ≤ 5) n h
  · have : lv n = 0 := by simp [lv, List.getD, lvT, show 63 ≤ n by omega]
    omega
/-- The node above a node. -/
def up1 (n : Nat) : Nat := if n / 2 ^ (lv n + 1) % 2 = 0 then n + 2 ^ lv n else n - 2 ^ lv n
/-- The branches above a node of a tree of so many leaves, so many at most. -/
def climbL : Nat → Nat → Nat → List Nat
  | 0, _, _ => []
  | k + 1, n, leaves => if n = leaves - 1 then [] else up1 n :: climbL k (up1 n) leaves
def pathL (leaf leaves : Nat) : List Nat := climbL 6 (2 * leaf) leaves

def dB64 : List Nat := [0, 1, 56, 2, 57, 49, 28, 3, 61, 58, 42, 50, 38, 29, 17, 4, 62, 47, 59, 36, 45, 43, 51, 22, 53, 39, 33, 30, 24, 18, 12, 5, 63, 55, 48, 27, 60, 41, 37, 16, 46, 35, 44, 21, 52, 32, 23, 11, 54, 26, 40, 15, 34, 20, 31, 10, 25, 14, 19, 9, 13, 8, 7, 6]
def u8C (n : Nat) : AV := .v (.int .u8 n)
def fitI (x : Int) : Prop := 0 ≤ x ∧ Fit x.toNat
instance (x : Int) : Decidable (fitI x) := by unfold fitI; infer_instance
theorem tz_idx : ∀ n < 63, ∃ k < 64, ishr .u64 (imul .u64 (iand .u64 ((n + 1 : Nat) : Int) (ineg .u64 ((n + 1 : Nat) : Int))) 285870213051353865) 58 = ((k : Nat) : Int) ∧ (List.drop k (dB64.map u8C))[0]? = some (u8C (lv n)) := by
  have key : ∀ n < 63, ∃ k < 64, ishr .u64 (imul .u64 (iand .u64 ((n + 1 : Nat) : Int) (ineg .u64 ((n + 1 : Nat) : Int))) 285870213051353865) 58 = ((k : Nat) : Int) ∧ dB64[k]? = some (lv n) := by decide +kernel
  intro n hn
  obtain ⟨k, h1, h2, h3⟩ := key n hn
  refine ⟨k, h1, h2, ?_⟩
  rw [List.getElem?_drop, Nat.add_zero, List.getElem?_map, h3]
  rfl
theorem lvI_nat {n : Nat} (h : n < 63) : lvI (n : Int) = lv n := by
  unfold lvI
  rw [if_pos (by omega), Int.toNat_natCast]
theorem sh_one {l : Nat} (h : l ≤ 5) : ishl .i64 1 (l : Int) = ((2 ^ l : Nat) : Int) := (by decide : ∀ l ≤ 5, ishl .i64 1 ((l : Nat) : Int) = ((2 ^ l : Nat) : Int)) l h
theorem pow_le5 {l : Nat} (h : l ≤ 5) : 1 ≤ 2 ^ l ∧ 2 ^ l ≤ 32 := (by decide : ∀ l ≤ 5, 1 ≤ 2 ^ l ∧ 2 ^ l ≤ 32) l h
def undI (x : Int) : Int × Int := if 0 ≤ x ∧ x < 63 then ((lo x.toNat : Int), (hi x.toNat : Int)) else (0, -1)
theorem und_eq : ∀ n : Nat, n < 63 → iquo .i64 (isub .i64 (n : Int) (isub .i64 ((2 ^ lv n : Nat) : Int) 1)) 2 = (lo n : Int) ∧ iquo .i64 (iadd .i64 (n : Int) (isub .i64 ((2 ^ lv n : Nat) : Int) 1)) 2 = (hi n : Int) := by decide +kernel
end Go.AM


set_option autoImplicit false
namespace Go.Proofs.YtcnilmidfhpckaaDoor
open Go Go.AM Go.Proofs


variable {Γ : Nat → List AV}



theorem is18_calls (x : Int) (s : AS) : ACalls Tryd.prog Γ 48 [.v (.int .i64 x)] s (fun r s' => r = .v (.bool (decide (0 ≤ x ∧ x < 63))) ∧ s' = s) := by
  refine acalls_body Tryd.func48 rfl Tryd.ntmps48 Tryd.results48 (by simp) ?_
  refine wS fun K hK => ?_
  simp only [↓DN,UP,DF,Qa,Qb,Qc,Qd,Qe,Qf,Qg,Qh,reduceCtorEq,↓reduceIte,Na,Nb,Nc,Nk,Nf,Ng,Nh,Za,Zb,Zc,TT]
  refine hK _ _ ?_;clear hK K
  by_cases h : 0 ≤ x
  · refine wS fun K hK => ?_
    simp only [↓DN,UP,DF,Qa,Qb,Qc,Qd,Qe,Qf,Qg,Qh,reduceCtorEq,↓reduceIte,Na,Nb,Nc,Nk,Nf,Ng,Nh,Za,Zb,Zc,TT, decide_eq_true h]
    refine hK _ _ ?_;clear hK K
    refine awp_ret ?_
    try simp only [thenQ, blockQ]
    simp only [retQ, AEnds, aresL, ares, List.toList_toArray, ↓upd_same]; try simp only [UP,DF,Nc,↓reduceIte,DT]
    exact ⟨_, _, AV.weak.refl _, AS.le.refl _, by simp [h], rfl⟩
  · refine wS fun K hK => ?_
    simp only [↓DN,UP,DF,Qa,Qb,Qc,Qd,Qe,Qf,Qg,Qh,reduceCtorEq,↓reduceIte,Na,Nb,Nc,Nk,Nf,Ng,Nh,Za,Zb,Zc,TT, decide_eq_false h]
    refine hK _ _ ?_;clear hK K
    refine awp_ret ?_
    try simp only [thenQ, blockQ]
    simp only [retQ, AEnds, aresL, ares, List.toList_toArray, ↓upd_same]; try simp only [UP,DF,Nc,↓reduceIte,DT]
    exact ⟨_, _, AV.weak.refl _, AS.le.refl _, by simp [h], rfl⟩

theorem tz64_calls (hG : Γ 1 = dB64.map u8C) (n : Nat) (hn : n < 63) (s : AS) : ACalls Tryd.prog Γ 53 [.v (.int .u64 ((n + 1 : Nat) : Int))] s (fun r s' => r = .v (.int .i64 (lv n)) ∧ s' = s) := by
  refine acalls_body Tryd.func53 rfl Tryd.ntmps53 Tryd.results53 (by simp) ?_
  have h0 : (((n + 1 : Nat) : Int) == 0) = false := by simp; omega
  refine wS fun K hK => ?_
  simp only [↓DN,UP,DF,Qa,Qb,Qc,Qd,Qe,Qf,Qg,Qh,reduceCtorEq,↓reduceIte,Na,Nb,Nc,Nk,Nf,Ng,Nh,Za,Zb,Zc,TT]
  refine hK _ _ ?_;clear hK K
  refine wK fun K hK => ?_
  refine wS fun K hK => ?_
  simp only [↓DN,UP,DF,Qa,Qb,Qc,Qd,Qe,Qf,Qg,Qh,reduceCtorEq,↓reduceIte,Na,Nb,Nc,Nk,Nf,Ng,Nh,Za,Zb,Zc,TT, h0]
  refine hK _ _ ?_;clear hK K
  refine wC fun X Y hX hY => ?_
  simp only [↓DN,UP,DF,Qa,Qb,Qc,Qd,Qe,Qf,Qg,Qh,reduceCtorEq,↓reduceIte,Na,Nb,Nc,Nk,Nf,Ng,Nh,Za,Zb,Zc,TT, DB]
  refine hY ?_;clear hX hY X Y
  refine awp_skip ?_
  refine hK _ _ ?_;clear hK K
  obtain ⟨k, hk, hidx, hget⟩ := tz_idx n hn
  have hl := lv_le n
  have hk0 : ((0 : Int) ≤ (k : Int)) = True := eq_true (by omega)
  have hk1 : ((k : Int) < ((64 : Nat) : Int)) = True := eq_true (by omega)
  refine wS fun K hK => ?_
  simp only [↓DN,UP,DF,Qa,Qb,Qc,Qd,Qe,Qf,Qg,Qh,reduceCtorEq,↓reduceIte,Na,Nb,Nc,Nk,Nf,Ng,Nh,Za,Zb,Zc,TT, hG, hidx, hk0, hk1, hget, u8C, i64_conv (show lv n < 2 ^ 62 by omega)]
  refine hK _ _ ?_;clear hK K
  refine awp_ret ?_
  try simp only [thenQ, blockQ]
  simp only [retQ, AEnds, aresL, ares, List.toList_toArray, ↓upd_same]; try simp only [UP,DF,Nc,↓reduceIte,DT]
  exact ⟨_, _, AV.weak.refl _, AS.le.refl _, rfl, rfl⟩

theorem tz_calls (hG : Γ 1 = dB64.map u8C) (n : Nat) (hn : n < 63) (s : AS) : ACalls Tryd.prog Γ 50 [.v (.int .u64 ((n + 1 : Nat) : Int))] s (fun r s' => r = .v (.int .i64 (lv n)) ∧ s' = s) := by
  refine acalls_body Tryd.func50 rfl Tryd.ntmps50 Tryd.results50 (by simp) ?_
  refine wS fun K hK => ?_
  simp only [↓DN,UP,DF,Qa,Qb,Qc,Qd,Qe,Qf,Qg,Qh,reduceCtorEq,↓reduceIte,Na,Nb,Nc,Nk,Nf,Ng,Nh,Za,Zb,Zc,TT]
  refine hK _ _ ?_;clear hK K
  refine wK fun K hK => ?_
  refine wC fun X Y hX hY => ?_
  simp only [↓DN,UP,DF,Qa,Qb,Qc,Qd,Qe,Qf,Qg,Qh,reduceCtorEq,↓reduceIte,Na,Nb,Nc,Nk,Nf,Ng,Nh,Za,Zb,Zc,TT, DB]
  refine hY ?_;clear hX hY X Y
  refine awp_skip ?_
  refine hK _ _ ?_;clear hK K
  refine wS fun K hK => ?_
  simp only [↓DN,UP,DF,Qa,Qb,Qc,Qd,Qe,Qf,Qg,Qh,reduceCtorEq,↓reduceIte,Na,Nb,Nc,Nk,Nf,Ng,Nh,Za,Zb,Zc,TT]
  refine acallk (tz64_calls hG n hn _) ?_
  rintro r s1 ⟨rfl, rfl⟩
  simp only [↓AXq_nil,↓AXq_cons,pval,DX,Nat.reduceBEq,↓DN,UP,DF,Qa,Qb,Qc,Qd,Qe,Qf,Qg,Qh,reduceCtorEq,↓reduceIte,Na,Nb,Nc,Nk,Nf,Ng,Nh,Za,Zb,Zc,TT]
  refine hK _ _ ?_;clear hK K
  refine awp_ret ?_
  try simp only [thenQ, blockQ]
  simp only [retQ, AEnds, aresL, ares, List.toList_toArray, ↓upd_same]; try simp only [UP,DF,Nc,↓reduceIte,DT]
  exact ⟨_, _, AV.weak.refl _, AS.le.refl _, rfl, rfl⟩

theorem level_calls (hG : Γ 1 = dB64.map u8C) (x : Int) (s : AS) : ACalls Tryd.prog Γ 45 [.v (.int .i64 x)] s (fun r s' => r = .v (.int .i64 (lvI x)) ∧ s' = s) := by
  refine acalls_body Tryd.func45 rfl Tryd.ntmps45 Tryd.results45 (by simp) ?_
  refine wS fun K hK => ?_
  simp only [↓DN,UP,DF,Qa,Qb,Qc,Qd,Qe,Qf,Qg,Qh,reduceCtorEq,↓reduceIte,Na,Nb,Nc,Nk,Nf,Ng,Nh,Za,Zb,Zc,TT]
  refine hK _ _ ?_;clear hK K
  refine wK fun K hK => ?_
  refine wS fun K hK => ?_
  simp only [↓DN,UP,DF,Qa,Qb,Qc,Qd,Qe,Qf,Qg,Qh,reduceCtorEq,↓reduceIte,Na,Nb,Nc,Nk,Nf,Ng,Nh,Za,Zb,Zc,TT]
  refine acallk (is18_calls x _) ?_
  rintro r s1 ⟨rfl, rfl⟩
  by_cases h : 0 ≤ x ∧ x < 63
  · obtain ⟨n, rfl⟩ := Int.eq_ofNat_of_zero_le h.1
    have hn : n < 63 := by omega
    rw [decide_eq_true h]
    simp only [↓AXq_nil,↓AXq_cons,pval,DX,Nat.reduceBEq,↓DN,UP,DF,Qa,Qb,Qc,Qd,Qe,Qf,Qg,Qh,reduceCtorEq,↓reduceIte,Na,Nb,Nc,Nk,Nf,Ng,Nh,Za,Zb,Zc,TT]
    refine hK _ _ ?_;clear hK K
    refine wC fun X Y hX hY => ?_
    simp only [↓DN,UP,DF,Qa,Qb,Qc,Qd,Qe,Qf,Qg,Qh,reduceCtorEq,↓reduceIte,Na,Nb,Nc,Nk,Nf,Ng,Nh,Za,Zb,Zc,TT, DB]
    refine hY ?_;clear hX hY X Y
    refine awp_skip ?_
    refine hK _ _ ?_;clear hK K
    have e1 : iconv .u64 (iadd .i64 (n : Int) 1) = ((n + 1 : Nat) : Int) := by rw [eye_succ n (by omega), u64_conv (by omega)]
    refine wS fun K hK => ?_
    simp only [↓DN,UP,DF,Qa,Qb,Qc,Qd,Qe,Qf,Qg,Qh,reduceCtorEq,↓reduceIte,Na,Nb,Nc,Nk,Nf,Ng,Nh,Za,Zb,Zc,TT, e1]
    refine acallk (tz_calls hG n hn _) ?_
    rintro r s2 ⟨rfl, rfl⟩
    simp only [↓AXq_nil,↓AXq_cons,pval,DX,Nat.reduceBEq,↓DN,UP,DF,Qa,Qb,Qc,Qd,Qe,Qf,Qg,Qh,reduceCtorEq,↓reduceIte,Na,Nb,Nc,Nk,Nf,Ng,Nh,Za,Zb,Zc,TT]
    refine hK _ _ ?_;clear hK K
    refine awp_ret ?_
    try simp only [thenQ, blockQ]
    simp only [retQ, AEnds, aresL, ares, List.toList_toArray, ↓upd_same]; try simp only [UP,DF,Nc,↓reduceIte,DT]
    rw [lvI_nat hn]
    exact ⟨_, _, AV.weak.refl _, AS.le.refl _, rfl, rfl⟩
  · rw [decide_eq_false h]
    simp only [↓AXq_nil,↓AXq_cons,pval,DX,Nat.reduceBEq,↓DN,UP,DF,Qa,Qb,Qc,Qd,Qe,Qf,Qg,Qh,reduceCtorEq,↓reduceIte,Na,Nb,Nc,Nk,Nf,Ng,Nh,Za,Zb,Zc,TT]
    refine hK _ _ ?_;clear hK K
    refine wC fun X Y hX hY => ?_
    simp only [↓DN,UP,DF,Qa,Qb,Qc,Qd,Qe,Qf,Qg,Qh,reduceCtorEq,↓reduceIte,Na,Nb,Nc,Nk,Nf,Ng,Nh,Za,Zb,Zc,TT, DB]
    refine hX ?_;clear hX hY X Y
    refine wS fun K hK => ?_
    simp only [↓DN,UP,DF,Qa,Qb,Qc,Qd,Qe,Qf,Qg,Qh,reduceCtorEq,↓reduceIte,Na,Nb,Nc,Nk,Nf,Ng,Nh,Za,Zb,Zc,TT]
    refine hK _ _ ?_;clear hK K
    refine awp_ret ?_
    try simp only [thenQ, blockQ]
    simp only [retQ, AEnds, aresL, ares, List.toList_toArray, ↓upd_same]; try simp only [UP,DF,Nc,↓reduceIte,DT]
    rw [show lvI x = 0 from if_neg h]
    exact ⟨_, _, AV.weak.refl _, AS.le.refl _, rfl, rfl⟩

theorem under18_calls (hG : Γ 1 = dB64.map u8C) (x : Int) (s : AS) : ACalls Tryd.prog Γ 41 [.v (.int .i64 x)] s (fun r s' => r = .tup [.v (.int .i64 (undI x).1), .v (.int .i64 (undI x).2)] ∧ s' = s) := by
  refine acalls_body Tryd.func41 rfl Tryd.ntmps41 Tryd.results41 (by simp) ?_
  refine wS fun K hK => ?_
  simp only [↓DN,UP,DF,Qa,Qb,Qc,Qd,Qe,Qf,Qg,Qh,reduceCtorEq,↓reduceIte,Na,Nb,Nc,Nk,Nf,Ng,Nh,Za,Zb,Zc,TT]
  refine hK _ _ ?_;clear hK K
  refine wK fun K hK => ?_
  refine wS fun K hK => ?_
  simp only [↓DN,UP,DF,Qa,Qb,Qc,Qd,Qe,Qf,Qg,Qh,reduceCtorEq,↓reduceIte,Na,Nb,Nc,Nk,Nf,Ng,Nh,Za,Zb,Zc,TT]
  refine acallk (is18_calls x _) ?_
  rintro r s1 ⟨rfl, rfl⟩
  by_cases h : 0 ≤ x ∧ x < 63
  · obtain ⟨n, rfl⟩ := Int.eq_ofNat_of_zero_le h.1
    have hn : n < 63 := by omega
    have hl := lv_le n
    have hp := pow_le5 hl
    obtain ⟨u1, u2⟩ := und_eq n hn
    rw [decide_eq_true h]
    simp only [↓AXq_nil,↓AXq_cons,pval,DX,Nat.reduceBEq,↓DN,UP,DF,Qa,Qb,Qc,Qd,Qe,Qf,Qg,Qh,reduceCtorEq,↓reduceIte,Na,Nb,Nc,Nk,Nf,Ng,Nh,Za,Zb,Zc,TT]
    refine hK _ _ ?_;clear hK K
    refine wC fun X Y hX hY => ?_
    simp only [↓DN,UP,DF,Qa,Qb,Qc,Qd,Qe,Qf,Qg,Qh,reduceCtorEq,↓reduceIte,Na,Nb,Nc,Nk,Nf,Ng,Nh,Za,Zb,Zc,TT, DB]
    refine hY ?_;clear hX hY X Y
    refine awp_skip ?_
    refine hK _ _ ?_;clear hK K
    refine wS fun K hK => ?_
    simp only [↓DN,UP,DF,Qa,Qb,Qc,Qd,Qe,Qf,Qg,Qh,reduceCtorEq,↓reduceIte,Na,Nb,Nc,Nk,Nf,Ng,Nh,Za,Zb,Zc,TT]
    refine acallk (level_calls hG n _) ?_
    rintro r s2 ⟨rfl, rfl⟩
    simp only [↓AXq_nil,↓AXq_cons,pval,DX,Nat.reduceBEq,↓DN,UP,DF,Qa,Qb,Qc,Qd,Qe,Qf,Qg,Qh,reduceCtorEq,↓reduceIte,Na,Nb,Nc,Nk,Nf,Ng,Nh,Za,Zb,Zc,TT, lvI_nat hn, sh_one hl]
    refine hK _ _ ?_;clear hK K
    refine wS fun K hK => ?_
    simp only [↓DN,UP,DF,Qa,Qb,Qc,Qd,Qe,Qf,Qg,Qh,reduceCtorEq,↓reduceIte,Na,Nb,Nc,Nk,Nf,Ng,Nh,Za,Zb,Zc,TT, u1, u2]
    refine hK _ _ ?_;clear hK K
    refine awp_ret ?_
    try simp only [thenQ, blockQ]
    simp only [retQ, AEnds, aresL, ares, List.toList_toArray, ↓upd_same]; try simp only [UP,DF,Nc,↓reduceIte,DT]
    rw [show undI (n : Int) = ((lo n : Int), (hi n : Int)) from if_pos h]
    exact ⟨_, _, AV.weak.refl _, AS.le.refl _, rfl, rfl⟩
  · rw [decide_eq_false h]
    simp only [↓AXq_nil,↓AXq_cons,pval,DX,Nat.reduceBEq,↓DN,UP,DF,Qa,Qb,Qc,Qd,Qe,Qf,Qg,Qh,reduceCtorEq,↓reduceIte,Na,Nb,Nc,Nk,Nf,Ng,Nh,Za,Zb,Zc,TT]
    refine hK _ _ ?_;clear hK K
    refine wC fun X Y hX hY => ?_
    simp only [↓DN,UP,DF,Qa,Qb,Qc,Qd,Qe,Qf,Qg,Qh,reduceCtorEq,↓reduceIte,Na,Nb,Nc,Nk,Nf,Ng,Nh,Za,Zb,Zc,TT, DB]
    refine hX ?_;clear hX hY X Y
    refine wS fun K hK => ?_
    simp only [↓DN,UP,DF,Qa,Qb,Qc,Qd,Qe,Qf,Qg,Qh,reduceCtorEq,↓reduceIte,Na,Nb,Nc,Nk,Nf,Ng,Nh,Za,Zb,Zc,TT]
    refine hK _ _ ?_;clear hK K
    refine awp_ret ?_
    try simp only [thenQ, blockQ]
    simp only [retQ, AEnds, aresL, ares, List.toList_toArray, ↓upd_same]; try simp only [UP,DF,Nc,↓reduceIte,DT]
    rw [show undI x = (0, -1) from if_neg h]
    exact ⟨_, _, AV.weak.refl _, AS.le.refl _, rfl, rfl⟩

end Go.Proofs.YtcnilmidfhpckaaDoor


set_option autoImplicit false
namespace Go.AM
open Go

/-! ### Tests, as a walk meets them -/
theorem yesI {a b : Int} (h : a = b) : (a == b) = true := by simpa using h
theorem notI {a b : Int} (h : a ≠ b) : (a == b) = false := by simpa using h
theorem two0 : ((2 : Int) = 0) = False := by decide
theorem nat0 {a : Nat} (h : a = 0) : ((a : Int) == 0) = true := by subst h; rfl
theorem nat0F {a : Nat} (h : a ≠ 0) : ((a : Int) == 0) = false := by simpa using h
theorem natN {a k : Nat} (h : a = k) : ((a : Int) == (k : Int)) = true := by subst h; simp
theorem natF {a k : Nat} (h : a ≠ k) : ((a : Int) == (k : Int)) = false := by simp only [beq_eq_false_iff_ne, ne_eq]; omega
theorem natNe {a b : Nat} (h : a ≠ b) : ((a : Int) != (b : Int)) = true := by simp only [bne_iff_ne, ne_eq]; omega
theorem natEq {a b : Nat} (h : a = b) : ((a : Int) != (b : Int)) = false := by subst h; simp
theorem eye_succM (i : Nat) (h : i < 9223372036854775807) : iadd .i64 (i : Int) 1 = ((i + 1 : Nat) : Int) := by
  rw [iadd_i64 (by omega)]; omega
theorem iquo_nat (m : Nat) (h : m < 9223372036854775807) : iquo .i64 (m : Int) 2 = ((m / 2 : Nat) : Int) := by
  have e : (m : Int).tdiv 2 = ((m / 2 : Nat) : Int) := (Int.ofNat_tdiv m 2).symm
  unfold iquo
  rw [e]
  exact IntWalk.i64_in _ (by omega)
theorem imul2_nat (m : Nat) (h : m < 4611686018427387904) : imul .i64 2 (m : Int) = ((2 * m : Nat) : Int) := by
  rw [imul_i64 (by omega)]; omega
end Go.AM


set_option autoImplicit false
namespace Go.AM
open Go

theorem fit_and : ∀ n : Nat, n ≤ 32 → 1 ≤ n → (iand .i64 (n : Int) (isub .i64 (n : Int) 1) == 0) = decide (Fit n) := by decide +kernel
theorem fitI_nat {n : Nat} : fitI (n : Int) ↔ Fit n := by unfold fitI; rw [Int.toNat_natCast]; exact ⟨fun h => h.2, fun h => ⟨by omega, h⟩⟩
theorem fitI_bounds {x : Int} (h : fitI x) : 1 ≤ x ∧ x ≤ 32 := by have := h.2.le; have := h.1; omega
def widI (x : Int) : Int := if fitI x then 2 * x - 1 else 0
def aboveN (n l : Nat) : Option Nat := if n = l - 1 then none else some (up1 n)
theorem above_and : ∀ n : Nat, n < 63 → (iand .i64 (n : Int) (imul .i64 2 ((2 ^ lv n : Nat) : Int)) == 0) = decide (n / 2 ^ (lv n + 1) % 2 = 0) ∧ iadd .i64 (n : Int) ((2 ^ lv n : Nat) : Int) = ((n + 2 ^ lv n : Nat) : Int) ∧
    (¬ n / 2 ^ (lv n + 1) % 2 = 0 → isub .i64 (n : Int) ((2 ^ lv n : Nat) : Int) = ((n - 2 ^ lv n : Nat) : Int)) := by decide +kernel
/-- Where the walk up stands. -/
def nodeAt (leaf l : Nat) : Nat → Nat
  | 0 => 2 * leaf
  | i + 1 => (pathL leaf l).getD i 0
theorem Fit.pow {n : Nat} (h : Fit n) : ∃ m, m ≤ 5 ∧ n = 2 ^ m := by
  rcases h with rfl | rfl | rfl | rfl | rfl | rfl
  · exact ⟨0, by decide, rfl⟩
  · exact ⟨1, by decide, rfl⟩
  · exact ⟨2, by decide, rfl⟩
  · exact ⟨3, by decide, rfl⟩
  · exact ⟨4, by decide, rfl⟩
  · exact ⟨5, by decide, rfl⟩
theorem path_steps {leaf l : Nat} (hl : Fit l) (h : leaf < l) {i : Nat} (hi : i ≤ (pathL leaf l).length) : nodeAt leaf l i < 2 * l - 1 ∧ aboveN (nodeAt leaf l i) l = (pathL leaf l)[i]? := by
  obtain ⟨m, hm, rfl⟩ := hl.pow
  exact (by decide +kernel : ∀ m ≤ 5, ∀ leaf < 2 ^ m, ∀ i ≤ (pathL leaf (2 ^ m)).length, nodeAt leaf (2 ^ m) i < 2 * 2 ^ m - 1 ∧ aboveN (nodeAt leaf (2 ^ m) i) (2 ^ m) = (pathL leaf (2 ^ m))[i]?) m hm leaf h i hi
theorem path_len {leaf l : Nat} (hl : Fit l) (h : leaf < l) : (pathL leaf l).length ≤ 5 := by
  obtain ⟨m, hm, rfl⟩ := hl.pow
  exact (by decide +kernel : ∀ m ≤ 5, ∀ leaf < 2 ^ m, (pathL leaf (2 ^ m)).length ≤ 5) m hm leaf h
theorem path_mem {leaf l : Nat} (hl : Fit l) (h : leaf < l) : ∀ x ∈ pathL leaf l, x < 2 * l - 1 ∧ x % 2 = 1 ∧ lo x ≤ leaf ∧ leaf ≤ hi x := by
  obtain ⟨m, hm, rfl⟩ := hl.pow
  exact (by decide +kernel : ∀ m ≤ 5, ∀ leaf < 2 ^ m, ∀ x ∈ pathL leaf (2 ^ m), x < 2 * 2 ^ m - 1 ∧ x % 2 = 1 ∧ lo x ≤ leaf ∧ leaf ≤ hi x) m hm leaf h

/-! the reference's halving -/
/-- Whole numbers as cells. -/
def natsI (l : List Nat) : List Int := l.map fun (n : Nat) => (n : Int)
theorem natsI_len (l : List Nat) : (natsI l).length = l.length := by simp [natsI]
end Go.AM


set_option autoImplicit false
namespace Go.Proofs.YtcnilmidfhpckaaDoor
open Go Go.AM Go.Proofs


variable {Γ : Nat → List AV}

theorem fits18_calls (x : Int) (s : AS) : ACalls Tryd.prog Γ 34 [.v (.int .i64 x)] s (fun r s' => r = .v (.bool (decide (fitI x))) ∧ s' = s) := by
  refine acalls_body Tryd.func34 rfl Tryd.ntmps34 Tryd.results34 (by simp) ?_
  refine wS fun K hK => ?_
  simp only [↓DN,UP,DF,Qa,Qb,Qc,Qd,Qe,Qf,Qg,Qh,reduceCtorEq,↓reduceIte,Na,Nb,Nc,Nk,Nf,Ng,Nh,Za,Zb,Zc,TT]
  refine hK _ _ ?_;clear hK K
  by_cases h1 : 1 ≤ x
  · by_cases h2 : x ≤ 32
    · obtain ⟨n, rfl⟩ := Int.eq_ofNat_of_zero_le (show 0 ≤ x by omega)
      refine wS fun K hK => ?_
      simp only [↓DN,UP,DF,Qa,Qb,Qc,Qd,Qe,Qf,Qg,Qh,reduceCtorEq,↓reduceIte,Na,Nb,Nc,Nk,Nf,Ng,Nh,Za,Zb,Zc,TT, decide_eq_true h1, decide_eq_true h2, fit_and n (by omega) (by omega)]
      refine hK _ _ ?_;clear hK K
      refine awp_ret ?_
      try simp only [thenQ, blockQ]
      simp only [retQ, AEnds, aresL, ares, List.toList_toArray, ↓upd_same]; try simp only [UP,DF,Nc,↓reduceIte,DT]
      exact ⟨_, _, AV.weak.refl _, AS.le.refl _, by simp only [fitI_nat], rfl⟩
    · have hn : decide (fitI x) = false := decide_eq_false fun h => by have := fitI_bounds h; omega
      refine wS fun K hK => ?_
      simp only [↓DN,UP,DF,Qa,Qb,Qc,Qd,Qe,Qf,Qg,Qh,reduceCtorEq,↓reduceIte,Na,Nb,Nc,Nk,Nf,Ng,Nh,Za,Zb,Zc,TT, decide_eq_true h1, decide_eq_false h2]
      refine hK _ _ ?_;clear hK K
      refine awp_ret ?_
      try simp only [thenQ, blockQ]
      simp only [retQ, AEnds, aresL, ares, List.toList_toArray, ↓upd_same]; try simp only [UP,DF,Nc,↓reduceIte,DT]
      rw [hn]
      exact ⟨_, _, AV.weak.refl _, AS.le.refl _, rfl, rfl⟩
  · have hn : decide (fitI x) = false := decide_eq_false fun h => by have := fitI_bounds h; omega
    refine wS fun K hK => ?_
    simp only [↓DN,UP,DF,Qa,Qb,Qc,Qd,Qe,Qf,Qg,Qh,reduceCtorEq,↓reduceIte,Na,Nb,Nc,Nk,Nf,Ng,Nh,Za,Zb,Zc,TT, decide_eq_false h1]
    refine hK _ _ ?_;clear hK K
    refine awp_ret ?_
    try simp only [thenQ, blockQ]
    simp only [retQ, AEnds, aresL, ares, List.toList_toArray, ↓upd_same]; try simp only [UP,DF,Nc,↓reduceIte,DT]
    rw [hn]
    exact ⟨_, _, AV.weak.refl _, AS.le.refl _, rfl, rfl⟩

theorem width18_calls (x : Int) (s : AS) : ACalls Tryd.prog Γ 25 [.v (.int .i64 x)] s (fun r s' => r = .v (.int .i64 (widI x)) ∧ s' = s) := by
  refine acalls_body Tryd.func25 rfl Tryd.ntmps25 Tryd.results25 (by simp) ?_
  refine wS fun K hK => ?_
  simp only [↓DN,UP,DF,Qa,Qb,Qc,Qd,Qe,Qf,Qg,Qh,reduceCtorEq,↓reduceIte,Na,Nb,Nc,Nk,Nf,Ng,Nh,Za,Zb,Zc,TT]
  refine hK _ _ ?_;clear hK K
  refine wK fun K hK => ?_
  refine wS fun K hK => ?_
  simp only [↓DN,UP,DF,Qa,Qb,Qc,Qd,Qe,Qf,Qg,Qh,reduceCtorEq,↓reduceIte,Na,Nb,Nc,Nk,Nf,Ng,Nh,Za,Zb,Zc,TT]
  refine acallk (fits18_calls x _) ?_
  rintro r s1 ⟨rfl, rfl⟩
  by_cases h : fitI x
  · have hb := fitI_bounds h
    rw [decide_eq_true h]
    simp only [↓AXq_nil,↓AXq_cons,pval,DX,Nat.reduceBEq,↓DN,UP,DF,Qa,Qb,Qc,Qd,Qe,Qf,Qg,Qh,reduceCtorEq,↓reduceIte,Na,Nb,Nc,Nk,Nf,Ng,Nh,Za,Zb,Zc,TT]
    refine hK _ _ ?_;clear hK K
    refine wC fun X Y hX hY => ?_
    simp only [↓DN,UP,DF,Qa,Qb,Qc,Qd,Qe,Qf,Qg,Qh,reduceCtorEq,↓reduceIte,Na,Nb,Nc,Nk,Nf,Ng,Nh,Za,Zb,Zc,TT, DB]
    refine hY ?_;clear hX hY X Y
    refine awp_skip ?_
    refine hK _ _ ?_;clear hK K
    refine wS fun K hK => ?_
    simp only [↓DN,UP,DF,Qa,Qb,Qc,Qd,Qe,Qf,Qg,Qh,reduceCtorEq,↓reduceIte,Na,Nb,Nc,Nk,Nf,Ng,Nh,Za,Zb,Zc,TT]
    refine hK _ _ ?_;clear hK K
    refine awp_ret ?_
    try simp only [thenQ, blockQ]
    simp only [retQ, AEnds, aresL, ares, List.toList_toArray, ↓upd_same]; try simp only [UP,DF,Nc,↓reduceIte,DT]
    rw [imul_i64 (a := 2) (b := x) (by omega), isub_i64 (a := 2 * x) (b := 1) (by omega), show widI x = 2 * x - 1 from if_pos h]
    exact ⟨_, _, AV.weak.refl _, AS.le.refl _, rfl, rfl⟩
  · rw [decide_eq_false h]
    simp only [↓AXq_nil,↓AXq_cons,pval,DX,Nat.reduceBEq,↓DN,UP,DF,Qa,Qb,Qc,Qd,Qe,Qf,Qg,Qh,reduceCtorEq,↓reduceIte,Na,Nb,Nc,Nk,Nf,Ng,Nh,Za,Zb,Zc,TT]
    refine hK _ _ ?_;clear hK K
    refine wC fun X Y hX hY => ?_
    simp only [↓DN,UP,DF,Qa,Qb,Qc,Qd,Qe,Qf,Qg,Qh,reduceCtorEq,↓reduceIte,Na,Nb,Nc,Nk,Nf,Ng,Nh,Za,Zb,Zc,TT, DB]
    refine hX ?_;clear hX hY X Y
    refine wS fun K hK => ?_
    simp only [↓DN,UP,DF,Qa,Qb,Qc,Qd,Qe,Qf,Qg,Qh,reduceCtorEq,↓reduceIte,Na,Nb,Nc,Nk,Nf,Ng,Nh,Za,Zb,Zc,TT]
    refine hK _ _ ?_;clear hK K
    refine awp_ret ?_
    try simp only [thenQ, blockQ]
    simp only [retQ, AEnds, aresL, ares, List.toList_toArray, ↓upd_same]; try simp only [UP,DF,Nc,↓reduceIte,DT]
    rw [show widI x = 0 from if_neg h]
    exact ⟨_, _, AV.weak.refl _, AS.le.refl _, rfl, rfl⟩

theorem widI_nat {l : Nat} (h : Fit l) : widI (l : Int) = ((2 * l - 1 : Nat) : Int) := by
  have := h.le
  unfold widI
  rw [if_pos (fitI_nat.2 h)]
  omega

theorem above18_calls (hG : Γ 1 = dB64.map u8C) (n l : Nat) (hl : Fit l) (hn : n < 2 * l - 1) (s : AS) : ACalls Tryd.prog Γ 35 [.v (.int .i64 n), .v (.int .i64 l)] s
    (fun r s' => r = .tup [.v (.int .i64 ((aboveN n l).getD 0)), .v (.bool (aboveN n l).isSome)] ∧ s' = s) := by
  refine acalls_body Tryd.func35 rfl Tryd.ntmps35 Tryd.results35 (by simp) ?_
  have hl' := hl.le
  have hn63 : n < 63 := by omega
  have h0 : decide ((n : Int) < 0) = false := decide_eq_false (by omega)
  have h1 : decide (((2 * l - 1 : Nat) : Int) ≤ (n : Int)) = false := decide_eq_false (by omega)
  have hw := widI_nat hl
  have hp := pow_le5 (lv_le n)
  obtain ⟨a1, a2, a3⟩ := above_and n hn63
  refine wS fun K hK => ?_
  simp only [↓DN,UP,DF,Qa,Qb,Qc,Qd,Qe,Qf,Qg,Qh,reduceCtorEq,↓reduceIte,Na,Nb,Nc,Nk,Nf,Ng,Nh,Za,Zb,Zc,TT]
  refine hK _ _ ?_;clear hK K
  refine wK fun K hK => ?_
  refine wS fun K hK => ?_
  simp only [↓DN,UP,DF,Qa,Qb,Qc,Qd,Qe,Qf,Qg,Qh,reduceCtorEq,↓reduceIte,Na,Nb,Nc,Nk,Nf,Ng,Nh,Za,Zb,Zc,TT, h0]
  refine acallk (width18_calls l _) ?_
  rintro r s1 ⟨rfl, rfl⟩
  by_cases he : n = l - 1
  · have h2 : (((n : Nat) : Int) == isub .i64 (l : Int) 1) = true := by rw [isub_i64 (by omega), beq_iff_eq]; omega
    simp only [↓AXq_nil,↓AXq_cons,pval,DX,Nat.reduceBEq,↓DN,UP,DF,Qa,Qb,Qc,Qd,Qe,Qf,Qg,Qh,reduceCtorEq,↓reduceIte,Na,Nb,Nc,Nk,Nf,Ng,Nh,Za,Zb,Zc,TT, hw, h1, h2]
    refine hK _ _ ?_;clear hK K
    refine wC fun X Y hX hY => ?_
    simp only [↓DN,UP,DF,Qa,Qb,Qc,Qd,Qe,Qf,Qg,Qh,reduceCtorEq,↓reduceIte,Na,Nb,Nc,Nk,Nf,Ng,Nh,Za,Zb,Zc,TT, DB]
    refine hX ?_;clear hX hY X Y
    refine wS fun K hK => ?_
    simp only [↓DN,UP,DF,Qa,Qb,Qc,Qd,Qe,Qf,Qg,Qh,reduceCtorEq,↓reduceIte,Na,Nb,Nc,Nk,Nf,Ng,Nh,Za,Zb,Zc,TT]
    refine hK _ _ ?_;clear hK K
    refine awp_ret ?_
    try simp only [thenQ, blockQ]
    simp only [retQ, AEnds, aresL, ares, List.toList_toArray, ↓upd_same]; try simp only [UP,DF,Nc,↓reduceIte,DT]
    rw [show aboveN n l = none from if_pos he]
    exact ⟨_, _, AV.weak.refl _, AS.le.refl _, rfl, rfl⟩
  · have h2 : (((n : Nat) : Int) == isub .i64 (l : Int) 1) = false := by rw [isub_i64 (by omega), beq_eq_false_iff_ne]; omega
    have ha : aboveN n l = some (up1 n) := if_neg he
    simp only [↓AXq_nil,↓AXq_cons,pval,DX,Nat.reduceBEq,↓DN,UP,DF,Qa,Qb,Qc,Qd,Qe,Qf,Qg,Qh,reduceCtorEq,↓reduceIte,Na,Nb,Nc,Nk,Nf,Ng,Nh,Za,Zb,Zc,TT, hw, h1, h2]
    refine hK _ _ ?_;clear hK K
    refine wC fun X Y hX hY => ?_
    simp only [↓DN,UP,DF,Qa,Qb,Qc,Qd,Qe,Qf,Qg,Qh,reduceCtorEq,↓reduceIte,Na,Nb,Nc,Nk,Nf,Ng,Nh,Za,Zb,Zc,TT, DB]
    refine hY ?_;clear hX hY X Y
    refine awp_skip ?_
    refine hK _ _ ?_;clear hK K
    refine wS fun K hK => ?_
    simp only [↓DN,UP,DF,Qa,Qb,Qc,Qd,Qe,Qf,Qg,Qh,reduceCtorEq,↓reduceIte,Na,Nb,Nc,Nk,Nf,Ng,Nh,Za,Zb,Zc,TT]
    refine acallk (level_calls hG n _) ?_
    rintro r s2 ⟨rfl, rfl⟩
    simp only [↓AXq_nil,↓AXq_cons,pval,DX,Nat.reduceBEq,↓DN,UP,DF,Qa,Qb,Qc,Qd,Qe,Qf,Qg,Qh,reduceCtorEq,↓reduceIte,Na,Nb,Nc,Nk,Nf,Ng,Nh,Za,Zb,Zc,TT, lvI_nat hn63, sh_one (lv_le n)]
    refine hK _ _ ?_;clear hK K
    refine wK fun K hK => ?_
    by_cases hb : n / 2 ^ (lv n + 1) % 2 = 0
    · rw [decide_eq_true hb] at a1
      refine wS fun K hK => ?_
      simp only [↓DN,UP,DF,Qa,Qb,Qc,Qd,Qe,Qf,Qg,Qh,reduceCtorEq,↓reduceIte,Na,Nb,Nc,Nk,Nf,Ng,Nh,Za,Zb,Zc,TT, a1]
      refine hK _ _ ?_;clear hK K
      refine wC fun X Y hX hY => ?_
      simp only [↓DN,UP,DF,Qa,Qb,Qc,Qd,Qe,Qf,Qg,Qh,reduceCtorEq,↓reduceIte,Na,Nb,Nc,Nk,Nf,Ng,Nh,Za,Zb,Zc,TT, DB]
      refine hX ?_;clear hX hY X Y
      refine wS fun K hK => ?_
      simp only [↓DN,UP,DF,Qa,Qb,Qc,Qd,Qe,Qf,Qg,Qh,reduceCtorEq,↓reduceIte,Na,Nb,Nc,Nk,Nf,Ng,Nh,Za,Zb,Zc,TT, a2]
      refine hK _ _ ?_;clear hK K
      refine awp_ret ?_
      try simp only [thenQ, blockQ]
      simp only [retQ, AEnds, aresL, ares, List.toList_toArray, ↓upd_same]; try simp only [UP,DF,Nc,↓reduceIte,DT]
      rw [ha, show up1 n = n + 2 ^ lv n from if_pos hb]
      exact ⟨_, _, AV.weak.refl _, AS.le.refl _, rfl, rfl⟩
    · rw [decide_eq_false hb] at a1
      refine wS fun K hK => ?_
      simp only [↓DN,UP,DF,Qa,Qb,Qc,Qd,Qe,Qf,Qg,Qh,reduceCtorEq,↓reduceIte,Na,Nb,Nc,Nk,Nf,Ng,Nh,Za,Zb,Zc,TT, a1]
      refine hK _ _ ?_;clear hK K
      refine wC fun X Y hX hY => ?_
      simp only [↓DN,UP,DF,Qa,Qb,Qc,Qd,Qe,Qf,Qg,Qh,reduceCtorEq,↓reduceIte,Na,Nb,Nc,Nk,Nf,Ng,Nh,Za,Zb,Zc,TT, DB]
      refine hY ?_;clear hX hY X Y
      refine awp_skip ?_
      refine hK _ _ ?_;clear hK K
      refine wS fun K hK => ?_
      simp only [↓DN,UP,DF,Qa,Qb,Qc,Qd,Qe,Qf,Qg,Qh,reduceCtorEq,↓reduceIte,Na,Nb,Nc,Nk,Nf,Ng,Nh,Za,Zb,Zc,TT, a3 hb]
      refine hK _ _ ?_;clear hK K
      refine awp_ret ?_
      try simp only [thenQ, blockQ]
      simp only [retQ, AEnds, aresL, ares, List.toList_toArray, ↓upd_same]; try simp only [UP,DF,Nc,↓reduceIte,DT]
      rw [ha, show up1 n = n - 2 ^ lv n from if_neg hb]
      exact ⟨_, _, AV.weak.refl _, AS.le.refl _, rfl, rfl⟩

def cellN : AV → Nat
  | .sl _ n _ _ => n
  | _ => 0
set_option maxRecDepth 100000 in
set_option maxHeartbeats 4000000 in
theorem path18_calls (hG : Γ 1 = dB64.map u8C) (leaf l : Nat) (hl : Fit l) (hn : leaf < l) (s : AS) : ACalls Tryd.prog Γ 19 [.v (.int .i64 leaf), .v (.int .i64 l)] s
    (fun r s' => r = intsV (natsI (pathL leaf l)) .any ∧ s' = s) := by
  refine acalls_body Tryd.func19 rfl Tryd.ntmps19 Tryd.results19 (by simp) ?_
  have hl' := hl.le
  have hpl := path_len hl hn
  have h0 : decide ((leaf : Int) < 0) = false := decide_eq_false (by omega)
  have h1 : decide ((l : Int) ≤ (leaf : Int)) = false := decide_eq_false (by omega)
  have hst := fun (i : Nat) (h : i ≤ (pathL leaf l).length) => path_steps hl hn h
  have hnx : ∀ i, i < (pathL leaf l).length → nodeAt leaf l (i + 1) = (pathL leaf l).getD i 0 := fun i _ => rfl
  have hna : nodeAt leaf l 0 = 2 * leaf := rfl
  generalize pathL leaf l = P at *
  refine wS fun K hK => ?_
  simp only [↓DN,UP,DF,Qa,Qb,Qc,Qd,Qe,Qf,Qg,Qh,reduceCtorEq,↓reduceIte,Na,Nb,Nc,Nk,Nf,Ng,Nh,Za,Zb,Zc,TT]
  refine hK _ _ ?_;clear hK K
  refine wK fun K hK => ?_
  refine wS fun K hK => ?_
  simp only [↓DN,UP,DF,Qa,Qb,Qc,Qd,Qe,Qf,Qg,Qh,reduceCtorEq,↓reduceIte,Na,Nb,Nc,Nk,Nf,Ng,Nh,Za,Zb,Zc,TT, h0, h1]
  refine hK _ _ ?_;clear hK K
  refine wC fun X Y hX hY => ?_
  simp only [↓DN,UP,DF,Qa,Qb,Qc,Qd,Qe,Qf,Qg,Qh,reduceCtorEq,↓reduceIte,Na,Nb,Nc,Nk,Nf,Ng,Nh,Za,Zb,Zc,TT, DB]
  refine hY ?_;clear hX hY X Y
  refine awp_skip ?_
  refine hK _ _ ?_;clear hK K
  refine wS fun K hK => ?_
  simp only [↓DN,UP,DF,Qa,Qb,Qc,Qd,Qe,Qf,Qg,Qh,reduceCtorEq,↓reduceIte,Na,Nb,Nc,Nk,Nf,Ng,Nh,Za,Zb,Zc,TT]
  refine hK _ _ ?_;clear hK K
  refine wK fun K hK => ?_
  refine wS fun K hK => ?_
  simp only [↓DN,UP,DF,Qa,Qb,Qc,Qd,Qe,Qf,Qg,Qh,reduceCtorEq,↓reduceIte,Na,Nb,Nc,Nk,Nf,Ng,Nh,Za,Zb,Zc,TT]
  obtain ⟨w0, w1⟩ := hst 0 (Nat.zero_le _)
  rw [hna] at w0 w1
  have e0 : imul .i64 2 (leaf : Int) = ((2 * leaf : Nat) : Int) := by rw [imul_i64 (by omega)]; omega
  rw [e0]
  refine acallk (above18_calls hG (2 * leaf) l hl w0 _) ?_
  rintro r s1 ⟨rfl, rfl⟩
  rw [w1]
  simp only [↓AXq_nil,↓AXq_cons,pval,DX,Nat.reduceBEq,↓DN,UP,DF,Qa,Qb,Qc,Qd,Qe,Qf,Qg,Qh,reduceCtorEq,↓reduceIte,Na,Nb,Nc,Nk,Nf,Ng,Nh,Za,Zb,Zc,TT]
  refine hK _ _ ?_;clear hK K
  refine awp_block ?_
  refine awp_loop (fun E s2 => ∃ (i : Nat) (x : AV), i ≤ P.length ∧ E 6 = .v (.int .i64 (((P[i]?).getD 0 : Nat) : Int)) ∧ E 7 = .v (.bool (P[i]?).isSome) ∧ E 1 = .v (.int .i64 l) ∧ E 5 = x ∧ RBuf 1 s1 s2 x i ((natsI (P.take i)).map intC) ∧ s1.le s2)
    (fun E _ => P.length + 1 - cellN (E 5)) ?_ ?_
  · exact ⟨0, nilS, Nat.zero_le _, by simp only [upd, Nc, ↓reduceIte], by simp only [upd, Nc, ↓reduceIte], by simp only [upd, initE, List.getD_cons_zero, List.getD_cons_succ, Nc, ↓reduceIte], by simp only [upd, Nc, ↓reduceIte]; rfl, RBuf.nil _ _ _, AS.le.refl _⟩
  · rintro E1 s2 ⟨i, x, hi, g6, g7, g1, g5, hx, hle⟩ -
    refine wK fun K2 hK2 => ?_
    by_cases hi' : i < P.length
    · have hp : P[i]? = some P[i] := List.getElem?_eq_getElem hi'
      rw [hp] at g6 g7
      simp only [Option.getD_some, Option.isSome_some] at g6 g7
      refine wS fun K hK => ?_
      simp only [↓DN,UP,DF,Qa,Qb,Qc,Qd,Qe,Qf,Qg,Qh,reduceCtorEq,↓reduceIte,Na,Nb,Nc,Nk,Nf,Ng,Nh,Za,Zb,Zc,TT, g7]
      refine hK _ _ ?_;clear hK K
      refine wC fun X Y hX hY => ?_
      simp only [↓DN,UP,DF,Qa,Qb,Qc,Qd,Qe,Qf,Qg,Qh,reduceCtorEq,↓reduceIte,Na,Nb,Nc,Nk,Nf,Ng,Nh,Za,Zb,Zc,TT, DB]
      refine hX ?_;clear hX hY X Y
      refine awp_skip ?_
      refine hK2 _ _ ?_;clear hK2 K2
      refine wK fun K3 hK3 => ?_
      refine awp_block ?_
      have hnode : nodeAt leaf l (i + 1) = P[i] := by rw [hnx i hi', List.getD, hp]; rfl
      obtain ⟨w2, w3⟩ := hst (i + 1) hi'
      rw [hnode] at w2 w3
      have htk : natsI (P.take (i + 1)) = natsI (P.take i) ++ [((P[i] : Nat) : Int)] := by unfold natsI; rw [List.take_succ_eq_append_getElem hi', List.map_append]; rfl
      have hend : ∀ (E : Env) (s3 : AS) (x3 : AV), E 6 = .v (.int .i64 (P[i] : Nat)) → E 1 = .v (.int .i64 l) → E 5 = x3 → RBuf 1 s1 s3 x3 (i + 1) ((natsI (P.take (i + 1))).map intC) → s1.le s3 → K3 E s3 := by
        intro E s3 x3 f6 f1 f5 fx fle
        refine hK3 _ _ ?_;clear hK3 K3
        refine wE fun K hK => ?_
        simp only [↓DN,UP,DF,Qa,Qb,Qc,Qd,Qe,Qf,Qg,Qh,reduceCtorEq,↓reduceIte,Na,Nb,Nc,Nk,Nf,Ng,Nh,Za,Zb,Zc,TT, f6, f1]
        refine acallk (above18_calls hG (P[i]) l hl w2 _) ?_
        rintro r s4 ⟨rfl, rfl⟩
        rw [w3]
        simp only [↓AXq_nil,↓AXq_cons,pval,DX,Nat.reduceBEq,↓DN,UP,DF,Qa,Qb,Qc,Qd,Qe,Qf,Qg,Qh,reduceCtorEq,↓reduceIte,Na,Nb,Nc,Nk,Nf,Ng,Nh,Za,Zb,Zc,TT]
        refine hK _ _ ⟨⟨i + 1, x3, hi', by simp only [upd, Nc, ↓reduceIte], by simp only [upd, Nc, ↓reduceIte], by simp only [upd, f1, Nc, ↓reduceIte], by simp only [upd, f5, Nc, ↓reduceIte], fx, fle⟩, ?_⟩
        have m1 : cellN (E1 5) = i := by
          rw [g5]
          rcases hx with ⟨rfl, rfl, _⟩ | ⟨t, e, rfl, _⟩ <;> rfl
        have m2 : cellN (E 5) = i + 1 := by
          rw [f5]
          rcases fx with ⟨rfl, h, _⟩ | ⟨t, e, rfl, _⟩
          · omega
          · rfl
        simp only [upd, Nc, ↓reduceIte, m1, m2]
        omega
      clear hK3
      rcases hx with ⟨rfl, hi0, hL0⟩ | ⟨t, e, rfl, ht, ht0⟩
      · refine wE fun K hK => ?_
        simp only [↓DN,UP,DF,Qa,Qb,Qc,Qd,Qe,Qf,Qg,Qh,reduceCtorEq,↓reduceIte,Na,Nb,Nc,Nk,Nf,Ng,Nh,Za,Zb,Zc,TT, g5, g6, nilS, List.replicate_succ]
        intro t ht
        refine hK _ _ (hend _ _ (.sl 1 1 [.v (.int .i64 ((P[i] : Nat) : Int))] (.own t 0)) (by simp only [upd, g6, Nc, ↓reduceIte]) (by simp only [upd, g1, Nc, ↓reduceIte]) (by simp only [upd, Nc, ↓reduceIte]) ?_ ?_)
        · refine .inr ⟨t, 0, ?_, by simp [AS.gain], own_none_le hle ht⟩
          rw [htk, List.map_append, hL0]
          subst hi0
          rfl
        · exact AS.le_gain hle (own_none_le hle ht) 0
      · refine wE fun K hK => ?_
        simp only [↓DN,UP,DF,Qa,Qb,Qc,Qd,Qe,Qf,Qg,Qh,reduceCtorEq,↓reduceIte,Na,Nb,Nc,Nk,Nf,Ng,Nh,Za,Zb,Zc,TT, g5, g6, ht, List.replicate_succ]
        have hln : (natsI (P.take i)).length = i := by rw [natsI_len, List.length_take]; omega
        refine ⟨by omega, by omega, hK _ _ (hend _ _ (.sl 1 (i + 1) ((natsI (P.take i)).map intC ++ [.v (.int .i64 ((P[i] : Nat) : Int))]) (.own t (e + 1))) (by simp only [upd, g6, Nc, ↓reduceIte]) (by simp only [upd, g1, Nc, ↓reduceIte]) (by simp only [upd, Nc, ↓reduceIte]) ?_ ?_)⟩
        · exact .inr ⟨t, e + 1, by rw [htk, List.map_append]; rfl, by simp [AS.gain], ht0⟩
        · exact AS.le_gain hle ht0 (e + 1)
    · have hp : P[i]? = none := List.getElem?_eq_none (by omega)
      rw [hp] at g7
      simp only [Option.isSome_none] at g7
      refine wS fun K hK => ?_
      simp only [↓DN,UP,DF,Qa,Qb,Qc,Qd,Qe,Qf,Qg,Qh,reduceCtorEq,↓reduceIte,Na,Nb,Nc,Nk,Nf,Ng,Nh,Za,Zb,Zc,TT, g7]
      refine hK _ _ ?_;clear hK K
      refine wC fun X Y hX hY => ?_
      simp only [↓DN,UP,DF,Qa,Qb,Qc,Qd,Qe,Qf,Qg,Qh,reduceCtorEq,↓reduceIte,Na,Nb,Nc,Nk,Nf,Ng,Nh,Za,Zb,Zc,TT, DB]
      refine hY ?_;clear hX hY X Y
      refine awp_exit ?_
      simp only [thenQ, blockQ, if_true]
      refine hK _ _ ?_;clear hK hK2 K2 K
      obtain rfl : i = P.length := by omega
      rw [List.take_of_length_le (Nat.le_refl _)] at hx
      have hw := hx.weak
      refine wS fun K hK => ?_
      simp only [↓DN,UP,DF,Qa,Qb,Qc,Qd,Qe,Qf,Qg,Qh,reduceCtorEq,↓reduceIte,Na,Nb,Nc,Nk,Nf,Ng,Nh,Za,Zb,Zc,TT, g5]
      refine hK _ _ ?_;clear hK K
      refine awp_ret ?_
      try simp only [thenQ, blockQ]
      simp only [retQ, AEnds, aresL, ares, List.toList_toArray, ↓upd_same]; try simp only [UP,DF,Nc,↓reduceIte,DT]
      refine ⟨_, _, ?_, hle, rfl, rfl⟩
      have hln := natsI_len P
      unfold intsV
      rw [hln]
      exact hw

end Go.Proofs.YtcnilmidfhpckaaDoor


set_option autoImplicit false
namespace Go.Proofs.YtcnilmidfhpckaaDoor
open Go Go.AM Go.Proofs


variable {Γ : Nat → List AV}



set_option maxHeartbeats 400000 in
theorem powerRight_calls (n : Nat) (s : AS) : ACalls Tryd.prog Γ 22 [.v (.int .u64 n)] s (fun r s' => r = .v (.bool (decide (2 ≤ (n : Int)) && decide ((n : Int) ≤ 2305843009213693949))) ∧ s' = s) := by
  refine acalls_body Tryd.func22 rfl Tryd.ntmps22 Tryd.results22 (by simp) ?_
  rcases ff2 (decide (2 ≤ (n : Int))) (decide ((n : Int) ≤ 2305843009213693949)) with hd | hd | hd
  all_goals
    refine wS fun K hK => ?_
    simp only [↓DN,UP,DF,Qa,Qb,Qc,Qd,Qe,Qf,Qg,Qh,reduceCtorEq,↓reduceIte,Na,Nb,Nc,Nk,Nf,Ng,Nh,Za,Zb,Zc,TT]
    refine hK _ _ ?_;clear hK K
    refine wS fun K hK => ?_
    simp only [↓DN,UP,DF,Qa,Qb,Qc,Qd,Qe,Qf,Qg,Qh,reduceCtorEq,↓reduceIte,Na,Nb,Nc,Nk,Nf,Ng,Nh,Za,Zb,Zc,TT, hd]
    refine hK _ _ ?_;clear hK K
    refine awp_ret ?_
    simp only [retQ, AEnds, aresL, ares, List.toList_toArray, ↓upd_same]; try simp only [UP,DF,Nc,↓reduceIte,DT]
    refine ⟨_, _, AV.weak.refl _, AS.le.refl _, ?_, rfl⟩
    simp only [hd, Bool.and_true, Bool.true_and, Bool.false_and, Bool.and_false]

set_option maxHeartbeats 400000 in
theorem bytesEqual_calls (a b : List UInt8) (s : AS) : ACalls Tryd.prog Γ 32 [bytesV a .any, bytesV b .any] s (fun r s' => r = .v (.bool (decide (a = b))) ∧ s' = s) := by
  refine acalls_body Tryd.func32 rfl Tryd.ntmps32 Tryd.results32 (by simp) ?_
  refine wS fun K hK => ?_
  simp only [↓DN,UP,DF,Qa,Qb,Qc,Qd,Qe,Qf,Qg,Qh,reduceCtorEq,↓reduceIte,Na,Nb,Nc,Nk,Nf,Ng,Nh,Za,Zb,Zc,TT]
  refine hK _ _ ?_;clear hK K
  refine wS fun K hK => ?_
  simp only [↓DN,UP,DF,Qa,Qb,Qc,Qd,Qe,Qf,Qg,Qh,reduceCtorEq,↓reduceIte,Na,Nb,Nc,Nk,Nf,Ng,Nh,Za,Zb,Zc,TT, beq_list]
  refine hK _ _ ?_;clear hK K
  refine awp_ret ?_
  simp only [retQ, AEnds, aresL, ares, List.toList_toArray, ↓upd_same]; try simp only [UP,DF,Nc,↓reduceIte,DT]
  exact ⟨_, _, AV.weak.refl _, AS.le.refl _, rfl, rfl⟩

theorem len_bne_false {a b : Nat} (h : a = b) : (((a : Int) != (b : Int))) = false := by subst h; simp
theorem len_bne_true {a b : Nat} (h : a ≠ b) : (((a : Int) != (b : Int))) = true := by simp; omega
theorem int_bne_false {a b : Int} (h : a = b) : (a != b) = false := by subst h; simp
theorem int_bne_true {a b : Int} (h : a ≠ b) : (a != b) = true := by simpa using h

set_option maxHeartbeats 1000000 in
theorem slicesEqual_calls (a b : List Int) (hl : a.length ≤ 2 ^ 61) (s : AS) : ACalls Tryd.prog Γ 40 [intsV a .any, intsV b .any] s (fun r s' => r = .v (.bool (decide (a = b))) ∧ s' = s) := by
  refine acalls_body Tryd.func40 rfl Tryd.ntmps40 Tryd.results40 (by simp) ?_
  unfold intsV
  refine wS fun K hK => ?_
  simp only [↓DN,UP,DF,Qa,Qb,Qc,Qd,Qe,Qf,Qg,Qh,reduceCtorEq,↓reduceIte,Na,Nb,Nc,Nk,Nf,Ng,Nh,Za,Zb,Zc,TT]
  refine hK _ _ ?_;clear hK K
  refine wK fun K hK => ?_
  by_cases h0 : a.length = b.length
  · refine wS fun K hK => ?_
    simp only [↓DN,UP,DF,Qa,Qb,Qc,Qd,Qe,Qf,Qg,Qh,reduceCtorEq,↓reduceIte,Na,Nb,Nc,Nk,Nf,Ng,Nh,Za,Zb,Zc,TT, len_bne_false h0]
    refine hK _ _ ?_;clear hK K
    refine wC fun X Y hX hY => ?_
    simp only [↓DN,UP,DF,Qa,Qb,Qc,Qd,Qe,Qf,Qg,Qh,reduceCtorEq,↓reduceIte,Na,Nb,Nc,Nk,Nf,Ng,Nh,Za,Zb,Zc,TT, DB]
    refine hY ?_;clear hX hY X Y
    refine awp_skip ?_
    refine hK _ _ ?_;clear hK K
    refine wK fun K hK => ?_
    refine wS fun K hK => ?_
    simp only [↓DN,UP,DF,Qa,Qb,Qc,Qd,Qe,Qf,Qg,Qh,reduceCtorEq,↓reduceIte,Na,Nb,Nc,Nk,Nf,Ng,Nh,Za,Zb,Zc,TT]
    refine hK _ _ ?_;clear hK K
    refine awp_block ?_
    refine awp_loop (fun E s1 => ∃ i : Nat, i ≤ a.length ∧ E 13 = .v (.int .i64 i) ∧ E 12 = .v (.int .i64 a.length) ∧ E 0 = .sl 1 a.length (a.map intC) .any ∧ E 1 = .sl 1 b.length (b.map intC) .any ∧ a.take i = b.take i ∧ s1 = s)
      (fun E _ => match E 13 with | .v (.int _ i) => a.length - i.toNat | _ => 0) ?_ ?_
    · exact ⟨0, Nat.zero_le _, by simp [upd], by simp [upd], by simp [upd, initE], by simp [upd, initE], rfl, rfl⟩
    · rintro E1 s1 ⟨i, hi, h13, h12, h00, h1, he, rfl⟩ -
      by_cases hi' : i < a.length
      · have hib : i < b.length := by omega
        refine wS fun K hK => ?_
        simp only [↓DN,UP,DF,Qa,Qb,Qc,Qd,Qe,Qf,Qg,Qh,reduceCtorEq,↓reduceIte,Na,Nb,Nc,Nk,Nf,Ng,Nh,Za,Zb,Zc,TT, h13, h12, eye_lt_nat, decide_eq_true hi']
        refine hK _ _ ?_;clear hK K
        refine wK fun K2 hK2 => ?_
        refine wC fun X Y hX hY => ?_
        simp only [↓DN,UP,DF,Qa,Qb,Qc,Qd,Qe,Qf,Qg,Qh,reduceCtorEq,↓reduceIte,Na,Nb,Nc,Nk,Nf,Ng,Nh,Za,Zb,Zc,TT, DB]
        refine hX ?_;clear hX hY X Y
        refine awp_skip ?_
        refine hK2 _ _ ?_;clear hK2 K2
        refine wK fun K3 hK3 => ?_
        refine awp_block ?_
        refine wS fun K hK => ?_
        simp only [↓DN,UP,DF,Qa,Qb,Qc,Qd,Qe,Qf,Qg,Qh,reduceCtorEq,↓reduceIte,Na,Nb,Nc,Nk,Nf,Ng,Nh,Za,Zb,Zc,TT, h13]
        refine hK _ _ ?_;clear hK K
        have hge : (0 : Int) ≤ (i : Int) := by omega
        have hat := eat_int hi'
        have hbt := eat_int hib
        by_cases hx : a[i] = b[i]
        · refine awp_drw_seq T.mixed [] (by kernel_rfl) ?_
          intro K hK
          simp only [↓AXq_nil,↓AXq_cons,pval,DX,Nat.reduceBEq,↓DN,UP,DF,Qa,Qb,Qc,Qd,Qe,Qf,Qg,Qh,reduceCtorEq,↓reduceIte,Na,Nb,Nc,Nk,Nf,Ng,Nh,Za,Zb,Zc,TT, h13, h00, h1, hge, eye_lt_nat, hi', hib, hat, hbt, int_bne_false hx]
          refine hK _ _ ?_;clear hK K
          refine wC fun X Y hX hY => ?_
          simp only [↓DN,UP,DF,Qa,Qb,Qc,Qd,Qe,Qf,Qg,Qh,reduceCtorEq,↓reduceIte,Na,Nb,Nc,Nk,Nf,Ng,Nh,Za,Zb,Zc,TT, DB]
          refine hY ?_;clear hX hY X Y
          refine awp_skip ?_
          simp only [blockQ, thenQ, if_true, if_false]
          refine hK3 _ _ ?_;clear hK3 K3
          refine wE fun K hK => ?_
          simp only [↓DN,UP,DF,Qa,Qb,Qc,Qd,Qe,Qf,Qg,Qh,reduceCtorEq,↓reduceIte,Na,Nb,Nc,Nk,Nf,Ng,Nh,Za,Zb,Zc,TT, h13, eye_succ i (by omega)]
          refine hK _ _ ?_;clear hK K
          refine ⟨⟨i + 1, by omega, by simp only [upd, ↓reduceIte], by simp only [upd, h12, Nc, ↓reduceIte], by simp only [upd, h00, Nc, ↓reduceIte], by simp only [upd, h1, Nc, ↓reduceIte], take_eq_succ hi' hib he hx, rfl⟩, ?_⟩
          simp only [h13, upd, ↓reduceIte]
          omega
        · refine awp_drw_seq T.mixed [] (by kernel_rfl) ?_
          intro K hK
          simp only [↓AXq_nil,↓AXq_cons,pval,DX,Nat.reduceBEq,↓DN,UP,DF,Qa,Qb,Qc,Qd,Qe,Qf,Qg,Qh,reduceCtorEq,↓reduceIte,Na,Nb,Nc,Nk,Nf,Ng,Nh,Za,Zb,Zc,TT, h13, h00, h1, hge, eye_lt_nat, hi', hib, hat, hbt, int_bne_true hx]
          refine hK _ _ ?_;clear hK K
          refine wC fun X Y hX hY => ?_
          simp only [↓DN,UP,DF,Qa,Qb,Qc,Qd,Qe,Qf,Qg,Qh,reduceCtorEq,↓reduceIte,Na,Nb,Nc,Nk,Nf,Ng,Nh,Za,Zb,Zc,TT, DB]
          refine hX ?_;clear hX hY X Y
          refine wS fun K hK => ?_
          simp only [↓DN,UP,DF,Qa,Qb,Qc,Qd,Qe,Qf,Qg,Qh,reduceCtorEq,↓reduceIte,Na,Nb,Nc,Nk,Nf,Ng,Nh,Za,Zb,Zc,TT]
          refine hK _ _ ?_;clear hK K
          refine awp_ret ?_
          simp only [thenQ, blockQ]
          simp only [retQ, AEnds, aresL, ares, List.toList_toArray, ↓upd_same]; try simp only [UP,DF,Nc,↓reduceIte,DT]
          refine ⟨_, _, AV.weak.refl _, AS.le.refl _, ?_, rfl⟩
          rw [decide_eq_false]
          intro e
          subst e
          exact hx rfl
      · refine wS fun K hK => ?_
        simp only [↓DN,UP,DF,Qa,Qb,Qc,Qd,Qe,Qf,Qg,Qh,reduceCtorEq,↓reduceIte,Na,Nb,Nc,Nk,Nf,Ng,Nh,Za,Zb,Zc,TT, h13, h12, eye_lt_nat, decide_eq_false hi']
        refine hK _ _ ?_;clear hK K
        refine wK fun K2 hK2 => ?_
        refine wC fun X Y hX hY => ?_
        simp only [↓DN,UP,DF,Qa,Qb,Qc,Qd,Qe,Qf,Qg,Qh,reduceCtorEq,↓reduceIte,Na,Nb,Nc,Nk,Nf,Ng,Nh,Za,Zb,Zc,TT, DB]
        refine hY ?_;clear hX hY X Y
        refine awp_exit ?_
        simp only [thenQ, blockQ, if_true]
        refine hK _ _ ?_;clear hK hK2 K K2
        refine wS fun K hK => ?_
        simp only [↓DN,UP,DF,Qa,Qb,Qc,Qd,Qe,Qf,Qg,Qh,reduceCtorEq,↓reduceIte,Na,Nb,Nc,Nk,Nf,Ng,Nh,Za,Zb,Zc,TT]
        refine hK _ _ ?_;clear hK K
        refine awp_ret ?_
        simp only [retQ, AEnds, aresL, ares, List.toList_toArray, ↓upd_same]; try simp only [UP,DF,Nc,↓reduceIte,DT]
        refine ⟨_, _, AV.weak.refl _, AS.le.refl _, ?_, rfl⟩
        rw [List.take_of_length_le (by omega), List.take_of_length_le (by omega)] at he
        rw [decide_eq_true he]
  · refine wS fun K hK => ?_
    simp only [↓DN,UP,DF,Qa,Qb,Qc,Qd,Qe,Qf,Qg,Qh,reduceCtorEq,↓reduceIte,Na,Nb,Nc,Nk,Nf,Ng,Nh,Za,Zb,Zc,TT, len_bne_true h0]
    refine hK _ _ ?_;clear hK K
    refine wC fun X Y hX hY => ?_
    simp only [↓DN,UP,DF,Qa,Qb,Qc,Qd,Qe,Qf,Qg,Qh,reduceCtorEq,↓reduceIte,Na,Nb,Nc,Nk,Nf,Ng,Nh,Za,Zb,Zc,TT, DB]
    refine hX ?_;clear hX hY X Y
    refine wS fun K hK => ?_
    simp only [↓DN,UP,DF,Qa,Qb,Qc,Qd,Qe,Qf,Qg,Qh,reduceCtorEq,↓reduceIte,Na,Nb,Nc,Nk,Nf,Ng,Nh,Za,Zb,Zc,TT]
    refine hK _ _ ?_;clear hK K
    refine awp_ret ?_
    simp only [retQ, AEnds, aresL, ares, List.toList_toArray, ↓upd_same]; try simp only [UP,DF,Nc,↓reduceIte,DT]
    refine ⟨_, _, AV.weak.refl _, AS.le.refl _, ?_, rfl⟩
    rw [decide_eq_false (fun e => h0 (by rw [e]))]
    try rfl

set_option maxRecDepth 100000 in
set_option maxHeartbeats 2000000 in
theorem nodeSame_calls (N M : NodeV) (hl : N.unm.length ≤ 2 ^ 61) (s : AS) : ACalls Tryd.prog Γ 28 [.agg N.cells, .agg M.cells] s (fun r s' => r = .v (.bool (decide (N = M))) ∧ s' = s) := by
  refine acalls_body Tryd.func28 rfl Tryd.ntmps28 Tryd.results28 (by simp) ?_
  unfold NodeV.cells
  obtain ⟨k, m, y, p, u⟩ := N
  obtain ⟨k', m', y', p', u'⟩ := M
  rw [node_eq_bool]
  refine wS fun K hK => ?_
  simp only [↓DN,UP,DF,Qa,Qb,Qc,Qd,Qe,Qf,Qg,Qh,reduceCtorEq,↓reduceIte,Na,Nb,Nc,Nk,Nf,Ng,Nh,Za,Zb,Zc,TT, intsV]
  intro o ho
  intro o' ho'
  have hne : o ≠ o' := by
    intro e
    subst e
    simp [AS.set] at ho'
  have hle : s.le ((s.set o [.v (.int .i64 k), bytesV m .any, .v (.int .u64 y), bytesV p .any, intsV u .any]).set o' [.v (.int .i64 k'), bytesV m' .any, .v (.int .u64 y'), bytesV p' .any, intsV u' .any]) := AS.le_set (AS.le_set (AS.le.refl s) ho _) (by simpa [AS.set, upd, hne.symm] using ho') _
  refine hK _ _ ?_;clear hK K
  rcases ff5 (k == k') ((y : Int) == (y' : Int)) (decide (m = m')) (decide (p = p')) (decide (u = u')) with hd | hd | hd | hd | hd | hd
  · refine wS fun K hK => ?_
    simp only [↓DN,UP,DF,Qa,Qb,Qc,Qd,Qe,Qf,Qg,Qh,reduceCtorEq,↓reduceIte,Na,Nb,Nc,Nk,Nf,Ng,Nh,Za,Zb,Zc,TT, hne, hd, intsV]
    refine hK _ _ ?_;clear hK K
    refine awp_ret ?_
    simp only [retQ, AEnds, aresL, ares, List.toList_toArray, ↓upd_same]; try simp only [UP,DF,Nc,↓reduceIte,DT]
    refine ⟨_, s, AV.weak.refl _, hle, ?_, rfl⟩
    simp only [hd, Bool.and_true, Bool.true_and, Bool.false_and, Bool.and_false]
    try rfl
  · refine wS fun K hK => ?_
    simp only [↓DN,UP,DF,Qa,Qb,Qc,Qd,Qe,Qf,Qg,Qh,reduceCtorEq,↓reduceIte,Na,Nb,Nc,Nk,Nf,Ng,Nh,Za,Zb,Zc,TT, hne, hd, intsV]
    refine hK _ _ ?_;clear hK K
    refine awp_ret ?_
    simp only [retQ, AEnds, aresL, ares, List.toList_toArray, ↓upd_same]; try simp only [UP,DF,Nc,↓reduceIte,DT]
    refine ⟨_, s, AV.weak.refl _, hle, ?_, rfl⟩
    simp only [hd, Bool.and_true, Bool.true_and, Bool.false_and, Bool.and_false]
    try rfl
  · refine wS fun K hK => ?_
    simp only [↓DN,UP,DF,Qa,Qb,Qc,Qd,Qe,Qf,Qg,Qh,reduceCtorEq,↓reduceIte,Na,Nb,Nc,Nk,Nf,Ng,Nh,Za,Zb,Zc,TT, hne, hd, intsV]
    refine acallk (bytesEqual_calls m m' _) ?_
    rintro r s' ⟨rfl, rfl⟩
    simp only [↓AXq_nil,↓AXq_cons,pval,DX,Nat.reduceBEq,↓DN,UP,DF,Qa,Qb,Qc,Qd,Qe,Qf,Qg,Qh,reduceCtorEq,↓reduceIte,Na,Nb,Nc,Nk,Nf,Ng,Nh,Za,Zb,Zc,TT, hne, hd, intsV]
    refine hK _ _ ?_;clear hK K
    refine awp_ret ?_
    simp only [retQ, AEnds, aresL, ares, List.toList_toArray, ↓upd_same]; try simp only [UP,DF,Nc,↓reduceIte,DT]
    refine ⟨_, s, AV.weak.refl _, hle, ?_, rfl⟩
    simp only [hd, Bool.and_true, Bool.true_and, Bool.false_and, Bool.and_false]
    try rfl
  · refine wS fun K hK => ?_
    simp only [↓DN,UP,DF,Qa,Qb,Qc,Qd,Qe,Qf,Qg,Qh,reduceCtorEq,↓reduceIte,Na,Nb,Nc,Nk,Nf,Ng,Nh,Za,Zb,Zc,TT, hne, hd, intsV]
    refine acallk (bytesEqual_calls m m' _) ?_
    rintro r s' ⟨rfl, rfl⟩
    simp only [↓AXq_nil,↓AXq_cons,pval,DX,Nat.reduceBEq,↓DN,UP,DF,Qa,Qb,Qc,Qd,Qe,Qf,Qg,Qh,reduceCtorEq,↓reduceIte,Na,Nb,Nc,Nk,Nf,Ng,Nh,Za,Zb,Zc,TT, hne, hd, intsV]
    refine acallk (bytesEqual_calls p p' _) ?_
    rintro r s' ⟨rfl, rfl⟩
    simp only [↓AXq_nil,↓AXq_cons,pval,DX,Nat.reduceBEq,↓DN,UP,DF,Qa,Qb,Qc,Qd,Qe,Qf,Qg,Qh,reduceCtorEq,↓reduceIte,Na,Nb,Nc,Nk,Nf,Ng,Nh,Za,Zb,Zc,TT, hne, hd, intsV]
    refine hK _ _ ?_;clear hK K
    refine awp_ret ?_
    simp only [retQ, AEnds, aresL, ares, List.toList_toArray, ↓upd_same]; try simp only [UP,DF,Nc,↓reduceIte,DT]
    refine ⟨_, s, AV.weak.refl _, hle, ?_, rfl⟩
    simp only [hd, Bool.and_true, Bool.true_and, Bool.false_and, Bool.and_false]
    try rfl
  all_goals
    refine wS fun K hK => ?_
    simp only [↓DN,UP,DF,Qa,Qb,Qc,Qd,Qe,Qf,Qg,Qh,reduceCtorEq,↓reduceIte,Na,Nb,Nc,Nk,Nf,Ng,Nh,Za,Zb,Zc,TT, hne, hd, intsV]
    refine acallk (bytesEqual_calls m m' _) ?_
    rintro r s' ⟨rfl, rfl⟩
    simp only [↓AXq_nil,↓AXq_cons,pval,DX,Nat.reduceBEq,↓DN,UP,DF,Qa,Qb,Qc,Qd,Qe,Qf,Qg,Qh,reduceCtorEq,↓reduceIte,Na,Nb,Nc,Nk,Nf,Ng,Nh,Za,Zb,Zc,TT, hne, hd, intsV]
    refine acallk (bytesEqual_calls p p' _) ?_
    rintro r s' ⟨rfl, rfl⟩
    simp only [↓AXq_nil,↓AXq_cons,pval,DX,Nat.reduceBEq,↓DN,UP,DF,Qa,Qb,Qc,Qd,Qe,Qf,Qg,Qh,reduceCtorEq,↓reduceIte,Na,Nb,Nc,Nk,Nf,Ng,Nh,Za,Zb,Zc,TT, hne, hd, intsV]
    refine acallk (slicesEqual_calls u u' hl _) ?_
    rintro r s' ⟨rfl, rfl⟩
    simp only [↓AXq_nil,↓AXq_cons,pval,DX,Nat.reduceBEq,↓DN,UP,DF,Qa,Qb,Qc,Qd,Qe,Qf,Qg,Qh,reduceCtorEq,↓reduceIte,Na,Nb,Nc,Nk,Nf,Ng,Nh,Za,Zb,Zc,TT, hne, hd, intsV]
    refine hK _ _ ?_;clear hK K
    refine awp_ret ?_
    simp only [retQ, AEnds, aresL, ares, List.toList_toArray, ↓upd_same]; try simp only [UP,DF,Nc,↓reduceIte,DT]
    refine ⟨_, s, AV.weak.refl _, hle, ?_, rfl⟩
    simp only [hd, Bool.and_true, Bool.true_and, Bool.false_and, Bool.and_false]
    try rfl

end Go.Proofs.YtcnilmidfhpckaaDoor


