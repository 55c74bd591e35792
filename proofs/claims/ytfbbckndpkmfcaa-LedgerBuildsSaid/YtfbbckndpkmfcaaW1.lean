/- Contracts of the program's functions, each walked once; the conditions stand in each theorem. -/
import Derived.Test.YtfbbckndpkmfcaaProg
import Derived.Test.YtfbbckndpkmfcaaAMp4
import Derived.Test.YtfbbckndpkmfcaaAMp6
import Derived.Test.YtfbbckndpkmfcaaAMp5
import Derived.Test.YtfbbckndpkmfcaaAMp2
import Derived.Test.YtfbbckndpkmfcaaAMp7
set_option linter.unusedSimpArgs false
set_option linter.unusedVariables false
open Nat renaming reduceLT → Na, reduceLeDiff → Nb, reduceEqDiff → Nc, reduceAdd → Nk, reduceMul → Nf, reducePow → Ng, reduceSub → Nh, reduceBEq → Nz
open Int renaming reduceLT → Za, reduceLE → Zb, reduceToNat → Zc
open Go.AM renaming ashift → Qa, aconv → Qb, aindexAddr → Qc, aindex → Qd, aslice → Qe, abuiltin → Qf, awp_reg_seq → wS, awp_reg_end → wE, awp_seq_k → wK, awp_cond_k → wC
open Go.AM.AV renaming cells → Qg, one → Qh
set_option maxRecDepth 100000
set_option maxHeartbeats 8000000
set_option autoImplicit false
namespace Go.Proofs.Ytfbbckndpkmfcaa
open Go Go.AM Go.Proofs
theorem T.c2 : Try.prog.cellsOf 2 = 1:=by kernel_rfl
theorem T.b2 : Try.prog.bytesOf 2 = 8:=by kernel_rfl
theorem T.g2 : isAggT Try.prog 2 = some false:=by kernel_rfl
theorem T.z2 : zcells Try.prog 2 = some [.v (.int .i64 0)]:=by kernel_rfl
theorem T.c3 : Try.prog.cellsOf 3 = 1:=by kernel_rfl
theorem T.b3 : Try.prog.bytesOf 3 = 8:=by kernel_rfl
theorem T.g3 : isAggT Try.prog 3 = some false:=by kernel_rfl
theorem T.z3 : zcells Try.prog 3 = some [.v (.int .i64 0)]:=by kernel_rfl
theorem T.c4 : Try.prog.cellsOf 4 = 1:=by kernel_rfl
theorem T.b4 : Try.prog.bytesOf 4 = 1:=by kernel_rfl
theorem T.g4 : isAggT Try.prog 4 = some false:=by kernel_rfl
theorem T.z4 : zcells Try.prog 4 = some [.v (.bool false)]:=by kernel_rfl
theorem T.c5 : Try.prog.cellsOf 5 = 1:=by kernel_rfl
theorem T.b5 : Try.prog.bytesOf 5 = 1:=by kernel_rfl
theorem T.g5 : isAggT Try.prog 5 = some false:=by kernel_rfl
theorem T.z5 : zcells Try.prog 5 = some [.v (.int .u8 0)]:=by kernel_rfl
theorem T.c6 : Try.prog.cellsOf 6 = 1:=by kernel_rfl
theorem T.b6 : Try.prog.bytesOf 6 = 1:=by kernel_rfl
theorem T.g6 : isAggT Try.prog 6 = some false:=by kernel_rfl
theorem T.g7 : isAggT Try.prog 7 = some true:=by kernel_rfl
theorem T.h7 : fieldsOk Try.prog 7 = true:=by kernel_rfl
theorem T.g8 : isAggT Try.prog 8 = some true:=by kernel_rfl
theorem T.h8 : fieldsOk Try.prog 8 = true:=by kernel_rfl
theorem T.c9 : Try.prog.cellsOf 9 = 1:=by kernel_rfl
theorem T.b9 : Try.prog.bytesOf 9 = 16:=by kernel_rfl
theorem T.g9 : isAggT Try.prog 9 = some false:=by kernel_rfl
theorem T.z9 : zcells Try.prog 9 = some [.v (.string ByteArray.empty)]:=by kernel_rfl
theorem T.b10 : Try.prog.bytesOf 10 = 16:=by kernel_rfl
theorem T.g10 : isAggT Try.prog 10 = some false:=by kernel_rfl
theorem T.g11 : isAggT Try.prog 11 = some false:=by kernel_rfl
theorem T.g12 : isAggT Try.prog 12 = some false:=by kernel_rfl
theorem T.g13 : isAggT Try.prog 13 = some true:=by kernel_rfl
theorem T.h13 : fieldsOk Try.prog 13 = true:=by kernel_rfl
theorem T.h14 : fieldsOk Try.prog 14 = true:=by kernel_rfl
theorem T.g15 : isAggT Try.prog 15 = some false:=by kernel_rfl
theorem T.g16 : isAggT Try.prog 16 = some false:=by kernel_rfl
theorem T.g17 : isAggT Try.prog 17 = some false:=by kernel_rfl
theorem T.g18 : isAggT Try.prog 18 = some true:=by kernel_rfl
theorem T.g19 : isAggT Try.prog 19 = some true:=by kernel_rfl
theorem T.b20 : Try.prog.bytesOf 20 = 16:=by kernel_rfl
theorem T.g20 : isAggT Try.prog 20 = some false:=by kernel_rfl
theorem T.c22 : Try.prog.cellsOf 22 = 1:=by kernel_rfl
theorem T.b22 : Try.prog.bytesOf 22 = 24:=by kernel_rfl
theorem T.g22 : isAggT Try.prog 22 = some false:=by kernel_rfl
theorem T.z22 : zcells Try.prog 22 = some [.v (.slice none 0 0)]:=by kernel_rfl
theorem T.s22 : isSliceT Try.prog 22 = true:=by kernel_rfl
theorem T.c23 : Try.prog.cellsOf 23 = 1:=by kernel_rfl
theorem T.b23 : Try.prog.bytesOf 23 = 24:=by kernel_rfl
theorem T.g23 : isAggT Try.prog 23 = some false:=by kernel_rfl
theorem T.z23 : zcells Try.prog 23 = some [.v (.slice none 0 0)]:=by kernel_rfl
theorem T.s23 : isSliceT Try.prog 23 = true:=by kernel_rfl
theorem T.c26 : Try.prog.cellsOf 26 = 1:=by kernel_rfl
theorem T.b26 : Try.prog.bytesOf 26 = 8:=by kernel_rfl
theorem T.g26 : isAggT Try.prog 26 = some false:=by kernel_rfl
theorem T.z26 : zcells Try.prog 26 = some [.v (.pointer none)]:=by kernel_rfl
theorem T.p26 : isPtrT Try.prog 26 = true:=by kernel_rfl
theorem T.c28 : Try.prog.cellsOf 28 = 1:=by kernel_rfl
theorem T.b28 : Try.prog.bytesOf 28 = 8:=by kernel_rfl
theorem T.g28 : isAggT Try.prog 28 = some false:=by kernel_rfl
theorem T.z28 : zcells Try.prog 28 = some [.v (.pointer none)]:=by kernel_rfl
theorem T.p28 : isPtrT Try.prog 28 = true:=by kernel_rfl
theorem T.c30 : Try.prog.cellsOf 30 = 1:=by kernel_rfl
theorem T.b30 : Try.prog.bytesOf 30 = 24:=by kernel_rfl
theorem T.g30 : isAggT Try.prog 30 = some true:=by kernel_rfl
theorem T.h30 : fieldsOk Try.prog 30 = true:=by kernel_rfl
theorem T.f30_0 : fieldOf Try.prog 30 0 = some (0,22):=by kernel_rfl
theorem T.z30 : zcells Try.prog 30 = some [.v (.slice none 0 0)]:=by kernel_rfl
theorem T.c31 : Try.prog.cellsOf 31 = 1:=by kernel_rfl
theorem T.b31 : Try.prog.bytesOf 31 = 8:=by kernel_rfl
theorem T.g31 : isAggT Try.prog 31 = some false:=by kernel_rfl
theorem T.z31 : zcells Try.prog 31 = some [.v (.int .i64 0)]:=by kernel_rfl
theorem T.c34 : Try.prog.cellsOf 34 = 9:=by kernel_rfl
theorem T.b34 : Try.prog.bytesOf 34 = 152:=by kernel_rfl
theorem T.g34 : isAggT Try.prog 34 = some true:=by kernel_rfl
theorem T.h34 : fieldsOk Try.prog 34 = true:=by kernel_rfl
theorem T.f34_0 : fieldOf Try.prog 34 0 = some (0,3):=by kernel_rfl
theorem T.f34_1 : fieldOf Try.prog 34 1 = some (1,23):=by kernel_rfl
theorem T.f34_2 : fieldOf Try.prog 34 2 = some (2,3):=by kernel_rfl
theorem T.f34_3 : fieldOf Try.prog 34 3 = some (3,3):=by kernel_rfl
theorem T.f34_4 : fieldOf Try.prog 34 4 = some (4,3):=by kernel_rfl
theorem T.f34_5 : fieldOf Try.prog 34 5 = some (5,23):=by kernel_rfl
theorem T.f34_6 : fieldOf Try.prog 34 6 = some (6,23):=by kernel_rfl
theorem T.f34_7 : fieldOf Try.prog 34 7 = some (7,23):=by kernel_rfl
theorem T.f34_8 : fieldOf Try.prog 34 8 = some (8,23):=by kernel_rfl
theorem T.z34 : zcells Try.prog 34 = some [.v (.int .i64 0),.v (.slice none 0 0),.v (.int .i64 0),.v (.int .i64 0),.v (.int .i64 0),.v (.slice none 0 0),.v (.slice none 0 0),.v (.slice none 0 0),.v (.slice none 0 0)]:=by kernel_rfl
theorem T.c39 : Try.prog.cellsOf 39 = 1:=by kernel_rfl
theorem T.b39 : Try.prog.bytesOf 39 = 24:=by kernel_rfl
theorem T.g39 : isAggT Try.prog 39 = some false:=by kernel_rfl
theorem T.z39 : zcells Try.prog 39 = some [.v (.slice none 0 0)]:=by kernel_rfl
theorem T.s39 : isSliceT Try.prog 39 = true:=by kernel_rfl
theorem T.c44 : Try.prog.cellsOf 44 = 1:=by kernel_rfl
theorem T.b44 : Try.prog.bytesOf 44 = 24:=by kernel_rfl
theorem T.g44 : isAggT Try.prog 44 = some false:=by kernel_rfl
theorem T.z44 : zcells Try.prog 44 = some [.v (.slice none 0 0)]:=by kernel_rfl
theorem T.s44 : isSliceT Try.prog 44 = true:=by kernel_rfl
theorem T.c49 : Try.prog.cellsOf 49 = 1:=by kernel_rfl
theorem T.b49 : Try.prog.bytesOf 49 = 8:=by kernel_rfl
theorem T.g49 : isAggT Try.prog 49 = some false:=by kernel_rfl
theorem T.z49 : zcells Try.prog 49 = some [.v (.map none)]:=by kernel_rfl
theorem T.c50 : Try.prog.cellsOf 50 = 1:=by kernel_rfl
theorem T.b50 : Try.prog.bytesOf 50 = 8:=by kernel_rfl
theorem T.g50 : isAggT Try.prog 50 = some false:=by kernel_rfl
theorem T.z50 : zcells Try.prog 50 = some [.v (.map none)]:=by kernel_rfl
theorem T.z51 : zcells Try.prog 51 = some [.v (.int .i64 0),.v (.int .i64 0),.v (.slice none 0 0),.v (.map none),.v (.map none)]:=by kernel_rfl
theorem T.c52 : Try.prog.cellsOf 52 = 5:=by kernel_rfl
theorem T.b52 : Try.prog.bytesOf 52 = 56:=by kernel_rfl
theorem T.g52 : isAggT Try.prog 52 = some true:=by kernel_rfl
theorem T.h52 : fieldsOk Try.prog 52 = true:=by kernel_rfl
theorem T.f52_0 : fieldOf Try.prog 52 0 = some (0,3):=by kernel_rfl
theorem T.f52_1 : fieldOf Try.prog 52 1 = some (1,3):=by kernel_rfl
theorem T.f52_2 : fieldOf Try.prog 52 2 = some (2,44):=by kernel_rfl
theorem T.f52_3 : fieldOf Try.prog 52 3 = some (3,49):=by kernel_rfl
theorem T.f52_4 : fieldOf Try.prog 52 4 = some (4,50):=by kernel_rfl
theorem T.z52 : zcells Try.prog 52 = some [.v (.int .i64 0),.v (.int .i64 0),.v (.slice none 0 0),.v (.map none),.v (.map none)]:=by kernel_rfl
theorem T.z53 : zcells Try.prog 53 = some [.v (.int .i64 0),.v (.int .i64 0),.v (.int .i64 0),.v (.int .i64 0),.v (.int .i64 0)]:=by kernel_rfl
theorem T.c54 : Try.prog.cellsOf 54 = 5:=by kernel_rfl
theorem T.b54 : Try.prog.bytesOf 54 = 40:=by kernel_rfl
theorem T.g54 : isAggT Try.prog 54 = some true:=by kernel_rfl
theorem T.h54 : fieldsOk Try.prog 54 = true:=by kernel_rfl
theorem T.f54_0 : fieldOf Try.prog 54 0 = some (0,3):=by kernel_rfl
theorem T.f54_1 : fieldOf Try.prog 54 1 = some (1,3):=by kernel_rfl
theorem T.f54_2 : fieldOf Try.prog 54 2 = some (2,3):=by kernel_rfl
theorem T.f54_3 : fieldOf Try.prog 54 3 = some (3,3):=by kernel_rfl
theorem T.f54_4 : fieldOf Try.prog 54 4 = some (4,3):=by kernel_rfl
theorem T.z54 : zcells Try.prog 54 = some [.v (.int .i64 0),.v (.int .i64 0),.v (.int .i64 0),.v (.int .i64 0),.v (.int .i64 0)]:=by kernel_rfl
theorem T.c58 : Try.prog.cellsOf 58 = 1:=by kernel_rfl
theorem T.b58 : Try.prog.bytesOf 58 = 24:=by kernel_rfl
theorem T.g58 : isAggT Try.prog 58 = some false:=by kernel_rfl
theorem T.z58 : zcells Try.prog 58 = some [.v (.slice none 0 0)]:=by kernel_rfl
theorem T.s58 : isSliceT Try.prog 58 = true:=by kernel_rfl
theorem T.c64 : Try.prog.cellsOf 64 = 1:=by kernel_rfl
theorem T.b64 : Try.prog.bytesOf 64 = 24:=by kernel_rfl
theorem T.g64 : isAggT Try.prog 64 = some false:=by kernel_rfl
theorem T.z64 : zcells Try.prog 64 = some [.v (.slice none 0 0)]:=by kernel_rfl
theorem T.s64 : isSliceT Try.prog 64 = true:=by kernel_rfl
theorem T.c83 : Try.prog.cellsOf 83 = 1:=by kernel_rfl
theorem T.b83 : Try.prog.bytesOf 83 = 8:=by kernel_rfl
theorem T.g83 : isAggT Try.prog 83 = some false:=by kernel_rfl
theorem T.z83 : zcells Try.prog 83 = some [.v (.pointer none)]:=by kernel_rfl
theorem T.p83 : isPtrT Try.prog 83 = true:=by kernel_rfl
theorem T.c86 : Try.prog.cellsOf 86 = 1:=by kernel_rfl
theorem T.b86 : Try.prog.bytesOf 86 = 8:=by kernel_rfl
theorem T.g86 : isAggT Try.prog 86 = some false:=by kernel_rfl
theorem T.z86 : zcells Try.prog 86 = some [.v (.int .u64 0)]:=by kernel_rfl
theorem T.c89 : Try.prog.cellsOf 89 = 1:=by kernel_rfl
theorem T.b89 : Try.prog.bytesOf 89 = 8:=by kernel_rfl
theorem T.g89 : isAggT Try.prog 89 = some false:=by kernel_rfl
theorem T.z89 : zcells Try.prog 89 = some [.v (.pointer none)]:=by kernel_rfl
theorem T.p89 : isPtrT Try.prog 89 = true:=by kernel_rfl
theorem T.c91 : Try.prog.cellsOf 91 = 2:=by kernel_rfl
theorem T.b91 : Try.prog.bytesOf 91 = 24:=by kernel_rfl
theorem T.g91 : isAggT Try.prog 91 = some true:=by kernel_rfl
theorem T.h91 : fieldsOk Try.prog 91 = true:=by kernel_rfl
theorem T.f91_0 : fieldOf Try.prog 91 0 = some (0,9):=by kernel_rfl
theorem T.f91_1 : fieldOf Try.prog 91 1 = some (1,3):=by kernel_rfl
theorem T.z91 : zcells Try.prog 91 = some [.v (.string ByteArray.empty),.v (.int .i64 0)]:=by kernel_rfl
theorem T.c99 : Try.prog.cellsOf 99 = 2:=by kernel_rfl
theorem T.b99 : Try.prog.bytesOf 99 = 32:=by kernel_rfl
theorem T.g99 : isAggT Try.prog 99 = some true:=by kernel_rfl
theorem T.h99 : fieldsOk Try.prog 99 = true:=by kernel_rfl
theorem T.f99_0 : fieldOf Try.prog 99 0 = some (0,23):=by kernel_rfl
theorem T.f99_1 : fieldOf Try.prog 99 1 = some (1,31):=by kernel_rfl
theorem T.z99 : zcells Try.prog 99 = some [.v (.slice none 0 0),.v (.int .i64 0)]:=by kernel_rfl
theorem T.c105 : Try.prog.cellsOf 105 = 1:=by kernel_rfl
theorem T.b105 : Try.prog.bytesOf 105 = 8:=by kernel_rfl
theorem T.g105 : isAggT Try.prog 105 = some false:=by kernel_rfl
theorem T.z105 : zcells Try.prog 105 = some [.v (.int .u64 0)]:=by kernel_rfl
theorem T.c107 : Try.prog.cellsOf 107 = 1:=by kernel_rfl
theorem T.b107 : Try.prog.bytesOf 107 = 8:=by kernel_rfl
theorem T.g107 : isAggT Try.prog 107 = some false:=by kernel_rfl
theorem T.z107 : zcells Try.prog 107 = some [.v (.int .i64 0)]:=by kernel_rfl
theorem T.c115 : Try.prog.cellsOf 115 = 1:=by kernel_rfl
theorem T.b115 : Try.prog.bytesOf 115 = 4:=by kernel_rfl
theorem T.g115 : isAggT Try.prog 115 = some false:=by kernel_rfl
theorem T.z115 : zcells Try.prog 115 = some [.v (.int .u32 0)]:=by kernel_rfl
theorem T.z131 : zcells Try.prog 131 = some [.v (.int .u8 0)]:=by kernel_rfl
theorem T.k3 : callable Try.prog 3 = true:=by kernel_rfl
theorem T.k4 : callable Try.prog 4 = true:=by kernel_rfl
theorem T.k5 : callable Try.prog 5 = true:=by kernel_rfl
theorem T.k6 : callable Try.prog 6 = true:=by kernel_rfl
theorem T.k7 : callable Try.prog 7 = true:=by kernel_rfl
theorem T.k8 : callable Try.prog 8 = true:=by kernel_rfl
theorem T.k9 : callable Try.prog 9 = true:=by kernel_rfl
theorem T.k10 : callable Try.prog 10 = true:=by kernel_rfl
theorem T.k11 : callable Try.prog 11 = true:=by kernel_rfl
theorem T.k12 : callable Try.prog 12 = true:=by kernel_rfl
theorem T.k13 : callable Try.prog 13 = true:=by kernel_rfl
theorem T.k14 : callable Try.prog 14 = true:=by kernel_rfl
theorem T.k15 : callable Try.prog 15 = true:=by kernel_rfl
theorem T.k16 : callable Try.prog 16 = true:=by kernel_rfl
theorem T.k17 : callable Try.prog 17 = true:=by kernel_rfl
theorem T.k18 : callable Try.prog 18 = true:=by kernel_rfl
theorem T.k19 : callable Try.prog 19 = true:=by kernel_rfl
theorem T.k20 : callable Try.prog 20 = true:=by kernel_rfl
theorem T.k21 : callable Try.prog 21 = true:=by kernel_rfl
theorem T.k22 : callable Try.prog 22 = true:=by kernel_rfl
theorem T.k23 : callable Try.prog 23 = true:=by kernel_rfl
theorem T.k24 : callable Try.prog 24 = true:=by kernel_rfl
theorem T.k25 : callable Try.prog 25 = true:=by kernel_rfl
theorem T.k26 : callable Try.prog 26 = true:=by kernel_rfl
theorem T.k27 : callable Try.prog 27 = true:=by kernel_rfl
theorem T.k28 : callable Try.prog 28 = true:=by kernel_rfl
theorem T.k29 : callable Try.prog 29 = true:=by kernel_rfl
theorem T.k30 : callable Try.prog 30 = true:=by kernel_rfl
theorem T.k31 : callable Try.prog 31 = true:=by kernel_rfl
theorem T.k32 : callable Try.prog 32 = true:=by kernel_rfl
theorem T.k33 : callable Try.prog 33 = true:=by kernel_rfl
theorem T.k34 : callable Try.prog 34 = true:=by kernel_rfl
theorem T.k35 : callable Try.prog 35 = true:=by kernel_rfl
theorem T.k36 : callable Try.prog 36 = true:=by kernel_rfl
theorem T.k37 : callable Try.prog 37 = true:=by kernel_rfl
theorem T.k38 : callable Try.prog 38 = true:=by kernel_rfl
theorem T.k39 : callable Try.prog 39 = true:=by kernel_rfl
theorem T.k40 : callable Try.prog 40 = true:=by kernel_rfl
theorem T.k41 : callable Try.prog 41 = true:=by kernel_rfl
theorem T.k42 : callable Try.prog 42 = true:=by kernel_rfl
theorem T.k43 : callable Try.prog 43 = true:=by kernel_rfl
theorem T.k44 : callable Try.prog 44 = true:=by kernel_rfl
theorem T.k45 : callable Try.prog 45 = true:=by kernel_rfl
theorem T.k46 : callable Try.prog 46 = true:=by kernel_rfl
theorem T.k47 : callable Try.prog 47 = true:=by kernel_rfl
theorem T.k48 : callable Try.prog 48 = true:=by kernel_rfl
theorem T.k49 : callable Try.prog 49 = true:=by kernel_rfl
theorem T.k50 : callable Try.prog 50 = true:=by kernel_rfl
theorem T.k51 : callable Try.prog 51 = true:=by kernel_rfl
theorem T.k52 : callable Try.prog 52 = true:=by kernel_rfl
theorem T.k53 : callable Try.prog 53 = true:=by kernel_rfl
theorem T.k54 : callable Try.prog 54 = true:=by kernel_rfl
theorem T.k55 : callable Try.prog 55 = true:=by kernel_rfl
theorem T.k56 : callable Try.prog 56 = true:=by kernel_rfl
theorem T.k57 : callable Try.prog 57 = true:=by kernel_rfl
theorem T.k59 : callable Try.prog 59 = true:=by kernel_rfl
theorem T.k60 : callable Try.prog 60 = true:=by kernel_rfl
theorem T.k61 : callable Try.prog 61 = true:=by kernel_rfl
theorem T.k62 : callable Try.prog 62 = true:=by kernel_rfl
theorem T.k63 : callable Try.prog 63 = true:=by kernel_rfl
theorem T.k64 : callable Try.prog 64 = true:=by kernel_rfl
theorem T.k65 : callable Try.prog 65 = true:=by kernel_rfl
theorem T.k66 : callable Try.prog 66 = true:=by kernel_rfl
theorem T.k67 : callable Try.prog 67 = true:=by kernel_rfl
theorem T.k68 : callable Try.prog 68 = true:=by kernel_rfl
theorem T.k69 : callable Try.prog 69 = true:=by kernel_rfl
theorem T.k70 : callable Try.prog 70 = true:=by kernel_rfl
theorem T.k71 : callable Try.prog 71 = true:=by kernel_rfl
theorem T.k72 : callable Try.prog 72 = true:=by kernel_rfl
theorem T.k73 : callable Try.prog 73 = true:=by kernel_rfl
theorem T.k74 : callable Try.prog 74 = true:=by kernel_rfl
theorem T.k75 : callable Try.prog 75 = true:=by kernel_rfl
theorem T.k76 : callable Try.prog 76 = true:=by kernel_rfl
theorem T.k77 : callable Try.prog 77 = true:=by kernel_rfl
theorem T.k78 : callable Try.prog 78 = true:=by kernel_rfl
theorem T.mixed : Try.prog.follows .mixedOrders = true:=by kernel_rfl
end Go.Proofs.Ytfbbckndpkmfcaa
set_option maxRecDepth 100000
namespace Go.Proofs.Ytfbbckndpkmfcaa
open Go Go.AM Go.Proofs
open And renaming intro→Ai
theorem TT : type_of% (Ai (Ai UP DF) (Ai (Ai (Ai (Ai (Ai (Ai (Ai (Ai @Try.underlying3 T.c3) (Ai T.g3 T.b3)) (Ai (Ai T.z3 @Try.underlying9) (Ai T.c9 (Ai T.g9 T.b9)))) (Ai (Ai (Ai T.z9 @Try.underlying44) (Ai T.c44 (Ai T.g44 T.b44))) (Ai (Ai T.z44 T.s44) (Ai @Try.underlying49 (Ai T.c49 T.g49))))) (Ai (Ai (Ai (Ai T.b49 T.z49) (Ai @Try.underlying50 T.c50)) (Ai (Ai T.g50 T.b50) (Ai T.z50 (Ai @Try.underlying52 T.c52)))) (Ai (Ai (Ai T.g52 T.b52) (Ai T.z52 (Ai T.h52 T.f52_0))) (Ai (Ai T.f52_1 T.f52_2) (Ai T.f52_3 (Ai T.f52_4 Try.ntmps7)))))) (Ai (Ai (Ai (Ai (Ai Try.ntmps19 @Try.underlying5) (Ai T.c5 T.g5)) (Ai (Ai T.b5 T.z5) (Ai @Try.underlying23 (Ai T.c23 T.g23)))) (Ai (Ai (Ai T.b23 T.z23) (Ai T.s23 (Ai @Try.underlying54 T.c54))) (Ai (Ai T.g54 T.b54) (Ai T.z54 (Ai T.h54 @Try.underlying58))))) (Ai (Ai (Ai (Ai T.c58 T.g58) (Ai T.b58 (Ai T.z58 T.s58))) (Ai (Ai T.f54_0 T.f54_1) (Ai T.f54_2 (Ai T.f54_3 T.f54_4)))) (Ai (Ai (Ai Try.ntmps21 Try.ntmps59) (Ai @Try.underlying31 (Ai T.c31 T.g31))) (Ai (Ai T.b31 T.z31) (Ai @Try.underlying99 (Ai T.c99 T.g99))))))) (Ai (Ai (Ai (Ai (Ai (Ai T.b99 T.z99) (Ai T.h99 T.f99_0)) (Ai (Ai T.f99_1 T.k59) (Ai Try.ntmps47 (Ai Try.ntmps66 @Try.underlying83)))) (Ai (Ai (Ai T.c83 T.g83) (Ai T.b83 (Ai T.z83 T.p83))) (Ai (Ai @Try.underlying86 T.c86) (Ai T.g86 (Ai T.b86 T.z86))))) (Ai (Ai (Ai (Ai T.k66 Try.ntmps60) (Ai Try.ntmps67 T.k60)) (Ai (Ai Try.ntmps48 Try.ntmps50) (Ai T.k67 (Ai Try.ntmps61 T.k61)))) (Ai (Ai (Ai Try.ntmps49 Try.ntmps51) (Ai Try.ntmps52 (Ai Try.ntmps62 @Try.underlying91))) (Ai (Ai T.c91 T.g91) (Ai T.b91 (Ai T.z91 T.h91)))))) (Ai (Ai (Ai (Ai (Ai T.f91_0 T.f91_1) (Ai T.k62 Try.ntmps53)) (Ai (Ai Try.ntmps54 Try.ntmps55) (Ai Try.ntmps43 (Ai @Try.underlying34 T.c34)))) (Ai (Ai (Ai T.g34 T.b34) (Ai T.z34 (Ai T.h34 T.f34_0))) (Ai (Ai T.f34_1 T.f34_2) (Ai T.f34_3 (Ai T.f34_4 T.f34_5))))) (Ai (Ai (Ai (Ai T.f34_6 T.f34_7) (Ai T.f34_8 (Ai T.k43 Try.ntmps22))) (Ai (Ai Try.ntmps23 @Try.underlying4) (Ai T.c4 (Ai T.g4 T.b4)))) (Ai (Ai (Ai T.z4 @Try.underlying26) (Ai T.c26 (Ai T.g26 T.b26))) (Ai (Ai T.z26 T.p26) (Ai T.k21 (Ai T.k22 Try.ntmps8)))))))) (Ai (Ai (Ai (Ai (Ai (Ai (Ai T.k8 Try.ntmps10) (Ai Try.ntmps46 T.k46)) (Ai (Ai Try.ntmps34 @Try.underlying39) (Ai T.c39 (Ai T.g39 T.b39)))) (Ai (Ai (Ai T.z39 T.s39) (Ai Try.ntmps29 (Ai T.k7 T.k10))) (Ai (Ai T.k19 Try.ntmps5) (Ai Try.ntmps45 (Ai Try.ntmps58 @Try.underlying64))))) (Ai (Ai (Ai (Ai T.c64 T.g64) (Ai T.b64 T.z64)) (Ai (Ai T.s64 Try.ntmps63) (Ai T.k63 (Ai Try.ntmps56 Try.ntmps78)))) (Ai (Ai (Ai @Try.underlying105 T.c105) (Ai T.g105 (Ai T.b105 T.z105))) (Ai (Ai @Try.underlying115 T.c115) (Ai T.g115 (Ai T.b115 T.z115)))))) (Ai (Ai (Ai (Ai (Ai T.k78 T.k77) (Ai Try.ntmps65 T.k74)) (Ai (Ai Try.ntmps68 @Try.underlying107) (Ai T.c107 (Ai T.g107 T.b107)))) (Ai (Ai (Ai T.z107 T.k75) (Ai T.k64 (Ai T.k68 T.k72))) (Ai (Ai T.k69 T.k71) (Ai T.k73 (Ai T.k76 T.k70))))) (Ai (Ai (Ai (Ai Try.ntmps64 T.k65) (Ai Try.ntmps57 (Ai T.k57 T.k56))) (Ai (Ai Try.ntmps44 Try.ntmps27) (Ai T.k44 (Ai T.k45 Try.ntmps31)))) (Ai (Ai (Ai Try.ntmps35 Try.ntmps17) (Ai Try.ntmps30 (Ai Try.ntmps28 Try.ntmps33))) (Ai (Ai @Try.underlying22 T.c22) (Ai T.g22 (Ai T.b22 T.z22))))))) (Ai (Ai (Ai (Ai (Ai (Ai T.s22 @Try.underlying30) (Ai T.c30 T.g30)) (Ai (Ai T.b30 T.z30) (Ai T.h30 (Ai T.f30_0 Try.ntmps14)))) (Ai (Ai (Ai Try.ntmps24 Try.ntmps25) (Ai @Try.underlying28 (Ai T.c28 T.g28))) (Ai (Ai T.b28 T.z28) (Ai T.p28 (Ai T.k25 T.k14))))) (Ai (Ai (Ai (Ai T.k24 T.k23) (Ai Try.ntmps9 T.k9)) (Ai (Ai Try.ntmps11 Try.ntmps26) (Ai Try.ntmps32 (Ai T.k31 T.k27)))) (Ai (Ai (Ai T.k33 T.k34) (Ai T.k29 (Ai T.k35 T.k17))) (Ai (Ai T.k28 T.k30) (Ai T.k26 (Ai T.k32 Try.ntmps12)))))) (Ai (Ai (Ai (Ai (Ai Try.ntmps39 Try.ntmps42) (Ai Try.ntmps38 Try.ntmps40)) (Ai (Ai Try.ntmps41 T.k38) (Ai T.k39 (Ai T.k40 T.k42)))) (Ai (Ai (Ai T.k41 Try.ntmps18) (Ai T.k47 (Ai T.k52 T.k50))) (Ai (Ai T.k51 T.k49) (Ai T.k48 (Ai Try.ntmps36 @Try.underlying89))))) (Ai (Ai (Ai (Ai T.c89 T.g89) (Ai T.b89 (Ai T.z89 T.p89))) (Ai (Ai T.k53 T.k55) (Ai T.k54 (Ai Try.ntmps37 T.k36)))) (Ai (Ai (Ai Try.ntmps15 T.k37) (Ai T.k11 (Ai Try.ntmps16 T.k18))) (Ai (Ai T.k15 T.k5) (Ai T.k12 (Ai T.k16 Try.ntmps4)))))))))) :=
  (Ai (Ai UP DF) (Ai (Ai (Ai (Ai (Ai (Ai (Ai (Ai @Try.underlying3 T.c3) (Ai T.g3 T.b3)) (Ai (Ai T.z3 @Try.underlying9) (Ai T.c9 (Ai T.g9 T.b9)))) (Ai (Ai (Ai T.z9 @Try.underlying44) (Ai T.c44 (Ai T.g44 T.b44))) (Ai (Ai T.z44 T.s44) (Ai @Try.underlying49 (Ai T.c49 T.g49))))) (Ai (Ai (Ai (Ai T.b49 T.z49) (Ai @Try.underlying50 T.c50)) (Ai (Ai T.g50 T.b50) (Ai T.z50 (Ai @Try.underlying52 T.c52)))) (Ai (Ai (Ai T.g52 T.b52) (Ai T.z52 (Ai T.h52 T.f52_0))) (Ai (Ai T.f52_1 T.f52_2) (Ai T.f52_3 (Ai T.f52_4 Try.ntmps7)))))) (Ai (Ai (Ai (Ai (Ai Try.ntmps19 @Try.underlying5) (Ai T.c5 T.g5)) (Ai (Ai T.b5 T.z5) (Ai @Try.underlying23 (Ai T.c23 T.g23)))) (Ai (Ai (Ai T.b23 T.z23) (Ai T.s23 (Ai @Try.underlying54 T.c54))) (Ai (Ai T.g54 T.b54) (Ai T.z54 (Ai T.h54 @Try.underlying58))))) (Ai (Ai (Ai (Ai T.c58 T.g58) (Ai T.b58 (Ai T.z58 T.s58))) (Ai (Ai T.f54_0 T.f54_1) (Ai T.f54_2 (Ai T.f54_3 T.f54_4)))) (Ai (Ai (Ai Try.ntmps21 Try.ntmps59) (Ai @Try.underlying31 (Ai T.c31 T.g31))) (Ai (Ai T.b31 T.z31) (Ai @Try.underlying99 (Ai T.c99 T.g99))))))) (Ai (Ai (Ai (Ai (Ai (Ai T.b99 T.z99) (Ai T.h99 T.f99_0)) (Ai (Ai T.f99_1 T.k59) (Ai Try.ntmps47 (Ai Try.ntmps66 @Try.underlying83)))) (Ai (Ai (Ai T.c83 T.g83) (Ai T.b83 (Ai T.z83 T.p83))) (Ai (Ai @Try.underlying86 T.c86) (Ai T.g86 (Ai T.b86 T.z86))))) (Ai (Ai (Ai (Ai T.k66 Try.ntmps60) (Ai Try.ntmps67 T.k60)) (Ai (Ai Try.ntmps48 Try.ntmps50) (Ai T.k67 (Ai Try.ntmps61 T.k61)))) (Ai (Ai (Ai Try.ntmps49 Try.ntmps51) (Ai Try.ntmps52 (Ai Try.ntmps62 @Try.underlying91))) (Ai (Ai T.c91 T.g91) (Ai T.b91 (Ai T.z91 T.h91)))))) (Ai (Ai (Ai (Ai (Ai T.f91_0 T.f91_1) (Ai T.k62 Try.ntmps53)) (Ai (Ai Try.ntmps54 Try.ntmps55) (Ai Try.ntmps43 (Ai @Try.underlying34 T.c34)))) (Ai (Ai (Ai T.g34 T.b34) (Ai T.z34 (Ai T.h34 T.f34_0))) (Ai (Ai T.f34_1 T.f34_2) (Ai T.f34_3 (Ai T.f34_4 T.f34_5))))) (Ai (Ai (Ai (Ai T.f34_6 T.f34_7) (Ai T.f34_8 (Ai T.k43 Try.ntmps22))) (Ai (Ai Try.ntmps23 @Try.underlying4) (Ai T.c4 (Ai T.g4 T.b4)))) (Ai (Ai (Ai T.z4 @Try.underlying26) (Ai T.c26 (Ai T.g26 T.b26))) (Ai (Ai T.z26 T.p26) (Ai T.k21 (Ai T.k22 Try.ntmps8)))))))) (Ai (Ai (Ai (Ai (Ai (Ai (Ai T.k8 Try.ntmps10) (Ai Try.ntmps46 T.k46)) (Ai (Ai Try.ntmps34 @Try.underlying39) (Ai T.c39 (Ai T.g39 T.b39)))) (Ai (Ai (Ai T.z39 T.s39) (Ai Try.ntmps29 (Ai T.k7 T.k10))) (Ai (Ai T.k19 Try.ntmps5) (Ai Try.ntmps45 (Ai Try.ntmps58 @Try.underlying64))))) (Ai (Ai (Ai (Ai T.c64 T.g64) (Ai T.b64 T.z64)) (Ai (Ai T.s64 Try.ntmps63) (Ai T.k63 (Ai Try.ntmps56 Try.ntmps78)))) (Ai (Ai (Ai @Try.underlying105 T.c105) (Ai T.g105 (Ai T.b105 T.z105))) (Ai (Ai @Try.underlying115 T.c115) (Ai T.g115 (Ai T.b115 T.z115)))))) (Ai (Ai (Ai (Ai (Ai T.k78 T.k77) (Ai Try.ntmps65 T.k74)) (Ai (Ai Try.ntmps68 @Try.underlying107) (Ai T.c107 (Ai T.g107 T.b107)))) (Ai (Ai (Ai T.z107 T.k75) (Ai T.k64 (Ai T.k68 T.k72))) (Ai (Ai T.k69 T.k71) (Ai T.k73 (Ai T.k76 T.k70))))) (Ai (Ai (Ai (Ai Try.ntmps64 T.k65) (Ai Try.ntmps57 (Ai T.k57 T.k56))) (Ai (Ai Try.ntmps44 Try.ntmps27) (Ai T.k44 (Ai T.k45 Try.ntmps31)))) (Ai (Ai (Ai Try.ntmps35 Try.ntmps17) (Ai Try.ntmps30 (Ai Try.ntmps28 Try.ntmps33))) (Ai (Ai @Try.underlying22 T.c22) (Ai T.g22 (Ai T.b22 T.z22))))))) (Ai (Ai (Ai (Ai (Ai (Ai T.s22 @Try.underlying30) (Ai T.c30 T.g30)) (Ai (Ai T.b30 T.z30) (Ai T.h30 (Ai T.f30_0 Try.ntmps14)))) (Ai (Ai (Ai Try.ntmps24 Try.ntmps25) (Ai @Try.underlying28 (Ai T.c28 T.g28))) (Ai (Ai T.b28 T.z28) (Ai T.p28 (Ai T.k25 T.k14))))) (Ai (Ai (Ai (Ai T.k24 T.k23) (Ai Try.ntmps9 T.k9)) (Ai (Ai Try.ntmps11 Try.ntmps26) (Ai Try.ntmps32 (Ai T.k31 T.k27)))) (Ai (Ai (Ai T.k33 T.k34) (Ai T.k29 (Ai T.k35 T.k17))) (Ai (Ai T.k28 T.k30) (Ai T.k26 (Ai T.k32 Try.ntmps12)))))) (Ai (Ai (Ai (Ai (Ai Try.ntmps39 Try.ntmps42) (Ai Try.ntmps38 Try.ntmps40)) (Ai (Ai Try.ntmps41 T.k38) (Ai T.k39 (Ai T.k40 T.k42)))) (Ai (Ai (Ai T.k41 Try.ntmps18) (Ai T.k47 (Ai T.k52 T.k50))) (Ai (Ai T.k51 T.k49) (Ai T.k48 (Ai Try.ntmps36 @Try.underlying89))))) (Ai (Ai (Ai (Ai T.c89 T.g89) (Ai T.b89 (Ai T.z89 T.p89))) (Ai (Ai T.k53 T.k55) (Ai T.k54 (Ai Try.ntmps37 T.k36)))) (Ai (Ai (Ai Try.ntmps15 T.k37) (Ai T.k11 (Ai Try.ntmps16 T.k18))) (Ai (Ai T.k15 T.k5) (Ai T.k12 (Ai T.k16 Try.ntmps4))))))))))
theorem DM : type_of% (Ai @AXq_nil @AXq_cons) :=
  (Ai @AXq_nil @AXq_cons)
end Go.Proofs.Ytfbbckndpkmfcaa
namespace Go.AM
namespace Sha
def add32 (a b : Nat) : Nat:=(a + b) % 4294967296
def rotr (x n : Nat) : Nat:=(x / 2 ^ n) ||| ((x * 2 ^ (32 - n)) % 4294967296)
def sig3 (x a b c : Nat) : Nat:=(rotr x a ^^^ rotr x b) ^^^ rotr x c
def sig2 (x a b c : Nat) : Nat:=(rotr x a ^^^ rotr x b) ^^^ (x / 2 ^ c)
def be32 (a b c d : Nat) : Nat:=((a * 256 + b) * 256 + c) * 256 + d
def word (c : List UInt8) (p : List Nat) (i : Nat) : Nat :=
  if i < 16 then be32 ((c.getD (4 * i) 0).toNat) ((c.getD (4 * i + 1) 0).toNat) ((c.getD (4 * i + 2) 0).toNat) ((c.getD (4 * i + 3) 0).toNat)
  else add32 (add32 (add32 (sig2 (p.getD (i - 2) 0) 17 19 10) (p.getD (i - 7) 0)) (sig2 (p.getD (i - 15) 0) 7 18 3)) (p.getD (i - 16) 0)
def sch (c : List UInt8) : Nat→List Nat
  | 0=>[]
  | n + 1=>sch c n ++ [word c (sch c n) n]
def t1 (e f g h k w : Nat) : Nat:=add32 (add32 (add32 (add32 h (sig3 e 6 11 25)) ((e &&& f) ^^^ ((4294967295 - e) &&& g))) k) w
def t2 (a b c : Nat) : Nat:=add32 (sig3 a 2 13 22) (((a &&& b) ^^^ (a &&& c)) ^^^ (b &&& c))
structure St where
  a : Nat
  b : Nat
  c : Nat
  d : Nat
  e : Nat
  f : Nat
  g : Nat
  h : Nat
def St.step (s : St) (k w : Nat) : St :=
  ⟨add32 (t1 s.e s.f s.g s.h k w) (t2 s.a s.b s.c),s.a,s.b,s.c,add32 s.d (t1 s.e s.f s.g s.h k w),s.e,s.f,s.g⟩
def St.add (s t : St) : St:=⟨add32 s.a t.a,add32 s.b t.b,add32 s.c t.c,add32 s.d t.d,add32 s.e t.e,add32 s.f t.f,add32 s.g t.g,add32 s.h t.h⟩
def St.list (s : St) : List Nat:=[s.a,s.b,s.c,s.d,s.e,s.f,s.g,s.h]
structure St.ok (s : St) : Prop where
  a : s.a < 4294967296
  b : s.b < 4294967296
  c : s.c < 4294967296
  d : s.d < 4294967296
  e : s.e < 4294967296
  f : s.f < 4294967296
  g : s.g < 4294967296
  h : s.h < 4294967296
def K : List Nat:=[
  0x428a2f98,0x71374491,0xb5c0fbcf,0xe9b5dba5,0x3956c25b,0x59f111f1,0x923f82a4,0xab1c5ed5,
  0xd807aa98,0x12835b01,0x243185be,0x550c7dc3,0x72be5d74,0x80deb1fe,0x9bdc06a7,0xc19bf174,
  0xe49b69c1,0xefbe4786,0x0fc19dc6,0x240ca1cc,0x2de92c6f,0x4a7484aa,0x5cb0a9dc,0x76f988da,
  0x983e5152,0xa831c66d,0xb00327c8,0xbf597fc7,0xc6e00bf3,0xd5a79147,0x06ca6351,0x14292967,
  0x27b70a85,0x2e1b2138,0x4d2c6dfc,0x53380d13,0x650a7354,0x766a0abb,0x81c2c92e,0x92722c85,
  0xa2bfe8a1,0xa81a664b,0xc24b8b70,0xc76c51a3,0xd192e819,0xd6990624,0xf40e3585,0x106aa070,
  0x19a4c116,0x1e376c08,0x2748774c,0x34b0bcb5,0x391c0cb3,0x4ed8aa4a,0x5b9cca4f,0x682e6ff3,
  0x748f82ee,0x78a5636f,0x84c87814,0x8cc70208,0x90befffa,0xa4506ceb,0xbef9a3f7,0xc67178f2]
def H0 : St:=⟨0x6a09e667,0xbb67ae85,0x3c6ef372,0xa54ff53a,0x510e527f,0x9b05688c,0x1f83d9ab,0x5be0cd19⟩
def rounds (w : List Nat) (s : St) : Nat→St
  | 0=>s
  | n + 1=>(rounds w s n).step (K.getD n 0) (w.getD n 0)
def mix (s : St) (c : List UInt8) : St:=s.add (rounds (sch c 64) s 64)
def blk (l : List UInt8) (i : Nat) : List UInt8:=(l.drop (64 * i)).take 64
def hash (l : List UInt8) : Nat→St
  | 0=>H0
  | n + 1=>mix (hash l n) (blk l n)
def zeros (n : Nat) : Nat:=(119 - n % 64) % 64
def lenB (n : Nat) : List UInt8:=[UInt8.ofNat (8 * n / 2 ^ 56),UInt8.ofNat (8 * n / 2 ^ 48),UInt8.ofNat (8 * n / 2 ^ 40),UInt8.ofNat (8 * n / 2 ^ 32),UInt8.ofNat (8 * n / 2 ^ 24),UInt8.ofNat (8 * n / 2 ^ 16),UInt8.ofNat (8 * n / 2 ^ 8),UInt8.ofNat (8 * n)]
def pad (l : List UInt8) : List UInt8:=l ++ (128 :: (List.replicate (zeros l.length) 0 ++ lenB l.length))
def be (x : Nat) : List UInt8:=[UInt8.ofNat (x / 2 ^ 24),UInt8.ofNat (x / 2 ^ 16),UInt8.ofNat (x / 2 ^ 8),UInt8.ofNat x]
def St.bytes (s : St) : List UInt8:=be s.a ++ be s.b ++ be s.c ++ be s.d ++ be s.e ++ be s.f ++ be s.g ++ be s.h
def sum (l : List UInt8) : List UInt8:=(hash (pad l) ((pad l).length / 64)).bytes
theorem sum_length (l : List UInt8) : (sum l).length = 32:=rfl
theorem add32_lt (a b : Nat) : add32 a b < 4294967296:=Nat.mod_lt _ (by decide)
theorem St.ok.step {s : St} (h : s.ok) (k w : Nat) : (s.step k w).ok:=⟨add32_lt _ _,h.a,h.b,h.c,add32_lt _ _,h.e,h.f,h.g⟩
theorem St.ok.add (s t : St) : (s.add t).ok:=⟨add32_lt _ _,add32_lt _ _,add32_lt _ _,add32_lt _ _,add32_lt _ _,add32_lt _ _,add32_lt _ _,add32_lt _ _⟩
end Sha
end Go.AM
namespace Go.AM
namespace Mac
def key (k : List UInt8) : List UInt8:=if 64 < k.length then Sha.sum k else k
def fill (k : List UInt8) : List UInt8:=k ++ List.replicate (64 - k.length) 0
def turn (x : UInt8) (l : List UInt8) : List UInt8:=l.map fun c=>c ^^^ x
def inner (k l : List UInt8) : List UInt8:=Sha.sum (turn 54 (fill (key k)) ++ l)
def tag (k l : List UInt8) : List UInt8:=Sha.sum (turn 92 (fill (key k)) ++ inner k l)
theorem tag_len (k l : List UInt8) : (tag k l).length = 32:=Sha.sum_length _
def part (x : UInt8) (l : List UInt8) (i : Nat) : List UInt8:=turn x (l.take i) ++ l.drop i
end Mac
end Go.AM
namespace Go.AM
namespace Kdf
variable (secret info : List UInt8)
def blk : Nat→List UInt8
  | 0=>[]
  | i + 1=>Mac.tag secret (blk i ++ info ++ [UInt8.ofNat (i + 1)])
def row : Nat→List UInt8
  | 0=>[]
  | i + 1=>row i ++ blk secret info (i + 1)
theorem blk_len (i : Nat) : (blk secret info (i + 1)).length = 32:=Mac.tag_len _ _
theorem row_len : ∀ i : Nat,(row secret info i).length = 32 * i
  | 0=>rfl
  | i + 1=>by rw [row,List.length_append,row_len i,blk_len]; omega
def rounds (n : Nat) : Nat:=(n + 31) / 32
def expand (n : Nat) : List UInt8:=(row secret info (rounds n)).take n
def ok (n : Int) : Bool:=decide (0≤n) && decide (n≤8160)
def get (n : Int) : List UInt8:=if ok n = true then expand secret info n.toNat else []
end Kdf
end Go.AM
namespace Go.AM
namespace Kdf
def mls : List UInt8:=[109,108,115,32]
def fits (l c : List UInt8) (n : Int) : Bool:=decide (l.length≤251) && decide (c.length≤65535) && decide (0≤n) && decide (n≤8160)
def text (l c : List UInt8) (n : Nat) : List UInt8:=be 2 n ++ (be 1 (mls ++ l).length ++ (mls ++ l)) ++ (be 2 c.length ++ c)
def label (secret l c : List UInt8) (n : Int) : List UInt8:=if fits l c n = true then expand secret (text l c n.toNat) n.toNat else []
def derive (secret l : List UInt8) : List UInt8:=label secret (l.take 251) [] 32
def pen (l c : List UInt8) (n : Int) : List UInt8 × Bool:=penText 2 c (penText 1 (mls ++ l) (penSmall 2 n ([],false)))
end Kdf
end Go.AM
namespace Go.AM
namespace Sch
def epochW : List UInt8:=[101,112,111,99,104]
def welcomeW : List UInt8:=[119,101,108,99,111,109,101]
def exporterW : List UInt8:=[101,120,112,111,114,116,101,114]
def confirmW : List UInt8:=[99,111,110,102,105,114,109]
def memberW : List UInt8:=[109,101,109,98,101,114,115,104,105,112]
def initW : List UInt8:=[105,110,105,116]
def main (j : List UInt8) : List UInt8:=Mac.tag j (List.replicate 32 0)
def epoch (j c : List UInt8) : List UInt8:=Kdf.label (main j) epochW c 32
def of (j c : List UInt8) : List (List UInt8):=[j,Kdf.derive (main j) welcomeW,Kdf.derive (epoch j c) exporterW,Kdf.derive (epoch j c) confirmW,Kdf.derive (epoch j c) memberW,Kdf.derive (epoch j c) initW]
end Sch
end Go.AM
namespace Go.AM
namespace Aes
def dbl (a : UInt8) : UInt8:=(a <<< (1 : UInt8)) ^^^ ((27 : UInt8) &&& ((0 : UInt8) - (a >>> (7 : UInt8))))
def gm : Nat→UInt8→UInt8→UInt8→UInt8
  | 0,o,_,_=>o
  | f + 1,o,a,b=>gm f (o ^^^ (a &&& ((0 : UInt8) - (b &&& 1)))) (dbl a) (b >>> 1)
def pw : Nat→UInt8→UInt8→Nat→UInt8
  | 0,o,_,_=>o
  | f + 1,o,a,n=>pw f (if n % 2 = 1 then gm 8 0 o a else o) (gm 8 0 a a) (n / 2)
def inv (a : UInt8) : UInt8:=pw 8 1 a 254
def rot (x : UInt8) (i : Nat) : UInt8:=UInt8.ofNat (x.toNat * 2 ^ i) ||| UInt8.ofNat (x.toNat / 2 ^ (8 - i))
def boxP (x : UInt8) : Nat→UInt8
  | 0=>99 ^^^ x
  | k + 1=>boxP x k ^^^ rot x (k + 1)
def box (c : UInt8) : UInt8:=boxP (inv c) 4
def sb : List UInt8:=[99,124,119,123,242,107,111,197,48,1,103,43,254,215,171,118,202,130,201,125,250,89,71,240,173,212,162,175,156,164,114,192,183,253,147,38,54,63,247,204,52,165,229,241,113,216,49,21,4,199,35,195,24,150,5,154,7,18,128,226,235,39,178,117,9,131,44,26,27,110,90,160,82,59,214,179,41,227,47,132,83,209,0,237,32,252,177,91,106,203,190,57,74,76,88,207,208,239,170,251,67,77,51,133,69,249,2,127,80,60,159,168,81,163,64,143,146,157,56,245,188,182,218,33,16,255,243,210,205,12,19,236,95,151,68,23,196,167,126,61,100,93,25,115,96,129,79,220,34,42,144,136,70,238,184,20,222,94,11,219,224,50,58,10,73,6,36,92,194,211,172,98,145,149,228,121,231,200,55,109,141,213,78,169,108,86,244,234,101,122,174,8,186,120,37,46,28,166,180,198,232,221,116,31,75,189,139,138,112,62,181,102,72,3,246,14,97,53,87,185,134,193,29,158,225,248,152,17,105,217,142,148,155,30,135,233,206,85,40,223,140,161,137,13,191,230,66,104,65,153,45,15,176,84,187,22]
def S (x : UInt8) : UInt8:=sb.getD x.toNat 0
def pwr : Nat→UInt8
  | 0=>1
  | r + 1=>dbl (pwr r)
def nx (k : List UInt8) (p : UInt8) : List UInt8 :=
  match k with
  | [k0,k1,k2,k3,k4,k5,k6,k7,k8,k9,k10,k11,k12,k13,k14,k15] =>
    let a0:=(k0 ^^^ S k13) ^^^ p
    let a1:=k1 ^^^ S k14
    let a2:=k2 ^^^ S k15
    let a3:=k3 ^^^ S k12
    let b0:=k4 ^^^ a0
    let b1:=k5 ^^^ a1
    let b2:=k6 ^^^ a2
    let b3:=k7 ^^^ a3
    let c0:=k8 ^^^ b0
    let c1:=k9 ^^^ b1
    let c2:=k10 ^^^ b2
    let c3:=k11 ^^^ b3
    [a0,a1,a2,a3,b0,b1,b2,b3,c0,c1,c2,c3,k12 ^^^ c0,k13 ^^^ c1,k14 ^^^ c2,k15 ^^^ c3]
  | _=>[]
def kr (key : List UInt8) : Nat→List UInt8
  | 0=>key
  | r + 1=>nx (kr key r) (pwr r)
def sh (b : List UInt8) (n : Nat) : UInt8:=S (b.getD (4 * ((n / 4 + n % 4) % 4) + n % 4) 0)
def mx (c : Nat→UInt8) (i : Nat) : UInt8:=(((dbl (c i) ^^^ dbl (c ((i + 1) % 4))) ^^^ c ((i + 1) % 4)) ^^^ c ((i + 2) % 4)) ^^^ c ((i + 3) % 4)
def rnd (b : List UInt8) (last : Bool) : List UInt8:=(List.range 16).map fun n=>if last then sh b n else mx (fun i=>sh b (4 * (n / 4) + i)) (n % 4)
def add (b k : List UInt8) : List UInt8:=(List.range 16).map fun n=>b.getD n 0 ^^^ k.getD n 0
def state (key b : List UInt8) : Nat→List UInt8
  | 0=>add b (kr key 0)
  | r + 1=>add (rnd (state key b r) (r + 1 == 10)) (kr key (r + 1))
def block (key b : List UInt8) : List UInt8:=state key b 10
def first (nonce : List UInt8) : Nat:=beNat (nonce.drop 12)
def ctr (nonce : List UInt8) (i : Nat) : List UInt8:=nonce.take 12 ++ be 4 ((first nonce + i) % 4294967296)
def maskB (key nonce : List UInt8) (p : Nat) : UInt8:=(block (key.take 16) (ctr nonce (p / 16))).getD (p % 16) 0
def mask (key nonce text : List UInt8) : List UInt8:=(List.range text.length).map fun p=>text.getD p 0 ^^^ maskB key nonce p
def tag (key nonce beside masked : List UInt8) : List UInt8:=(Mac.tag (key.drop 16) (be 4 beside.length ++ (beside ++ (nonce ++ masked)))).take 16
theorem tag_len (key nonce beside masked : List UInt8) : (tag key nonce beside masked).length = 16:=by simp [tag,Mac.tag_len]
end Aes
end Go.AM
namespace Go.AM
namespace Vault
def k0 : List UInt8:=[169,244,63,67,64,52,17,249,117,86,100,57,122,167,125,1,230,91,103,131,115,144,199,68,248,159,166,218,250,248,1,114,135,15,162,208,108,252,211,18,83,148,90,178,179,251,67,14]
def n3 : List UInt8:=[8,190,219,198,217,21,206,227,25,6,89,27,186,224,186,54]
def n4 : List UInt8:=[184,102,163,253,77,158,128,5,108,65,104,250,253,115,180,138]
def m3 : List UInt8:=[247,169,26,226,24,129,224,169,173,123,5,148,71,154,82,74,108,148,179,118,179,215,27,211,244,97,172,107,233,136,76,169]
def t3 : List UInt8:=[8,206,240,108,85,27,1,138,119,108,80,208,57,159,143,149]
end Vault
end Go.AM
namespace Go.AM
open Go
structure Rec where
  kind : Int
  group : List UInt8
  epoch : Int
  time : Int
  bucket : Int
  body : List UInt8
  tree : List UInt8
  script : List UInt8
  wrapped : List UInt8
  deriving DecidableEq
def Rec.cells (r : Rec) : List AV:=[.v (.int .i64 r.kind),bytesV r.group .any,.v (.int .i64 r.epoch),.v (.int .i64 r.time),.v (.int .i64 r.bucket),bytesV r.body .any,bytesV r.tree .any,bytesV r.script .any,bytesV r.wrapped .any]
def Rec.nought : Rec:=⟨0,[],0,0,0,[],[],[],[]⟩
def Rec.right (r : Rec) : Prop :=
  1≤r.kind∧r.kind≤3∧1≤r.group.length∧r.group.length≤16∧0≤r.epoch∧r.epoch≤1048576∧0≤r.time∧r.time≤1099511627776∧0≤r.bucket∧r.bucket≤1099511627776∧r.body.length≤60000 ∧
    r.tree.length = (if r.kind = 3 then 0 else 32)∧r.script.length = (if r.kind = 3 then 0 else 32)∧r.wrapped.length = (if r.kind = 3 then 0 else 48)
instance (r : Rec) : Decidable r.right:=by unfold Rec.right; infer_instance
theorem right_bool (R : Rec) (hh ww : Int) (h : (R.kind = 3∧hh = 0∧ww = 0)∨(R.kind≠3∧hh = 32∧ww = 48)) :
    decide R.right = (decide (1≤R.kind) && (decide (R.kind≤3) && (decide (1≤(R.group.length : Int)) && (decide ((R.group.length : Int)≤16) && ((decide (0≤R.epoch) && decide (R.epoch≤1048576)) && ((decide (0≤R.time) && decide (R.time≤1099511627776)) &&
      ((decide (0≤R.bucket) && decide (R.bucket≤1099511627776)) && (decide ((R.body.length : Int)≤60000) && (((R.tree.length : Int) == hh) && (((R.script.length : Int) == hh) && ((R.wrapped.length : Int) == ww))))))))))):=by
  have key : R.right↔(1≤R.kind∧(R.kind≤3∧(1≤(R.group.length : Int)∧((R.group.length : Int)≤16∧((0≤R.epoch∧R.epoch≤1048576)∧((0≤R.time∧R.time≤1099511627776) ∧
      ((0≤R.bucket∧R.bucket≤1099511627776)∧((R.body.length : Int)≤60000∧((R.tree.length : Int) = hh∧((R.script.length : Int) = hh∧(R.wrapped.length : Int) = ww)))))))))):=by
    unfold Rec.right
    rcases h with ⟨hk,rfl,rfl⟩ | ⟨hk,rfl,rfl⟩
    · simp only [if_pos hk]
      constructor
      · rintro ⟨h1,h2,h3,h4,h5,h6,h7,h8,h9,h10,h11,h12,h13,h14⟩
        exact ⟨h1,h2,by omega,by omega,⟨h5,h6⟩,⟨h7,h8⟩,⟨h9,h10⟩,by omega,by omega,by omega,by omega⟩
      · rintro ⟨h1,h2,h3,h4,⟨h5,h6⟩,⟨h7,h8⟩,⟨h9,h10⟩,h11,h12,h13,h14⟩
        exact ⟨h1,h2,by omega,by omega,h5,h6,h7,h8,h9,h10,by omega,by omega,by omega,by omega⟩
    · simp only [if_neg hk]
      constructor
      · rintro ⟨h1,h2,h3,h4,h5,h6,h7,h8,h9,h10,h11,h12,h13,h14⟩
        exact ⟨h1,h2,by omega,by omega,⟨h5,h6⟩,⟨h7,h8⟩,⟨h9,h10⟩,by omega,by omega,by omega,by omega⟩
      · rintro ⟨h1,h2,h3,h4,⟨h5,h6⟩,⟨h7,h8⟩,⟨h9,h10⟩,h11,h12,h13,h14⟩
        exact ⟨h1,h2,by omega,by omega,h5,h6,h7,h8,h9,h10,by omega,by omega,by omega,by omega⟩
  rw [Bool.eq_iff_iff,decide_eq_true_iff,key]
  simp only [Bool.and_eq_true,decide_eq_true_eq,beq_iff_eq]
theorem Rec.right.facts {R : Rec} (h : R.right) : 1≤R.kind∧R.kind≤3∧1≤R.group.length∧R.group.length≤16∧0≤R.epoch∧R.epoch≤1048576∧0≤R.time∧R.time≤1099511627776∧0≤R.bucket∧R.bucket≤1099511627776∧R.body.length≤60000 ∧
    R.tree.length≤32∧R.script.length≤32∧R.wrapped.length≤48:=by
  obtain ⟨h1,h2,h3,h4,h5,h6,h7,h8,h9,h10,h11,h12,h13,h14⟩:=h
  have w1 : R.tree.length≤32:=by rw [h12]; split <;> omega
  have w2 : R.script.length≤32:=by rw [h13]; split <;> omega
  have w3 : R.wrapped.length≤48:=by rw [h14]; split <;> omega
  exact ⟨h1,h2,h3,h4,h5,h6,h7,h8,h9,h10,h11,w1,w2,w3⟩
def Rec.text (r : Rec) : List UInt8 :=
  be 1 r.kind.toNat ++ (be 1 r.group.length ++ r.group ++ (be 8 r.epoch.toNat ++ (be 8 r.time.toNat ++ (be 8 r.bucket.toNat ++
    (be 2 r.body.length ++ r.body ++ (be 1 r.tree.length ++ r.tree ++ (be 1 r.script.length ++ r.script ++ (be 1 r.wrapped.length ++ r.wrapped ++ []))))))))
def readRec (b : List UInt8) : Rec × EyeSt :=
  let k:=eyeNum 1 (b,0)
  let g:=eyeText 1 16 k.2
  let e:=eyeNum 8 g.2
  let t:=eyeNum 8 e.2
  let u:=eyeNum 8 t.2
  let y:=eyeText 2 60000 u.2
  let r:=eyeText 1 32 y.2
  let c:=eyeText 1 32 r.2
  let w:=eyeText 1 48 c.2
  (⟨k.1,g.1,iconv .i64 (e.1 : Int),iconv .i64 (t.1 : Int),iconv .i64 (u.1 : Int),y.1,r.1,c.1,w.1⟩,w.2)
def recRead (b : List UInt8) : Rec × Int :=
  if eyeEnd (readRec b).2 = 0 then (if (readRec b).1.right then ((readRec b).1,0) else (Rec.nought,12)) else (Rec.nought,eyeEnd (readRec b).2)
end Go.AM
namespace Go.AM
open Go
theorem IsTy.record {avs : List AV} (h : IsTy (.struct (.cons tyI (.cons tyB (.cons tyI (.cons tyI (.cons tyI (.cons tyB (.cons tyB (.cons tyB (.cons tyB .nil)))))))))) avs) : ∃ R : Rec,avs = R.cells:=by
  obtain ⟨x1,y1,rfl,t1,h⟩:=isF_cons (isTy_struct h)
  obtain ⟨x2,y2,rfl,t2,h⟩:=isF_cons h
  obtain ⟨x3,y3,rfl,t3,h⟩:=isF_cons h
  obtain ⟨x4,y4,rfl,t4,h⟩:=isF_cons h
  obtain ⟨x5,y5,rfl,t5,h⟩:=isF_cons h
  obtain ⟨x6,y6,rfl,t6,h⟩:=isF_cons h
  obtain ⟨x7,y7,rfl,t7,h⟩:=isF_cons h
  obtain ⟨x8,y8,rfl,t8,h⟩:=isF_cons h
  obtain ⟨x9,y9,rfl,t9,h⟩:=isF_cons h
  obtain rfl:=isF_nil h
  obtain ⟨n1,rfl,_⟩:=isTy_int t1
  obtain ⟨l2,rfl,_⟩:=t2.bytes
  obtain ⟨n3,rfl,_⟩:=isTy_int t3
  obtain ⟨n4,rfl,_⟩:=isTy_int t4
  obtain ⟨n5,rfl,_⟩:=isTy_int t5
  obtain ⟨l6,rfl,_⟩:=t6.bytes
  obtain ⟨l7,rfl,_⟩:=t7.bytes
  obtain ⟨l8,rfl,_⟩:=t8.bytes
  obtain ⟨l9,rfl,_⟩:=t9.bytes
  exact ⟨⟨n1,l2,n3,n4,n5,l6,l7,l8,l9⟩,rfl⟩
end Go.AM
namespace Go.AM
open Go
structure PartV where
  kind : Int
  n : Int
  b : List UInt8
def PartV.cells (p : PartV) : List AV:=[.v (.int .i64 p.kind),.v (.int .i64 p.n),bytesV p.b .any]
def partsC (ps : List PartV) : List AV:=(ps.map PartV.cells).flatten
theorem IsTy.parts {avs : List AV} (h : IsTy (.slice 3 (.struct (.cons tyI (.cons tyI (.cons tyB .nil))))) avs) : ∃ ps : List PartV,avs = [.sl 3 ps.length (partsC ps) .any]:=by
  obtain ⟨els,rfl,_,hall⟩:=IsTy.rows h
  have key : ∀ els : List (List AV),(∀ el ∈ els,el.length = 3∧IsTy (.struct (.cons tyI (.cons tyI (.cons tyB .nil)))) el)→∃ ps : List PartV,els = ps.map PartV.cells:=by
    intro els
    induction els with
    | nil=>intro _; exact ⟨[],rfl⟩
    | cons e els ih =>
      intro h
      obtain ⟨ps,rfl⟩:=ih (fun el hel=>h el (by simp [hel]))
      obtain ⟨_,h1⟩:=h e (by simp)
      obtain ⟨x1,y1,rfl,t1,h1⟩:=isF_cons (isTy_struct h1)
      obtain ⟨x2,y2,rfl,t2,h1⟩:=isF_cons h1
      obtain ⟨x3,y3,rfl,t3,h1⟩:=isF_cons h1
      obtain rfl:=isF_nil h1
      obtain ⟨n1,rfl,_⟩:=isTy_int t1
      obtain ⟨n2,rfl,_⟩:=isTy_int t2
      obtain ⟨l3,rfl,_⟩:=t3.bytes
      exact ⟨⟨n1,n2,l3⟩ :: ps,rfl⟩
  obtain ⟨ps,rfl⟩:=key els hall
  exact ⟨ps,by simp [partsC]⟩
end Go.AM
namespace Go.AM
open Go
def textsV (l : List (List UInt8)) : AV:=.sl 1 l.length (l.map fun b=>bytesV b .any) .any
theorem text_at1 {l : List (List UInt8)} {i : Nat} (h : i < l.length) : List.take 1 (List.drop i (l.map fun b=>bytesV b .any)) = [bytesV l[i] .any]:=by
  rw [List.drop_eq_getElem_cons (by simpa using h)]
  simp
theorem IsTy.texts {avs : List AV} (h : IsTy (.slice 1 tyB) avs) : ∃ l : List (List UInt8),avs = [textsV l]:=by
  obtain ⟨els,rfl,_,hall⟩:=IsTy.rows h
  have key : ∀ els : List (List AV),(∀ el ∈ els,el.length = 1∧IsTy tyB el)→∃ l : List (List UInt8),l.length = els.length∧els.flatten = l.map fun b=>bytesV b .any:=by
    intro els
    induction els with
    | nil=>intro _; exact ⟨[],rfl,rfl⟩
    | cons e els ih =>
      intro h
      obtain ⟨l,h1,h2⟩:=ih (fun el hel=>h el (by simp [hel]))
      obtain ⟨_,t⟩:=h e (by simp)
      obtain ⟨b,rfl,_⟩:=t.bytes
      exact ⟨b :: l,by simp [h1],by simp [h2]⟩
  obtain ⟨l,h1,h2⟩:=key els hall
  exact ⟨l,by rw [← h1,h2]; rfl⟩
def strC (b : List UInt8) : AV:=.v (.string ⟨b.toArray⟩)
def strsV (l : List (List UInt8)) : AV:=.sl 1 l.length (l.map strC) .any
def smallX (l : List (List UInt8)) : Prop:=l.length≤12∧∀ b ∈ l,b.length≤4000
instance (l : List (List UInt8)) : Decidable (smallX l):=by unfold smallX; infer_instance
end Go.AM
namespace Go.AM
open Go
def intC (n : Int) : AV:=.v (.int .i64 n)
def intsV (l : List Int) (sp : Sp) : AV:=.sl 1 l.length (l.map intC) sp
theorem eat_int {l : List Int} {i : Nat} (h : i < l.length) : List.take 1 (List.drop i (l.map intC)) = [.v (.int .i64 l[i])]:=by
  rw [List.drop_eq_getElem_cons (by simpa using h)]
  simp [intC]
theorem IsTy.ints {avs : List AV} (h : IsTy (.slice 1 tyI) avs) : ∃ l : List Int,avs = [intsV l .any]:=by
  obtain ⟨els,rfl,_,hall⟩:=IsTy.rows h
  have key : ∀ els : List (List AV),(∀ el ∈ els,el.length = 1∧IsTy tyI el)→∃ l : List Int,l.length = els.length∧els.flatten = l.map intC:=by
    intro els
    induction els with
    | nil=>intro _; exact ⟨[],rfl,rfl⟩
    | cons e els ih =>
      intro h
      obtain ⟨l,h1,h2⟩:=ih (fun el hel=>h el (by simp [hel]))
      obtain ⟨_,t⟩:=h e (by simp)
      obtain ⟨n,rfl,_⟩:=isTy_int t
      exact ⟨n :: l,by simp [h1],by simp [h2,intC]⟩
  obtain ⟨l,h1,h2⟩:=key els hall
  exact ⟨l,by rw [← h1,h2]; rfl⟩
theorem take_eq_succ {α : Type} {a b : List α} {i : Nat} (ha : i < a.length) (hb : i < b.length) (h : a.take i = b.take i) (e : a[i] = b[i]) : a.take (i + 1) = b.take (i + 1):=by
  rw [List.take_succ_eq_append_getElem ha,List.take_succ_eq_append_getElem hb,h,e]
structure NodeV where
  kind : Int
  name : List UInt8
  key : Nat
  parent : List UInt8
  unm : List Int
  deriving DecidableEq
def NodeV.cells (n : NodeV) : List AV:=[.v (.int .i64 n.kind),bytesV n.name .any,.v (.int .u64 n.key),bytesV n.parent .any,intsV n.unm .any]
def NodeV.nought : NodeV:=⟨0,[],0,[],[]⟩
theorem IsTy.node {avs : List AV} (h : IsTy (.struct (.cons tyI (.cons tyB (.cons (.int .u64) (.cons tyB (.cons (.slice 1 tyI) .nil)))))) avs) : ∃ N : NodeV,avs = N.cells∧N.key < 2 ^ 64:=by
  obtain ⟨x1,y1,rfl,t1,h⟩:=isF_cons (isTy_struct h)
  obtain ⟨x2,y2,rfl,t2,h⟩:=isF_cons h
  obtain ⟨x3,y3,rfl,t3,h⟩:=isF_cons h
  obtain ⟨x4,y4,rfl,t4,h⟩:=isF_cons h
  obtain ⟨x5,y5,rfl,t5,h⟩:=isF_cons h
  obtain rfl:=isF_nil h
  obtain ⟨n1,rfl,_⟩:=isTy_int t1
  obtain ⟨l2,rfl,_⟩:=t2.bytes
  obtain ⟨n3,rfl,w3⟩:=isTy_int t3
  obtain ⟨m3,rfl,h3⟩:=nat_u64 w3
  obtain ⟨l4,rfl,_⟩:=t4.bytes
  obtain ⟨l5,rfl⟩:=t5.ints
  exact ⟨⟨n1,l2,m3,l4,l5⟩,rfl,h3⟩
def okAt (l : List Int) (i : Nat) : Prop:=0≤l.getD i 0∧l.getD i 0 < 32∧(0 < i→l.getD (i - 1) 0 < l.getD i 0)
instance decOkAt (l : List Int) (i : Nat) : Decidable (okAt l i):=by unfold okAt; infer_instance
def Rising (l : List Int) : Prop:=∀ i,i < l.length→okAt l i
instance decRising (l : List Int) : Decidable (Rising l):=by unfold Rising; infer_instance
def NodeV.held (N : NodeV) : Prop:=2≤N.key∧N.key≤2305843009213693949∧(N.parent.length = 0∨N.parent.length = 32)
instance decNodeHeld (N : NodeV) : Decidable N.held:=by unfold NodeV.held; infer_instance
def NodeV.right (N : NodeV) : Prop :=
  if N.kind = 0 then N = NodeV.nought
  else if N.kind = 1 then (1≤N.name.length∧N.name.length≤16∧N.held∧N.unm.length = 0)
  else if N.kind = 2 then (N.name.length = 0∧N.held∧Rising N.unm)
  else False
instance decNodeRight (N : NodeV) : Decidable N.right:=by unfold NodeV.right; infer_instance
end Go.AM
namespace Go.AM
open Go
def intsText (l : List Int) : List UInt8:=(l.map fun x=>be 1 x.toNat).flatten
def NodeV.text (N : NodeV) : List UInt8 :=
  if N.kind = 0 then be 1 0
  else if N.kind = 1 then be 1 1 ++ (be 1 N.name.length ++ N.name) ++ be 8 N.key ++ (be 1 N.parent.length ++ N.parent)
  else be 1 2 ++ be 8 N.key ++ (be 1 N.parent.length ++ N.parent) ++ be 1 N.unm.length ++ intsText N.unm
theorem nought_right : NodeV.nought.right:=by decide
structure RdS (s s1 : AS) (p o2 o3 : Nat) (ce z cs : List AV) : Prop where
  le : (s.drop p).le s1
  eye : s1.objs p = some ce
  res : s1.objs o2 = some z
  var : s1.objs o3 = some cs
  n2 : s.objs o2 = none
  n3 : s.objs o3 = none
  p2 : p≠o2
  p3 : p≠o3
  d : o2≠o3
theorem RdS.gain {s s1 : AS} {p o2 o3 : Nat} {ce z cs : List AV} (h : RdS s s1 p o2 o3 ce z cs) {t : Nat} (ht : s.own t = none) (e : Nat) : RdS s (s1.gain t e) p o2 o3 ce z cs :=
  ⟨AS.le_gain h.le (by simpa [AS.drop] using ht) e,h.eye,h.res,h.var,h.n2,h.n3,h.p2,h.p3,h.d⟩
theorem RdS.out {s s1 : AS} {p o2 o3 : Nat} {ce z cs : List AV} (h : RdS s s1 p o2 o3 ce z cs) : (s.set p ce).le s1:=AS.set_le_of h.le h.eye
theorem RdS.own_none {s s1 : AS} {p o2 o3 : Nat} {ce z cs : List AV} (h : RdS s s1 p o2 o3 ce z cs) {t : Nat} (ht : s1.own t = none) : s.own t = none:=by
  cases h0 : s.own t with
  | none=>rfl
  | some e =>
    have:=h.le.own t e (by simpa [AS.drop] using h0)
    rw [ht] at this
    cases this
def IBuf (s0 s : AS) (x : AV) (l : List Int) : Prop:=(x = nilS∧l = [])∨∃ t e,x = intsV l (.own t e)∧s.own t = some e∧s0.own t = none
theorem IBuf.weak {s0 s : AS} {x : AV} {l : List Int} (h : IBuf s0 s x l) : x.weak (intsV l .any):=by
  rcases h with ⟨rfl,rfl⟩ | ⟨t,e,rfl,_,_⟩
  · exact AV.weak_nil
  · exact AV.weak_any
end Go.AM
namespace Go.AM
open Go
def rowC {α : Type} (c : α→List AV) (l : List α) : List AV:=(l.map c).flatten
theorem row_at {α : Type} {c : α→List AV} {k : Nat} (hk : ∀ a,(c a).length = k) {l : List α} {i : Nat} (h : i < l.length) : List.take k (List.drop (i * k) (rowC c l)) = c l[i]:=by
  have:=flatten_at (sz:=k) (els:=l.map c) (i:=i) (by simpa using h) (by
    intro el hel
    obtain ⟨p,_,rfl⟩:=List.mem_map.1 hel
    exact hk p)
  unfold rowC
  rw [this]
  simp
theorem row_len {α : Type} {c : α→List AV} {k : Nat} (hk : ∀ a,(c a).length = k) (l : List α) : (rowC c l).length = l.length * k:=by
  induction l with
  | nil=>simp [rowC]
  | cons a l ih =>
    have : rowC c (a :: l) = c a ++ rowC c l:=rfl
    rw [this,List.length_append,ih,hk,List.length_cons,Nat.succ_mul,Nat.add_comm]
theorem row_snoc {α : Type} {c : α→List AV} (l : List α) (a : α) : rowC c (l ++ [a]) = rowC c l ++ c a:=by simp [rowC]
theorem IsTy.row {α : Type} {c : α→List AV} {ty : Ty} {k : Nat} {Q : α→Prop} (hel : ∀ el,IsTy ty el→∃ a,el = c a∧Q a) {avs : List AV} (h : IsTy (.slice k ty) avs) :
    ∃ l : List α,avs = [.sl k l.length (rowC c l) .any]∧(∀ a ∈ l,Q a)∧l.length≤maxLen:=by
  obtain ⟨els,rfl,hlen,hall⟩:=IsTy.rows h
  have key : ∀ els : List (List AV),(∀ el ∈ els,el.length = k∧IsTy ty el)→∃ l : List α,els = l.map c∧∀ a ∈ l,Q a:=by
    intro els
    induction els with
    | nil=>intro _; exact ⟨[],rfl,by simp⟩
    | cons e els ih =>
      intro h
      obtain ⟨l,rfl,hl⟩:=ih (fun el hel=>h el (by simp [hel]))
      obtain ⟨_,h1⟩:=h e (by simp)
      obtain ⟨a,rfl,ha⟩:=hel e h1
      refine ⟨a :: l,rfl,?_⟩
      intro b hb
      rcases List.mem_cons.1 hb with rfl | hb
      · exact ha
      · exact hl b hb
  obtain ⟨l,rfl,hl⟩:=key els hall
  exact ⟨l,by simp [rowC],hl,by simpa using hlen⟩
def Pub (n : Nat) : Prop:=2≤n∧n≤2305843009213693949
instance (n : Nat) : Decidable (Pub n):=by unfold Pub; infer_instance
structure PropV where
  kind : Int
  leaf : Int
  name : List UInt8
  key : Nat
  init : Nat
  deriving DecidableEq
structure SealV where
  frm : Nat
  text : List UInt8
  deriving DecidableEq
structure StepV where
  key : Nat
  seals : List SealV
  deriving DecidableEq
structure PathV where
  key : Nat
  parent : List UInt8
  steps : List StepV
  deriving DecidableEq
structure CommitV where
  group : List UInt8
  epoch : Int
  sender : Int
  props : List PropV
  hasPath : Bool
  path : PathV
  confirm : List UInt8
  member : List UInt8
  deriving DecidableEq
def PropV.cells (p : PropV) : List AV:=[.v (.int .i64 p.kind),.v (.int .i64 p.leaf),bytesV p.name .any,.v (.int .u64 p.key),.v (.int .u64 p.init)]
def SealV.cells (p : SealV) : List AV:=[.v (.int .u64 p.frm),bytesV p.text .any]
def StepV.cells (p : StepV) : List AV:=[.v (.int .u64 p.key),.sl 2 p.seals.length (rowC SealV.cells p.seals) .any]
def PathV.cells (p : PathV) : List AV:=[.v (.int .u64 p.key),bytesV p.parent .any,.sl 2 p.steps.length (rowC StepV.cells p.steps) .any]
def CommitV.cells (c : CommitV) : List AV :=
  [bytesV c.group .any,.v (.int .i64 c.epoch),.v (.int .i64 c.sender),.sl 5 c.props.length (rowC PropV.cells c.props) .any,.v (.bool c.hasPath),
   .v (.int .u64 c.path.key),bytesV c.path.parent .any,.sl 2 c.path.steps.length (rowC StepV.cells c.path.steps) .any,bytesV c.confirm .any,bytesV c.member .any]
def PropV.wf (p : PropV) : Prop:=p.key < 2 ^ 64∧p.init < 2 ^ 64
def SealV.wf (p : SealV) : Prop:=p.frm < 2 ^ 64
def StepV.wf (p : StepV) : Prop:=p.key < 2 ^ 64∧(∀ x ∈ p.seals,x.wf)∧p.seals.length≤maxLen
def PathV.wf (p : PathV) : Prop:=p.key < 2 ^ 64∧(∀ x ∈ p.steps,x.wf)∧p.steps.length≤maxLen
def CommitV.wf (c : CommitV) : Prop:=(∀ x ∈ c.props,x.wf)∧c.path.wf∧c.props.length≤maxLen
def PropV.right (p : PropV) : Prop :=
  (p.kind = 1∧p.leaf = 0∧1≤p.name.length∧p.name.length≤16∧Pub p.key∧Pub p.init) ∨
  (p.kind = 2∧0≤p.leaf∧p.leaf < 32∧p.name.length = 0∧Pub p.key∧p.init = 0) ∨
  (p.kind = 3∧0≤p.leaf∧p.leaf < 32∧p.name.length = 0∧p.key = 0∧p.init = 0)
def SealV.right (p : SealV) : Prop:=Pub p.frm∧p.text.length = 48
def StepV.right (p : StepV) : Prop:=(∀ x ∈ p.seals,x.right)∧Pub p.key∧p.seals.length≤32
def PathV.right (p : PathV) : Prop:=(∀ x ∈ p.steps,x.right)∧Pub p.key∧(p.parent.length = 0∨p.parent.length = 32)∧p.steps.length≤5
def PathV.none (p : PathV) : Prop:=p.key = 0∧p.parent.length = 0∧p.steps.length = 0
def CommitV.pathed (c : CommitV) : Prop:=(c.hasPath = true→c.path.right)∧(c.hasPath = false→c.path.none)
def CommitV.right (c : CommitV) : Prop :=
  (∀ x ∈ c.props,x.right)∧(1≤c.group.length∧c.group.length≤16)∧(0≤c.epoch∧c.epoch≤1048576)∧(0≤c.sender∧c.sender < 32)∧c.props.length≤16∧c.pathed∧c.confirm.length = 32∧c.member.length = 32
instance (p : PropV) : Decidable p.right:=by unfold PropV.right; infer_instance
instance (p : SealV) : Decidable p.right:=by unfold SealV.right; infer_instance
instance (p : StepV) : Decidable p.right:=by unfold StepV.right; infer_instance
instance (p : PathV) : Decidable p.right:=by unfold PathV.right; infer_instance
instance (p : PathV) : Decidable p.none:=by unfold PathV.none; infer_instance
instance (c : CommitV) : Decidable c.pathed:=by unfold CommitV.pathed; infer_instance
instance (c : CommitV) : Decidable c.right:=by unfold CommitV.right; infer_instance
end Go.AM
namespace Go.AM
open Go
structure EntV where
  place : Int
  kind : Int
  epoch : Int
  time : Int
  bucket : Int
  deriving DecidableEq
def EntV.cells (e : EntV) : List AV:=[.v (.int .i64 e.place),.v (.int .i64 e.kind),.v (.int .i64 e.epoch),.v (.int .i64 e.time),.v (.int .i64 e.bucket)]
def EntV.nought : EntV:=⟨0,0,0,0,0⟩
abbrev GrpV:=List (List UInt8 × List EntV)
structure LedV where
  count : Int
  time : Int
  gs : GrpV
  shr : List Int
def LedV.new : LedV:=⟨0,0,[],[]⟩
def entsOf (g : List UInt8) : GrpV→List EntV
  | []=>[]
  | (k,es) :: r=>if g = k then es else entsOf g r
def hasG (g : List UInt8) : GrpV→Bool
  | []=>false
  | (k,_) :: r=>if g = k then true else hasG g r
def setE (g : List UInt8) (v : List EntV) : GrpV→GrpV
  | []=>[(g,v)]
  | (k,es) :: r=>if g = k then (k,v) :: r else (k,es) :: setE g v r
def lastE (l : List EntV) : EntV:=l.getLastD EntV.nought
def checkV (L : LedV) (r : Rec) : Int :=
  if ¬ r.right then 12
  else if r.time < L.time then 2
  else if r.kind = 3 then (if r.bucket ∈ L.shr then 51 else 0)
  else if r.bucket ∈ L.shr then 30
  else if r.kind = 2∧entsOf r.group L.gs = [] then 41
  else if (r.kind = 2∧r.epoch≠(lastE (entsOf r.group L.gs)).epoch + 1)∨(r.kind = 1∧entsOf r.group L.gs≠[]∧r.epoch≤(lastE (entsOf r.group L.gs)).epoch) then 42
  else 0
def entOf (L : LedV) (r : Rec) : EntV:=⟨L.count,r.kind,r.epoch,r.time,r.bucket⟩
def addV (L : LedV) (r : Rec) : LedV :=
  if checkV L r≠0 then L
  else if r.kind = 3 then ⟨L.count + 1,r.time,L.gs,L.shr ++ [r.bucket]⟩
  else ⟨L.count + 1,r.time,setE r.group (entsOf r.group L.gs ++ [entOf L r]) L.gs,L.shr⟩
structure GEnt where
  g : List UInt8
  es : List EntV
  t : Nat
  e : Nat
def GEnt.av (x : GEnt) : AV:=.sl 5 x.es.length (rowC EntV.cells x.es) (.own x.t x.e)
def GEnt.kv (x : GEnt) : Value × AV:=(.string ⟨x.g.toArray⟩,x.av)
def GEnt.val (x : GEnt) : List UInt8 × List EntV:=(x.g,x.es)
def shrKV (b : Int) : Value × AV:=(.int .i64 b,.v (.bool true))
def grpAV (gs : List GEnt) (t e : Nat) : AV:=if gs = [] then nilS else .sl 1 gs.length (gs.map fun x=>strC x.g) (.own t e)
def ledC (L : LedV) (xg : AV) (b1 b2 : Nat) : List AV:=[.v (.int .i64 L.count),.v (.int .i64 L.time),xg,.v (.map (some b1)),.v (.map (some b2))]
structure LedS (s0 s : AS) (p : Nat) (L : LedV) (gs : List GEnt) (gt ge b1 b2 : Nat) : Prop where
  val : L.gs = gs.map GEnt.val
  obj : s.objs p = some (ledC L (grpAV gs gt ge) b1 b2)
  m1 : s.maps b1 = some (.map (gs.map GEnt.kv))
  m2 : s.maps b2 = some (.map (L.shr.map shrKV))
  ne : b1≠b2
  own : ∀ x ∈ gs,s.own x.t = some x.e∧s0.own x.t = none
  nodup : (gs.map GEnt.t).Nodup
  gown : gs≠[]→s.own gt = some ge∧s0.own gt = none∧gt ∉ gs.map GEnt.t
  p0 : s0.objs p = none
  b10 : s0.maps b1 = none
  b20 : s0.maps b2 = none
  le : s0.le s
theorem AS.set_maps (s : AS) (o : Nat) (cs : List AV) : (s.set o cs).maps = s.maps:=rfl
theorem AS.gain_maps (s : AS) (t e : Nat) : (s.gain t e).maps = s.maps:=rfl
theorem AS.setMap_objs (s : AS) (b : Nat) (l : List (Value × AV)) : (s.setMap b l).objs = s.objs:=rfl
theorem AS.setMap_same (s : AS) (b : Nat) (l : List (Value × AV)) : (s.setMap b l).maps b = some (.map l):=by simp [AS.setMap,AS.putM]
theorem AS.setMap_ne (s : AS) {b b' : Nat} (h : b'≠b) (l : List (Value × AV)) : (s.setMap b l).maps b' = s.maps b':=by simp [AS.setMap,AS.putM,upd,h]
theorem AS.le_setMap {s s' : AS} (h : s.le s') {b : Nat} (hb : s.maps b = none) (l : List (Value × AV)) : s.le (s'.setMap b l):=by
  refine ⟨h.objs,h.own,fun b' l' hl=>?_⟩
  have e : b'≠b:=by rintro rfl; rw [hb] at hl; cases hl
  rw [AS.setMap_ne _ e]
  exact h.maps b' l' hl
theorem bytes_beqL (a b : List UInt8) : ((⟨a.toArray⟩ : ByteArray) == ⟨b.toArray⟩) = decide (a = b):=by
  rw [Bool.eq_iff_iff,MapKept.bytes_beq,decide_eq_true_iff]
  constructor
  · intro h
    have:=congrArg (fun x : ByteArray=>x.data.toList) h
    simpa using this
  · rintro rfl; rfl
theorem find_grp (g : List UInt8) : ∀ gs : List GEnt,amFind .string (.string ⟨g.toArray⟩) (gs.map GEnt.kv) = some ((gs.find? fun x=>decide (g = x.g)).map GEnt.av)
  | []=>rfl
  | x :: gs=>by
    have ih:=find_grp g gs
    simp only [List.map_cons,GEnt.kv,amFind,Instr.sameNow,bytes_beqL,List.find?_cons] at ih ⊢
    by_cases h : g = x.g
    · simp only [decide_eq_true h,Option.map_some]
    · simp only [decide_eq_false h]
      exact ih
theorem set_grp (g : List UInt8) (v : AV) : ∀ gs : List GEnt,amSet .string (.string ⟨g.toArray⟩) v (gs.map GEnt.kv) =
    some (match gs.findIdx? fun x=>decide (g = x.g) with
      | some i=>(gs.map GEnt.kv).modify i fun x=>(x.1,v)
      | none=>gs.map GEnt.kv ++ [(.string ⟨g.toArray⟩,v)])
  | []=>rfl
  | x :: gs=>by
    have ih:=set_grp g v gs
    simp only [List.map_cons,GEnt.kv,amSet,Instr.sameNow,bytes_beqL,List.findIdx?_cons] at ih ⊢
    by_cases h : g = x.g
    · simp only [decide_eq_true h,if_true,List.modify_zero_cons]
    · simp only [decide_eq_false h,if_false,Bool.false_eq_true]
      rw [ih]
      cases gs.findIdx? fun x=>decide (g = x.g) with
      | none=>simp
      | some i=>simp [List.modify_succ_cons]
theorem find_shr (b : Int) : ∀ l : List Int,amFind (.int .i64) (.int .i64 b) (l.map shrKV) = some (if b ∈ l then some (.v (.bool true)) else none)
  | []=>rfl
  | x :: l=>by
    have ih:=find_shr b l
    simp only [List.map_cons,shrKV,amFind,Instr.sameNow,if_true,List.mem_cons] at ih ⊢
    by_cases h : b = x
    · subst h; simp
    · have : (b == x) = false:=by simpa using h
      simp only [this,h,false_or]
      exact ih
theorem set_shr (b : Int) : ∀ l : List Int,b ∉ l→amSet (.int .i64) (.int .i64 b) (.v (.bool true)) (l.map shrKV) = some ((l ++ [b]).map shrKV)
  | [],_=>rfl
  | x :: l,h=>by
    simp only [List.mem_cons,not_or] at h
    have ih:=set_shr b l h.2
    simp only [List.map_cons,shrKV,amSet,Instr.sameNow,if_true,List.cons_append] at ih ⊢
    have : (b == x) = false:=by simpa using h.1
    simp only [this]
    rw [ih]
    rfl
def LedV.inv (L : LedV) : Prop:=∀ q ∈ L.gs,q.2≠[]∧q.2.length≤2 ^ 40∧∀ e ∈ q.2,0≤e.epoch∧e.epoch≤1048576
theorem LedV.inv.gs {L : LedV} {gs : List GEnt} (h : L.inv) (hv : L.gs = gs.map GEnt.val) : ∀ x ∈ gs,x.es≠[]∧x.es.length≤2 ^ 40:=by
  intro x hx
  have:=h (GEnt.val x) (by rw [hv]; exact List.mem_map_of_mem hx)
  exact ⟨this.1,this.2.1⟩
theorem entsOf_mem {g : List UInt8} : ∀ {l : GrpV},entsOf g l = []∨∃ q ∈ l,q.1 = g∧q.2 = entsOf g l
  | []=>.inl rfl
  | (k,es) :: l=>by
    by_cases h : g = k
    · simp only [entsOf,if_pos h]
      exact .inr ⟨_,List.mem_cons_self,h.symm,rfl⟩
    · simp only [entsOf,if_neg h]
      rcases entsOf_mem (g:=g) (l:=l) with a | ⟨q,a,b⟩
      · exact .inl a
      · exact .inr ⟨q,List.mem_cons_of_mem _ a,b⟩
theorem LedV.inv.last {L : LedV} (h : L.inv) (g : List UInt8) : 0≤(lastE (entsOf g L.gs)).epoch∧(lastE (entsOf g L.gs)).epoch≤1048576:=by
  rcases entsOf_mem (g:=g) (l:=L.gs) with a | ⟨q,a,_,b⟩
  · rw [a]; exact ⟨by decide,by decide⟩
  · rw [← b]
    obtain ⟨h1,_,h3⟩:=h q a
    unfold lastE
    have hl0 : 0 < q.2.length:=List.length_pos_iff.2 h1
    rw [List.getLastD_eq_getLast?,List.getLast?_eq_getElem?,List.getElem?_eq_getElem (by omega)]
    exact h3 _ (List.getElem_mem _)
theorem hasE_none {g : List UInt8} {gs : List GEnt} {l : GrpV} (h : (gs.find? fun x=>decide (g = x.g)) = none) (hv : l = gs.map GEnt.val) : ∀ q ∈ l,g≠q.1:=by
  intro q hq
  rw [hv] at hq
  obtain ⟨x,hx,rfl⟩:=List.mem_map.1 hq
  have:=List.find?_eq_none.1 h x hx
  simpa [GEnt.val] using this
theorem setE_new {g : List UInt8} {v : List EntV} : ∀ {l : GrpV},(∀ q ∈ l,g≠q.1)→setE g v l = l ++ [(g,v)]
  | [],_=>rfl
  | (k,es) :: l,h=>by
    have h1 : g≠k:=h (k,es) List.mem_cons_self
    simp only [setE,if_neg h1,List.cons_append]
    rw [setE_new fun q hq=>h q (List.mem_cons_of_mem _ hq)]
theorem find_idx {g : List UInt8} : ∀ {gs : List GEnt} {x : GEnt},(gs.find? fun x=>decide (g = x.g)) = some x→∃ i,∃ h : i < gs.length,gs[i] = x∧(gs.findIdx? fun x=>decide (g = x.g)) = some i
  | [],_,h=>by cases h
  | y :: gs,x,h=>by
    rw [List.find?_cons] at h
    by_cases e : g = y.g
    · simp only [decide_eq_true e,Option.some.injEq] at h
      subst h
      exact ⟨0,by simp,rfl,by simp [List.findIdx?_cons,e]⟩
    · simp only [decide_eq_false e] at h
      obtain ⟨i,hi,h1,h2⟩:=find_idx h
      exact ⟨i + 1,by simp; omega,by simpa using h1,by simp [List.findIdx?_cons,e,h2]⟩
theorem setE_set {g : List UInt8} {v : List EntV} {t e : Nat} : ∀ {gs : List GEnt} {i : Nat} {x : GEnt} (h : i < gs.length),gs[i] = x→(gs.find? fun x=>decide (g = x.g)) = some x→(gs.findIdx? fun x=>decide (g = x.g)) = some i→x.g = g →
    setE g v (gs.map GEnt.val) = (gs.set i ⟨g,v,t,e⟩).map GEnt.val
  | [],i,x,h,_,_,_,_=>absurd h (by simp)
  | y :: gs,i,x,h,hx,h1,h2,hg=>by
    rw [List.find?_cons] at h1
    rw [List.findIdx?_cons] at h2
    by_cases e' : g = y.g
    · simp only [decide_eq_true e',if_true,Option.some.injEq] at h2
      subst h2
      simp [setE,GEnt.val,e']
    · simp only [decide_eq_false e',Bool.false_eq_true,if_false,Option.map_eq_some_iff] at h1 h2
      obtain ⟨k,hk,rfl⟩:=h2
      have ih:=setE_set (v:=v) (t:=t) (e:=e) (gs:=gs) (i:=k) (x:=x) (by simpa using h) (by simpa using hx) h1 hk hg
      simp only [List.map_cons,GEnt.val,setE,if_neg e',List.set_cons_succ] at ih ⊢
      rw [ih]
theorem grpAV_set {g : List UInt8} {es : List EntV} {t e gt ge : Nat} {gs : List GEnt} {i : Nat} {x : GEnt} (h : i < gs.length) (hx : gs[i] = x) (hg : x.g = g) : grpAV (gs.set i ⟨g,es,t,e⟩) gt ge = grpAV gs gt ge:=by
  have h0 : gs≠[]:=fun e=>by rw [e] at h; cases h
  have h1 : gs.set i ⟨g,es,t,e⟩≠[]:=fun e=>by have:=congrArg List.length e; simp at this; exact h0 this
  unfold grpAV
  rw [if_neg h0,if_neg h1,List.length_set]
  congr 1
  apply List.ext_getElem
  · simp
  · intro j h2 h3
    simp only [List.getElem_map,List.getElem_set]
    split
    · rename_i e; subst e; rw [hx,hg]
    · rfl
theorem kv_set {g : List UInt8} {es : List EntV} {d : EntV} {t e : Nat} {gs : List GEnt} {i : Nat} {x : GEnt} (h : i < gs.length) (hx : gs[i] = x) (hg : x.g = g) :
    ((gs.map GEnt.kv).modify i fun y=>(y.1,AV.sl 5 (es.length + 1) (rowC EntV.cells es ++ d.cells) (.own t e))) = (gs.set i ⟨g,es ++ [d],t,e⟩).map GEnt.kv:=by
  apply List.ext_getElem
  · simp
  · intro j h2 h3
    simp only [List.getElem_modify,List.getElem_map,List.getElem_set]
    by_cases e : i = j
    · subst e
      rw [if_pos rfl,if_pos rfl]
      simp [GEnt.kv,GEnt.av,hx,hg,rowC]
    · rw [if_neg e,if_neg e]
theorem mem_set_nodup {gs : List GEnt} (hn : (gs.map GEnt.t).Nodup) {i : Nat} {x y : GEnt} {n : GEnt} (h : i < gs.length) (hx : gs[i] = x) (hy : y ∈ gs.set i n) : y = n∨(y ∈ gs∧y.t≠x.t):=by
  obtain ⟨j,hj,rfl⟩:=List.getElem_of_mem hy
  rw [List.length_set] at hj
  rw [List.getElem_set]
  by_cases e : i = j
  · exact .inl (if_pos e)
  · rw [if_neg e]
    refine .inr ⟨List.getElem_mem _,fun q=>e ?_⟩
    subst hx
    have:=(List.getElem_inj (h₀:=by simpa using hj) (h₁:=by simpa using h) hn).1 (by simpa using q)
    exact this.symm
theorem toks_set {g : List UInt8} {es : List EntV} {e : Nat} {gs : List GEnt} {i : Nat} {x : GEnt} (h : i < gs.length) (hx : gs[i] = x) : (gs.set i ⟨g,es,x.t,e⟩).map GEnt.t = gs.map GEnt.t:=by
  apply List.ext_getElem
  · simp
  · intro j h2 h3
    simp only [List.getElem_map,List.getElem_set]
    split
    · rename_i q; subst q; rw [hx]
    · rfl
end Go.AM
namespace Go.Proofs.Ytfbbckndpkmfcaa
open Go Go.AM Go.Proofs
variable {Γ : Nat→List AV}
theorem dec_i64 {k : Int} (h1 : -4611686018427387904≤k) (h2 : k≤4611686018427387904) : isub .i64 k 1 = k - 1:=IntWalk.i64_in _ (by omega)
theorem int_eq_yes {a b : Int} (h : a = b) : (a == b) = true:=by simpa using h
theorem int_eq_no {a b : Int} (h : a≠b) : (a == b) = false:=by simpa using h
theorem int_bne_true {a b : Int} (h : a≠b) : (a != b) = true:=by simpa using h
theorem int_bne_false {a b : Int} (h : a = b) : (a != b) = false:=by simpa using h
theorem ledNew_calls (s : AS) : ACalls Try.prog Γ 7 [] s (fun r s'=>∃ p b1 b2,r = .ptr p 0∧LedS s s' p LedV.new [] 0 0 b1 b2):=by
 refine acalls_body Try.func7 rfl Try.ntmps7 Try.results7 (by simp) ?_
 refine wS fun K hK=>?_
 simp only [↓DN,Qa,Qb,Qc,Qd,Qe,Qf,Qg,Qh,reduceCtorEq,↓reduceIte,Na,Nb,Nc,Nk,Nf,Ng,Nh,Za,Zb,Zc,TT]
 refine hK _ _ ?_;clear hK K
 refine wS fun K hK=>?_
 simp only [↓DN,Qa,Qb,Qc,Qd,Qe,Qf,Qg,Qh,reduceCtorEq,↓reduceIte,Na,Nb,Nc,Nk,Nf,Ng,Nh,Za,Zb,Zc,TT]
 intro b1 h1 b2 h2 p hp
 refine hK _ _ ?_;clear hK K
 have hne : b2≠b1:=by
  rintro rfl
  simp [AS.setMap,AS.putM] at h2
 have h2' : s.maps b2 = none:=by simpa [AS.setMap,AS.putM,upd,hne] using h2
 have hp' : s.objs p = none:=hp
 refine awp_ret ?_
 try simp only [thenQ,blockQ]
 simp only [retQ,AEnds,aresL,ares,List.toList_toArray,↓upd_same]; try simp only [UP,DF,Nc,↓reduceIte,DT]
 refine ⟨_,_,AV.weak.refl _,AS.le.refl _,p,b1,b2,rfl,?_⟩
 exact {
  val:=rfl
  obj:=by rw [AS.set_objs_same]; rfl
  m1:=by simp [AS.set,AS.setMap,AS.putM,upd,hne.symm]
  m2:=by simp [AS.set,AS.setMap,AS.putM,upd,LedV.new]
  ne:=hne.symm
  own:=fun x hx=>by cases hx
  nodup:=by simp
  gown:=fun h=>absurd rfl h
  p0:=hp'
  b10:=h1
  b20:=h2'
  le:=by
   refine ⟨fun o cs hc=>?_,fun t e he=>he,fun b l hb=>?_⟩
   ·rw [AS.set_objs_ne _ (by rintro rfl; rw [hp'] at hc; cases hc)]
    exact hc
   ·have e1 : b≠b1:=by rintro rfl; rw [h1] at hb; cases hb
    have e2 : b≠b2:=by rintro rfl; rw [h2'] at hb; cases hb
    simpa [AS.set,AS.setMap,AS.putM,upd,e1,e2] using hb }
theorem ledCount_calls {s0 s : AS} {p : Nat} {L : LedV} {gs : List GEnt} {gt ge b1 b2 : Nat} (h : LedS s0 s p L gs gt ge b1 b2) : ACalls Try.prog Γ 19 [.ptr p 0] s (fun r s'=>r = .v (.int .i64 L.count)∧s' = s):=by
 refine acalls_body Try.func19 rfl Try.ntmps19 Try.results19 (by simp) ?_
 have ho:=h.obj
 unfold ledC at ho
 refine wS fun K hK=>?_
 simp only [↓DN,Qa,Qb,Qc,Qd,Qe,Qf,Qg,Qh,reduceCtorEq,↓reduceIte,Na,Nb,Nc,Nk,Nf,Ng,Nh,Za,Zb,Zc,TT]
 refine hK _ _ ?_;clear hK K
 refine wS fun K hK=>?_
 simp only [↓DN,Qa,Qb,Qc,Qd,Qe,Qf,Qg,Qh,reduceCtorEq,↓reduceIte,Na,Nb,Nc,Nk,Nf,Ng,Nh,Za,Zb,Zc,TT,ho]
 refine hK _ _ ?_;clear hK K
 refine awp_ret ?_
 try simp only [thenQ,blockQ]
 simp only [retQ,AEnds,aresL,ares,List.toList_toArray,↓upd_same]; try simp only [UP,DF,Nc,↓reduceIte,DT]
 exact ⟨_,_,AV.weak.refl _,AS.le.refl _,rfl,rfl⟩
theorem lookE {gs : List GEnt} (g : List UInt8) : (gs.find? fun x=>decide (g = x.g)) = none∧entsOf g (gs.map GEnt.val) = []∧hasG g (gs.map GEnt.val) = false∨∃ x ∈ gs,(gs.find? fun x=>decide (g = x.g)) = some x∧x.g = g∧entsOf g (gs.map GEnt.val) = x.es∧hasG g (gs.map GEnt.val) = true:=by
 induction gs with
 | nil=>exact .inl (by simp [entsOf,hasG])
 | cons x gs ih =>
  simp only [List.find?_cons,List.map_cons,GEnt.val,entsOf,hasG] at ih ⊢
  by_cases h : g = x.g
  ·simp only [decide_eq_true h,if_pos h]
   exact .inr ⟨x,List.mem_cons_self,rfl,h.symm,by simp,by simp⟩
  ·simp only [decide_eq_false h,if_neg h]
   rcases ih with a | ⟨y,hy,a⟩
   ·exact .inl a
   ·exact .inr ⟨y,List.mem_cons_of_mem _ hy,a⟩
theorem ledLast_calls {s0 s : AS} {p : Nat} {L : LedV} {gs : List GEnt} {gt ge b1 b2 : Nat} (h : LedS s0 s p L gs gt ge b1 b2) (hle : ∀ x ∈ gs,x.es≠[]∧x.es.length≤2 ^ 40) (g : List UInt8) :
  ACalls Try.prog Γ 21 [.ptr p 0,bytesV g .any] s (fun r s'=>r = .tup [.agg (lastE (entsOf g L.gs)).cells,.v (.bool (decide (entsOf g L.gs≠[])))]∧s' = s):=by
 refine acalls_body Try.func21 rfl Try.ntmps21 Try.results21 (by simp) ?_
 have ho:=h.obj
 have hm:=h.m1
 have hf:=find_grp g gs
 have hz : azero Try.prog 58 = some (.slice none 0 0):=by kernel_rfl
 have hk : keyPlain .string (.string ⟨g.toArray⟩) = true:=rfl
 have hcase:=lookE (gs:=gs) g
 rw [← h.val] at hcase
 unfold ledC at ho
 unfold bytesV
 refine wS fun K hK=>?_
 simp only [↓DN,Qa,Qb,Qc,Qd,Qe,Qf,Qg,Qh,reduceCtorEq,↓reduceIte,Na,Nb,Nc,Nk,Nf,Ng,Nh,Za,Zb,Zc,TT]
 intro o4 q4
 refine hK _ _ ?_;clear hK K
 have hp4 : p≠o4:=by rintro rfl; rw [ho] at q4; cases q4
 rcases hcase with ⟨h1,h2,_⟩ | ⟨x,hx,h1,h2,h3,_⟩
 ·rw [h1] at hf
  rw [h2]
  refine awp_drw_seq T.mixed [3,6] (by kernel_rfl) ?_
  intro K hK
  simp only [↓DM,pval,DX,Nz,↓DN,Qa,Qb,Qc,Qd,Qe,Qf,Qg,Qh,reduceCtorEq,↓reduceIte,Na,Nb,Nc,Nk,Nf,Ng,Nh,Za,Zb,Zc,TT,AS.set_objs_ne _ hp4,ho,AS.set_maps,amOf,avOf,hm,Try.underlying49,Try.underlying9,hz,hk,hf]
  refine hK _ _ ?_;clear hK K
  refine wK fun K hK=>?_
  refine wS fun K hK=>?_
  simp only [↓DN,Qa,Qb,Qc,Qd,Qe,Qf,Qg,Qh,reduceCtorEq,↓reduceIte,Na,Nb,Nc,Nk,Nf,Ng,Nh,Za,Zb,Zc,TT,show (((0 : Nat) : Int) == 0) = true from rfl]
  refine hK _ _ ?_;clear hK K
  refine wC fun X Y hX hY=>?_
  simp only [UP,DF,Nc,↓reduceIte,DB]
  refine hX ?_;clear hX hY X Y
  refine wS fun K hK=>?_
  simp only [↓DN,Qa,Qb,Qc,Qd,Qe,Qf,Qg,Qh,reduceCtorEq,↓reduceIte,Na,Nb,Nc,Nk,Nf,Ng,Nh,Za,Zb,Zc,TT,AS.set_objs_same]
  refine hK _ _ ?_;clear hK K
  refine awp_ret ?_
  refine aends_cell_tmp (o:=o4) (off:=0) (by simp only [upd,Nc,↓reduceIte]) (AS.set_objs_same _ _ _) (by rw [T.c54]; decide) (by simp only [↓DN,Qa,Qb,Qc,Qd,Qe,Qf,Qg,Qh,reduceCtorEq,↓reduceIte,Na,Nb,Nc,Nk,Nf,Ng,Nh,Za,Zb,Zc,TT]; rfl) ?_
  exact ⟨_,s,AV.weak.refl _,AS.le_set (AS.le.refl s) q4 _,rfl,rfl⟩
 ·obtain ⟨hne,hl40⟩:=hle x hx
  rw [h1] at hf
  simp only [Option.map_some,GEnt.av] at hf
  rw [h3]
  refine awp_drw_seq T.mixed [3,6] (by kernel_rfl) ?_
  intro K hK
  simp only [↓DM,pval,DX,Nz,↓DN,Qa,Qb,Qc,Qd,Qe,Qf,Qg,Qh,reduceCtorEq,↓reduceIte,Na,Nb,Nc,Nk,Nf,Ng,Nh,Za,Zb,Zc,TT,AS.set_objs_ne _ hp4,ho,AS.set_maps,amOf,avOf,hm,Try.underlying49,Try.underlying9,hz,hk,hf]
  refine hK _ _ ?_;clear hK K
  have hl0 : 0 < x.es.length:=List.length_pos_iff.2 hne
  have e0 : ((x.es.length : Int) == 0) = false:=by rw [beq_eq_false_iff_ne]; omega
  have e1 : isub .i64 (x.es.length : Int) 1 = ((x.es.length - 1 : Nat) : Int):=by rw [dec_i64 (by omega) (by omega)]; omega
  have hat:=row_at (c:=EntV.cells) (k:=5) (fun _=>rfl) (show x.es.length - 1 < x.es.length by omega)
  have hla : x.es[x.es.length - 1] = lastE x.es:=by
   unfold lastE
   rw [List.getLastD_eq_getLast?,List.getLast?_eq_getElem?,List.getElem?_eq_getElem (by omega)]
   rfl
  rw [hla] at hat
  have hge : (0 : Int)≤((x.es.length - 1 : Nat) : Int):=by omega
  have hlt : x.es.length - 1 < x.es.length:=by omega
  rw [decide_eq_true hne]
  generalize lastE x.es = le at *
  obtain ⟨l1,l2,l3,l4,l5⟩:=le
  unfold EntV.cells at hat ⊢
  simp only at hat ⊢
  generalize rowC EntV.cells x.es = X at *
  refine wK fun K hK=>?_
  refine wS fun K hK=>?_
  simp only [↓DN,Qa,Qb,Qc,Qd,Qe,Qf,Qg,Qh,reduceCtorEq,↓reduceIte,Na,Nb,Nc,Nk,Nf,Ng,Nh,Za,Zb,Zc,TT,e0]
  refine hK _ _ ?_;clear hK K
  refine wC fun X Y hX hY=>?_
  simp only [UP,DF,Nc,↓reduceIte,DB]
  refine hY ?_;clear hX hY X Y
  refine awp_skip ?_
  refine hK _ _ ?_;clear hK K
  refine wS fun K hK=>?_
  simp only [↓DN,Qa,Qb,Qc,Qd,Qe,Qf,Qg,Qh,reduceCtorEq,↓reduceIte,Na,Nb,Nc,Nk,Nf,Ng,Nh,Za,Zb,Zc,TT,e1,hge,hlt,eye_lt_nat,hat,AS.set_objs_same]
  refine hK _ _ ?_;clear hK K
  refine awp_ret ?_
  refine aends_cell_tmp (o:=o4) (off:=0) (by simp only [upd,Nc,↓reduceIte]) (AS.set_objs_same _ _ _) (by rw [T.c54]; decide) (by simp only [↓DN,Qa,Qb,Qc,Qd,Qe,Qf,Qg,Qh,reduceCtorEq,↓reduceIte,Na,Nb,Nc,Nk,Nf,Ng,Nh,Za,Zb,Zc,TT]; rfl) ?_
  exact ⟨_,s,AV.weak.refl _,AS.le_set (AS.le.refl s) q4 _,rfl,rfl⟩
end Go.Proofs.Ytfbbckndpkmfcaa
namespace Go.Proofs.Ytfbbckndpkmfcaa
open Go Go.AM Go.Proofs
variable {Γ : Nat→List AV}
theorem clone_calls (l : List UInt8) (sp : Sp) (ha : sp.isAny = false) (s : AS) (hl : l.length≤2 ^ 45) : ACalls Try.prog Γ 59 [bytesV l sp] s (fun r s'=>r = bytesV l .any∧s' = s):=by
 refine acalls_body Try.func59 rfl Try.ntmps59 Try.results59 (by simp) ?_
 unfold bytesV
 refine wS fun K hK=>?_
 simp only [↓DN,Qa,Qb,Qc,Qd,Qe,Qf,Qg,Qh,reduceCtorEq,↓reduceIte,Na,Nb,Nc,Nk,Nf,Ng,Nh,Za,Zb,Zc,TT]
 refine hK _ _ ?_;clear hK K
 refine wK fun K hK=>?_
 refine wS fun K hK=>?_
 simp only [↓DN,Qa,Qb,Qc,Qd,Qe,Qf,Qg,Qh,reduceCtorEq,↓reduceIte,Na,Nb,Nc,Nk,Nf,Ng,Nh,Za,Zb,Zc,TT,ha,Bool.false_eq_true,and_false]
 refine hK _ _ ?_;clear hK K
 refine wC fun X Y hX hY=>?_
 simp only [UP,DF,Nc,↓reduceIte,DB]
 refine hY ?_;clear hX hY X Y
 refine awp_skip ?_
 refine hK _ _ ?_;clear hK K
 by_cases h0 : l.length = 0
 ·have hl0 : l = []:=List.eq_nil_of_length_eq_zero h0
  subst hl0
  refine wS fun K hK=>?_
  simp only [↓DN,Qa,Qb,Qc,Qd,Qe,Qf,Qg,Qh,reduceCtorEq,↓reduceIte,Na,Nb,Nc,Nk,Nf,Ng,Nh,Za,Zb,Zc,TT]
  refine hK _ _ ?_;clear hK K
  refine awp_ret ?_
  simp only [↓DN,Qa,Qb,Qc,Qd,Qe,Qf,Qg,Qh,reduceCtorEq,↓reduceIte,Na,Nb,Nc,Nk,Nf,Ng,Nh,Za,Zb,Zc,TT,retQ,AEnds,aresL,ares,atuple]
  exact ⟨_,s,AV.weak_any,AS.le.refl s,rfl,rfl⟩
 ·refine wS fun K hK=>?_
  simp only [↓DN,Qa,Qb,Qc,Qd,Qe,Qf,Qg,Qh,reduceCtorEq,↓reduceIte,Na,Nb,Nc,Nk,Nf,Ng,Nh,Za,Zb,Zc,TT,h0]
  refine ⟨by omega,by omega,fun t ht=>hK _ _ ?_⟩
  clear hK K
  refine awp_ret ?_
  simp only [↓DN,Qa,Qb,Qc,Qd,Qe,Qf,Qg,Qh,reduceCtorEq,↓reduceIte,Na,Nb,Nc,Nk,Nf,Ng,Nh,Za,Zb,Zc,TT,retQ,AEnds,aresL,ares,atuple]
  exact ⟨_,s,AV.weak_any,AS.le_gain (AS.le.refl s) ht 0,rfl,rfl⟩
end Go.Proofs.Ytfbbckndpkmfcaa
namespace Go.Proofs.Ytfbbckndpkmfcaa
open Go Go.AM Go.Proofs
variable {Γ : Nat→List AV}
theorem clone_nil (s : AS) : ACalls Try.prog Γ 59 [nilS] s (fun r s'=>r = bytesV [] .any∧s' = s):=by
 refine acalls_body Try.func59 rfl Try.ntmps59 Try.results59 (by simp) ?_
 unfold nilS
 refine wS fun K hK=>?_
 simp only [↓DN,Qa,Qb,Qc,Qd,Qe,Qf,Qg,Qh,reduceCtorEq,↓reduceIte,Na,Nb,Nc,Nk,Nf,Ng,Nh,Za,Zb,Zc,TT]
 refine hK _ _ ?_;clear hK K
 refine wK fun K hK=>?_
 refine wS fun K hK=>?_
 simp only [↓DN,Qa,Qb,Qc,Qd,Qe,Qf,Qg,Qh,reduceCtorEq,↓reduceIte,Na,Nb,Nc,Nk,Nf,Ng,Nh,Za,Zb,Zc,TT]
 refine hK _ _ ?_;clear hK K
 refine wC fun X Y hX hY=>?_
 simp only [UP,DF,Nc,↓reduceIte,DB]
 refine hX ?_;clear hX hY X Y
 refine wS fun K hK=>?_
 simp only [↓DN,Qa,Qb,Qc,Qd,Qe,Qf,Qg,Qh,reduceCtorEq,↓reduceIte,Na,Nb,Nc,Nk,Nf,Ng,Nh,Za,Zb,Zc,TT]
 refine hK _ _ ?_;clear hK K
 refine awp_ret ?_
 simp only [retQ,AEnds,aresL,ares,List.toList_toArray,↓upd_same]; try simp only [UP,DF,Nc,↓reduceIte,DT]
 exact ⟨_,_,AV.weak_nil,AS.le.refl _,rfl,rfl⟩
theorem cloneB_calls (l : List UInt8) (s : AS) (hl : l.length≤2 ^ 45) : ACalls Try.prog Γ 59 [bytesV l .any] s (fun r s'=>r = bytesV l .any∧s' = s) :=
 ACalls.any (pre:=[]) (post:=[]) (fun e=>by subst e; exact clone_nil s) (clone_calls l .no rfl s hl)
end Go.Proofs.Ytfbbckndpkmfcaa
