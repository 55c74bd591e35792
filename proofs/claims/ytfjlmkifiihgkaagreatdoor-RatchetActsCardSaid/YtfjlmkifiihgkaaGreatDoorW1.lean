/- Contracts of the program's functions, each walked once; the conditions stand in each theorem. -/
import Derived.Test.YtfjlmkifiihgkaaGreatDoorProg
import Derived.Test.YtfjlmkifiihgkaaGreatDoorAMp4
import Derived.Test.YtfjlmkifiihgkaaGreatDoorAMp6
import Derived.Test.YtfjlmkifiihgkaaGreatDoorAMp5
set_option linter.unusedSimpArgs false
set_option linter.unusedVariables false
open Nat renaming reduceLT → Na, reduceLeDiff → Nb, reduceEqDiff → Nc, reduceAdd → Nk, reduceMul → Nf, reducePow → Ng, reduceSub → Nh, reduceBEq → Nz
open Int renaming reduceLT → Za, reduceLE → Zb, reduceToNat → Zc
open And renaming intro → Ai
open Go.AM renaming ashift → Qa, aconv → Qb, aindexAddr → Qc, aindex → Qd, aslice → Qe, abuiltin → Qf, awp_reg_seq → wS, awp_reg_end → wE, awp_seq_k → wK, awp_cond_k → wC
open Go.AM.AV renaming cells → Qg, one → Qh
set_option maxRecDepth 100000
set_option maxHeartbeats 8000000
set_option autoImplicit false
namespace Go.Proofs.YtfjlmkifiihgkaaGreatDoor
open Go Go.AM Go.Proofs
theorem T.c2 : Tryz.prog.cellsOf 2 = 1:=by kernel_rfl
theorem T.b2 : Tryz.prog.bytesOf 2 = 8:=by kernel_rfl
theorem T.g2 : isAggT Tryz.prog 2 = some false:=by kernel_rfl
theorem T.z2 : zcells Tryz.prog 2 = some [.v (.int .i64 0)]:=by kernel_rfl
theorem T.c3 : Tryz.prog.cellsOf 3 = 1:=by kernel_rfl
theorem T.b3 : Tryz.prog.bytesOf 3 = 8:=by kernel_rfl
theorem T.g3 : isAggT Tryz.prog 3 = some false:=by kernel_rfl
theorem T.z3 : zcells Tryz.prog 3 = some [.v (.int .i64 0)]:=by kernel_rfl
theorem T.c4 : Tryz.prog.cellsOf 4 = 1:=by kernel_rfl
theorem T.b4 : Tryz.prog.bytesOf 4 = 1:=by kernel_rfl
theorem T.g4 : isAggT Tryz.prog 4 = some false:=by kernel_rfl
theorem T.z4 : zcells Tryz.prog 4 = some [.v (.bool false)]:=by kernel_rfl
theorem T.c5 : Tryz.prog.cellsOf 5 = 1:=by kernel_rfl
theorem T.b5 : Tryz.prog.bytesOf 5 = 1:=by kernel_rfl
theorem T.g5 : isAggT Tryz.prog 5 = some false:=by kernel_rfl
theorem T.z5 : zcells Tryz.prog 5 = some [.v (.int .u8 0)]:=by kernel_rfl
theorem T.c6 : Tryz.prog.cellsOf 6 = 1:=by kernel_rfl
theorem T.g6 : isAggT Tryz.prog 6 = some false:=by kernel_rfl
theorem T.z6 : zcells Tryz.prog 6 = some [.v (.int .u8 0)]:=by kernel_rfl
theorem T.g7 : isAggT Tryz.prog 7 = some true:=by kernel_rfl
theorem T.h7 : fieldsOk Tryz.prog 7 = true:=by kernel_rfl
theorem T.c8 : Tryz.prog.cellsOf 8 = 4:=by kernel_rfl
theorem T.g8 : isAggT Tryz.prog 8 = some true:=by kernel_rfl
theorem T.h8 : fieldsOk Tryz.prog 8 = true:=by kernel_rfl
theorem T.c9 : Tryz.prog.cellsOf 9 = 1:=by kernel_rfl
theorem T.b9 : Tryz.prog.bytesOf 9 = 16:=by kernel_rfl
theorem T.g9 : isAggT Tryz.prog 9 = some false:=by kernel_rfl
theorem T.z9 : zcells Tryz.prog 9 = some [.v (.string ByteArray.empty)]:=by kernel_rfl
theorem T.g10 : isAggT Tryz.prog 10 = some false:=by kernel_rfl
theorem T.g11 : isAggT Tryz.prog 11 = some false:=by kernel_rfl
theorem T.g12 : isAggT Tryz.prog 12 = some false:=by kernel_rfl
theorem T.g13 : isAggT Tryz.prog 13 = some true:=by kernel_rfl
theorem T.h13 : fieldsOk Tryz.prog 13 = true:=by kernel_rfl
theorem T.g14 : isAggT Tryz.prog 14 = some true:=by kernel_rfl
theorem T.g15 : isAggT Tryz.prog 15 = some false:=by kernel_rfl
theorem T.g17 : isAggT Tryz.prog 17 = some false:=by kernel_rfl
theorem T.p17 : isPtrT Tryz.prog 17 = true:=by kernel_rfl
theorem T.g19 : isAggT Tryz.prog 19 = some true:=by kernel_rfl
theorem T.g21 : isAggT Tryz.prog 21 = some false:=by kernel_rfl
theorem T.c22 : Tryz.prog.cellsOf 22 = 1:=by kernel_rfl
theorem T.b22 : Tryz.prog.bytesOf 22 = 24:=by kernel_rfl
theorem T.g22 : isAggT Tryz.prog 22 = some false:=by kernel_rfl
theorem T.z22 : zcells Tryz.prog 22 = some [.v (.slice none 0 0)]:=by kernel_rfl
theorem T.s22 : isSliceT Tryz.prog 22 = true:=by kernel_rfl
theorem T.c23 : Tryz.prog.cellsOf 23 = 1:=by kernel_rfl
theorem T.b23 : Tryz.prog.bytesOf 23 = 8:=by kernel_rfl
theorem T.g23 : isAggT Tryz.prog 23 = some false:=by kernel_rfl
theorem T.z23 : zcells Tryz.prog 23 = some [.v (.int .u64 0)]:=by kernel_rfl
theorem T.c24 : Tryz.prog.cellsOf 24 = 1:=by kernel_rfl
theorem T.b24 : Tryz.prog.bytesOf 24 = 24:=by kernel_rfl
theorem T.g24 : isAggT Tryz.prog 24 = some false:=by kernel_rfl
theorem T.z24 : zcells Tryz.prog 24 = some [.v (.slice none 0 0)]:=by kernel_rfl
theorem T.s24 : isSliceT Tryz.prog 24 = true:=by kernel_rfl
theorem T.c26 : Tryz.prog.cellsOf 26 = 1:=by kernel_rfl
theorem T.b26 : Tryz.prog.bytesOf 26 = 24:=by kernel_rfl
theorem T.g26 : isAggT Tryz.prog 26 = some false:=by kernel_rfl
theorem T.z26 : zcells Tryz.prog 26 = some [.v (.slice none 0 0)]:=by kernel_rfl
theorem T.s26 : isSliceT Tryz.prog 26 = true:=by kernel_rfl
theorem T.c27 : Tryz.prog.cellsOf 27 = 1:=by kernel_rfl
theorem T.b27 : Tryz.prog.bytesOf 27 = 8:=by kernel_rfl
theorem T.g27 : isAggT Tryz.prog 27 = some false:=by kernel_rfl
theorem T.z27 : zcells Tryz.prog 27 = some [.v (.int .i64 0)]:=by kernel_rfl
theorem T.c34 : Tryz.prog.cellsOf 34 = 4:=by kernel_rfl
theorem T.b34 : Tryz.prog.bytesOf 34 = 48:=by kernel_rfl
theorem T.g34 : isAggT Tryz.prog 34 = some true:=by kernel_rfl
theorem T.h34 : fieldsOk Tryz.prog 34 = true:=by kernel_rfl
theorem T.f34_0 : fieldOf Tryz.prog 34 0 = some (0,3):=by kernel_rfl
theorem T.f34_1 : fieldOf Tryz.prog 34 1 = some (1,3):=by kernel_rfl
theorem T.f34_2 : fieldOf Tryz.prog 34 2 = some (2,22):=by kernel_rfl
theorem T.f34_3 : fieldOf Tryz.prog 34 3 = some (3,23):=by kernel_rfl
theorem T.z34 : zcells Tryz.prog 34 = some [.v (.int .i64 0),.v (.int .i64 0),.v (.slice none 0 0),.v (.int .u64 0)]:=by kernel_rfl
theorem T.c39 : Tryz.prog.cellsOf 39 = 1:=by kernel_rfl
theorem T.b39 : Tryz.prog.bytesOf 39 = 24:=by kernel_rfl
theorem T.g39 : isAggT Tryz.prog 39 = some false:=by kernel_rfl
theorem T.z39 : zcells Tryz.prog 39 = some [.v (.slice none 0 0)]:=by kernel_rfl
theorem T.s39 : isSliceT Tryz.prog 39 = true:=by kernel_rfl
theorem T.h52 : fieldsOk Tryz.prog 52 = true:=by kernel_rfl
theorem T.h54 : fieldsOk Tryz.prog 54 = true:=by kernel_rfl
theorem T.c69 : Tryz.prog.cellsOf 69 = 5:=by kernel_rfl
theorem T.b69 : Tryz.prog.bytesOf 69 = 88:=by kernel_rfl
theorem T.g69 : isAggT Tryz.prog 69 = some true:=by kernel_rfl
theorem T.h69 : fieldsOk Tryz.prog 69 = true:=by kernel_rfl
theorem T.f69_0 : fieldOf Tryz.prog 69 0 = some (0,3):=by kernel_rfl
theorem T.f69_1 : fieldOf Tryz.prog 69 1 = some (1,22):=by kernel_rfl
theorem T.f69_2 : fieldOf Tryz.prog 69 2 = some (2,23):=by kernel_rfl
theorem T.f69_3 : fieldOf Tryz.prog 69 3 = some (3,22):=by kernel_rfl
theorem T.f69_4 : fieldOf Tryz.prog 69 4 = some (4,39):=by kernel_rfl
theorem T.z69 : zcells Tryz.prog 69 = some [.v (.int .i64 0),.v (.slice none 0 0),.v (.int .u64 0),.v (.slice none 0 0),.v (.slice none 0 0)]:=by kernel_rfl
theorem T.c83 : Tryz.prog.cellsOf 83 = 1:=by kernel_rfl
theorem T.b83 : Tryz.prog.bytesOf 83 = 24:=by kernel_rfl
theorem T.g83 : isAggT Tryz.prog 83 = some false:=by kernel_rfl
theorem T.z83 : zcells Tryz.prog 83 = some [.v (.slice none 0 0)]:=by kernel_rfl
theorem T.s83 : isSliceT Tryz.prog 83 = true:=by kernel_rfl
theorem T.c107 : Tryz.prog.cellsOf 107 = 1:=by kernel_rfl
theorem T.b107 : Tryz.prog.bytesOf 107 = 24:=by kernel_rfl
theorem T.g107 : isAggT Tryz.prog 107 = some false:=by kernel_rfl
theorem T.z107 : zcells Tryz.prog 107 = some [.v (.slice none 0 0)]:=by kernel_rfl
theorem T.s107 : isSliceT Tryz.prog 107 = true:=by kernel_rfl
theorem T.c154 : Tryz.prog.cellsOf 154 = 1:=by kernel_rfl
theorem T.b154 : Tryz.prog.bytesOf 154 = 8:=by kernel_rfl
theorem T.g154 : isAggT Tryz.prog 154 = some false:=by kernel_rfl
theorem T.z154 : zcells Tryz.prog 154 = some [.v (.pointer none)]:=by kernel_rfl
theorem T.p154 : isPtrT Tryz.prog 154 = true:=by kernel_rfl
theorem T.c181 : Tryz.prog.cellsOf 181 = 2:=by kernel_rfl
theorem T.b181 : Tryz.prog.bytesOf 181 = 32:=by kernel_rfl
theorem T.g181 : isAggT Tryz.prog 181 = some true:=by kernel_rfl
theorem T.h181 : fieldsOk Tryz.prog 181 = true:=by kernel_rfl
theorem T.f181_0 : fieldOf Tryz.prog 181 0 = some (0,3):=by kernel_rfl
theorem T.f181_1 : fieldOf Tryz.prog 181 1 = some (1,22):=by kernel_rfl
theorem T.z181 : zcells Tryz.prog 181 = some [.v (.int .i64 0),.v (.slice none 0 0)]:=by kernel_rfl
theorem T.c213 : Tryz.prog.cellsOf 213 = 1:=by kernel_rfl
theorem T.b213 : Tryz.prog.bytesOf 213 = 4:=by kernel_rfl
theorem T.g213 : isAggT Tryz.prog 213 = some false:=by kernel_rfl
theorem T.z213 : zcells Tryz.prog 213 = some [.v (.int .u32 0)]:=by kernel_rfl
theorem T.c214 : Tryz.prog.cellsOf 214 = 8:=by kernel_rfl
theorem T.b214 : Tryz.prog.bytesOf 214 = 32:=by kernel_rfl
theorem T.g214 : isAggT Tryz.prog 214 = some true:=by kernel_rfl
theorem T.z214 : zcells Tryz.prog 214 = some [.v (.int .u32 0),.v (.int .u32 0),.v (.int .u32 0),.v (.int .u32 0),.v (.int .u32 0),.v (.int .u32 0),.v (.int .u32 0),.v (.int .u32 0)]:=by kernel_rfl
theorem T.c219 : Tryz.prog.cellsOf 219 = 1:=by kernel_rfl
theorem T.b219 : Tryz.prog.bytesOf 219 = 8:=by kernel_rfl
theorem T.g219 : isAggT Tryz.prog 219 = some false:=by kernel_rfl
theorem T.z219 : zcells Tryz.prog 219 = some [.v (.int .u64 0)]:=by kernel_rfl
theorem T.c222 : Tryz.prog.cellsOf 222 = 1:=by kernel_rfl
theorem T.b222 : Tryz.prog.bytesOf 222 = 24:=by kernel_rfl
theorem T.g222 : isAggT Tryz.prog 222 = some false:=by kernel_rfl
theorem T.z222 : zcells Tryz.prog 222 = some [.v (.slice none 0 0)]:=by kernel_rfl
theorem T.s222 : isSliceT Tryz.prog 222 = true:=by kernel_rfl
theorem T.c235 : Tryz.prog.cellsOf 235 = 2:=by kernel_rfl
theorem T.b235 : Tryz.prog.bytesOf 235 = 32:=by kernel_rfl
theorem T.g235 : isAggT Tryz.prog 235 = some true:=by kernel_rfl
theorem T.h235 : fieldsOk Tryz.prog 235 = true:=by kernel_rfl
theorem T.f235_0 : fieldOf Tryz.prog 235 0 = some (0,22):=by kernel_rfl
theorem T.f235_1 : fieldOf Tryz.prog 235 1 = some (1,4):=by kernel_rfl
theorem T.z235 : zcells Tryz.prog 235 = some [.v (.slice none 0 0),.v (.bool false)]:=by kernel_rfl
theorem T.c265 : Tryz.prog.cellsOf 265 = 64:=by kernel_rfl
theorem T.b265 : Tryz.prog.bytesOf 265 = 256:=by kernel_rfl
theorem T.g265 : isAggT Tryz.prog 265 = some true:=by kernel_rfl
theorem T.c284 : Tryz.prog.cellsOf 284 = 64:=by kernel_rfl
theorem T.b284 : Tryz.prog.bytesOf 284 = 64:=by kernel_rfl
theorem T.g284 : isAggT Tryz.prog 284 = some true:=by kernel_rfl
theorem T.k3 : callable Tryz.prog 3 = true:=by kernel_rfl
theorem T.k4 : callable Tryz.prog 4 = true:=by kernel_rfl
theorem T.k5 : callable Tryz.prog 5 = true:=by kernel_rfl
theorem T.k6 : callable Tryz.prog 6 = true:=by kernel_rfl
theorem T.k7 : callable Tryz.prog 7 = true:=by kernel_rfl
theorem T.k8 : callable Tryz.prog 8 = true:=by kernel_rfl
theorem T.k9 : callable Tryz.prog 9 = true:=by kernel_rfl
theorem T.k10 : callable Tryz.prog 10 = true:=by kernel_rfl
theorem T.k11 : callable Tryz.prog 11 = true:=by kernel_rfl
theorem T.k12 : callable Tryz.prog 12 = true:=by kernel_rfl
theorem T.k13 : callable Tryz.prog 13 = true:=by kernel_rfl
theorem T.k14 : callable Tryz.prog 14 = true:=by kernel_rfl
theorem T.k15 : callable Tryz.prog 15 = true:=by kernel_rfl
theorem T.k17 : callable Tryz.prog 17 = true:=by kernel_rfl
theorem T.k19 : callable Tryz.prog 19 = true:=by kernel_rfl
theorem T.k20 : callable Tryz.prog 20 = true:=by kernel_rfl
theorem T.k22 : callable Tryz.prog 22 = true:=by kernel_rfl
theorem T.k23 : callable Tryz.prog 23 = true:=by kernel_rfl
theorem T.k24 : callable Tryz.prog 24 = true:=by kernel_rfl
theorem T.k28 : callable Tryz.prog 28 = true:=by kernel_rfl
theorem T.k30 : callable Tryz.prog 30 = true:=by kernel_rfl
theorem T.k53 : callable Tryz.prog 53 = true:=by kernel_rfl
theorem T.k54 : callable Tryz.prog 54 = true:=by kernel_rfl
theorem T.k55 : callable Tryz.prog 55 = true:=by kernel_rfl
theorem T.k56 : callable Tryz.prog 56 = true:=by kernel_rfl
theorem T.k57 : callable Tryz.prog 57 = true:=by kernel_rfl
theorem T.k58 : callable Tryz.prog 58 = true:=by kernel_rfl
theorem T.k59 : callable Tryz.prog 59 = true:=by kernel_rfl
theorem T.k60 : callable Tryz.prog 60 = true:=by kernel_rfl
theorem T.k61 : callable Tryz.prog 61 = true:=by kernel_rfl
theorem T.k62 : callable Tryz.prog 62 = true:=by kernel_rfl
theorem T.k63 : callable Tryz.prog 63 = true:=by kernel_rfl
theorem T.k64 : callable Tryz.prog 64 = true:=by kernel_rfl
theorem T.k65 : callable Tryz.prog 65 = true:=by kernel_rfl
theorem T.k66 : callable Tryz.prog 66 = true:=by kernel_rfl
theorem T.k67 : callable Tryz.prog 67 = true:=by kernel_rfl
theorem T.k68 : callable Tryz.prog 68 = true:=by kernel_rfl
theorem T.k69 : callable Tryz.prog 69 = true:=by kernel_rfl
theorem T.k70 : callable Tryz.prog 70 = true:=by kernel_rfl
theorem T.k71 : callable Tryz.prog 71 = true:=by kernel_rfl
theorem T.k72 : callable Tryz.prog 72 = true:=by kernel_rfl
theorem T.k73 : callable Tryz.prog 73 = true:=by kernel_rfl
theorem T.k74 : callable Tryz.prog 74 = true:=by kernel_rfl
theorem T.k75 : callable Tryz.prog 75 = true:=by kernel_rfl
theorem T.k77 : callable Tryz.prog 77 = true:=by kernel_rfl
theorem T.k78 : callable Tryz.prog 78 = true:=by kernel_rfl
theorem T.k79 : callable Tryz.prog 79 = true:=by kernel_rfl
theorem T.k80 : callable Tryz.prog 80 = true:=by kernel_rfl
theorem T.k81 : callable Tryz.prog 81 = true:=by kernel_rfl
theorem T.k82 : callable Tryz.prog 82 = true:=by kernel_rfl
theorem T.k83 : callable Tryz.prog 83 = true:=by kernel_rfl
theorem T.k84 : callable Tryz.prog 84 = true:=by kernel_rfl
theorem T.k85 : callable Tryz.prog 85 = true:=by kernel_rfl
theorem T.k86 : callable Tryz.prog 86 = true:=by kernel_rfl
theorem T.k88 : callable Tryz.prog 88 = true:=by kernel_rfl
theorem T.k94 : callable Tryz.prog 94 = true:=by kernel_rfl
theorem T.k95 : callable Tryz.prog 95 = true:=by kernel_rfl
theorem T.k97 : callable Tryz.prog 97 = true:=by kernel_rfl
theorem T.k102 : callable Tryz.prog 102 = true:=by kernel_rfl
theorem T.k105 : callable Tryz.prog 105 = true:=by kernel_rfl
theorem T.k109 : callable Tryz.prog 109 = true:=by kernel_rfl
theorem T.k110 : callable Tryz.prog 110 = true:=by kernel_rfl
theorem T.k111 : callable Tryz.prog 111 = true:=by kernel_rfl
theorem T.k113 : callable Tryz.prog 113 = true:=by kernel_rfl
theorem T.k116 : callable Tryz.prog 116 = true:=by kernel_rfl
theorem T.k119 : callable Tryz.prog 119 = true:=by kernel_rfl
theorem T.k130 : callable Tryz.prog 130 = true:=by kernel_rfl
theorem T.k131 : callable Tryz.prog 131 = true:=by kernel_rfl
theorem T.k132 : callable Tryz.prog 132 = true:=by kernel_rfl
theorem T.k133 : callable Tryz.prog 133 = true:=by kernel_rfl
theorem T.k134 : callable Tryz.prog 134 = true:=by kernel_rfl
theorem T.k135 : callable Tryz.prog 135 = true:=by kernel_rfl
theorem T.k136 : callable Tryz.prog 136 = true:=by kernel_rfl
theorem T.k137 : callable Tryz.prog 137 = true:=by kernel_rfl
theorem T.k138 : callable Tryz.prog 138 = true:=by kernel_rfl
theorem T.k139 : callable Tryz.prog 139 = true:=by kernel_rfl
theorem T.k140 : callable Tryz.prog 140 = true:=by kernel_rfl
theorem T.k141 : callable Tryz.prog 141 = true:=by kernel_rfl
theorem T.k142 : callable Tryz.prog 142 = true:=by kernel_rfl
theorem T.k143 : callable Tryz.prog 143 = true:=by kernel_rfl
theorem T.k144 : callable Tryz.prog 144 = true:=by kernel_rfl
theorem T.k145 : callable Tryz.prog 145 = true:=by kernel_rfl
theorem T.k146 : callable Tryz.prog 146 = true:=by kernel_rfl
theorem T.k148 : callable Tryz.prog 148 = true:=by kernel_rfl
theorem T.k149 : callable Tryz.prog 149 = true:=by kernel_rfl
theorem T.k150 : callable Tryz.prog 150 = true:=by kernel_rfl
theorem T.k151 : callable Tryz.prog 151 = true:=by kernel_rfl
theorem T.k152 : callable Tryz.prog 152 = true:=by kernel_rfl
theorem T.k153 : callable Tryz.prog 153 = true:=by kernel_rfl
theorem T.k155 : callable Tryz.prog 155 = true:=by kernel_rfl
theorem T.k168 : callable Tryz.prog 168 = true:=by kernel_rfl
theorem T.k172 : callable Tryz.prog 172 = true:=by kernel_rfl
theorem T.k173 : callable Tryz.prog 173 = true:=by kernel_rfl
theorem T.k174 : callable Tryz.prog 174 = true:=by kernel_rfl
theorem T.k175 : callable Tryz.prog 175 = true:=by kernel_rfl
theorem T.k179 : callable Tryz.prog 179 = true:=by kernel_rfl
theorem T.k180 : callable Tryz.prog 180 = true:=by kernel_rfl
theorem T.k181 : callable Tryz.prog 181 = true:=by kernel_rfl
theorem T.k184 : callable Tryz.prog 184 = true:=by kernel_rfl
theorem T.k192 : callable Tryz.prog 192 = true:=by kernel_rfl
theorem T.k194 : callable Tryz.prog 194 = true:=by kernel_rfl
theorem T.k195 : callable Tryz.prog 195 = true:=by kernel_rfl
theorem T.k196 : callable Tryz.prog 196 = true:=by kernel_rfl
theorem T.k197 : callable Tryz.prog 197 = true:=by kernel_rfl
theorem T.k204 : callable Tryz.prog 204 = true:=by kernel_rfl
theorem T.k209 : callable Tryz.prog 209 = true:=by kernel_rfl
theorem T.k210 : callable Tryz.prog 210 = true:=by kernel_rfl
theorem T.k211 : callable Tryz.prog 211 = true:=by kernel_rfl
theorem T.k213 : callable Tryz.prog 213 = true:=by kernel_rfl
theorem T.k215 : callable Tryz.prog 215 = true:=by kernel_rfl
theorem T.k217 : callable Tryz.prog 217 = true:=by kernel_rfl
theorem T.k218 : callable Tryz.prog 218 = true:=by kernel_rfl
theorem T.k219 : callable Tryz.prog 219 = true:=by kernel_rfl
theorem T.k229 : callable Tryz.prog 229 = true:=by kernel_rfl
theorem T.k232 : callable Tryz.prog 232 = true:=by kernel_rfl
theorem T.k233 : callable Tryz.prog 233 = true:=by kernel_rfl
theorem T.k234 : callable Tryz.prog 234 = true:=by kernel_rfl
theorem T.k241 : callable Tryz.prog 241 = true:=by kernel_rfl
theorem T.k249 : callable Tryz.prog 249 = true:=by kernel_rfl
theorem T.k256 : callable Tryz.prog 256 = true:=by kernel_rfl
theorem T.k257 : callable Tryz.prog 257 = true:=by kernel_rfl
theorem T.k261 : callable Tryz.prog 261 = true:=by kernel_rfl
theorem T.k262 : callable Tryz.prog 262 = true:=by kernel_rfl
theorem T.mixed : Tryz.prog.follows .mixedOrders = true:=by kernel_rfl
end Go.Proofs.YtfjlmkifiihgkaaGreatDoor
set_option maxRecDepth 100000
namespace Go.Proofs.YtfjlmkifiihgkaaGreatDoor
open Go Go.AM Go.Proofs
open And renaming intro→Ai
theorem TT : type_of% (Ai (Ai UP DF) (Ai (Ai (Ai (Ai (Ai (Ai (Ai (Ai @Tryz.underlying3 T.c3) (Ai T.g3 (Ai T.b3 T.z3))) (Ai (Ai Tryz.ntmps217 (Ai @Tryz.underlying5 T.c5)) (Ai T.g5 (Ai T.b5 T.z5)))) (Ai (Ai (Ai @Tryz.underlying23 T.c23) (Ai T.g23 (Ai T.b23 T.z23))) (Ai (Ai @Tryz.underlying284 (Ai T.c284 T.g284)) (Ai T.b284 (Ai Tryz.ntmps262 @Tryz.underlying213))))) (Ai (Ai (Ai (Ai T.c213 T.g213) (Ai T.b213 (Ai T.z213 @Tryz.underlying219))) (Ai (Ai T.c219 (Ai T.g219 T.b219)) (Ai T.z219 (Ai T.k261 T.k262)))) (Ai (Ai (Ai Tryz.ntmps249 (Ai @Tryz.underlying4 T.c4)) (Ai T.g4 (Ai T.b4 T.z4))) (Ai (Ai T.k249 (Ai T.k217 Tryz.ntmps218)) (Ai T.k218 (Ai Tryz.ntmps211 T.k211)))))) (Ai (Ai (Ai (Ai (Ai Tryz.ntmps145 Tryz.ntmps146) (Ai Tryz.ntmps153 (Ai Tryz.ntmps152 T.k152))) (Ai (Ai Tryz.ntmps134 (Ai T.k134 Tryz.ntmps204)) (Ai @Tryz.underlying39 (Ai T.c39 T.g39)))) (Ai (Ai (Ai T.b39 (Ai T.z39 T.s39)) (Ai T.k204 (Ai Tryz.ntmps130 Tryz.ntmps192))) (Ai (Ai Tryz.ntmps144 (Ai T.k144 Tryz.ntmps78)) (Ai Tryz.ntmps209 (Ai T.k192 T.k209))))) (Ai (Ai (Ai (Ai Tryz.ntmps140 T.k78) (Ai Tryz.ntmps73 (Ai @Tryz.underlying22 T.c22))) (Ai (Ai T.g22 (Ai T.b22 T.z22)) (Ai T.s22 (Ai Tryz.ntmps184 @Tryz.underlying235)))) (Ai (Ai (Ai T.c235 (Ai T.g235 T.b235)) (Ai T.z235 (Ai T.h235 T.f235_0))) (Ai (Ai T.f235_1 (Ai Tryz.ntmps195 Tryz.ntmps109)) (Ai @Tryz.underlying154 (Ai T.c154 T.g154))))))) (Ai (Ai (Ai (Ai (Ai (Ai T.b154 T.z154) (Ai T.p154 (Ai T.k195 Tryz.ntmps229))) (Ai (Ai T.k229 (Ai Tryz.ntmps168 Tryz.ntmps215)) (Ai Tryz.ntmps111 (Ai Tryz.ntmps241 T.k241)))) (Ai (Ai (Ai Tryz.ntmps194 T.k194) (Ai Tryz.ntmps110 (Ai T.k184 Tryz.ntmps113))) (Ai (Ai @Tryz.underlying9 (Ai T.c9 T.g9)) (Ai T.b9 (Ai T.z9 Tryz.ntmps150))))) (Ai (Ai (Ai (Ai T.k150 Tryz.ntmps119) (Ai Tryz.ntmps141 (Ai Tryz.ntmps138 Tryz.ntmps88))) (Ai (Ai Tryz.ntmps197 (Ai Tryz.ntmps20 @Tryz.underlying69)) (Ai T.c69 (Ai T.g69 T.b69)))) (Ai (Ai (Ai T.z69 (Ai T.h69 T.f69_0)) (Ai T.f69_1 (Ai T.f69_2 T.f69_3))) (Ai (Ai T.f69_4 (Ai T.k88 T.k197)) (Ai Tryz.ntmps116 (Ai T.k20 Tryz.ntmps60)))))) (Ai (Ai (Ai (Ai (Ai Tryz.ntmps137 T.k141) (Ai Tryz.ntmps136 (Ai T.k137 T.k136))) (Ai (Ai T.k116 (Ai Tryz.ntmps57 T.k60)) (Ai T.k138 (Ai Tryz.ntmps59 T.k110)))) (Ai (Ai (Ai T.k111 (Ai T.k168 T.k57)) (Ai Tryz.ntmps196 (Ai T.k119 Tryz.ntmps151))) (Ai (Ai @Tryz.underlying26 (Ai T.c26 T.g26)) (Ai T.b26 (Ai T.z26 T.s26))))) (Ai (Ai (Ai (Ai Tryz.ntmps82 T.k82) (Ai Tryz.ntmps84 (Ai T.k84 Tryz.ntmps86))) (Ai (Ai Tryz.ntmps85 (Ai Tryz.ntmps219 T.k219)) (Ai Tryz.ntmps155 (Ai Tryz.ntmps154 T.k155)))) (Ai (Ai (Ai T.k153 (Ai Tryz.ntmps83 T.k83)) (Ai T.k85 (Ai T.k86 Tryz.ntmps24))) (Ai (Ai Tryz.ntmps65 (Ai Tryz.ntmps74 T.k74)) (Ai Tryz.ntmps75 (Ai Tryz.ntmps72 T.k75)))))))) (Ai (Ai (Ai (Ai (Ai (Ai (Ai T.k72 T.k65) (Ai T.k59 (Ai T.k73 Tryz.ntmps17))) (Ai (Ai Tryz.ntmps95 (Ai T.k24 Tryz.ntmps55)) (Ai @Tryz.underlying107 (Ai T.c107 T.g107)))) (Ai (Ai (Ai T.b107 T.z107) (Ai T.s107 (Ai @Tryz.underlying181 T.c181))) (Ai (Ai T.g181 (Ai T.b181 T.z181)) (Ai T.h181 (Ai T.f181_0 T.f181_1))))) (Ai (Ai (Ai (Ai T.k55 T.k95) (Ai Tryz.ntmps67 (Ai T.k17 Tryz.ntmps68))) (Ai (Ai Tryz.ntmps66 (Ai Tryz.ntmps13 Tryz.ntmps257)) (Ai T.k257 (Ai Tryz.ntmps234 Tryz.ntmps256)))) (Ai (Ai (Ai Tryz.ntmps181 (Ai @Tryz.underlying222 T.c222)) (Ai T.g222 (Ai T.b222 T.z222))) (Ai (Ai T.s222 (Ai Tryz.ntmps179 @Tryz.underlying265)) (Ai T.c265 (Ai T.g265 T.b265)))))) (Ai (Ai (Ai (Ai (Ai T.k256 Tryz.ntmps233) (Ai @Tryz.underlying214 (Ai T.c214 T.g214))) (Ai (Ai T.b214 (Ai T.z214 T.k234)) (Ai T.k233 (Ai Tryz.ntmps175 Tryz.ntmps232)))) (Ai (Ai (Ai @Tryz.underlying83 (Ai T.c83 T.g83)) (Ai T.b83 (Ai T.z83 T.s83))) (Ai (Ai T.k232 (Ai Tryz.ntmps174 Tryz.ntmps173)) (Ai Tryz.ntmps231 (Ai Tryz.ntmps172 T.k175))))) (Ai (Ai (Ai (Ai T.k173 T.k172) (Ai T.k174 (Ai Tryz.ntmps94 Tryz.ntmps180))) (Ai (Ai T.k181 (Ai T.k179 T.k180)) (Ai Tryz.ntmps97 (Ai T.k215 T.k196)))) (Ai (Ai (Ai Tryz.ntmps214 (Ai Tryz.ntmps216 T.k113)) (Ai T.k109 (Ai Tryz.ntmps213 T.k213))) (Ai (Ai T.k94 (Ai Tryz.ntmps148 Tryz.ntmps149)) (Ai T.k97 (Ai T.k151 Tryz.ntmps80))))))) (Ai (Ai (Ai (Ai (Ai (Ai Tryz.ntmps81 T.k148) (Ai T.k149 (Ai T.k145 T.k77))) (Ai (Ai T.k146 (Ai Tryz.ntmps77 T.k22)) (Ai T.k80 (Ai T.k81 Tryz.ntmps22)))) (Ai (Ai (Ai Tryz.ntmps19 T.k19) (Ai Tryz.ntmps70 (Ai Tryz.ntmps71 Tryz.ntmps79))) (Ai (Ai Tryz.ntmps210 (Ai T.k210 Tryz.ntmps143)) (Ai T.k143 (Ai Tryz.ntmps69 Tryz.ntmps56))))) (Ai (Ai (Ai (Ai T.k56 Tryz.ntmps11) (Ai T.k132 (Ai T.k131 T.k69))) (Ai (Ai T.k130 (Ai Tryz.ntmps53 Tryz.ntmps133)) (Ai T.k133 (Ai Tryz.ntmps62 Tryz.ntmps135)))) (Ai (Ai (Ai T.k135 (Ai Tryz.ntmps54 Tryz.ntmps139)) (Ai Tryz.ntmps58 (Ai T.k139 T.k140))) (Ai (Ai Tryz.ntmps142 (Ai T.k58 T.k142)) (Ai Tryz.ntmps63 (Ai T.k68 Tryz.ntmps64)))))) (Ai (Ai (Ai (Ai (Ai T.k79 Tryz.ntmps61) (Ai Tryz.ntmps12 (Ai @Tryz.underlying27 T.c27))) (Ai (Ai T.g27 (Ai T.b27 T.z27)) (Ai T.k54 (Ai T.k11 T.k53)))) (Ai (Ai (Ai Tryz.ntmps10 (Ai T.k70 T.k66)) (Ai T.k71 (Ai T.k13 T.k67))) (Ai (Ai Tryz.ntmps15 (Ai @Tryz.underlying34 T.c34)) (Ai T.g34 (Ai T.b34 T.z34))))) (Ai (Ai (Ai (Ai T.h34 T.f34_0) (Ai T.f34_1 (Ai T.f34_2 T.f34_3))) (Ai (Ai T.k64 (Ai T.k63 T.k23)) (Ai T.k61 (Ai T.k62 Tryz.ntmps14)))) (Ai (Ai (Ai Tryz.ntmps23 (Ai @Tryz.underlying24 T.c24)) (Ai T.g24 (Ai T.b24 T.z24))) (Ai (Ai T.s24 (Ai T.k14 T.k10)) (Ai T.k12 (Ai T.k15 Tryz.ntmps3)))))))))) :=
  (Ai (Ai UP DF) (Ai (Ai (Ai (Ai (Ai (Ai (Ai (Ai @Tryz.underlying3 T.c3) (Ai T.g3 (Ai T.b3 T.z3))) (Ai (Ai Tryz.ntmps217 (Ai @Tryz.underlying5 T.c5)) (Ai T.g5 (Ai T.b5 T.z5)))) (Ai (Ai (Ai @Tryz.underlying23 T.c23) (Ai T.g23 (Ai T.b23 T.z23))) (Ai (Ai @Tryz.underlying284 (Ai T.c284 T.g284)) (Ai T.b284 (Ai Tryz.ntmps262 @Tryz.underlying213))))) (Ai (Ai (Ai (Ai T.c213 T.g213) (Ai T.b213 (Ai T.z213 @Tryz.underlying219))) (Ai (Ai T.c219 (Ai T.g219 T.b219)) (Ai T.z219 (Ai T.k261 T.k262)))) (Ai (Ai (Ai Tryz.ntmps249 (Ai @Tryz.underlying4 T.c4)) (Ai T.g4 (Ai T.b4 T.z4))) (Ai (Ai T.k249 (Ai T.k217 Tryz.ntmps218)) (Ai T.k218 (Ai Tryz.ntmps211 T.k211)))))) (Ai (Ai (Ai (Ai (Ai Tryz.ntmps145 Tryz.ntmps146) (Ai Tryz.ntmps153 (Ai Tryz.ntmps152 T.k152))) (Ai (Ai Tryz.ntmps134 (Ai T.k134 Tryz.ntmps204)) (Ai @Tryz.underlying39 (Ai T.c39 T.g39)))) (Ai (Ai (Ai T.b39 (Ai T.z39 T.s39)) (Ai T.k204 (Ai Tryz.ntmps130 Tryz.ntmps192))) (Ai (Ai Tryz.ntmps144 (Ai T.k144 Tryz.ntmps78)) (Ai Tryz.ntmps209 (Ai T.k192 T.k209))))) (Ai (Ai (Ai (Ai Tryz.ntmps140 T.k78) (Ai Tryz.ntmps73 (Ai @Tryz.underlying22 T.c22))) (Ai (Ai T.g22 (Ai T.b22 T.z22)) (Ai T.s22 (Ai Tryz.ntmps184 @Tryz.underlying235)))) (Ai (Ai (Ai T.c235 (Ai T.g235 T.b235)) (Ai T.z235 (Ai T.h235 T.f235_0))) (Ai (Ai T.f235_1 (Ai Tryz.ntmps195 Tryz.ntmps109)) (Ai @Tryz.underlying154 (Ai T.c154 T.g154))))))) (Ai (Ai (Ai (Ai (Ai (Ai T.b154 T.z154) (Ai T.p154 (Ai T.k195 Tryz.ntmps229))) (Ai (Ai T.k229 (Ai Tryz.ntmps168 Tryz.ntmps215)) (Ai Tryz.ntmps111 (Ai Tryz.ntmps241 T.k241)))) (Ai (Ai (Ai Tryz.ntmps194 T.k194) (Ai Tryz.ntmps110 (Ai T.k184 Tryz.ntmps113))) (Ai (Ai @Tryz.underlying9 (Ai T.c9 T.g9)) (Ai T.b9 (Ai T.z9 Tryz.ntmps150))))) (Ai (Ai (Ai (Ai T.k150 Tryz.ntmps119) (Ai Tryz.ntmps141 (Ai Tryz.ntmps138 Tryz.ntmps88))) (Ai (Ai Tryz.ntmps197 (Ai Tryz.ntmps20 @Tryz.underlying69)) (Ai T.c69 (Ai T.g69 T.b69)))) (Ai (Ai (Ai T.z69 (Ai T.h69 T.f69_0)) (Ai T.f69_1 (Ai T.f69_2 T.f69_3))) (Ai (Ai T.f69_4 (Ai T.k88 T.k197)) (Ai Tryz.ntmps116 (Ai T.k20 Tryz.ntmps60)))))) (Ai (Ai (Ai (Ai (Ai Tryz.ntmps137 T.k141) (Ai Tryz.ntmps136 (Ai T.k137 T.k136))) (Ai (Ai T.k116 (Ai Tryz.ntmps57 T.k60)) (Ai T.k138 (Ai Tryz.ntmps59 T.k110)))) (Ai (Ai (Ai T.k111 (Ai T.k168 T.k57)) (Ai Tryz.ntmps196 (Ai T.k119 Tryz.ntmps151))) (Ai (Ai @Tryz.underlying26 (Ai T.c26 T.g26)) (Ai T.b26 (Ai T.z26 T.s26))))) (Ai (Ai (Ai (Ai Tryz.ntmps82 T.k82) (Ai Tryz.ntmps84 (Ai T.k84 Tryz.ntmps86))) (Ai (Ai Tryz.ntmps85 (Ai Tryz.ntmps219 T.k219)) (Ai Tryz.ntmps155 (Ai Tryz.ntmps154 T.k155)))) (Ai (Ai (Ai T.k153 (Ai Tryz.ntmps83 T.k83)) (Ai T.k85 (Ai T.k86 Tryz.ntmps24))) (Ai (Ai Tryz.ntmps65 (Ai Tryz.ntmps74 T.k74)) (Ai Tryz.ntmps75 (Ai Tryz.ntmps72 T.k75)))))))) (Ai (Ai (Ai (Ai (Ai (Ai (Ai T.k72 T.k65) (Ai T.k59 (Ai T.k73 Tryz.ntmps17))) (Ai (Ai Tryz.ntmps95 (Ai T.k24 Tryz.ntmps55)) (Ai @Tryz.underlying107 (Ai T.c107 T.g107)))) (Ai (Ai (Ai T.b107 T.z107) (Ai T.s107 (Ai @Tryz.underlying181 T.c181))) (Ai (Ai T.g181 (Ai T.b181 T.z181)) (Ai T.h181 (Ai T.f181_0 T.f181_1))))) (Ai (Ai (Ai (Ai T.k55 T.k95) (Ai Tryz.ntmps67 (Ai T.k17 Tryz.ntmps68))) (Ai (Ai Tryz.ntmps66 (Ai Tryz.ntmps13 Tryz.ntmps257)) (Ai T.k257 (Ai Tryz.ntmps234 Tryz.ntmps256)))) (Ai (Ai (Ai Tryz.ntmps181 (Ai @Tryz.underlying222 T.c222)) (Ai T.g222 (Ai T.b222 T.z222))) (Ai (Ai T.s222 (Ai Tryz.ntmps179 @Tryz.underlying265)) (Ai T.c265 (Ai T.g265 T.b265)))))) (Ai (Ai (Ai (Ai (Ai T.k256 Tryz.ntmps233) (Ai @Tryz.underlying214 (Ai T.c214 T.g214))) (Ai (Ai T.b214 (Ai T.z214 T.k234)) (Ai T.k233 (Ai Tryz.ntmps175 Tryz.ntmps232)))) (Ai (Ai (Ai @Tryz.underlying83 (Ai T.c83 T.g83)) (Ai T.b83 (Ai T.z83 T.s83))) (Ai (Ai T.k232 (Ai Tryz.ntmps174 Tryz.ntmps173)) (Ai Tryz.ntmps231 (Ai Tryz.ntmps172 T.k175))))) (Ai (Ai (Ai (Ai T.k173 T.k172) (Ai T.k174 (Ai Tryz.ntmps94 Tryz.ntmps180))) (Ai (Ai T.k181 (Ai T.k179 T.k180)) (Ai Tryz.ntmps97 (Ai T.k215 T.k196)))) (Ai (Ai (Ai Tryz.ntmps214 (Ai Tryz.ntmps216 T.k113)) (Ai T.k109 (Ai Tryz.ntmps213 T.k213))) (Ai (Ai T.k94 (Ai Tryz.ntmps148 Tryz.ntmps149)) (Ai T.k97 (Ai T.k151 Tryz.ntmps80))))))) (Ai (Ai (Ai (Ai (Ai (Ai Tryz.ntmps81 T.k148) (Ai T.k149 (Ai T.k145 T.k77))) (Ai (Ai T.k146 (Ai Tryz.ntmps77 T.k22)) (Ai T.k80 (Ai T.k81 Tryz.ntmps22)))) (Ai (Ai (Ai Tryz.ntmps19 T.k19) (Ai Tryz.ntmps70 (Ai Tryz.ntmps71 Tryz.ntmps79))) (Ai (Ai Tryz.ntmps210 (Ai T.k210 Tryz.ntmps143)) (Ai T.k143 (Ai Tryz.ntmps69 Tryz.ntmps56))))) (Ai (Ai (Ai (Ai T.k56 Tryz.ntmps11) (Ai T.k132 (Ai T.k131 T.k69))) (Ai (Ai T.k130 (Ai Tryz.ntmps53 Tryz.ntmps133)) (Ai T.k133 (Ai Tryz.ntmps62 Tryz.ntmps135)))) (Ai (Ai (Ai T.k135 (Ai Tryz.ntmps54 Tryz.ntmps139)) (Ai Tryz.ntmps58 (Ai T.k139 T.k140))) (Ai (Ai Tryz.ntmps142 (Ai T.k58 T.k142)) (Ai Tryz.ntmps63 (Ai T.k68 Tryz.ntmps64)))))) (Ai (Ai (Ai (Ai (Ai T.k79 Tryz.ntmps61) (Ai Tryz.ntmps12 (Ai @Tryz.underlying27 T.c27))) (Ai (Ai T.g27 (Ai T.b27 T.z27)) (Ai T.k54 (Ai T.k11 T.k53)))) (Ai (Ai (Ai Tryz.ntmps10 (Ai T.k70 T.k66)) (Ai T.k71 (Ai T.k13 T.k67))) (Ai (Ai Tryz.ntmps15 (Ai @Tryz.underlying34 T.c34)) (Ai T.g34 (Ai T.b34 T.z34))))) (Ai (Ai (Ai (Ai T.h34 T.f34_0) (Ai T.f34_1 (Ai T.f34_2 T.f34_3))) (Ai (Ai T.k64 (Ai T.k63 T.k23)) (Ai T.k61 (Ai T.k62 Tryz.ntmps14)))) (Ai (Ai (Ai Tryz.ntmps23 (Ai @Tryz.underlying24 T.c24)) (Ai T.g24 (Ai T.b24 T.z24))) (Ai (Ai T.s24 (Ai T.k14 T.k10)) (Ai T.k12 (Ai T.k15 Tryz.ntmps3))))))))))
theorem DM : type_of% (Ai @AXq_nil @AXq_cons) :=
  (Ai @AXq_nil @AXq_cons)
section
variable {P : Program} {Γ : Nat→List AV} {N : Nat} {Q : Exit→Env→AS→Prop} {E E' : Env} {s s' : AS} {id : Nat} {L : List Oper} {x y : Code} {c : Operand} {H Z : Prop} {O : Array Oper} {W : Env→AS→Prop} {M : (Env→AS→Prop)→Prop} {f : FuncId} {ags : List AV} {v : AV} {s0 s2 : AS} {E2 : AS→Env} {s3 : AS→AS}
theorem jA (k : AWp P Γ N y Q E' s') (h : ∀ K : Env→AS→Prop,K E' s'→AY P Γ N L.toArray L K E s:=by (intro K hK; simp only [↓DN,Qa,Qb,Qc,Qd,Qe,Qf,Qg,Qh,reduceCtorEq,↓reduceIte,Na,Nb,Nc,Nk,Nf,Ng,Nh,Za,Zb,Zc,TT]; exact hK)) : AWp P Γ N (.seq (.region id L.toArray false) y) Q E s:=wS fun K hK=>h K (hK _ _ k)
theorem jB (a : H) (k : AWp P Γ N y Q E' s') (h : H→∀ K : Env→AS→Prop,K E' s'→AY P Γ N L.toArray L K E s:=by (intro a K hK; simp only [↓DN,Qa,Qb,Qc,Qd,Qe,Qf,Qg,Qh,reduceCtorEq,↓reduceIte,Na,Nb,Nc,Nk,Nf,Ng,Nh,Za,Zb,Zc,TT,a]; exact hK)) : AWp P Γ N (.seq (.region id L.toArray false) y) Q E s:=wS fun K hK=>h a K (hK _ _ k)
theorem jC (k : Q .normal E' s') (h : ∀ K : Env→AS→Prop,K E' s'→AY P Γ N L.toArray L K E s:=by (intro K hK; simp only [↓DN,Qa,Qb,Qc,Qd,Qe,Qf,Qg,Qh,reduceCtorEq,↓reduceIte,Na,Nb,Nc,Nk,Nf,Ng,Nh,Za,Zb,Zc,TT]; exact hK)) : AWp P Γ N (.region id L.toArray false) Q E s:=wE fun K hK=>h K (hK _ _ k)
theorem jD (a : H) (k : Q .normal E' s') (h : H→∀ K : Env→AS→Prop,K E' s'→AY P Γ N L.toArray L K E s:=by (intro a K hK; simp only [↓DN,Qa,Qb,Qc,Qd,Qe,Qf,Qg,Qh,reduceCtorEq,↓reduceIte,Na,Nb,Nc,Nk,Nf,Ng,Nh,Za,Zb,Zc,TT,a]; exact hK)) : AWp P Γ N (.region id L.toArray false) Q E s:=wE fun K hK=>h a K (hK _ _ k)
theorem jE (k : AWp P Γ N x Q E s) (h : ∀ X Y : Prop,X→match aeval Γ E c with | .v (.bool t)=>(t = true→X)∧(t = false→Y) | _=>False:=by (intro X Y hX; simp only [UP,DF,Nc,↓reduceIte,DB]; exact hX)) : AWp P Γ N (.cond c x y) Q E s:=wC fun X Y hX hY=>h X Y (hX k)
theorem jF (k : AWp P Γ N y Q E s) (h : ∀ X Y : Prop,Y→match aeval Γ E c with | .v (.bool t)=>(t = true→X)∧(t = false→Y) | _=>False:=by (intro X Y hX; simp only [UP,DF,Nc,↓reduceIte,DB]; exact hX)) : AWp P Γ N (.cond c x y) Q E s:=wC fun X Y hX hY=>h X Y (hY k)
theorem jG (a : H) (k : AWp P Γ N x Q E s) (h : H→∀ X Y : Prop,X→match aeval Γ E c with | .v (.bool t)=>(t = true→X)∧(t = false→Y) | _=>False:=by (intro a X Y hX; simp only [UP,DF,Nc,↓reduceIte,DB,a]; exact hX)) : AWp P Γ N (.cond c x y) Q E s:=wC fun X Y hX hY=>h a X Y (hX k)
theorem jH (a : H) (k : AWp P Γ N y Q E s) (h : H→∀ X Y : Prop,Y→match aeval Γ E c with | .v (.bool t)=>(t = true→X)∧(t = false→Y) | _=>False:=by (intro a X Y hX; simp only [UP,DF,Nc,↓reduceIte,DB,a]; exact hX)) : AWp P Γ N (.cond c x y) Q E s:=wC fun X Y hX hY=>h a X Y (hY k)
theorem jI (k : Z) (h : Z→Q .ret E s:=by (intro hz; (try simp only [thenQ,blockQ]); simp only [retQ,AEnds,aresL,ares,List.toList_toArray,↓upd_same]; (try simp only [UP,DF,Nc,↓reduceIte,DT]); exact hz)) : AWp P Γ N .ret Q E s:=awp_ret (h k)
theorem jJ (h : Q .ret E s:=by ((try simp only [thenQ,blockQ]); simp only [retQ,AEnds,aresL,ares,List.toList_toArray,↓upd_same]; (try simp only [UP,DF,Nc,↓reduceIte,DT]); exact ⟨_,_,AV.weak.refl _,AS.le.refl _,rfl,rfl⟩)) : AWp P Γ N .ret Q E s:=awp_ret h
theorem jK (a : ACalls P Γ f ags s0 fun r s'=>r = v∧s' = s2) (k : ∀ s1,s1 = s2→AWp P Γ N y Q (E2 s1) (s3 s1)) (h : (ACalls P Γ f ags s0 fun r s'=>r = v∧s' = s2)→∀ K : Env→AS→Prop,(∀ s1,s1 = s2→K (E2 s1) (s3 s1))→AY P Γ N L.toArray L K E s:=by (intro a K hK; simp only [↓DN,Qa,Qb,Qc,Qd,Qe,Qf,Qg,Qh,reduceCtorEq,↓reduceIte,Na,Nb,Nc,Nk,Nf,Ng,Nh,Za,Zb,Zc,TT]; refine acallk a ?_; rintro _ s1 ⟨rfl,e⟩; simp only [↓DM,pval,DX,Nz,↓DN,Qa,Qb,Qc,Qd,Qe,Qf,Qg,Qh,reduceCtorEq,↓reduceIte,Na,Nb,Nc,Nk,Nf,Ng,Nh,Za,Zb,Zc,TT]; exact hK s1 e)) : AWp P Γ N (.seq (.region id L.toArray false) y) Q E s:=wS fun K hK=>h a K fun s1 e=>hK _ _ (k s1 e)
theorem jL (a : ACalls P Γ f ags s0 fun r s'=>r = v∧s' = s2) (k : ∀ s1,s1 = s2→Q .normal (E2 s1) (s3 s1)) (h : (ACalls P Γ f ags s0 fun r s'=>r = v∧s' = s2)→∀ K : Env→AS→Prop,(∀ s1,s1 = s2→K (E2 s1) (s3 s1))→AY P Γ N L.toArray L K E s:=by (intro a K hK; simp only [↓DN,Qa,Qb,Qc,Qd,Qe,Qf,Qg,Qh,reduceCtorEq,↓reduceIte,Na,Nb,Nc,Nk,Nf,Ng,Nh,Za,Zb,Zc,TT]; refine acallk a ?_; rintro _ s1 ⟨rfl,e⟩; simp only [↓DM,pval,DX,Nz,↓DN,Qa,Qb,Qc,Qd,Qe,Qf,Qg,Qh,reduceCtorEq,↓reduceIte,Na,Nb,Nc,Nk,Nf,Ng,Nh,Za,Zb,Zc,TT]; exact hK s1 e)) : AWp P Γ N (.region id L.toArray false) Q E s:=wE fun K hK=>h a K fun s1 e=>hK _ _ (k s1 e)
theorem jQ (k : ∀ K : Env→AS→Prop,(∀ E s,AWp P Γ N y Q E s→K E s)→M K) (h : ∀ K : Env→AS→Prop,M K→AY P Γ N L.toArray L K E s:=by (intro K hz; simp only [↓DN,Qa,Qb,Qc,Qd,Qe,Qf,Qg,Qh,reduceCtorEq,↓reduceIte,Na,Nb,Nc,Nk,Nf,Ng,Nh,Za,Zb,Zc,TT]; exact hz)) : AWp P Γ N (.seq (.region id L.toArray false) y) Q E s:=wS fun K hK=>h K (k K hK)
theorem jS (a : H) (k : ∀ K : Env→AS→Prop,(∀ E s,AWp P Γ N y Q E s→K E s)→M K) (h : H→∀ K : Env→AS→Prop,M K→AY P Γ N L.toArray L K E s:=by (intro a K hz; simp only [↓DN,Qa,Qb,Qc,Qd,Qe,Qf,Qg,Qh,reduceCtorEq,↓reduceIte,Na,Nb,Nc,Nk,Nf,Ng,Nh,Za,Zb,Zc,TT,a]; exact hz)) : AWp P Γ N (.seq (.region id L.toArray false) y) Q E s:=wS fun K hK=>h a K (k K hK)
theorem jT (k : ∀ K : Env→AS→Prop,(∀ E s,Q .normal E s→K E s)→M K) (h : ∀ K : Env→AS→Prop,M K→AY P Γ N L.toArray L K E s:=by (intro K hz; simp only [↓DN,Qa,Qb,Qc,Qd,Qe,Qf,Qg,Qh,reduceCtorEq,↓reduceIte,Na,Nb,Nc,Nk,Nf,Ng,Nh,Za,Zb,Zc,TT]; exact hz)) : AWp P Γ N (.region id L.toArray false) Q E s:=wE fun K hK=>h K (k K hK)
theorem jU (a : H) (k : ∀ K : Env→AS→Prop,(∀ E s,Q .normal E s→K E s)→M K) (h : H→∀ K : Env→AS→Prop,M K→AY P Γ N L.toArray L K E s:=by (intro a K hz; simp only [↓DN,Qa,Qb,Qc,Qd,Qe,Qf,Qg,Qh,reduceCtorEq,↓reduceIte,Na,Nb,Nc,Nk,Nf,Ng,Nh,Za,Zb,Zc,TT,a]; exact hz)) : AWp P Γ N (.region id L.toArray false) Q E s:=wE fun K hK=>h a K (k K hK)
theorem jR {K : Env→AS→Prop} (hK : ∀ E s,W E s→K E s) (k : W E' s') (h : K E' s'→Z:=by (intro hK; simp only [↓DM,pval,DX,Nz,↓DN,Qa,Qb,Qc,Qd,Qe,Qf,Qg,Qh,reduceCtorEq,↓reduceIte,Na,Nb,Nc,Nk,Nf,Ng,Nh,Za,Zb,Zc,TT]; exact hK)) : Z:=h (hK _ _ k)
theorem jV {K : Env→AS→Prop} (a : H) (hK : ∀ E s,W E s→K E s) (k : W E' s') (h : H→K E' s'→Z:=by (intro a hK; simp only [↓DM,pval,DX,Nz,↓DN,Qa,Qb,Qc,Qd,Qe,Qf,Qg,Qh,reduceCtorEq,↓reduceIte,Na,Nb,Nc,Nk,Nf,Ng,Nh,Za,Zb,Zc,TT,a]; exact hK)) : Z:=h a (hK _ _ k)
end
end Go.Proofs.YtfjlmkifiihgkaaGreatDoor
namespace Go.AM
open Go
def intC (n : Int) : AV:=.v (.int .i64 n)
def intsV (l : List Int) (sp : Sp) : AV:=.sl 1 l.length (l.map intC) sp
theorem eat_int {l : List Int} {i : Nat} (h : i < l.length) : List.take 1 (List.drop i (l.map intC)) = [.v (.int .i64 l[i])]:=by
  rw [List.drop_eq_getElem_cons (by simpa using h)]
  simp [intC]
theorem IsTy.ints {avs : List AV} (h : IsTy (.slice 1 tyI) avs) : ∃ l : List Int,avs = [intsV l .any]:=by
  obtain ⟨els,rfl,_,hall⟩:=IsTy.rows h
  have key : ∀ els : List (List AV),(∀ el ∈ els,el.length = 1∧IsTy tyI el)→∃ l : List Int,l.length = els.length∧els.flatten = l.map intC:=by
    intro els
    induction els with
    | nil=>intro _; exact ⟨[],rfl,rfl⟩
    | cons e els ih =>
      intro h
      obtain ⟨l,h1,h2⟩:=ih (fun el hel=>h el (by simp [hel]))
      obtain ⟨_,t⟩:=h e (by simp)
      obtain ⟨n,rfl,_⟩:=isTy_int t
      exact ⟨n :: l,by simp [h1],by simp [h2,intC]⟩
  obtain ⟨l,h1,h2⟩:=key els hall
  exact ⟨l,by rw [← h1,h2]; rfl⟩
theorem take_eq_succ {α : Type} {a b : List α} {i : Nat} (ha : i < a.length) (hb : i < b.length) (h : a.take i = b.take i) (e : a[i] = b[i]) : a.take (i + 1) = b.take (i + 1):=by
  rw [List.take_succ_eq_append_getElem ha,List.take_succ_eq_append_getElem hb,h,e]
structure NodeV where
  kind : Int
  name : List UInt8
  key : Nat
  parent : List UInt8
  unm : List Int
  deriving DecidableEq
def NodeV.cells (n : NodeV) : List AV:=[.v (.int .i64 n.kind),bytesV n.name .any,.v (.int .u64 n.key),bytesV n.parent .any,intsV n.unm .any]
def NodeV.nought : NodeV:=⟨0,[],0,[],[]⟩
theorem node_eq_bool (k k' : Int) (m m' p p' : List UInt8) (y y' : Nat) (u u' : List Int) :
    decide ((⟨k,m,y,p,u⟩ : NodeV) = ⟨k',m',y',p',u'⟩) = ((k == k') && (((y : Int) == (y' : Int)) && (decide (m = m') && (decide (p = p') && decide (u = u'))))):=by
  rw [Bool.eq_iff_iff,decide_eq_true_iff]
  simp only [NodeV.mk.injEq,Bool.and_eq_true,beq_iff_eq,decide_eq_true_eq,Int.natCast_inj]
  constructor
  · rintro ⟨h1,h2,h3,h4,h5⟩
    exact ⟨h1,h3,h2,h4,h5⟩
  · rintro ⟨h1,h3,h2,h4,h5⟩
    exact ⟨h1,h2,h3,h4,h5⟩
theorem IsTy.node {avs : List AV} (h : IsTy (.struct (.cons tyI (.cons tyB (.cons (.int .u64) (.cons tyB (.cons (.slice 1 tyI) .nil)))))) avs) : ∃ N : NodeV,avs = N.cells∧N.key < 2 ^ 64:=by
  obtain ⟨x1,y1,rfl,t1,h⟩:=isF_cons (isTy_struct h)
  obtain ⟨x2,y2,rfl,t2,h⟩:=isF_cons h
  obtain ⟨x3,y3,rfl,t3,h⟩:=isF_cons h
  obtain ⟨x4,y4,rfl,t4,h⟩:=isF_cons h
  obtain ⟨x5,y5,rfl,t5,h⟩:=isF_cons h
  obtain rfl:=isF_nil h
  obtain ⟨n1,rfl,_⟩:=isTy_int t1
  obtain ⟨l2,rfl,_⟩:=t2.bytes
  obtain ⟨n3,rfl,w3⟩:=isTy_int t3
  obtain ⟨m3,rfl,h3⟩:=nat_u64 w3
  obtain ⟨l4,rfl,_⟩:=t4.bytes
  obtain ⟨l5,rfl⟩:=t5.ints
  exact ⟨⟨n1,l2,m3,l4,l5⟩,rfl,h3⟩
def okAt (l : List Int) (i : Nat) : Prop:=0≤l.getD i 0∧l.getD i 0 < 32∧(0 < i→l.getD (i - 1) 0 < l.getD i 0)
instance decOkAt (l : List Int) (i : Nat) : Decidable (okAt l i):=by unfold okAt; infer_instance
def Rising (l : List Int) : Prop:=∀ i,i < l.length→okAt l i
instance decRising (l : List Int) : Decidable (Rising l):=by unfold Rising; infer_instance
theorem okAt_of {l : List Int} {i : Nat} (h : i < l.length) (h1 : 0≤l[i]) (h2 : l[i] < 32) (h3 : ∀ k : 0 < i,l[i - 1] < l[i]) : okAt l i:=by
  unfold okAt
  have e : l.getD i 0 = l[i]:=by simp [List.getD,h]
  refine ⟨by rw [e]; exact h1,by rw [e]; exact h2,fun k=>?_⟩
  have e2 : l.getD (i - 1) 0 = l[i - 1]:=by simp [List.getD,show i - 1 < l.length by omega]
  rw [e,e2]
  exact h3 k
theorem okAt_get {l : List Int} {i : Nat} (h : i < l.length) (k : okAt l i) : 0≤l[i]∧l[i] < 32∧(∀ q : 0 < i,l[i - 1] < l[i]):=by
  unfold okAt at k
  have e : l.getD i 0 = l[i]:=by simp [List.getD,h]
  rw [e] at k
  refine ⟨k.1,k.2.1,fun q=>?_⟩
  have e2 : l.getD (i - 1) 0 = l[i - 1]:=by simp [List.getD,show i - 1 < l.length by omega]
  have:=k.2.2 q
  rwa [e2] at this
def NodeV.held (N : NodeV) : Prop:=2≤N.key∧N.key≤2305843009213693949∧(N.parent.length = 0∨N.parent.length = 32)
instance decNodeHeld (N : NodeV) : Decidable N.held:=by unfold NodeV.held; infer_instance
def NodeV.right (N : NodeV) : Prop :=
  if N.kind = 0 then N = NodeV.nought
  else if N.kind = 1 then (1≤N.name.length∧N.name.length≤16∧N.held∧N.unm.length = 0)
  else if N.kind = 2 then (N.name.length = 0∧N.held∧Rising N.unm)
  else False
instance decNodeRight (N : NodeV) : Decidable N.right:=by unfold NodeV.right; infer_instance
theorem right_zero {N : NodeV} (h : N.kind = 0) : N.right↔N = NodeV.nought:=by unfold NodeV.right; rw [if_pos h]
theorem right_one {N : NodeV} (h : N.kind = 1) : N.right↔(1≤N.name.length∧N.name.length≤16∧N.held∧N.unm.length = 0):=by unfold NodeV.right; rw [if_neg (by omega),if_pos h]
theorem right_two {N : NodeV} (h : N.kind = 2) : N.right↔(N.name.length = 0∧N.held∧Rising N.unm):=by unfold NodeV.right; rw [if_neg (by omega),if_neg (by omega),if_pos h]
theorem right_else {N : NodeV} (h0 : N.kind≠0) (h1 : N.kind≠1) (h2 : N.kind≠2) : ¬ N.right:=by unfold NodeV.right; rw [if_neg h0,if_neg h1,if_neg h2]; exact id
end Go.AM
namespace Go.AM
open Go
structure Rec where
  kind : Int
  group : List UInt8
  epoch : Int
  time : Int
  bucket : Int
  body : List UInt8
  tree : List UInt8
  script : List UInt8
  wrapped : List UInt8
  deriving DecidableEq
def Rec.cells (r : Rec) : List AV:=[.v (.int .i64 r.kind),bytesV r.group .any,.v (.int .i64 r.epoch),.v (.int .i64 r.time),.v (.int .i64 r.bucket),bytesV r.body .any,bytesV r.tree .any,bytesV r.script .any,bytesV r.wrapped .any]
def Rec.nought : Rec:=⟨0,[],0,0,0,[],[],[],[]⟩
def Rec.right (r : Rec) : Prop :=
  1≤r.kind∧r.kind≤3∧1≤r.group.length∧r.group.length≤16∧0≤r.epoch∧r.epoch≤1048576∧0≤r.time∧r.time≤1099511627776∧0≤r.bucket∧r.bucket≤1099511627776∧r.body.length≤60000 ∧
    r.tree.length = (if r.kind = 3 then 0 else 32)∧r.script.length = (if r.kind = 3 then 0 else 32)∧r.wrapped.length = (if r.kind = 3 then 0 else 48)
instance (r : Rec) : Decidable r.right:=by unfold Rec.right; infer_instance
def Rec.text (r : Rec) : List UInt8 :=
  be 1 r.kind.toNat ++ (be 1 r.group.length ++ r.group ++ (be 8 r.epoch.toNat ++ (be 8 r.time.toNat ++ (be 8 r.bucket.toNat ++
    (be 2 r.body.length ++ r.body ++ (be 1 r.tree.length ++ r.tree ++ (be 1 r.script.length ++ r.script ++ (be 1 r.wrapped.length ++ r.wrapped ++ []))))))))
end Go.AM
namespace Go.AM
open Go
theorem penNum_raw (k n : Nat) (st : List UInt8 × Bool) : penNum k n st = penRaw (be k n) st:=rfl
theorem penSmall_raw {k n : Nat} (h : n < 256 ^ k) (st : List UInt8 × Bool) : penSmall k (n : Int) st = penRaw (be k n) st:=by
  have e : (256 : Nat) ^ k = 2 ^ (8 * k):=by rw [Nat.pow_mul]
  have hh : (n : Int) < 2 ^ (8 * k):=by
    rw [e] at h
    exact_mod_cast h
  unfold penSmall
  rw [if_pos ⟨by omega,hh⟩]
  simp only [Int.toNat_natCast,penNum_raw]
theorem penRaw_raw (a b : List UInt8) (st : List UInt8 × Bool) : penRaw a (penRaw b st) = penRaw (b ++ a) st:=by
  unfold penRaw
  by_cases h : st.2 = true
  · simp [h]
  · simp [h]
theorem penText_raw {k : Nat} {m : List UInt8} (h : m.length < 256 ^ k) (st : List UInt8 × Bool) : penText k m st = penRaw (be k m.length ++ m) st:=by
  unfold penText
  rw [penSmall_raw h,penRaw_raw]
def intsText (l : List Int) : List UInt8:=(l.map fun x=>be 1 x.toNat).flatten
def NodeV.text (N : NodeV) : List UInt8 :=
  if N.kind = 0 then be 1 0
  else if N.kind = 1 then be 1 1 ++ (be 1 N.name.length ++ N.name) ++ be 8 N.key ++ (be 1 N.parent.length ++ N.parent)
  else be 1 2 ++ be 8 N.key ++ (be 1 N.parent.length ++ N.parent) ++ be 1 N.unm.length ++ intsText N.unm
theorem rising_at {l : List Int} (h : Rising l) : ∀ i,i < l.length→(i : Int)≤l.getD i 0
  | 0,k=>(h 0 k).1
  | i + 1,k=>by
    have:=rising_at h i (by omega)
    have h3:=(h (i + 1) k).2.2 (by omega)
    simp only [Nat.add_sub_cancel] at h3
    omega
theorem rising_len {l : List Int} (h : Rising l) : l.length≤32:=by
  by_cases k : l.length = 0
  · omega
  · have h1:=rising_at h (l.length - 1) (by omega)
    have h2:=(h (l.length - 1) (by omega)).2.1
    omega
theorem rising_mem {l : List Int} (h : Rising l) {x : Int} (hx : x ∈ l) : 0≤x∧x < 32:=by
  obtain ⟨i,hi,rfl⟩:=List.getElem_of_mem hx
  have:=okAt_get hi (h i hi)
  exact ⟨this.1,this.2.1⟩
theorem intsText_len : ∀ (l : List Int),(intsText l).length = l.length
  | []=>rfl
  | x :: l=>by
    have:=intsText_len l
    simp only [intsText,List.map_cons,List.flatten_cons,List.length_append,length_be,List.length_cons] at *
    omega
theorem intsText_snoc (l : List Int) (x : Int) : intsText (l ++ [x]) = intsText l ++ be 1 x.toNat:=by
  simp [intsText]
theorem nought_right : NodeV.nought.right:=by decide
theorem node_kind {N : NodeV} (h : N.right) : N.kind = 0∨N.kind = 1∨N.kind = 2:=by
  unfold NodeV.right at h
  split at h
  · left; assumption
  · split at h
    · right; left; assumption
    · split at h
      · right; right; assumption
      · exact h.elim
theorem NodeV.text_len {N : NodeV} (h : N.right) : N.text.length≤100:=by
  obtain ⟨k,m,y,p,u⟩:=N
  rcases node_kind h with hk | hk | hk
  · simp only at hk
    simp [NodeV.text,hk]
  · obtain ⟨h1,h2,⟨h3,h4,h5⟩,h6⟩:=(right_one hk).1 h
    simp only at hk h1 h2 h3 h4 h5 h6
    simp [NodeV.text,hk]
    omega
  · obtain ⟨h1,⟨h3,h4,h5⟩,h6⟩:=(right_two hk).1 h
    simp only at hk h1 h3 h4 h5 h6
    have hu:=rising_len h6
    simp [NodeV.text,hk,intsText_len]
    omega
structure RdS (s s1 : AS) (p o2 o3 : Nat) (ce z cs : List AV) : Prop where
  le : (s.drop p).le s1
  eye : s1.objs p = some ce
  res : s1.objs o2 = some z
  var : s1.objs o3 = some cs
  n2 : s.objs o2 = none
  n3 : s.objs o3 = none
  p2 : p≠o2
  p3 : p≠o3
  d : o2≠o3
theorem RdS.gain {s s1 : AS} {p o2 o3 : Nat} {ce z cs : List AV} (h : RdS s s1 p o2 o3 ce z cs) {t : Nat} (ht : s.own t = none) (e : Nat) : RdS s (s1.gain t e) p o2 o3 ce z cs :=
  ⟨AS.le_gain h.le (by simpa [AS.drop] using ht) e,h.eye,h.res,h.var,h.n2,h.n3,h.p2,h.p3,h.d⟩
theorem RdS.out {s s1 : AS} {p o2 o3 : Nat} {ce z cs : List AV} (h : RdS s s1 p o2 o3 ce z cs) : (s.set p ce).le s1:=AS.set_le_of h.le h.eye
theorem RdS.own_none {s s1 : AS} {p o2 o3 : Nat} {ce z cs : List AV} (h : RdS s s1 p o2 o3 ce z cs) {t : Nat} (ht : s1.own t = none) : s.own t = none:=by
  cases h0 : s.own t with
  | none=>rfl
  | some e =>
    have:=h.le.own t e (by simpa [AS.drop] using h0)
    rw [ht] at this
    cases this
def IBuf (s0 s : AS) (x : AV) (l : List Int) : Prop:=(x = nilS∧l = [])∨∃ t e,x = intsV l (.own t e)∧s.own t = some e∧s0.own t = none
theorem IBuf.weak {s0 s : AS} {x : AV} {l : List Int} (h : IBuf s0 s x l) : x.weak (intsV l .any):=by
  rcases h with ⟨rfl,rfl⟩ | ⟨t,e,rfl,_,_⟩
  · exact AV.weak_nil
  · exact AV.weak_any
end Go.AM
namespace Go.AM
open Go
theorem some_neO {s : AS} {p o : Nat} {cs : List AV} (h : s.objs p = some cs) (k : s.objs o = none) : p≠o:=by
  rintro rfl
  rw [h] at k
  cases k
structure Rd4 (s s1 : AS) (p o2 o3 o4 : Nat) (ce z cs ds : List AV) : Prop where
  rd : RdS s s1 p o2 o3 ce z cs
  obj : s1.objs o4 = some ds
  n4 : s.objs o4 = none
  p4 : p≠o4
  d2 : o2≠o4
  d3 : o3≠o4
theorem RdS.setNew {s s1 : AS} {p o2 o3 o4 : Nat} {ce z cs : List AV} (h : RdS s s1 p o2 o3 ce z cs) (h4 : s1.objs o4 = none) (ds : List AV) : Rd4 s (s1.set o4 ds) p o2 o3 o4 ce z cs ds:=by
  have hp : p≠o4:=by rintro rfl; rw [h.eye] at h4; cases h4
  have h2 : o2≠o4:=by rintro rfl; rw [h.res] at h4; cases h4
  have h3 : o3≠o4:=by rintro rfl; rw [h.var] at h4; cases h4
  have hn : (s.drop p).objs o4 = none:=by
    cases e : (s.drop p).objs o4 with
    | none=>rfl
    | some x=>have:=h.le.objs _ _ e; rw [h4] at this; cases this
  have hn' : s.objs o4 = none:=by simpa [AS.drop,upd,hp.symm] using hn
  refine ⟨⟨AS.le_set h.le hn _,?_,?_,?_,h.n2,h.n3,h.p2,h.p3,h.d⟩,AS.set_objs_same _ _ _,hn',hp,h2,h3⟩
  · rw [AS.set_objs_ne _ hp]; exact h.eye
  · rw [AS.set_objs_ne _ h2]; exact h.res
  · rw [AS.set_objs_ne _ h3]; exact h.var
theorem Rd4.gain {s s1 : AS} {p o2 o3 o4 : Nat} {ce z cs ds : List AV} (h : Rd4 s s1 p o2 o3 o4 ce z cs ds) {t : Nat} (ht : s.own t = none) (e : Nat) : Rd4 s (s1.gain t e) p o2 o3 o4 ce z cs ds :=
  ⟨h.rd.gain ht e,h.obj,h.n4,h.p4,h.d2,h.d3⟩
theorem own_none_le {a b : AS} (h : a.le b) {t : Nat} (k : b.own t = none) : a.own t = none:=by
  cases e : a.own t with
  | none=>rfl
  | some x=>rw [h.own t x e] at k; cases k
theorem RdS.fresh {s s1 : AS} {p o2 o3 o5 : Nat} {ce z cs : List AV} (h : RdS s s1 p o2 o3 ce z cs) (h5 : s1.objs o5 = none) (ds : List AV) : RdS s (s1.set o5 ds) p o2 o3 ce z cs:=(h.setNew h5 ds).rd
theorem Rd4.fresh {s s1 : AS} {p o2 o3 o4 o5 : Nat} {ce z cs ds : List AV} (h : Rd4 s s1 p o2 o3 o4 ce z cs ds) (h5 : s1.objs o5 = none) (es : List AV) : Rd4 s (s1.set o5 es) p o2 o3 o4 ce z cs ds :=
  ⟨h.rd.fresh h5 es,by rw [AS.set_objs_ne _ (some_neO h.obj h5)]; exact h.obj,h.n4,h.p4,h.d2,h.d3⟩
end Go.AM
namespace Go.AM
open Go
def lvT : List Nat:=[0,1,0,2,0,1,0,3,0,1,0,2,0,1,0,4,0,1,0,2,0,1,0,3,0,1,0,2,0,1,0,5,0,1,0,2,0,1,0,3,0,1,0,2,0,1,0,4,0,1,0,2,0,1,0,3,0,1,0,2,0,1,0]
def lv (n : Nat) : Nat:=lvT.getD n 0
def lvI (x : Int) : Nat:=if 0≤x∧x < 63 then lv x.toNat else 0
def hf (n : Nat) : Nat:=2 ^ lv n / 2
def lo (n : Nat) : Nat:=(n - (2 ^ lv n - 1)) / 2
def hi (n : Nat) : Nat:=(n + (2 ^ lv n - 1)) / 2
def Fit (n : Nat) : Prop:=n = 1∨n = 2∨n = 4∨n = 8∨n = 16∨n = 32
instance (n : Nat) : Decidable (Fit n):=by unfold Fit; infer_instance
theorem Fit.le {n : Nat} (h : Fit n) : 1≤n∧n≤32:=by rcases h with h | h | h | h | h | h <;> omega
theorem lv_le (n : Nat) : lv n≤5:=by
  by_cases h : n < 63
  · exact (by decide : ∀ n < 63,lv n≤5) n h
  · have : lv n = 0:=by simp [lv,List.getD,lvT,show 63≤n by omega]
    omega
def up1 (n : Nat) : Nat:=if n / 2 ^ (lv n + 1) % 2 = 0 then n + 2 ^ lv n else n - 2 ^ lv n
def climbL : Nat→Nat→Nat→List Nat
  | 0,_,_=>[]
  | k + 1,n,leaves=>if n = leaves - 1 then [] else up1 n :: climbL k (up1 n) leaves
def pathL (leaf leaves : Nat) : List Nat:=climbL 6 (2 * leaf) leaves
def dB64 : List Nat:=[0,1,56,2,57,49,28,3,61,58,42,50,38,29,17,4,62,47,59,36,45,43,51,22,53,39,33,30,24,18,12,5,63,55,48,27,60,41,37,16,46,35,44,21,52,32,23,11,54,26,40,15,34,20,31,10,25,14,19,9,13,8,7,6]
def u8C (n : Nat) : AV:=.v (.int .u8 n)
def fitI (x : Int) : Prop:=0≤x∧Fit x.toNat
instance (x : Int) : Decidable (fitI x):=by unfold fitI; infer_instance
theorem tz_idx : ∀ n < 63,∃ k < 64,ishr .u64 (imul .u64 (iand .u64 ((n + 1 : Nat) : Int) (ineg .u64 ((n + 1 : Nat) : Int))) 285870213051353865) 58 = ((k : Nat) : Int)∧(List.drop k (dB64.map u8C))[0]? = some (u8C (lv n)):=by
  have key : ∀ n < 63,∃ k < 64,ishr .u64 (imul .u64 (iand .u64 ((n + 1 : Nat) : Int) (ineg .u64 ((n + 1 : Nat) : Int))) 285870213051353865) 58 = ((k : Nat) : Int)∧dB64[k]? = some (lv n):=by decide +kernel
  intro n hn
  obtain ⟨k,h1,h2,h3⟩:=key n hn
  refine ⟨k,h1,h2,?_⟩
  rw [List.getElem?_drop,Nat.add_zero,List.getElem?_map,h3]
  rfl
theorem lvI_nat {n : Nat} (h : n < 63) : lvI (n : Int) = lv n:=by
  unfold lvI
  rw [if_pos (by omega),Int.toNat_natCast]
theorem lvI_le (x : Int) : lvI x≤5:=by unfold lvI; split; exact lv_le _; omega
theorem sh_half {l : Nat} (h : l≤5) : ishr .i64 (ishl .i64 1 (l : Int)) 1 = ((2 ^ l / 2 : Nat) : Int):=(by decide : ∀ l≤5,ishr .i64 (ishl .i64 1 ((l : Nat) : Int)) 1 = ((2 ^ l / 2 : Nat) : Int)) l h
theorem sh_one {l : Nat} (h : l≤5) : ishl .i64 1 (l : Int) = ((2 ^ l : Nat) : Int):=(by decide : ∀ l≤5,ishl .i64 1 ((l : Nat) : Int) = ((2 ^ l : Nat) : Int)) l h
theorem pow_le5 {l : Nat} (h : l≤5) : 1≤2 ^ l∧2 ^ l≤32:=(by decide : ∀ l≤5,1≤2 ^ l∧2 ^ l≤32) l h
def kidsI (x : Int) : Option (Int × Int):=if lvI x = 0 then none else some (x - ((2 ^ lvI x / 2 : Nat) : Int),x + ((2 ^ lvI x / 2 : Nat) : Int))
def undI (x : Int) : Int × Int:=if 0≤x∧x < 63 then ((lo x.toNat : Int),(hi x.toNat : Int)) else (0,-1)
theorem half_zero (x : Int) : 2 ^ lvI x / 2 = 0↔lvI x = 0:=by
  have:=lvI_le x
  generalize lvI x = l at *
  exact (by decide : ∀ l≤5,2 ^ l / 2 = 0↔l = 0) l this
theorem und_eq : ∀ n : Nat,n < 63→iquo .i64 (isub .i64 (n : Int) (isub .i64 ((2 ^ lv n : Nat) : Int) 1)) 2 = (lo n : Int)∧iquo .i64 (iadd .i64 (n : Int) (isub .i64 ((2 ^ lv n : Nat) : Int) 1)) 2 = (hi n : Int):=by decide +kernel
end Go.AM
namespace Go.Proofs.YtfjlmkifiihgkaaGreatDoor
open Go Go.AM Go.Proofs
variable {Γ : Nat→List AV}
theorem is18_calls (x : Int) (s : AS) : ACalls Tryz.prog Γ 217 [.v (.int .i64 x)] s (fun r s'=>r = .v (.bool (decide (0≤x∧x < 63)))∧s' = s):=by
 refine acalls_body Tryz.func217 rfl Tryz.ntmps217 Tryz.results217 (by simp) ?_
 refine jA ?_
 by_cases h : 0≤x
 ·refine jB (decide_eq_true h) ?_
  refine jI ?_
  exact ⟨_,_,AV.weak.refl _,AS.le.refl _,by simp [h],rfl⟩
 ·refine jB (decide_eq_false h) ?_
  refine jI ?_
  exact ⟨_,_,AV.weak.refl _,AS.le.refl _,by simp [h],rfl⟩
theorem tz64_calls (hG : Γ 3 = dB64.map u8C) (n : Nat) (hn : n < 63) (s : AS) : ACalls Tryz.prog Γ 262 [.v (.int .u64 ((n + 1 : Nat) : Int))] s (fun r s'=>r = .v (.int .i64 (lv n))∧s' = s):=by
 refine acalls_body Tryz.func262 rfl Tryz.ntmps262 Tryz.results262 (by simp) ?_
 have h0 : (((n + 1 : Nat) : Int) == 0) = false:=by simp; omega
 refine jA ?_
 refine wK fun K hK=>?_
 refine jB @h0 ?_
 refine jF ?_
 refine awp_skip ?_
 refine hK _ _ ?_;clear hK K
 obtain ⟨k,hk,hidx,hget⟩:=tz_idx n hn
 have hl:=lv_le n
 have hk0 : ((0 : Int)≤(k : Int)) = True:=eq_true (by omega)
 have hk1 : ((k : Int) < ((64 : Nat) : Int)) = True:=eq_true (by omega)
 refine wS fun K hK=>?_
 simp only [↓DN,Qa,Qb,Qc,Qd,Qe,Qf,Qg,Qh,reduceCtorEq,↓reduceIte,Na,Nb,Nc,Nk,Nf,Ng,Nh,Za,Zb,Zc,TT,hG,hidx,hk0,hk1,hget,u8C,i64_conv (show lv n < 2 ^ 62 by omega)]
 refine hK _ _ ?_;clear hK K
 exact jJ
theorem tz_calls (hG : Γ 3 = dB64.map u8C) (n : Nat) (hn : n < 63) (s : AS) : ACalls Tryz.prog Γ 249 [.v (.int .u64 ((n + 1 : Nat) : Int))] s (fun r s'=>r = .v (.int .i64 (lv n))∧s' = s):=by
 refine acalls_body Tryz.func249 rfl Tryz.ntmps249 Tryz.results249 (by simp) ?_
 refine jA ?_
 refine wK fun K hK=>?_
 refine jF ?_
 refine awp_skip ?_
 refine hK _ _ ?_;clear hK K
 refine jK (tz64_calls hG n hn _) ?_;rintro s1 rfl
 exact jJ
theorem level_calls (hG : Γ 3 = dB64.map u8C) (x : Int) (s : AS) : ACalls Tryz.prog Γ 218 [.v (.int .i64 x)] s (fun r s'=>r = .v (.int .i64 (lvI x))∧s' = s):=by
 refine acalls_body Tryz.func218 rfl Tryz.ntmps218 Tryz.results218 (by simp) ?_
 refine jA ?_
 refine wK fun K hK=>?_
 refine jQ fun K hK=>?_
 refine acallk (is18_calls x _) ?_
 rintro r s1 ⟨rfl,rfl⟩
 by_cases h : 0≤x∧x < 63
 ·obtain ⟨n,rfl⟩:=Int.eq_ofNat_of_zero_le h.1
  have hn : n < 63:=by omega
  rw [decide_eq_true h]
  refine jR hK ?_;clear hK K
  refine jF ?_
  refine awp_skip ?_
  refine hK _ _ ?_;clear hK K
  have e1 : iconv .u64 (iadd .i64 (n : Int) 1) = ((n + 1 : Nat) : Int):=by rw [eye_succ n (by omega),u64_conv (by omega)]
  refine jS @e1 fun K hK=>?_
  refine acallk (tz_calls hG n hn _) ?_
  rintro r s2 ⟨rfl,rfl⟩
  refine jR hK ?_;clear hK K
  refine jI ?_
  rw [lvI_nat hn]
  exact ⟨_,_,AV.weak.refl _,AS.le.refl _,rfl,rfl⟩
 ·rw [decide_eq_false h]
  refine jR hK ?_;clear hK K
  refine jE ?_
  refine jA ?_
  refine jI ?_
  rw [show lvI x = 0 from if_neg h]
  exact ⟨_,_,AV.weak.refl _,AS.le.refl _,rfl,rfl⟩
theorem half_calls (hG : Γ 3 = dB64.map u8C) (x : Int) (s : AS) : ACalls Tryz.prog Γ 211 [.v (.int .i64 x)] s (fun r s'=>r = .v (.int .i64 ((2 ^ lvI x / 2 : Nat) : Int))∧s' = s):=by
 refine acalls_body Tryz.func211 rfl Tryz.ntmps211 Tryz.results211 (by simp) ?_
 have hl : lvI x≤5:=by unfold lvI; split; exact lv_le _; omega
 refine jA ?_
 refine jK (level_calls hG x _) ?_;rintro s1 rfl
 refine jI ?_
 rw [sh_half hl]
 exact ⟨_,_,AV.weak.refl _,AS.le.refl _,rfl,rfl⟩
theorem left18_calls (hG : Γ 3 = dB64.map u8C) (x : Int) (hx : -9000000000000000000≤x∧x≤9000000000000000000) (s : AS) : ACalls Tryz.prog Γ 145 [.v (.int .i64 x)] s (fun r s'=>r = (match kidsI x with | some k=>.tup [.v (.int .i64 k.1),.v (.bool true)] | none=>.tup [.v (.int .i64 0),.v (.bool false)])∧s' = s):=by
 refine acalls_body Tryz.func145 rfl Tryz.ntmps145 Tryz.results145 (by simp) ?_
 have hl:=lvI_le x
 have hp:=pow_le5 hl
 refine jA ?_
 refine wK fun K hK=>?_
 refine jQ fun K hK=>?_
 refine acallk (half_calls hG x _) ?_
 rintro r s1 ⟨rfl,rfl⟩
 by_cases h : lvI x = 0
 ·have h0 : (((2 ^ lvI x / 2 : Nat) : Int) == 0) = true:=by rw [beq_iff_eq]; have:=(half_zero x).2 h; omega
  refine jV @h0 hK ?_;clear hK K
  refine jE ?_
  refine jA ?_
  refine jI ?_
  rw [show kidsI x = none from if_pos h]
  exact ⟨_,_,AV.weak.refl _,AS.le.refl _,rfl,rfl⟩
 ·have h0 : (((2 ^ lvI x / 2 : Nat) : Int) == 0) = false:=by
   rw [beq_eq_false_iff_ne]
   intro e
   exact h ((half_zero x).1 (by omega))
  refine jV @h0 hK ?_;clear hK K
  refine jF ?_
  refine awp_skip ?_
  refine hK _ _ ?_;clear hK K
  refine jQ fun K hK=>?_
  refine acallk (half_calls hG x _) ?_
  rintro r s2 ⟨rfl,rfl⟩
  refine jV (isub_i64 (a:=x) (b:=((2 ^ lvI x / 2 : Nat) : Int)) (by omega)) hK ?_;clear hK K
  refine jI ?_
  rw [show kidsI x = some (_,_) from if_neg h]
  exact ⟨_,_,AV.weak.refl _,AS.le.refl _,rfl,rfl⟩
theorem right18_calls (hG : Γ 3 = dB64.map u8C) (x : Int) (hx : -9000000000000000000≤x∧x≤9000000000000000000) (s : AS) : ACalls Tryz.prog Γ 146 [.v (.int .i64 x)] s (fun r s'=>r = (match kidsI x with | some k=>.tup [.v (.int .i64 k.2),.v (.bool true)] | none=>.tup [.v (.int .i64 0),.v (.bool false)])∧s' = s):=by
 refine acalls_body Tryz.func146 rfl Tryz.ntmps146 Tryz.results146 (by simp) ?_
 have hl:=lvI_le x
 have hp:=pow_le5 hl
 refine jA ?_
 refine wK fun K hK=>?_
 refine jQ fun K hK=>?_
 refine acallk (half_calls hG x _) ?_
 rintro r s1 ⟨rfl,rfl⟩
 by_cases h : lvI x = 0
 ·have h0 : (((2 ^ lvI x / 2 : Nat) : Int) == 0) = true:=by rw [beq_iff_eq]; have:=(half_zero x).2 h; omega
  refine jV @h0 hK ?_;clear hK K
  refine jE ?_
  refine jA ?_
  refine jI ?_
  rw [show kidsI x = none from if_pos h]
  exact ⟨_,_,AV.weak.refl _,AS.le.refl _,rfl,rfl⟩
 ·have h0 : (((2 ^ lvI x / 2 : Nat) : Int) == 0) = false:=by
   rw [beq_eq_false_iff_ne]
   intro e
   exact h ((half_zero x).1 (by omega))
  refine jV @h0 hK ?_;clear hK K
  refine jF ?_
  refine awp_skip ?_
  refine hK _ _ ?_;clear hK K
  refine jQ fun K hK=>?_
  refine acallk (half_calls hG x _) ?_
  rintro r s2 ⟨rfl,rfl⟩
  refine jV (iadd_i64 (a:=x) (b:=((2 ^ lvI x / 2 : Nat) : Int)) (by omega)) hK ?_;clear hK K
  refine jI ?_
  rw [show kidsI x = some (_,_) from if_neg h]
  exact ⟨_,_,AV.weak.refl _,AS.le.refl _,rfl,rfl⟩
theorem under18_calls (hG : Γ 3 = dB64.map u8C) (x : Int) (s : AS) : ACalls Tryz.prog Γ 153 [.v (.int .i64 x)] s (fun r s'=>r = .tup [.v (.int .i64 (undI x).1),.v (.int .i64 (undI x).2)]∧s' = s):=by
 refine acalls_body Tryz.func153 rfl Tryz.ntmps153 Tryz.results153 (by simp) ?_
 refine jA ?_
 refine wK fun K hK=>?_
 refine jQ fun K hK=>?_
 refine acallk (is18_calls x _) ?_
 rintro r s1 ⟨rfl,rfl⟩
 by_cases h : 0≤x∧x < 63
 ·obtain ⟨n,rfl⟩:=Int.eq_ofNat_of_zero_le h.1
  have hn : n < 63:=by omega
  have hl:=lv_le n
  have hp:=pow_le5 hl
  obtain ⟨u1,u2⟩:=und_eq n hn
  rw [decide_eq_true h]
  refine jR hK ?_;clear hK K
  refine jF ?_
  refine awp_skip ?_
  refine hK _ _ ?_;clear hK K
  refine jQ fun K hK=>?_
  refine acallk (level_calls hG n _) ?_
  rintro r s2 ⟨rfl,rfl⟩
  refine jV (Ai (lvI_nat hn) (sh_one hl)) hK ?_;clear hK K
  refine jB (Ai @u1 @u2) ?_
  refine jI ?_
  rw [show undI (n : Int) = ((lo n : Int),(hi n : Int)) from if_pos h]
  exact ⟨_,_,AV.weak.refl _,AS.le.refl _,rfl,rfl⟩
 ·rw [decide_eq_false h]
  refine jR hK ?_;clear hK K
  refine jE ?_
  refine jA ?_
  refine jI ?_
  rw [show undI x = (0,-1) from if_neg h]
  exact ⟨_,_,AV.weak.refl _,AS.le.refl _,rfl,rfl⟩
end Go.Proofs.YtfjlmkifiihgkaaGreatDoor
namespace Go.AM
open Go
theorem yesI {a b : Int} (h : a = b) : (a == b) = true:=by simpa using h
theorem notI {a b : Int} (h : a≠b) : (a == b) = false:=by simpa using h
theorem neI {a b : Int} (h : a≠b) : (a != b) = true:=by simpa using h
theorem eqI {a b : Int} (h : a = b) : (a != b) = false:=by simpa using h
theorem two0 : ((2 : Int) = 0) = False:=by decide
theorem nat0 {a : Nat} (h : a = 0) : ((a : Int) == 0) = true:=by subst h; rfl
theorem nat0F {a : Nat} (h : a≠0) : ((a : Int) == 0) = false:=by simpa using h
theorem natN {a k : Nat} (h : a = k) : ((a : Int) == (k : Int)) = true:=by subst h; simp
theorem natF {a k : Nat} (h : a≠k) : ((a : Int) == (k : Int)) = false:=by simp only [beq_eq_false_iff_ne,ne_eq]; omega
theorem natNe {a b : Nat} (h : a≠b) : ((a : Int) != (b : Int)) = true:=by simp only [bne_iff_ne,ne_eq]; omega
theorem natEq {a b : Nat} (h : a = b) : ((a : Int) != (b : Int)) = false:=by subst h; simp
theorem listNe {a b : List UInt8} (h : a≠b) : (a != b) = true∧(!a == b) = true:=⟨by simpa using h,by simpa using h⟩
theorem listEq {a b : List UInt8} (h : a = b) : (a != b) = false∧(!a == b) = false:=by subst h; simp
theorem eye_succM (i : Nat) (h : i < 9223372036854775807) : iadd .i64 (i : Int) 1 = ((i + 1 : Nat) : Int):=by
  rw [iadd_i64 (by omega)]; omega
theorem iquo_nat (m : Nat) (h : m < 9223372036854775807) : iquo .i64 (m : Int) 2 = ((m / 2 : Nat) : Int):=by
  have e : (m : Int).tdiv 2 = ((m / 2 : Nat) : Int):=(Int.ofNat_tdiv m 2).symm
  unfold iquo
  rw [e]
  exact IntWalk.i64_in _ (by omega)
theorem imul2_nat (m : Nat) (h : m < 4611686018427387904) : imul .i64 2 (m : Int) = ((2 * m : Nat) : Int):=by
  rw [imul_i64 (by omega)]; omega
theorem negF (a : Nat) : decide ((a : Int) < 0) = false:=decide_eq_false (by omega)
end Go.AM
namespace Go.AM
open Go
theorem fit_and : ∀ n : Nat,n≤32→1≤n→(iand .i64 (n : Int) (isub .i64 (n : Int) 1) == 0) = decide (Fit n):=by decide +kernel
theorem fitI_nat {n : Nat} : fitI (n : Int)↔Fit n:=by unfold fitI; rw [Int.toNat_natCast]; exact ⟨fun h=>h.2,fun h=>⟨by omega,h⟩⟩
theorem fitI_bounds {x : Int} (h : fitI x) : 1≤x∧x≤32:=by have:=h.2.le; have:=h.1; omega
def widI (x : Int) : Int:=if fitI x then 2 * x - 1 else 0
def aboveN (n l : Nat) : Option Nat:=if n = l - 1 then none else some (up1 n)
theorem above_and : ∀ n : Nat,n < 63→(iand .i64 (n : Int) (imul .i64 2 ((2 ^ lv n : Nat) : Int)) == 0) = decide (n / 2 ^ (lv n + 1) % 2 = 0)∧iadd .i64 (n : Int) ((2 ^ lv n : Nat) : Int) = ((n + 2 ^ lv n : Nat) : Int) ∧
    (¬ n / 2 ^ (lv n + 1) % 2 = 0→isub .i64 (n : Int) ((2 ^ lv n : Nat) : Int) = ((n - 2 ^ lv n : Nat) : Int)):=by decide +kernel
def nodeAt (leaf l : Nat) : Nat→Nat
  | 0=>2 * leaf
  | i + 1=>(pathL leaf l).getD i 0
theorem Fit.pow {n : Nat} (h : Fit n) : ∃ m,m≤5∧n = 2 ^ m:=by
  rcases h with rfl | rfl | rfl | rfl | rfl | rfl
  · exact ⟨0,by decide,rfl⟩
  · exact ⟨1,by decide,rfl⟩
  · exact ⟨2,by decide,rfl⟩
  · exact ⟨3,by decide,rfl⟩
  · exact ⟨4,by decide,rfl⟩
  · exact ⟨5,by decide,rfl⟩
theorem path_steps {leaf l : Nat} (hl : Fit l) (h : leaf < l) {i : Nat} (hi : i≤(pathL leaf l).length) : nodeAt leaf l i < 2 * l - 1∧aboveN (nodeAt leaf l i) l = (pathL leaf l)[i]?:=by
  obtain ⟨m,hm,rfl⟩:=hl.pow
  exact (by decide +kernel : ∀ m≤5,∀ leaf < 2 ^ m,∀ i≤(pathL leaf (2 ^ m)).length,nodeAt leaf (2 ^ m) i < 2 * 2 ^ m - 1∧aboveN (nodeAt leaf (2 ^ m) i) (2 ^ m) = (pathL leaf (2 ^ m))[i]?) m hm leaf h i hi
theorem path_len {leaf l : Nat} (hl : Fit l) (h : leaf < l) : (pathL leaf l).length≤5:=by
  obtain ⟨m,hm,rfl⟩:=hl.pow
  exact (by decide +kernel : ∀ m≤5,∀ leaf < 2 ^ m,(pathL leaf (2 ^ m)).length≤5) m hm leaf h
theorem path_mem {leaf l : Nat} (hl : Fit l) (h : leaf < l) : ∀ x ∈ pathL leaf l,x < 2 * l - 1∧x % 2 = 1∧lo x≤leaf∧leaf≤hi x:=by
  obtain ⟨m,hm,rfl⟩:=hl.pow
  exact (by decide +kernel : ∀ m≤5,∀ leaf < 2 ^ m,∀ x ∈ pathL leaf (2 ^ m),x < 2 * 2 ^ m - 1∧x % 2 = 1∧lo x≤leaf∧leaf≤hi x) m hm leaf h
def wayL (leaf l : Nat) : List Nat:=(pathL leaf l).reverse ++ [2 * leaf]
def wst (leaf l : Nat) : Nat→Nat × Nat
  | 0=>(0,2 * l - 2)
  | j + 1=>let s:=wst leaf l j; let mid:=(s.1 + s.2) / 2; if 2 * leaf < mid then (s.1,mid - 1) else (mid + 1,s.2)
theorem way_steps {leaf l : Nat} (hl : Fit l) (h : leaf < l) {j : Nat} (hj : j < (wayL leaf l).length) :
    (wayL leaf l)[j]? = some (((wst leaf l j).1 + (wst leaf l j).2) / 2)∧(j + 1 = (wayL leaf l).length↔2 * leaf = ((wst leaf l j).1 + (wst leaf l j).2) / 2)∧(wst leaf l j).1 + (wst leaf l j).2≤200:=by
  obtain ⟨m,hm,rfl⟩:=hl.pow
  exact (by decide +kernel : ∀ m≤5,∀ leaf < 2 ^ m,∀ j < (wayL leaf (2 ^ m)).length,(wayL leaf (2 ^ m))[j]? = some (((wst leaf (2 ^ m) j).1 + (wst leaf (2 ^ m) j).2) / 2)∧(j + 1 = (wayL leaf (2 ^ m)).length↔2 * leaf = ((wst leaf (2 ^ m) j).1 + (wst leaf (2 ^ m) j).2) / 2)∧(wst leaf (2 ^ m) j).1 + (wst leaf (2 ^ m) j).2≤200) m hm leaf h j hj
theorem lv_half : ∀ n < 63,(n % 2 = 1→lv n = lv (n / 2) + 1)∧(n % 2 = 0→lv n = 0):=by decide +kernel
theorem lo_step : ∀ n < 63,lv n≠0→lo (n - hf n) = lo n∧lv (n - hf n) + 1 = lv n∧n - hf n < 63∧hf n≤n:=by decide +kernel
theorem hi_step : ∀ n < 63,lv n≠0→hi (n + hf n) = hi n∧lv (n + hf n) + 1 = lv n∧n + hf n < 63:=by decide +kernel
theorem lo_leaf : ∀ n < 63,lv n = 0→lo n = n / 2∧hi n = n / 2:=by decide +kernel
def natsI (l : List Nat) : List Int:=l.map fun (n : Nat)=>(n : Int)
theorem natsI_len (l : List Nat) : (natsI l).length = l.length:=by simp [natsI]
end Go.AM
namespace Go.Proofs.YtfjlmkifiihgkaaGreatDoor
open Go Go.AM Go.Proofs
variable {Γ : Nat→List AV}
theorem fits18_calls (x : Int) (s : AS) : ACalls Tryz.prog Γ 152 [.v (.int .i64 x)] s (fun r s'=>r = .v (.bool (decide (fitI x)))∧s' = s):=by
 refine acalls_body Tryz.func152 rfl Tryz.ntmps152 Tryz.results152 (by simp) ?_
 refine jA ?_
 by_cases h1 : 1≤x
 ·by_cases h2 : x≤32
  ·obtain ⟨n,rfl⟩:=Int.eq_ofNat_of_zero_le (show 0≤x by omega)
   refine jB (Ai (decide_eq_true h1) (Ai (decide_eq_true h2) (fit_and n (by omega) (by omega)))) ?_
   refine jI ?_
   exact ⟨_,_,AV.weak.refl _,AS.le.refl _,by simp only [fitI_nat],rfl⟩
  ·have hn : decide (fitI x) = false:=decide_eq_false fun h=>by have:=fitI_bounds h; omega
   refine jB (Ai (decide_eq_true h1) (decide_eq_false h2)) ?_
   refine jI ?_
   rw [hn]
   exact ⟨_,_,AV.weak.refl _,AS.le.refl _,rfl,rfl⟩
 ·have hn : decide (fitI x) = false:=decide_eq_false fun h=>by have:=fitI_bounds h; omega
  refine jB (decide_eq_false h1) ?_
  refine jI ?_
  rw [hn]
  exact ⟨_,_,AV.weak.refl _,AS.le.refl _,rfl,rfl⟩
theorem width18_calls (x : Int) (s : AS) : ACalls Tryz.prog Γ 134 [.v (.int .i64 x)] s (fun r s'=>r = .v (.int .i64 (widI x))∧s' = s):=by
 refine acalls_body Tryz.func134 rfl Tryz.ntmps134 Tryz.results134 (by simp) ?_
 refine jA ?_
 refine wK fun K hK=>?_
 refine jQ fun K hK=>?_
 refine acallk (fits18_calls x _) ?_
 rintro r s1 ⟨rfl,rfl⟩
 by_cases h : fitI x
 ·have hb:=fitI_bounds h
  rw [decide_eq_true h]
  refine jR hK ?_;clear hK K
  refine jF ?_
  refine awp_skip ?_
  refine hK _ _ ?_;clear hK K
  refine jA ?_
  refine jI ?_
  rw [imul_i64 (a:=2) (b:=x) (by omega),isub_i64 (a:=2 * x) (b:=1) (by omega),show widI x = 2 * x - 1 from if_pos h]
  exact ⟨_,_,AV.weak.refl _,AS.le.refl _,rfl,rfl⟩
 ·rw [decide_eq_false h]
  refine jR hK ?_;clear hK K
  refine jE ?_
  refine jA ?_
  refine jI ?_
  rw [show widI x = 0 from if_neg h]
  exact ⟨_,_,AV.weak.refl _,AS.le.refl _,rfl,rfl⟩
theorem widI_nat {l : Nat} (h : Fit l) : widI (l : Int) = ((2 * l - 1 : Nat) : Int):=by
 have:=h.le
 unfold widI
 rw [if_pos (fitI_nat.2 h)]
 omega
theorem above18_calls (hG : Γ 3 = dB64.map u8C) (n l : Nat) (hl : Fit l) (hn : n < 2 * l - 1) (s : AS) : ACalls Tryz.prog Γ 204 [.v (.int .i64 n),.v (.int .i64 l)] s
  (fun r s'=>r = .tup [.v (.int .i64 ((aboveN n l).getD 0)),.v (.bool (aboveN n l).isSome)]∧s' = s):=by
 refine acalls_body Tryz.func204 rfl Tryz.ntmps204 Tryz.results204 (by simp) ?_
 have hl':=hl.le
 have hn63 : n < 63:=by omega
 have h0 : decide ((n : Int) < 0) = false:=decide_eq_false (by omega)
 have h1 : decide (((2 * l - 1 : Nat) : Int)≤(n : Int)) = false:=decide_eq_false (by omega)
 have hw:=widI_nat hl
 have hp:=pow_le5 (lv_le n)
 obtain ⟨a1,a2,a3⟩:=above_and n hn63
 refine jA ?_
 refine wK fun K hK=>?_
 refine jS @h0 fun K hK=>?_
 refine acallk (width18_calls l _) ?_
 rintro r s1 ⟨rfl,rfl⟩
 by_cases he : n = l - 1
 ·have h2 : (((n : Nat) : Int) == isub .i64 (l : Int) 1) = true:=by rw [isub_i64 (by omega),beq_iff_eq]; omega
  refine jV (Ai @hw (Ai @h1 @h2)) hK ?_;clear hK K
  refine jE ?_
  refine jA ?_
  refine jI ?_
  rw [show aboveN n l = none from if_pos he]
  exact ⟨_,_,AV.weak.refl _,AS.le.refl _,rfl,rfl⟩
 ·have h2 : (((n : Nat) : Int) == isub .i64 (l : Int) 1) = false:=by rw [isub_i64 (by omega),beq_eq_false_iff_ne]; omega
  have ha : aboveN n l = some (up1 n):=if_neg he
  refine jV (Ai @hw (Ai @h1 @h2)) hK ?_;clear hK K
  refine jF ?_
  refine awp_skip ?_
  refine hK _ _ ?_;clear hK K
  refine jQ fun K hK=>?_
  refine acallk (level_calls hG n _) ?_
  rintro r s2 ⟨rfl,rfl⟩
  refine jV (Ai (lvI_nat hn63) (sh_one (lv_le n))) hK ?_;clear hK K
  refine wK fun K hK=>?_
  by_cases hb : n / 2 ^ (lv n + 1) % 2 = 0
  ·rw [decide_eq_true hb] at a1
   refine jB @a1 ?_
   refine jE ?_
   refine jB @a2 ?_
   refine jI ?_
   rw [ha,show up1 n = n + 2 ^ lv n from if_pos hb]
   exact ⟨_,_,AV.weak.refl _,AS.le.refl _,rfl,rfl⟩
  ·rw [decide_eq_false hb] at a1
   refine jB @a1 ?_
   refine jF ?_
   refine awp_skip ?_
   refine hK _ _ ?_;clear hK K
   refine jB (a3 hb) ?_
   refine jI ?_
   rw [ha,show up1 n = n - 2 ^ lv n from if_neg hb]
   exact ⟨_,_,AV.weak.refl _,AS.le.refl _,rfl,rfl⟩
def cellN : AV→Nat
 | .sl _ n _ _=>n
 | _=>0
theorem path18_calls (hG : Γ 3 = dB64.map u8C) (leaf l : Nat) (hl : Fit l) (hn : leaf < l) (s : AS) : ACalls Tryz.prog Γ 130 [.v (.int .i64 leaf),.v (.int .i64 l)] s
  (fun r s'=>r = intsV (natsI (pathL leaf l)) .any∧s' = s):=by
 refine acalls_body Tryz.func130 rfl Tryz.ntmps130 Tryz.results130 (by simp) ?_
 have hl':=hl.le
 have hpl:=path_len hl hn
 have h0 : decide ((leaf : Int) < 0) = false:=decide_eq_false (by omega)
 have h1 : decide ((l : Int)≤(leaf : Int)) = false:=decide_eq_false (by omega)
 have hst:=fun (i : Nat) (h : i≤(pathL leaf l).length)=>path_steps hl hn h
 have hnx : ∀ i,i < (pathL leaf l).length→nodeAt leaf l (i + 1) = (pathL leaf l).getD i 0:=fun i _=>rfl
 have hna : nodeAt leaf l 0 = 2 * leaf:=rfl
 generalize pathL leaf l = P at *
 refine jA ?_
 refine wK fun K hK=>?_
 refine jB (Ai @h0 @h1) ?_
 refine jF ?_
 refine awp_skip ?_
 refine hK _ _ ?_;clear hK K
 refine jA ?_
 refine wK fun K hK=>?_
 refine jQ fun K hK=>?_
 obtain ⟨w0,w1⟩:=hst 0 (Nat.zero_le _)
 rw [hna] at w0 w1
 have e0 : imul .i64 2 (leaf : Int) = ((2 * leaf : Nat) : Int):=by rw [imul_i64 (by omega)]; omega
 rw [e0]
 refine acallk (above18_calls hG (2 * leaf) l hl w0 _) ?_
 rintro r s1 ⟨rfl,rfl⟩
 rw [w1]
 refine jR hK ?_;clear hK K
 refine awp_block ?_
 refine awp_loop (fun E s2=>∃ (i : Nat) (x : AV),i≤P.length∧E 6 = .v (.int .i64 (((P[i]?).getD 0 : Nat) : Int))∧E 7 = .v (.bool (P[i]?).isSome)∧E 1 = .v (.int .i64 l)∧E 5 = x∧RBuf 1 s1 s2 x i ((natsI (P.take i)).map intC)∧s1.le s2)
  (fun E _=>P.length + 1 - cellN (E 5)) ?_ ?_
 ·exact ⟨0,nilS,Nat.zero_le _,by simp only [upd,Nc,↓reduceIte],by simp only [upd,Nc,↓reduceIte],by simp only [upd,initE,List.getD_cons_zero,List.getD_cons_succ,Nc,↓reduceIte],by simp only [upd,Nc,↓reduceIte]; rfl,RBuf.nil _ _ _,AS.le.refl _⟩
 ·rintro E1 s2 ⟨i,x,hi,g6,g7,g1,g5,hx,hle⟩ -
  refine wK fun K2 hK2=>?_
  by_cases hi' : i < P.length
  ·have hp : P[i]? = some P[i]:=List.getElem?_eq_getElem hi'
   rw [hp] at g6 g7
   simp only [Option.getD_some,Option.isSome_some] at g6 g7
   refine jB @g7 ?_
   refine jE ?_
   refine awp_skip ?_
   refine hK2 _ _ ?_;clear hK2 K2
   refine wK fun K3 hK3=>?_
   refine awp_block ?_
   have hnode : nodeAt leaf l (i + 1) = P[i]:=by rw [hnx i hi',List.getD,hp]; rfl
   obtain ⟨w2,w3⟩:=hst (i + 1) hi'
   rw [hnode] at w2 w3
   have htk : natsI (P.take (i + 1)) = natsI (P.take i) ++ [((P[i] : Nat) : Int)]:=by unfold natsI; rw [List.take_succ_eq_append_getElem hi',List.map_append]; rfl
   have hend : ∀ (E : Env) (s3 : AS) (x3 : AV),E 6 = .v (.int .i64 (P[i] : Nat))→E 1 = .v (.int .i64 l)→E 5 = x3→RBuf 1 s1 s3 x3 (i + 1) ((natsI (P.take (i + 1))).map intC)→s1.le s3→K3 E s3:=by
    intro E s3 x3 f6 f1 f5 fx fle
    refine hK3 _ _ ?_;clear hK3 K3
    refine jU (Ai @f6 @f1) fun K hK=>?_
    refine acallk (above18_calls hG (P[i]) l hl w2 _) ?_
    rintro r s4 ⟨rfl,rfl⟩
    rw [w3]
    simp only [↓DM,pval,DX,Nz,↓DN,Qa,Qb,Qc,Qd,Qe,Qf,Qg,Qh,reduceCtorEq,↓reduceIte,Na,Nb,Nc,Nk,Nf,Ng,Nh,Za,Zb,Zc,TT]
    refine hK _ _ ⟨⟨i + 1,x3,hi',by simp only [upd,Nc,↓reduceIte],by simp only [upd,Nc,↓reduceIte],by simp only [upd,f1,Nc,↓reduceIte],by simp only [upd,f5,Nc,↓reduceIte],fx,fle⟩,?_⟩
    have m1 : cellN (E1 5) = i:=by
     rw [g5]
     rcases hx with ⟨rfl,rfl,_⟩ | ⟨t,e,rfl,_⟩ <;> rfl
    have m2 : cellN (E 5) = i + 1:=by
     rw [f5]
     rcases fx with ⟨rfl,h,_⟩ | ⟨t,e,rfl,_⟩
     ·omega
     ·rfl
    simp only [upd,Nc,↓reduceIte,m1,m2]
    omega
   clear hK3
   rcases hx with ⟨rfl,hi0,hL0⟩ | ⟨t,e,rfl,ht,ht0⟩
   ·refine wE fun K hK=>?_
    simp only [↓DN,Qa,Qb,Qc,Qd,Qe,Qf,Qg,Qh,reduceCtorEq,↓reduceIte,Na,Nb,Nc,Nk,Nf,Ng,Nh,Za,Zb,Zc,TT,g5,g6,nilS,List.replicate_succ]
    intro t ht
    refine hK _ _ (hend _ _ (.sl 1 1 [.v (.int .i64 ((P[i] : Nat) : Int))] (.own t 0)) (by simp only [upd,g6,Nc,↓reduceIte]) (by simp only [upd,g1,Nc,↓reduceIte]) (by simp only [upd,Nc,↓reduceIte]) ?_ ?_)
    ·refine .inr ⟨t,0,?_,by simp [AS.gain],own_none_le hle ht⟩
     rw [htk,List.map_append,hL0]
     subst hi0
     rfl
    ·exact AS.le_gain hle (own_none_le hle ht) 0
   ·refine wE fun K hK=>?_
    simp only [↓DN,Qa,Qb,Qc,Qd,Qe,Qf,Qg,Qh,reduceCtorEq,↓reduceIte,Na,Nb,Nc,Nk,Nf,Ng,Nh,Za,Zb,Zc,TT,g5,g6,ht,List.replicate_succ]
    have hln : (natsI (P.take i)).length = i:=by rw [natsI_len,List.length_take]; omega
    refine ⟨by omega,by omega,hK _ _ (hend _ _ (.sl 1 (i + 1) ((natsI (P.take i)).map intC ++ [.v (.int .i64 ((P[i] : Nat) : Int))]) (.own t (e + 1))) (by simp only [upd,g6,Nc,↓reduceIte]) (by simp only [upd,g1,Nc,↓reduceIte]) (by simp only [upd,Nc,↓reduceIte]) ?_ ?_)⟩
    ·exact .inr ⟨t,e + 1,by rw [htk,List.map_append]; rfl,by simp [AS.gain],ht0⟩
    ·exact AS.le_gain hle ht0 (e + 1)
  ·have hp : P[i]? = none:=List.getElem?_eq_none (by omega)
   rw [hp] at g7
   simp only [Option.isSome_none] at g7
   refine jB @g7 ?_
   refine jF ?_
   refine awp_exit ?_
   simp only [thenQ,blockQ,if_true]
   refine hK _ _ ?_;clear hK hK2 K2 K
   obtain rfl : i = P.length:=by omega
   rw [List.take_of_length_le (Nat.le_refl _)] at hx
   have hw:=hx.weak
   refine jB @g5 ?_
   refine jI ?_
   refine ⟨_,_,?_,hle,rfl,rfl⟩
   have hln:=natsI_len P
   unfold intsV
   rw [hln]
   exact hw
end Go.Proofs.YtfjlmkifiihgkaaGreatDoor
