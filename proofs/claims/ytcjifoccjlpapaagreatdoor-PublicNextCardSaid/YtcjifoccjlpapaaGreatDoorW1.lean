/- Contracts of functions, each walked once; each theorem states its conditions. -/
import Derived.Test.YtcjifoccjlpapaaGreatDoorProg
import Derived.Test.YtcjifoccjlpapaaGreatDoorAMp4
import Derived.Test.YtcjifoccjlpapaaGreatDoorAMp6
import Derived.Test.YtcjifoccjlpapaaGreatDoorAMp5
set_option linter.unusedSimpArgs false
set_option linter.unusedVariables false
open Nat renaming reduceLT → Na, reduceLeDiff → Nb, reduceEqDiff → Nc, reduceAdd → Nk, reduceMul → Nf, reducePow → Ng, reduceSub → Nh, reduceBEq → Nz
open Int renaming reduceLT → Za, reduceLE → Zb, reduceToNat → Zc
open And renaming intro → Ai
open Go.AM renaming ashift → Qa, aconv → Qb, aindexAddr → Qc, aindex → Qd, aslice → Qe, abuiltin → Qf, awp_reg_seq → wS, awp_reg_end → wE, awp_seq_k → wK, awp_cond_k → wC
open Go.AM.AV renaming cells → Qg, one → Qh
set_option maxRecDepth 100000
set_option maxHeartbeats 8000000
namespace Go.Proofs.YtcjifoccjlpapaaGreatDoor
open Go Go.AM Go.Proofs Tryz
theorem T.c3 : prog.cellsOf 3 = 1:=by kernel_rfl
theorem T.b3 : prog.bytesOf 3 = 8:=by kernel_rfl
theorem T.g3 : cu prog 3 = some false:=by kernel_rfl
theorem T.z3 : bE prog 3 = some [.v (.int .i64 0)]:=by kernel_rfl
theorem T.c4 : prog.cellsOf 4 = 1:=by kernel_rfl
theorem T.b4 : prog.bytesOf 4 = 1:=by kernel_rfl
theorem T.g4 : cu prog 4 = some false:=by kernel_rfl
theorem T.z4 : bE prog 4 = some [.v (.bool false)]:=by kernel_rfl
theorem T.c5 : prog.cellsOf 5 = 1:=by kernel_rfl
theorem T.b5 : prog.bytesOf 5 = 1:=by kernel_rfl
theorem T.g5 : cu prog 5 = some false:=by kernel_rfl
theorem T.z5 : bE prog 5 = some [.v (.int .u8 0)]:=by kernel_rfl
theorem T.c9 : prog.cellsOf 9 = 1:=by kernel_rfl
theorem T.b9 : prog.bytesOf 9 = 16:=by kernel_rfl
theorem T.g9 : cu prog 9 = some false:=by kernel_rfl
theorem T.z9 : bE prog 9 = some [.v (.string ByteArray.empty)]:=by kernel_rfl
theorem T.ot : prog.cellsOf 22 = 1:=by kernel_rfl
theorem T.b22 : prog.bytesOf 22 = 24:=by kernel_rfl
theorem T.g22 : cu prog 22 = some false:=by kernel_rfl
theorem T.z22 : bE prog 22 = some [.v (.slice none 0 0)]:=by kernel_rfl
theorem T.s22 : eg prog 22 = true:=by kernel_rfl
theorem T.OR : prog.cellsOf 23 = 1:=by kernel_rfl
theorem T.b23 : prog.bytesOf 23 = 24:=by kernel_rfl
theorem T.g23 : cu prog 23 = some false:=by kernel_rfl
theorem T.z23 : bE prog 23 = some [.v (.slice none 0 0)]:=by kernel_rfl
theorem T.s23 : eg prog 23 = true:=by kernel_rfl
theorem T.Bn : prog.cellsOf 25 = 5:=by kernel_rfl
theorem T.b25 : prog.bytesOf 25 = 104:=by kernel_rfl
theorem T.OY : cu prog 25 = some true:=by kernel_rfl
theorem T.h25 : fe prog 25 = true:=by kernel_rfl
theorem T.QJ : bH prog 25 0 = some (0,22):=by kernel_rfl
theorem T.QK : bH prog 25 1 = some (1,3):=by kernel_rfl
theorem T.QL : bH prog 25 2 = some (2,23):=by kernel_rfl
theorem T.QM : bH prog 25 3 = some (3,22):=by kernel_rfl
theorem T.QN : bH prog 25 4 = some (4,22):=by kernel_rfl
theorem T.z25 : bE prog 25 = some [.v (.slice none 0 0),.v (.int .i64 0),.v (.slice none 0 0),.v (.slice none 0 0),.v (.slice none 0 0)]:=by kernel_rfl
theorem T.KW : prog.cellsOf 26 = 1:=by kernel_rfl
theorem T.b26 : prog.bytesOf 26 = 24:=by kernel_rfl
theorem T.HC : cu prog 26 = some false:=by kernel_rfl
theorem T.z26 : bE prog 26 = some [.v (.slice none 0 0)]:=by kernel_rfl
theorem T.s26 : eg prog 26 = true:=by kernel_rfl
theorem T.yy : prog.cellsOf 27 = 1:=by kernel_rfl
theorem T.b27 : prog.bytesOf 27 = 8:=by kernel_rfl
theorem T.Cq : cu prog 27 = some false:=by kernel_rfl
theorem T.z27 : bE prog 27 = some [.v (.int .u64 0)]:=by kernel_rfl
theorem T.Ub : prog.cellsOf 28 = 1:=by kernel_rfl
theorem T.b28 : prog.bytesOf 28 = 24:=by kernel_rfl
theorem T.GM : cu prog 28 = some false:=by kernel_rfl
theorem T.z28 : bE prog 28 = some [.v (.slice none 0 0)]:=by kernel_rfl
theorem T.s28 : eg prog 28 = true:=by kernel_rfl
theorem T.HB : prog.cellsOf 30 = 3:=by kernel_rfl
theorem T.b30 : prog.bytesOf 30 = 56:=by kernel_rfl
theorem T.g30 : cu prog 30 = some true:=by kernel_rfl
theorem T.J8 : fe prog 30 = true:=by kernel_rfl
theorem T.QO : bH prog 30 0 = some (0,27):=by kernel_rfl
theorem T.QP : bH prog 30 1 = some (1,22):=by kernel_rfl
theorem T.QQ : bH prog 30 2 = some (2,28):=by kernel_rfl
theorem T.z30 : bE prog 30 = some [.v (.int .u64 0),.v (.slice none 0 0),.v (.slice none 0 0)]:=by kernel_rfl
theorem T.LZ : prog.cellsOf 32 = 10:=by kernel_rfl
theorem T.b32 : prog.bytesOf 32 = 176:=by kernel_rfl
theorem T.g32 : cu prog 32 = some true:=by kernel_rfl
theorem T.nh : fe prog 32 = true:=by kernel_rfl
theorem T.QR : bH prog 32 0 = some (0,22):=by kernel_rfl
theorem T.QS : bH prog 32 1 = some (1,3):=by kernel_rfl
theorem T.QT : bH prog 32 2 = some (2,3):=by kernel_rfl
theorem T.QU : bH prog 32 3 = some (3,26):=by kernel_rfl
theorem T.QV : bH prog 32 4 = some (4,4):=by kernel_rfl
theorem T.QW : bH prog 32 5 = some (5,30):=by kernel_rfl
theorem T.QX : bH prog 32 6 = some (8,22):=by kernel_rfl
theorem T.QY : bH prog 32 7 = some (9,22):=by kernel_rfl
theorem T.z32 : bE prog 32 = some [.v (.slice none 0 0),.v (.int .i64 0),.v (.int .i64 0),.v (.slice none 0 0),.v (.bool false),.v (.int .u64 0),.v (.slice none 0 0),.v (.slice none 0 0),.v (.slice none 0 0),.v (.slice none 0 0)]:=by kernel_rfl
theorem T.QI : prog.cellsOf 36 = 1:=by kernel_rfl
theorem T.b36 : prog.bytesOf 36 = 24:=by kernel_rfl
theorem T.g36 : cu prog 36 = some false:=by kernel_rfl
theorem T.z36 : bE prog 36 = some [.v (.slice none 0 0)]:=by kernel_rfl
theorem T.s36 : eg prog 36 = true:=by kernel_rfl
theorem T.c37 : prog.cellsOf 37 = 1:=by kernel_rfl
theorem T.b37 : prog.bytesOf 37 = 8:=by kernel_rfl
theorem T.g37 : cu prog 37 = some false:=by kernel_rfl
theorem T.z37 : bE prog 37 = some [.v (.int .i64 0)]:=by kernel_rfl
theorem T.c50 : prog.cellsOf 50 = 1:=by kernel_rfl
theorem T.b50 : prog.bytesOf 50 = 24:=by kernel_rfl
theorem T.g50 : cu prog 50 = some false:=by kernel_rfl
theorem T.z50 : bE prog 50 = some [.v (.slice none 0 0)]:=by kernel_rfl
theorem T.s50 : eg prog 50 = true:=by kernel_rfl
theorem T.kX : prog.cellsOf 64 = 5:=by kernel_rfl
theorem T.L4 : prog.bytesOf 64 = 88:=by kernel_rfl
theorem T.g64 : cu prog 64 = some true:=by kernel_rfl
theorem T.h64 : fe prog 64 = true:=by kernel_rfl
theorem T.QZ : bH prog 64 0 = some (0,3):=by kernel_rfl
theorem T.Q0 : bH prog 64 1 = some (1,22):=by kernel_rfl
theorem T.Q1 : bH prog 64 2 = some (2,27):=by kernel_rfl
theorem T.Q2 : bH prog 64 3 = some (3,22):=by kernel_rfl
theorem T.Q3 : bH prog 64 4 = some (4,36):=by kernel_rfl
theorem T.Oa : bE prog 64 = some [.v (.int .i64 0),.v (.slice none 0 0),.v (.int .u64 0),.v (.slice none 0 0),.v (.slice none 0 0)]:=by kernel_rfl
theorem T.OS : prog.cellsOf 66 = 5:=by kernel_rfl
theorem T.b66 : prog.bytesOf 66 = 56:=by kernel_rfl
theorem T.Q4 : cu prog 66 = some true:=by kernel_rfl
theorem T.h66 : fe prog 66 = true:=by kernel_rfl
theorem T.Q5 : bH prog 66 0 = some (0,3):=by kernel_rfl
theorem T.Q6 : bH prog 66 1 = some (1,3):=by kernel_rfl
theorem T.Q7 : bH prog 66 2 = some (2,22):=by kernel_rfl
theorem T.Q8 : bH prog 66 3 = some (3,27):=by kernel_rfl
theorem T.Q9 : bH prog 66 4 = some (4,27):=by kernel_rfl
theorem T.z66 : bE prog 66 = some [.v (.int .i64 0),.v (.int .i64 0),.v (.slice none 0 0),.v (.int .u64 0),.v (.int .u64 0)]:=by kernel_rfl
theorem T.U8 : prog.cellsOf 67 = 1:=by kernel_rfl
theorem T.b67 : prog.bytesOf 67 = 24:=by kernel_rfl
theorem T.Ob : cu prog 67 = some false:=by kernel_rfl
theorem T.z67 : bE prog 67 = some [.v (.slice none 0 0)]:=by kernel_rfl
theorem T.s67 : eg prog 67 = true:=by kernel_rfl
theorem T.Uc : prog.cellsOf 69 = 2:=by kernel_rfl
theorem T.b69 : prog.bytesOf 69 = 32:=by kernel_rfl
theorem T.g69 : cu prog 69 = some true:=by kernel_rfl
theorem T.h69 : fe prog 69 = true:=by kernel_rfl
theorem T.Ra : bH prog 69 0 = some (0,27):=by kernel_rfl
theorem T.Rb : bH prog 69 1 = some (1,67):=by kernel_rfl
theorem T.z69 : bE prog 69 = some [.v (.int .u64 0),.v (.slice none 0 0)]:=by kernel_rfl
theorem T.Ud : prog.cellsOf 71 = 2:=by kernel_rfl
theorem T.b71 : prog.bytesOf 71 = 32:=by kernel_rfl
theorem T.g71 : cu prog 71 = some true:=by kernel_rfl
theorem T.h71 : fe prog 71 = true:=by kernel_rfl
theorem T.Rc : bH prog 71 0 = some (0,27):=by kernel_rfl
theorem T.Rf : bH prog 71 1 = some (1,22):=by kernel_rfl
theorem T.z71 : bE prog 71 = some [.v (.int .u64 0),.v (.slice none 0 0)]:=by kernel_rfl
theorem T.Vh : prog.cellsOf 104 = 1:=by kernel_rfl
theorem T.Vi : prog.bytesOf 104 = 24:=by kernel_rfl
theorem T.Vj : cu prog 104 = some false:=by kernel_rfl
theorem T.Vk : bE prog 104 = some [.v (.slice none 0 0)]:=by kernel_rfl
theorem T.Vl : eg prog 104 = true:=by kernel_rfl
theorem T.Vm : prog.cellsOf 120 = 2:=by kernel_rfl
theorem T.Vn : prog.bytesOf 120 = 32:=by kernel_rfl
theorem T.Vo : cu prog 120 = some true:=by kernel_rfl
theorem T.Vp : fe prog 120 = true:=by kernel_rfl
theorem T.L7 : bH prog 120 0 = some (0,3):=by kernel_rfl
theorem T.L8 : bH prog 120 1 = some (1,22):=by kernel_rfl
theorem T.Vq : bE prog 120 = some [.v (.int .i64 0),.v (.slice none 0 0)]:=by kernel_rfl
theorem T.Vr : prog.cellsOf 141 = 1:=by kernel_rfl
theorem T.Vs : prog.bytesOf 141 = 24:=by kernel_rfl
theorem T.Vt : cu prog 141 = some false:=by kernel_rfl
theorem T.z141 : bE prog 141 = some [.v (.slice none 0 0)]:=by kernel_rfl
theorem T.Vu : eg prog 141 = true:=by kernel_rfl
theorem T.Vv : prog.cellsOf 144 = 1:=by kernel_rfl
theorem T.Vw : prog.bytesOf 144 = 8:=by kernel_rfl
theorem T.Vx : cu prog 144 = some false:=by kernel_rfl
theorem T.Vy : bE prog 144 = some [.v (.pointer none)]:=by kernel_rfl
theorem T.Vz : vD prog 144 = true:=by kernel_rfl
theorem T.Dn : prog.cellsOf 153 = 1:=by kernel_rfl
theorem T.VA : prog.bytesOf 153 = 4:=by kernel_rfl
theorem T.VB : cu prog 153 = some false:=by kernel_rfl
theorem T.Sx : bE prog 153 = some [.v (.int .u32 0)]:=by kernel_rfl
theorem T.Sy : prog.cellsOf 154 = 8:=by kernel_rfl
theorem T.VD : prog.bytesOf 154 = 32:=by kernel_rfl
theorem T.VE : cu prog 154 = some true:=by kernel_rfl
theorem T.z154 : bE prog 154 = some [.v (.int .u32 0),.v (.int .u32 0),.v (.int .u32 0),.v (.int .u32 0),.v (.int .u32 0),.v (.int .u32 0),.v (.int .u32 0),.v (.int .u32 0)]:=by kernel_rfl
theorem T.VF : prog.cellsOf 159 = 1:=by kernel_rfl
theorem T.VG : prog.bytesOf 159 = 8:=by kernel_rfl
theorem T.VH : cu prog 159 = some false:=by kernel_rfl
theorem T.z159 : bE prog 159 = some [.v (.int .u64 0)]:=by kernel_rfl
theorem T.VI : prog.cellsOf 163 = 1:=by kernel_rfl
theorem T.VJ : prog.bytesOf 163 = 24:=by kernel_rfl
theorem T.VK : cu prog 163 = some false:=by kernel_rfl
theorem T.VL : bE prog 163 = some [.v (.slice none 0 0)]:=by kernel_rfl
theorem T.VM : eg prog 163 = true:=by kernel_rfl
theorem T.z183 : bE prog 183 = some [.v (.pointer none)]:=by kernel_rfl
theorem T.VN : prog.cellsOf 214 = 2:=by kernel_rfl
theorem T.VO : prog.bytesOf 214 = 32:=by kernel_rfl
theorem T.VP : cu prog 214 = some true:=by kernel_rfl
theorem T.VQ : fe prog 214 = true:=by kernel_rfl
theorem T.L9 : bH prog 214 0 = some (0,22):=by kernel_rfl
theorem T.Ma : bH prog 214 1 = some (1,4):=by kernel_rfl
theorem T.VR : bE prog 214 = some [.v (.slice none 0 0),.v (.bool false)]:=by kernel_rfl
theorem T.Sz : prog.cellsOf 220 = 64:=by kernel_rfl
theorem T.VT : prog.bytesOf 220 = 256:=by kernel_rfl
theorem T.VU : cu prog 220 = some true:=by kernel_rfl
theorem T.VV : prog.cellsOf 228 = 2:=by kernel_rfl
theorem T.VW : prog.bytesOf 228 = 24:=by kernel_rfl
theorem T.VX : cu prog 228 = some true:=by kernel_rfl
theorem T.VY : fe prog 228 = true:=by kernel_rfl
theorem T.Mb : bH prog 228 0 = some (0,27):=by kernel_rfl
theorem T.Mc : bH prog 228 1 = some (1,9):=by kernel_rfl
theorem T.z228 : bE prog 228 = some [.v (.int .u64 0),.v (.string ByteArray.empty)]:=by kernel_rfl
theorem T.VZ : prog.cellsOf 264 = 1:=by kernel_rfl
theorem T.V0 : prog.bytesOf 264 = 8:=by kernel_rfl
theorem T.V1 : cu prog 264 = some false:=by kernel_rfl
theorem T.V2 : bE prog 264 = some [.v (.int .i64 0)]:=by kernel_rfl
theorem T.V3 : prog.cellsOf 278 = 64:=by kernel_rfl
theorem T.V4 : prog.bytesOf 278 = 64:=by kernel_rfl
theorem T.V5 : cu prog 278 = some true:=by kernel_rfl
theorem T.k5 : ai prog 5 = true:=by kernel_rfl
theorem T.k6 : ai prog 6 = true:=by kernel_rfl
theorem T.k7 : ai prog 7 = true:=by kernel_rfl
theorem T.k8 : ai prog 8 = true:=by kernel_rfl
theorem T.k9 : ai prog 9 = true:=by kernel_rfl
theorem T.Uf : ai prog 10 = true:=by kernel_rfl
theorem T.GN : ai prog 11 = true:=by kernel_rfl
theorem T.Fq : ai prog 12 = true:=by kernel_rfl
theorem T.GO : ai prog 13 = true:=by kernel_rfl
theorem T.V6 : ai prog 14 = true:=by kernel_rfl
theorem T.HD : ai prog 15 = true:=by kernel_rfl
theorem T.k23 : ai prog 23 = true:=by kernel_rfl
theorem T.k24 : ai prog 24 = true:=by kernel_rfl
theorem T.k25 : ai prog 25 = true:=by kernel_rfl
theorem T.k26 : ai prog 26 = true:=by kernel_rfl
theorem T.k27 : ai prog 27 = true:=by kernel_rfl
theorem T.Z9 : ai prog 28 = true:=by kernel_rfl
theorem T.k29 : ai prog 29 = true:=by kernel_rfl
theorem T.k30 : ai prog 30 = true:=by kernel_rfl
theorem T.k31 : ai prog 31 = true:=by kernel_rfl
theorem T.k32 : ai prog 32 = true:=by kernel_rfl
theorem T.k33 : ai prog 33 = true:=by kernel_rfl
theorem T.k34 : ai prog 34 = true:=by kernel_rfl
theorem T.k35 : ai prog 35 = true:=by kernel_rfl
theorem T.k36 : ai prog 36 = true:=by kernel_rfl
theorem T.k37 : ai prog 37 = true:=by kernel_rfl
theorem T.k38 : ai prog 38 = true:=by kernel_rfl
theorem T.k39 : ai prog 39 = true:=by kernel_rfl
theorem T.k40 : ai prog 40 = true:=by kernel_rfl
theorem T.k41 : ai prog 41 = true:=by kernel_rfl
theorem T.k42 : ai prog 42 = true:=by kernel_rfl
theorem T.k43 : ai prog 43 = true:=by kernel_rfl
theorem T.k44 : ai prog 44 = true:=by kernel_rfl
theorem T.k45 : ai prog 45 = true:=by kernel_rfl
theorem T.k56 : ai prog 56 = true:=by kernel_rfl
theorem T.k62 : ai prog 62 = true:=by kernel_rfl
theorem T.k63 : ai prog 63 = true:=by kernel_rfl
theorem T.k64 : ai prog 64 = true:=by kernel_rfl
theorem T.k65 : ai prog 65 = true:=by kernel_rfl
theorem T.k66 : ai prog 66 = true:=by kernel_rfl
theorem T.k67 : ai prog 67 = true:=by kernel_rfl
theorem T.k68 : ai prog 68 = true:=by kernel_rfl
theorem T.k69 : ai prog 69 = true:=by kernel_rfl
theorem T.k70 : ai prog 70 = true:=by kernel_rfl
theorem T.k71 : ai prog 71 = true:=by kernel_rfl
theorem T.k72 : ai prog 72 = true:=by kernel_rfl
theorem T.k73 : ai prog 73 = true:=by kernel_rfl
theorem T.k74 : ai prog 74 = true:=by kernel_rfl
theorem T.k75 : ai prog 75 = true:=by kernel_rfl
theorem T.k76 : ai prog 76 = true:=by kernel_rfl
theorem T.k77 : ai prog 77 = true:=by kernel_rfl
theorem T.k78 : ai prog 78 = true:=by kernel_rfl
theorem T.k79 : ai prog 79 = true:=by kernel_rfl
theorem T.k80 : ai prog 80 = true:=by kernel_rfl
theorem T.k81 : ai prog 81 = true:=by kernel_rfl
theorem T.k82 : ai prog 82 = true:=by kernel_rfl
theorem T.k83 : ai prog 83 = true:=by kernel_rfl
theorem T.k84 : ai prog 84 = true:=by kernel_rfl
theorem T.k85 : ai prog 85 = true:=by kernel_rfl
theorem T.k86 : ai prog 86 = true:=by kernel_rfl
theorem T.k87 : ai prog 87 = true:=by kernel_rfl
theorem T.k88 : ai prog 88 = true:=by kernel_rfl
theorem T.k89 : ai prog 89 = true:=by kernel_rfl
theorem T.k90 : ai prog 90 = true:=by kernel_rfl
theorem T.k91 : ai prog 91 = true:=by kernel_rfl
theorem T.k92 : ai prog 92 = true:=by kernel_rfl
theorem T.k93 : ai prog 93 = true:=by kernel_rfl
theorem T.k94 : ai prog 94 = true:=by kernel_rfl
theorem T.k95 : ai prog 95 = true:=by kernel_rfl
theorem T.k96 : ai prog 96 = true:=by kernel_rfl
theorem T.k97 : ai prog 97 = true:=by kernel_rfl
theorem T.k98 : ai prog 98 = true:=by kernel_rfl
theorem T.k99 : ai prog 99 = true:=by kernel_rfl
theorem T.V7 : ai prog 100 = true:=by kernel_rfl
theorem T.V8 : ai prog 101 = true:=by kernel_rfl
theorem T.OZ : ai prog 102 = true:=by kernel_rfl
theorem T.V9 : ai prog 103 = true:=by kernel_rfl
theorem T.Wb : ai prog 104 = true:=by kernel_rfl
theorem T.O0 : ai prog 105 = true:=by kernel_rfl
theorem T.Wc : ai prog 106 = true:=by kernel_rfl
theorem T.O1 : ai prog 107 = true:=by kernel_rfl
theorem T.Wd : ai prog 108 = true:=by kernel_rfl
theorem T.We : ai prog 109 = true:=by kernel_rfl
theorem T.Wf : ai prog 110 = true:=by kernel_rfl
theorem T.Wg : ai prog 111 = true:=by kernel_rfl
theorem T.Wh : ai prog 112 = true:=by kernel_rfl
theorem T.Wi : ai prog 113 = true:=by kernel_rfl
theorem T.Wj : ai prog 114 = true:=by kernel_rfl
theorem T.Wk : ai prog 115 = true:=by kernel_rfl
theorem T.Wl : ai prog 116 = true:=by kernel_rfl
theorem T.Wm : ai prog 117 = true:=by kernel_rfl
theorem T.Wn : ai prog 127 = true:=by kernel_rfl
theorem T.Wo : ai prog 135 = true:=by kernel_rfl
theorem T.Wp : ai prog 136 = true:=by kernel_rfl
theorem T.Wq : ai prog 137 = true:=by kernel_rfl
theorem T.Wr : ai prog 138 = true:=by kernel_rfl
theorem T.Ws : ai prog 139 = true:=by kernel_rfl
theorem T.Wt : ai prog 140 = true:=by kernel_rfl
theorem T.Wu : ai prog 141 = true:=by kernel_rfl
theorem T.Wv : ai prog 142 = true:=by kernel_rfl
theorem T.Ww : ai prog 143 = true:=by kernel_rfl
theorem T.Wx : ai prog 144 = true:=by kernel_rfl
theorem T.Wy : ai prog 145 = true:=by kernel_rfl
theorem T.Wz : ai prog 146 = true:=by kernel_rfl
theorem T.WA : ai prog 147 = true:=by kernel_rfl
theorem T.WB : ai prog 148 = true:=by kernel_rfl
theorem T.WC : ai prog 149 = true:=by kernel_rfl
theorem T.WD : ai prog 150 = true:=by kernel_rfl
theorem T.WE : ai prog 151 = true:=by kernel_rfl
theorem T.WG : ai prog 152 = true:=by kernel_rfl
theorem T.WH : ai prog 153 = true:=by kernel_rfl
theorem T.WI : ai prog 154 = true:=by kernel_rfl
theorem T.WJ : ai prog 155 = true:=by kernel_rfl
theorem T.WK : ai prog 156 = true:=by kernel_rfl
theorem T.WM : ai prog 157 = true:=by kernel_rfl
theorem T.WN : ai prog 158 = true:=by kernel_rfl
theorem T.WO : ai prog 159 = true:=by kernel_rfl
theorem T.WQ : ai prog 160 = true:=by kernel_rfl
theorem T.WR : ai prog 161 = true:=by kernel_rfl
theorem T.WS : ai prog 163 = true:=by kernel_rfl
theorem T.WT : ai prog 164 = true:=by kernel_rfl
theorem T.WU : ai prog 165 = true:=by kernel_rfl
theorem T.WV : ai prog 166 = true:=by kernel_rfl
theorem T.WW : ai prog 167 = true:=by kernel_rfl
theorem T.WX : ai prog 168 = true:=by kernel_rfl
theorem T.WY : ai prog 169 = true:=by kernel_rfl
theorem T.WZ : ai prog 170 = true:=by kernel_rfl
theorem T.W4 : ai prog 171 = true:=by kernel_rfl
theorem T.W5 : ai prog 172 = true:=by kernel_rfl
theorem T.W6 : ai prog 173 = true:=by kernel_rfl
theorem T.W7 : ai prog 175 = true:=by kernel_rfl
theorem T.W8 : ai prog 185 = true:=by kernel_rfl
theorem T.W9 : ai prog 189 = true:=by kernel_rfl
theorem T.Xa : ai prog 190 = true:=by kernel_rfl
theorem T.Xb : ai prog 191 = true:=by kernel_rfl
theorem T.Xc : ai prog 192 = true:=by kernel_rfl
theorem T.Xd : ai prog 193 = true:=by kernel_rfl
theorem T.Xe : ai prog 194 = true:=by kernel_rfl
theorem T.Xf : ai prog 195 = true:=by kernel_rfl
theorem T.Xg : ai prog 196 = true:=by kernel_rfl
theorem T.Xh : ai prog 197 = true:=by kernel_rfl
theorem T.Xi : ai prog 198 = true:=by kernel_rfl
theorem T.Xj : ai prog 199 = true:=by kernel_rfl
theorem T.Xk : ai prog 200 = true:=by kernel_rfl
theorem T.Xl : ai prog 201 = true:=by kernel_rfl
theorem T.Xm : ai prog 203 = true:=by kernel_rfl
theorem T.Xn : ai prog 204 = true:=by kernel_rfl
theorem T.Xo : ai prog 206 = true:=by kernel_rfl
theorem T.Xp : ai prog 208 = true:=by kernel_rfl
theorem T.Xq : ai prog 209 = true:=by kernel_rfl
theorem T.Xr : ai prog 210 = true:=by kernel_rfl
theorem T.Xt : ai prog 211 = true:=by kernel_rfl
theorem T.Xu : ai prog 212 = true:=by kernel_rfl
theorem T.Xv : ai prog 213 = true:=by kernel_rfl
theorem T.Xw : ai prog 214 = true:=by kernel_rfl
theorem T.Xx : ai prog 215 = true:=by kernel_rfl
theorem T.Xy : ai prog 220 = true:=by kernel_rfl
theorem T.Xz : ai prog 221 = true:=by kernel_rfl
theorem T.XD : ai prog 222 = true:=by kernel_rfl
theorem T.XE : ai prog 223 = true:=by kernel_rfl
theorem T.XG : ai prog 224 = true:=by kernel_rfl
theorem T.XH : ai prog 228 = true:=by kernel_rfl
theorem T.XI : ai prog 229 = true:=by kernel_rfl
theorem T.XJ : ai prog 230 = true:=by kernel_rfl
theorem T.XK : ai prog 231 = true:=by kernel_rfl
theorem T.XL : ai prog 232 = true:=by kernel_rfl
theorem T.XM : ai prog 234 = true:=by kernel_rfl
theorem T.XO : ai prog 235 = true:=by kernel_rfl
theorem T.XP : ai prog 239 = true:=by kernel_rfl
theorem T.XQ : ai prog 240 = true:=by kernel_rfl
theorem T.XR : ai prog 241 = true:=by kernel_rfl
theorem T.XS : ai prog 242 = true:=by kernel_rfl
theorem T.XU : ai prog 243 = true:=by kernel_rfl
theorem T.XV : ai prog 244 = true:=by kernel_rfl
theorem T.XW : ai prog 245 = true:=by kernel_rfl
theorem T.XY : ai prog 246 = true:=by kernel_rfl
theorem T.XZ : ai prog 247 = true:=by kernel_rfl
theorem T.X0 : ai prog 248 = true:=by kernel_rfl
theorem T.X3 : ai prog 249 = true:=by kernel_rfl
theorem T.X4 : ai prog 250 = true:=by kernel_rfl
theorem T.mixed : prog.follows .mixedOrders = true:=by kernel_rfl
end Go.Proofs.YtcjifoccjlpapaaGreatDoor
set_option maxRecDepth 100000
namespace Go.Proofs.YtcjifoccjlpapaaGreatDoor
open Go Go.AM Go.Proofs Tryz
open And renaming intro→Ai
theorem TT : type_of% (Ai (Ai UP DF) (Ai (Ai (Ai (Ai (Ai (Ai (Ai (Ai (Ai @underlying3 T.c3) (Ai T.g3 T.b3)) (Ai (Ai T.z3 ntmps213) (Ai @underlying5 T.c5))) (Ai (Ai (Ai T.g5 T.b5) (Ai T.z5 @underlying27)) (Ai (Ai T.yy T.Cq) (Ai T.b27 (Ai T.z27 @underlying278))))) (Ai (Ai (Ai (Ai T.V3 T.V5) (Ai T.V4 ntmps250)) (Ai (Ai @underlying153 T.Dn) (Ai T.VB (Ai T.VA T.Sx)))) (Ai (Ai (Ai @underlying159 T.VF) (Ai T.VH T.VG)) (Ai (Ai T.z159 T.X4) (Ai T.X3 (Ai ntmps232 @underlying4)))))) (Ai (Ai (Ai (Ai (Ai T.c4 T.g4) (Ai T.b4 T.z4)) (Ai (Ai T.XL T.Xv) (Ai ntmps214 (Ai T.Xw ntmps228)))) (Ai (Ai (Ai T.XH ntmps201) (Ai ntmps200 ntmps173)) (Ai (Ai ntmps171 T.W4) (Ai ntmps172 (Ai T.W5 ntmps199))))) (Ai (Ai (Ai (Ai @underlying36 T.QI) (Ai T.g36 T.b36)) (Ai (Ai T.z36 T.s36) (Ai T.Xj (Ai ntmps149 ntmps145)))) (Ai (Ai (Ai ntmps198 T.Xi) (Ai ntmps166 ntmps146)) (Ai (Ai T.Wy T.Wz) (Ai ntmps81 (Ai T.WV ntmps144))))))) (Ai (Ai (Ai (Ai (Ai (Ai @underlying22 T.ot) (Ai T.g22 T.b22)) (Ai (Ai T.z22 T.s22) (Ai ntmps161 (Ai @underlying214 T.VN)))) (Ai (Ai (Ai T.VP T.VO) (Ai T.VR T.VQ)) (Ai (Ai T.L9 T.Ma) (Ai ntmps159 (Ai ntmps90 @underlying144))))) (Ai (Ai (Ai (Ai T.Vv T.Vx) (Ai T.Vw T.Vy)) (Ai (Ai T.Vz T.WO) (Ai ntmps157 (Ai T.WM ntmps91)))) (Ai (Ai (Ai ntmps234 ntmps93) (Ai ntmps208 T.Xp)) (Ai (Ai ntmps158 T.WN) (Ai ntmps92 (Ai ntmps209 T.WR)))))) (Ai (Ai (Ai (Ai (Ai ntmps97 @underlying9) (Ai T.c9 T.g9)) (Ai (Ai T.b9 T.z9) (Ai ntmps111 (Ai T.Wg ntmps109)))) (Ai (Ai (Ai ntmps87 ntmps73) (Ai ntmps25 ntmps223)) (Ai (Ai ntmps13 @underlying64) (Ai T.kX (Ai T.g64 T.L4))))) (Ai (Ai (Ai (Ai T.Oa T.h64) (Ai T.QZ T.Q0)) (Ai (Ai T.Q1 T.Q2) (Ai T.Q3 (Ai T.XE T.k25)))) (Ai (Ai (Ai ntmps191 T.GO) (Ai ntmps43 ntmps193)) (Ai (Ai T.k87 ntmps192) (Ai T.Xd (Ai T.Xb T.Xc)))))))) (Ai (Ai (Ai (Ai (Ai (Ai (Ai ntmps137 T.k73) (Ai T.k43 ntmps79)) (Ai (Ai T.Wq T.k91) (Ai T.k92 (Ai T.k93 ntmps235)))) (Ai (Ai (Ai T.We ntmps222) (Ai @underlying23 T.OR)) (Ai (Ai T.g23 T.b23) (Ai T.z23 (Ai T.s23 ntmps113))))) (Ai (Ai (Ai (Ai T.Wi ntmps115) (Ai T.Wk ntmps117)) (Ai (Ai ntmps116 ntmps215) (Ai T.Xx (Ai ntmps175 ntmps174)))) (Ai (Ai (Ai T.W7 T.W6) (Ai ntmps114 T.Wl)) (Ai (Ai T.Wm T.Wj) (Ai ntmps45 (Ai ntmps77 ntmps30)))))) (Ai (Ai (Ai (Ai (Ai T.k30 ntmps78) (Ai ntmps80 T.Wx)) (Ai (Ai T.k80 T.k79) (Ai T.k77 (Ai T.k78 ntmps70)))) (Ai (Ai (Ai ntmps39 T.k45) (Ai ntmps86 @underlying104)) (Ai (Ai T.Vh T.Vj) (Ai T.Vi (Ai T.Vk T.Vl))))) (Ai (Ai (Ai (Ai @underlying120 T.Vm) (Ai T.Vo T.Vn)) (Ai (Ai T.Vq T.Vp) (Ai T.L7 (Ai T.L8 T.k70)))) (Ai (Ai (Ai ntmps56 ntmps12) (Ai ntmps211 T.Xt)) (Ai (Ai ntmps165 ntmps210) (Ai ntmps108 (Ai @underlying163 T.VI))))))) (Ai (Ai (Ai (Ai (Ai (Ai T.VK T.VJ) (Ai T.VL T.VM)) (Ai (Ai ntmps106 @underlying220) (Ai T.Sz (Ai T.VU T.VT)))) (Ai (Ai (Ai T.Xr ntmps164) (Ai @underlying154 T.Sy)) (Ai (Ai T.VE T.VD) (Ai T.z154 (Ai T.WU T.WT))))) (Ai (Ai (Ai (Ai ntmps101 ntmps163) (Ai @underlying50 T.c50)) (Ai (Ai T.g50 T.b50) (Ai T.z50 (Ai T.s50 T.WS)))) (Ai (Ai (Ai ntmps100 ntmps99) (Ai ntmps162 ntmps98)) (Ai (Ai T.k98 T.V8) (Ai T.k99 (Ai T.V7 ntmps38)))))) (Ai (Ai (Ai (Ai (Ai ntmps107 T.Wc) (Ai T.O1 T.Wd)) (Ai (Ai ntmps41 T.XO) (Ai T.XM (Ai ntmps233 ntmps236)))) (Ai (Ai (Ai ntmps207 T.k97) (Ai T.k90 ntmps206)) (Ai (Ai T.Xo T.k38) (Ai ntmps220 (Ai ntmps221 ntmps156))))) (Ai (Ai (Ai (Ai T.XD T.k41) (Ai ntmps189 ntmps190)) (Ai (Ai ntmps169 T.Xy) (Ai T.Xl (Ai T.W8 T.Xk)))) (Ai (Ai (Ai T.Xz ntmps185) (Ai T.W9 T.Xa)) (Ai (Ai T.Wo ntmps135) (Ai ntmps127 (Ai ntmps142 T.Wv))))))))) (Ai (Ai (Ai (Ai (Ai (Ai (Ai (Ai ntmps68 T.k68) (Ai T.WE ntmps151)) (Ai (Ai ntmps88 ntmps31) (Ai T.k31 (Ai T.V9 ntmps103)))) (Ai (Ai (Ai ntmps143 T.k39) (Ai T.Ww ntmps69)) (Ai (Ai T.k69 ntmps27) (Ai ntmps136 (Ai T.Wp ntmps62))))) (Ai (Ai (Ai (Ai T.Xg T.Xh) (Ai T.k27 T.WC)) (Ai (Ai ntmps141 ntmps194) (Ai T.Xe (Ai ntmps139 ntmps195)))) (Ai (Ai (Ai T.Xf ntmps140) (Ai ntmps74 ntmps76)) (Ai (Ai T.k74 T.k81) (Ai ntmps75 (Ai T.k75 T.k76)))))) (Ai (Ai (Ai (Ai (Ai ntmps32 T.k56) (Ai ntmps33 ntmps34)) (Ai (Ai ntmps44 @underlying25) (Ai T.Bn (Ai T.OY T.b25)))) (Ai (Ai (Ai T.z25 T.h25) (Ai T.QJ T.QK)) (Ai (Ai T.QL T.QM) (Ai T.QN (Ai T.k44 ntmps15))))) (Ai (Ai (Ai (Ai ntmps28 T.Fq) (Ai ntmps14 @underlying37)) (Ai (Ai T.c37 T.g37) (Ai T.b37 (Ai T.z37 T.k62)))) (Ai (Ai (Ai ntmps23 ntmps64) (Ai ntmps65 @underlying66)) (Ai (Ai T.OS T.Q4) (Ai T.b66 (Ai T.z66 T.h66))))))) (Ai (Ai (Ai (Ai (Ai (Ai T.Q5 T.Q6) (Ai T.Q7 T.Q8)) (Ai (Ai T.Q9 T.k64) (Ai T.k65 (Ai ntmps63 ntmps71)))) (Ai (Ai (Ai @underlying67 T.U8) (Ai T.Ob T.b67)) (Ai (Ai T.z67 T.s67) (Ai @underlying69 (Ai T.Uc T.g69))))) (Ai (Ai (Ai (Ai T.b69 T.z69) (Ai T.h69 @underlying71)) (Ai (Ai T.Ud T.g71) (Ai T.b71 (Ai T.z71 T.h71)))) (Ai (Ai (Ai T.Ra T.Rb) (Ai T.Rc T.Rf)) (Ai (Ai ntmps138 @underlying26) (Ai T.KW (Ai T.HC T.b26)))))) (Ai (Ai (Ai (Ai (Ai T.z26 T.s26) (Ai @underlying28 T.Ub)) (Ai (Ai T.GM T.b28) (Ai T.z28 (Ai T.s28 @underlying30)))) (Ai (Ai (Ai T.HB T.g30) (Ai T.b30 T.z30)) (Ai (Ai T.J8 @underlying32) (Ai T.LZ (Ai T.g32 T.b32))))) (Ai (Ai (Ai (Ai T.z32 T.nh) (Ai T.QO T.QP)) (Ai (Ai T.QQ T.QV) (Ai T.QW (Ai T.Wr ntmps66)))) (Ai (Ai (Ai T.QR T.QS) (Ai T.QT T.QU)) (Ai (Ai T.QX T.QY) (Ai T.k66 (Ai T.k63 ntmps24)))))))) (Ai (Ai (Ai (Ai (Ai (Ai (Ai T.k67 ntmps26) (Ai T.k24 T.HD)) (Ai (Ai T.k26 ntmps8) (Ai T.k83 (Ai T.k82 ntmps35)))) (Ai (Ai (Ai T.k37 T.k36) (Ai T.k8 T.k35)) (Ai (Ai ntmps10 T.Uf) (Ai T.k23 (Ai ntmps5 T.Wu))))) (Ai (Ai (Ai (Ai T.Ws T.Wt) (Ai ntmps67 ntmps6)) (Ai (Ai T.Xq ntmps160) (Ai @underlying228 (Ai T.VV T.VX)))) (Ai (Ai (Ai T.VW T.z228) (Ai T.VY T.Mb)) (Ai (Ai T.Mc ntmps170) (Ai ntmps94 (Ai T.WQ ntmps96)))))) (Ai (Ai (Ai (Ai (Ai T.k94 T.k96) (Ai T.k95 ntmps37)) (Ai (Ai ntmps72 T.k71) (Ai T.k72 (Ai ntmps29 ntmps110)))) (Ai (Ai (Ai T.WZ ntmps112) (Ai T.Wf T.Wh)) (Ai (Ai ntmps42 ntmps7) (Ai T.Z9 (Ai T.k29 T.k32))))) (Ai (Ai (Ai (Ai T.k34 T.k33) (Ai ntmps9 ntmps154)) (Ai (Ai ntmps152 ntmps205) (Ai ntmps202 (Ai ntmps229 T.XI)))) (Ai (Ai (Ai ntmps203 ntmps248) (Ai T.X0 T.XZ)) (Ai (Ai ntmps231 T.XG) (Ai ntmps239 (Ai @underlying264 T.VZ))))))) (Ai (Ai (Ai (Ai (Ai (Ai T.V1 T.V0) (Ai T.V2 T.XP)) (Ai (Ai T.XY T.XR) (Ai T.XJ (Ai T.XW T.XQ)))) (Ai (Ai (Ai T.XU T.XV) (Ai T.XS ntmps230)) (Ai (Ai T.XK ntmps204) (Ai T.Xm (Ai T.Xn ntmps153))))) (Ai (Ai (Ai (Ai ntmps212 T.Xu) (Ai ntmps167 ntmps150)) (Ai (Ai ntmps155 ntmps168) (Ai ntmps148 (Ai T.WB ntmps84)))) (Ai (Ai (Ai ntmps102 T.WD) (Ai ntmps85 T.WW)) (Ai (Ai ntmps104 ntmps83) (Ai ntmps147 (Ai T.WA ntmps82)))))) (Ai (Ai (Ai (Ai (Ai @underlying141 T.Vr) (Ai T.Vt T.Vs)) (Ai (Ai T.z141 T.Vu) (Ai T.WG (Ai T.k86 T.k85)))) (Ai (Ai (Ai T.Wn T.WK) (Ai T.WI T.WJ)) (Ai (Ai T.WH ntmps89) (Ai T.k88 (Ai T.k84 T.k89))))) (Ai (Ai (Ai (Ai ntmps36 T.Wb) (Ai T.WY T.WX)) (Ai (Ai ntmps105 T.O0) (Ai T.OZ (Ai ntmps40 T.k9)))) (Ai (Ai (Ai T.k42 T.k40) (Ai ntmps11 T.GN)) (Ai (Ai T.k6 T.k5) (Ai T.k7 (Ai T.V6 ntmps3))))))))))) :=
  (Ai (Ai UP DF) (Ai (Ai (Ai (Ai (Ai (Ai (Ai (Ai (Ai @underlying3 T.c3) (Ai T.g3 T.b3)) (Ai (Ai T.z3 ntmps213) (Ai @underlying5 T.c5))) (Ai (Ai (Ai T.g5 T.b5) (Ai T.z5 @underlying27)) (Ai (Ai T.yy T.Cq) (Ai T.b27 (Ai T.z27 @underlying278))))) (Ai (Ai (Ai (Ai T.V3 T.V5) (Ai T.V4 ntmps250)) (Ai (Ai @underlying153 T.Dn) (Ai T.VB (Ai T.VA T.Sx)))) (Ai (Ai (Ai @underlying159 T.VF) (Ai T.VH T.VG)) (Ai (Ai T.z159 T.X4) (Ai T.X3 (Ai ntmps232 @underlying4)))))) (Ai (Ai (Ai (Ai (Ai T.c4 T.g4) (Ai T.b4 T.z4)) (Ai (Ai T.XL T.Xv) (Ai ntmps214 (Ai T.Xw ntmps228)))) (Ai (Ai (Ai T.XH ntmps201) (Ai ntmps200 ntmps173)) (Ai (Ai ntmps171 T.W4) (Ai ntmps172 (Ai T.W5 ntmps199))))) (Ai (Ai (Ai (Ai @underlying36 T.QI) (Ai T.g36 T.b36)) (Ai (Ai T.z36 T.s36) (Ai T.Xj (Ai ntmps149 ntmps145)))) (Ai (Ai (Ai ntmps198 T.Xi) (Ai ntmps166 ntmps146)) (Ai (Ai T.Wy T.Wz) (Ai ntmps81 (Ai T.WV ntmps144))))))) (Ai (Ai (Ai (Ai (Ai (Ai @underlying22 T.ot) (Ai T.g22 T.b22)) (Ai (Ai T.z22 T.s22) (Ai ntmps161 (Ai @underlying214 T.VN)))) (Ai (Ai (Ai T.VP T.VO) (Ai T.VR T.VQ)) (Ai (Ai T.L9 T.Ma) (Ai ntmps159 (Ai ntmps90 @underlying144))))) (Ai (Ai (Ai (Ai T.Vv T.Vx) (Ai T.Vw T.Vy)) (Ai (Ai T.Vz T.WO) (Ai ntmps157 (Ai T.WM ntmps91)))) (Ai (Ai (Ai ntmps234 ntmps93) (Ai ntmps208 T.Xp)) (Ai (Ai ntmps158 T.WN) (Ai ntmps92 (Ai ntmps209 T.WR)))))) (Ai (Ai (Ai (Ai (Ai ntmps97 @underlying9) (Ai T.c9 T.g9)) (Ai (Ai T.b9 T.z9) (Ai ntmps111 (Ai T.Wg ntmps109)))) (Ai (Ai (Ai ntmps87 ntmps73) (Ai ntmps25 ntmps223)) (Ai (Ai ntmps13 @underlying64) (Ai T.kX (Ai T.g64 T.L4))))) (Ai (Ai (Ai (Ai T.Oa T.h64) (Ai T.QZ T.Q0)) (Ai (Ai T.Q1 T.Q2) (Ai T.Q3 (Ai T.XE T.k25)))) (Ai (Ai (Ai ntmps191 T.GO) (Ai ntmps43 ntmps193)) (Ai (Ai T.k87 ntmps192) (Ai T.Xd (Ai T.Xb T.Xc)))))))) (Ai (Ai (Ai (Ai (Ai (Ai (Ai ntmps137 T.k73) (Ai T.k43 ntmps79)) (Ai (Ai T.Wq T.k91) (Ai T.k92 (Ai T.k93 ntmps235)))) (Ai (Ai (Ai T.We ntmps222) (Ai @underlying23 T.OR)) (Ai (Ai T.g23 T.b23) (Ai T.z23 (Ai T.s23 ntmps113))))) (Ai (Ai (Ai (Ai T.Wi ntmps115) (Ai T.Wk ntmps117)) (Ai (Ai ntmps116 ntmps215) (Ai T.Xx (Ai ntmps175 ntmps174)))) (Ai (Ai (Ai T.W7 T.W6) (Ai ntmps114 T.Wl)) (Ai (Ai T.Wm T.Wj) (Ai ntmps45 (Ai ntmps77 ntmps30)))))) (Ai (Ai (Ai (Ai (Ai T.k30 ntmps78) (Ai ntmps80 T.Wx)) (Ai (Ai T.k80 T.k79) (Ai T.k77 (Ai T.k78 ntmps70)))) (Ai (Ai (Ai ntmps39 T.k45) (Ai ntmps86 @underlying104)) (Ai (Ai T.Vh T.Vj) (Ai T.Vi (Ai T.Vk T.Vl))))) (Ai (Ai (Ai (Ai @underlying120 T.Vm) (Ai T.Vo T.Vn)) (Ai (Ai T.Vq T.Vp) (Ai T.L7 (Ai T.L8 T.k70)))) (Ai (Ai (Ai ntmps56 ntmps12) (Ai ntmps211 T.Xt)) (Ai (Ai ntmps165 ntmps210) (Ai ntmps108 (Ai @underlying163 T.VI))))))) (Ai (Ai (Ai (Ai (Ai (Ai T.VK T.VJ) (Ai T.VL T.VM)) (Ai (Ai ntmps106 @underlying220) (Ai T.Sz (Ai T.VU T.VT)))) (Ai (Ai (Ai T.Xr ntmps164) (Ai @underlying154 T.Sy)) (Ai (Ai T.VE T.VD) (Ai T.z154 (Ai T.WU T.WT))))) (Ai (Ai (Ai (Ai ntmps101 ntmps163) (Ai @underlying50 T.c50)) (Ai (Ai T.g50 T.b50) (Ai T.z50 (Ai T.s50 T.WS)))) (Ai (Ai (Ai ntmps100 ntmps99) (Ai ntmps162 ntmps98)) (Ai (Ai T.k98 T.V8) (Ai T.k99 (Ai T.V7 ntmps38)))))) (Ai (Ai (Ai (Ai (Ai ntmps107 T.Wc) (Ai T.O1 T.Wd)) (Ai (Ai ntmps41 T.XO) (Ai T.XM (Ai ntmps233 ntmps236)))) (Ai (Ai (Ai ntmps207 T.k97) (Ai T.k90 ntmps206)) (Ai (Ai T.Xo T.k38) (Ai ntmps220 (Ai ntmps221 ntmps156))))) (Ai (Ai (Ai (Ai T.XD T.k41) (Ai ntmps189 ntmps190)) (Ai (Ai ntmps169 T.Xy) (Ai T.Xl (Ai T.W8 T.Xk)))) (Ai (Ai (Ai T.Xz ntmps185) (Ai T.W9 T.Xa)) (Ai (Ai T.Wo ntmps135) (Ai ntmps127 (Ai ntmps142 T.Wv))))))))) (Ai (Ai (Ai (Ai (Ai (Ai (Ai (Ai ntmps68 T.k68) (Ai T.WE ntmps151)) (Ai (Ai ntmps88 ntmps31) (Ai T.k31 (Ai T.V9 ntmps103)))) (Ai (Ai (Ai ntmps143 T.k39) (Ai T.Ww ntmps69)) (Ai (Ai T.k69 ntmps27) (Ai ntmps136 (Ai T.Wp ntmps62))))) (Ai (Ai (Ai (Ai T.Xg T.Xh) (Ai T.k27 T.WC)) (Ai (Ai ntmps141 ntmps194) (Ai T.Xe (Ai ntmps139 ntmps195)))) (Ai (Ai (Ai T.Xf ntmps140) (Ai ntmps74 ntmps76)) (Ai (Ai T.k74 T.k81) (Ai ntmps75 (Ai T.k75 T.k76)))))) (Ai (Ai (Ai (Ai (Ai ntmps32 T.k56) (Ai ntmps33 ntmps34)) (Ai (Ai ntmps44 @underlying25) (Ai T.Bn (Ai T.OY T.b25)))) (Ai (Ai (Ai T.z25 T.h25) (Ai T.QJ T.QK)) (Ai (Ai T.QL T.QM) (Ai T.QN (Ai T.k44 ntmps15))))) (Ai (Ai (Ai (Ai ntmps28 T.Fq) (Ai ntmps14 @underlying37)) (Ai (Ai T.c37 T.g37) (Ai T.b37 (Ai T.z37 T.k62)))) (Ai (Ai (Ai ntmps23 ntmps64) (Ai ntmps65 @underlying66)) (Ai (Ai T.OS T.Q4) (Ai T.b66 (Ai T.z66 T.h66))))))) (Ai (Ai (Ai (Ai (Ai (Ai T.Q5 T.Q6) (Ai T.Q7 T.Q8)) (Ai (Ai T.Q9 T.k64) (Ai T.k65 (Ai ntmps63 ntmps71)))) (Ai (Ai (Ai @underlying67 T.U8) (Ai T.Ob T.b67)) (Ai (Ai T.z67 T.s67) (Ai @underlying69 (Ai T.Uc T.g69))))) (Ai (Ai (Ai (Ai T.b69 T.z69) (Ai T.h69 @underlying71)) (Ai (Ai T.Ud T.g71) (Ai T.b71 (Ai T.z71 T.h71)))) (Ai (Ai (Ai T.Ra T.Rb) (Ai T.Rc T.Rf)) (Ai (Ai ntmps138 @underlying26) (Ai T.KW (Ai T.HC T.b26)))))) (Ai (Ai (Ai (Ai (Ai T.z26 T.s26) (Ai @underlying28 T.Ub)) (Ai (Ai T.GM T.b28) (Ai T.z28 (Ai T.s28 @underlying30)))) (Ai (Ai (Ai T.HB T.g30) (Ai T.b30 T.z30)) (Ai (Ai T.J8 @underlying32) (Ai T.LZ (Ai T.g32 T.b32))))) (Ai (Ai (Ai (Ai T.z32 T.nh) (Ai T.QO T.QP)) (Ai (Ai T.QQ T.QV) (Ai T.QW (Ai T.Wr ntmps66)))) (Ai (Ai (Ai T.QR T.QS) (Ai T.QT T.QU)) (Ai (Ai T.QX T.QY) (Ai T.k66 (Ai T.k63 ntmps24)))))))) (Ai (Ai (Ai (Ai (Ai (Ai (Ai T.k67 ntmps26) (Ai T.k24 T.HD)) (Ai (Ai T.k26 ntmps8) (Ai T.k83 (Ai T.k82 ntmps35)))) (Ai (Ai (Ai T.k37 T.k36) (Ai T.k8 T.k35)) (Ai (Ai ntmps10 T.Uf) (Ai T.k23 (Ai ntmps5 T.Wu))))) (Ai (Ai (Ai (Ai T.Ws T.Wt) (Ai ntmps67 ntmps6)) (Ai (Ai T.Xq ntmps160) (Ai @underlying228 (Ai T.VV T.VX)))) (Ai (Ai (Ai T.VW T.z228) (Ai T.VY T.Mb)) (Ai (Ai T.Mc ntmps170) (Ai ntmps94 (Ai T.WQ ntmps96)))))) (Ai (Ai (Ai (Ai (Ai T.k94 T.k96) (Ai T.k95 ntmps37)) (Ai (Ai ntmps72 T.k71) (Ai T.k72 (Ai ntmps29 ntmps110)))) (Ai (Ai (Ai T.WZ ntmps112) (Ai T.Wf T.Wh)) (Ai (Ai ntmps42 ntmps7) (Ai T.Z9 (Ai T.k29 T.k32))))) (Ai (Ai (Ai (Ai T.k34 T.k33) (Ai ntmps9 ntmps154)) (Ai (Ai ntmps152 ntmps205) (Ai ntmps202 (Ai ntmps229 T.XI)))) (Ai (Ai (Ai ntmps203 ntmps248) (Ai T.X0 T.XZ)) (Ai (Ai ntmps231 T.XG) (Ai ntmps239 (Ai @underlying264 T.VZ))))))) (Ai (Ai (Ai (Ai (Ai (Ai T.V1 T.V0) (Ai T.V2 T.XP)) (Ai (Ai T.XY T.XR) (Ai T.XJ (Ai T.XW T.XQ)))) (Ai (Ai (Ai T.XU T.XV) (Ai T.XS ntmps230)) (Ai (Ai T.XK ntmps204) (Ai T.Xm (Ai T.Xn ntmps153))))) (Ai (Ai (Ai (Ai ntmps212 T.Xu) (Ai ntmps167 ntmps150)) (Ai (Ai ntmps155 ntmps168) (Ai ntmps148 (Ai T.WB ntmps84)))) (Ai (Ai (Ai ntmps102 T.WD) (Ai ntmps85 T.WW)) (Ai (Ai ntmps104 ntmps83) (Ai ntmps147 (Ai T.WA ntmps82)))))) (Ai (Ai (Ai (Ai (Ai @underlying141 T.Vr) (Ai T.Vt T.Vs)) (Ai (Ai T.z141 T.Vu) (Ai T.WG (Ai T.k86 T.k85)))) (Ai (Ai (Ai T.Wn T.WK) (Ai T.WI T.WJ)) (Ai (Ai T.WH ntmps89) (Ai T.k88 (Ai T.k84 T.k89))))) (Ai (Ai (Ai (Ai ntmps36 T.Wb) (Ai T.WY T.WX)) (Ai (Ai ntmps105 T.O0) (Ai T.OZ (Ai ntmps40 T.k9)))) (Ai (Ai (Ai T.k42 T.k40) (Ai ntmps11 T.GN)) (Ai (Ai T.k6 T.k5) (Ai T.k7 (Ai T.V6 ntmps3)))))))))))
theorem DM : type_of% (Ai @cR @ct) :=
  (Ai @cR @ct)
section
variable {P : Program} {Γ : Nat→List AV} {N : Nat} {Q : Exit→Env→AS→Prop} {E E' : Env} {s s' : AS} {id : Nat} {L : List Oper} {x y : Code} {c : Operand} {H Z : Prop} {O : Array Oper} {W : Env→AS→Prop} {M : (Env→AS→Prop)→Prop} {f : FuncId} {ags : List AV} {v : AV} {s0 s2 : AS} {E2 : AS→Env} {s3 : AS→AS}
theorem jA (k : cI P Γ N y Q E' s') (h : ∀ K : Env→AS→Prop,K E' s'→AY P Γ N L.toArray L K E s:=by (intro K hK; simp only [↓DN,Qa,Qb,Qc,Qd,Qe,Qf,Qg,Qh,reduceCtorEq,↓reduceIte,Na,Nb,Nc,Nk,Nf,Ng,Nh,Za,Zb,Zc,TT]; exact hK)) : cI P Γ N (.seq (.region id L.toArray false) y) Q E s:=wS fun K hK=>h K (hK _ _ k)
theorem jB (a : H) (k : cI P Γ N y Q E' s') (h : H→∀ K : Env→AS→Prop,K E' s'→AY P Γ N L.toArray L K E s:=by (intro a K hK; simp only [↓DN,Qa,Qb,Qc,Qd,Qe,Qf,Qg,Qh,reduceCtorEq,↓reduceIte,Na,Nb,Nc,Nk,Nf,Ng,Nh,Za,Zb,Zc,TT,a]; exact hK)) : cI P Γ N (.seq (.region id L.toArray false) y) Q E s:=wS fun K hK=>h a K (hK _ _ k)
theorem jC (k : Q .normal E' s') (h : ∀ K : Env→AS→Prop,K E' s'→AY P Γ N L.toArray L K E s:=by (intro K hK; simp only [↓DN,Qa,Qb,Qc,Qd,Qe,Qf,Qg,Qh,reduceCtorEq,↓reduceIte,Na,Nb,Nc,Nk,Nf,Ng,Nh,Za,Zb,Zc,TT]; exact hK)) : cI P Γ N (.region id L.toArray false) Q E s:=wE fun K hK=>h K (hK _ _ k)
theorem jD (a : H) (k : Q .normal E' s') (h : H→∀ K : Env→AS→Prop,K E' s'→AY P Γ N L.toArray L K E s:=by (intro a K hK; simp only [↓DN,Qa,Qb,Qc,Qd,Qe,Qf,Qg,Qh,reduceCtorEq,↓reduceIte,Na,Nb,Nc,Nk,Nf,Ng,Nh,Za,Zb,Zc,TT,a]; exact hK)) : cI P Γ N (.region id L.toArray false) Q E s:=wE fun K hK=>h a K (hK _ _ k)
theorem jE (k : cI P Γ N x Q E s) (h : ∀ X Y : Prop,X→match aN Γ E c with | .v (.bool t)=>(t = true→X)∧(t = false→Y) | _=>False:=by (intro X Y hX; simp only [UP,DF,Nc,↓reduceIte,DB]; exact hX)) : cI P Γ N (.cond c x y) Q E s:=wC fun X Y hX hY=>h X Y (hX k)
theorem jF (k : cI P Γ N y Q E s) (h : ∀ X Y : Prop,Y→match aN Γ E c with | .v (.bool t)=>(t = true→X)∧(t = false→Y) | _=>False:=by (intro X Y hX; simp only [UP,DF,Nc,↓reduceIte,DB]; exact hX)) : cI P Γ N (.cond c x y) Q E s:=wC fun X Y hX hY=>h X Y (hY k)
theorem jG (a : H) (k : cI P Γ N x Q E s) (h : H→∀ X Y : Prop,X→match aN Γ E c with | .v (.bool t)=>(t = true→X)∧(t = false→Y) | _=>False:=by (intro a X Y hX; simp only [UP,DF,Nc,↓reduceIte,DB,a]; exact hX)) : cI P Γ N (.cond c x y) Q E s:=wC fun X Y hX hY=>h a X Y (hX k)
theorem jH (a : H) (k : cI P Γ N y Q E s) (h : H→∀ X Y : Prop,Y→match aN Γ E c with | .v (.bool t)=>(t = true→X)∧(t = false→Y) | _=>False:=by (intro a X Y hX; simp only [UP,DF,Nc,↓reduceIte,DB,a]; exact hX)) : cI P Γ N (.cond c x y) Q E s:=wC fun X Y hX hY=>h a X Y (hY k)
theorem jI (k : Z) (h : Z→Q .ret E s:=by (intro hz; (try simp only [av,aq]); simp only [cF,bI,bM,dh,List.toList_toArray,↓bj]; (try simp only [UP,DF,Nc,↓reduceIte,DT]); exact hz)) : cI P Γ N .ret Q E s:=bo (h k)
theorem jJ (h : Q .ret E s:=by ((try simp only [av,aq]); simp only [cF,bI,bM,dh,List.toList_toArray,↓bj]; (try simp only [UP,DF,Nc,↓reduceIte,DT]); exact ⟨_,_,AV.aL.refl _,AS.le.refl _,rfl,rfl⟩)) : cI P Γ N .ret Q E s:=bo h
theorem jK (a : ah P Γ f ags s0 fun r s'=>r = v∧s' = s2) (k : ∀ s1,s1 = s2→cI P Γ N y Q (E2 s1) (s3 s1)) (h : (ah P Γ f ags s0 fun r s'=>r = v∧s' = s2)→∀ K : Env→AS→Prop,(∀ s1,s1 = s2→K (E2 s1) (s3 s1))→AY P Γ N L.toArray L K E s:=by (intro a K hK; simp only [↓DN,Qa,Qb,Qc,Qd,Qe,Qf,Qg,Qh,reduceCtorEq,↓reduceIte,Na,Nb,Nc,Nk,Nf,Ng,Nh,Za,Zb,Zc,TT]; refine ae a ?_; rintro _ s1 ⟨rfl,e⟩; simp only [↓DM,cw,DX,Nz,↓DN,Qa,Qb,Qc,Qd,Qe,Qf,Qg,Qh,reduceCtorEq,↓reduceIte,Na,Nb,Nc,Nk,Nf,Ng,Nh,Za,Zb,Zc,TT]; exact hK s1 e)) : cI P Γ N (.seq (.region id L.toArray false) y) Q E s:=wS fun K hK=>h a K fun s1 e=>hK _ _ (k s1 e)
theorem jL (a : ah P Γ f ags s0 fun r s'=>r = v∧s' = s2) (k : ∀ s1,s1 = s2→Q .normal (E2 s1) (s3 s1)) (h : (ah P Γ f ags s0 fun r s'=>r = v∧s' = s2)→∀ K : Env→AS→Prop,(∀ s1,s1 = s2→K (E2 s1) (s3 s1))→AY P Γ N L.toArray L K E s:=by (intro a K hK; simp only [↓DN,Qa,Qb,Qc,Qd,Qe,Qf,Qg,Qh,reduceCtorEq,↓reduceIte,Na,Nb,Nc,Nk,Nf,Ng,Nh,Za,Zb,Zc,TT]; refine ae a ?_; rintro _ s1 ⟨rfl,e⟩; simp only [↓DM,cw,DX,Nz,↓DN,Qa,Qb,Qc,Qd,Qe,Qf,Qg,Qh,reduceCtorEq,↓reduceIte,Na,Nb,Nc,Nk,Nf,Ng,Nh,Za,Zb,Zc,TT]; exact hK s1 e)) : cI P Γ N (.region id L.toArray false) Q E s:=wE fun K hK=>h a K fun s1 e=>hK _ _ (k s1 e)
theorem jQ (k : ∀ K : Env→AS→Prop,(∀ E s,cI P Γ N y Q E s→K E s)→M K) (h : ∀ K : Env→AS→Prop,M K→AY P Γ N L.toArray L K E s:=by (intro K hz; simp only [↓DN,Qa,Qb,Qc,Qd,Qe,Qf,Qg,Qh,reduceCtorEq,↓reduceIte,Na,Nb,Nc,Nk,Nf,Ng,Nh,Za,Zb,Zc,TT]; exact hz)) : cI P Γ N (.seq (.region id L.toArray false) y) Q E s:=wS fun K hK=>h K (k K hK)
theorem jS (a : H) (k : ∀ K : Env→AS→Prop,(∀ E s,cI P Γ N y Q E s→K E s)→M K) (h : H→∀ K : Env→AS→Prop,M K→AY P Γ N L.toArray L K E s:=by (intro a K hz; simp only [↓DN,Qa,Qb,Qc,Qd,Qe,Qf,Qg,Qh,reduceCtorEq,↓reduceIte,Na,Nb,Nc,Nk,Nf,Ng,Nh,Za,Zb,Zc,TT,a]; exact hz)) : cI P Γ N (.seq (.region id L.toArray false) y) Q E s:=wS fun K hK=>h a K (k K hK)
theorem jT (k : ∀ K : Env→AS→Prop,(∀ E s,Q .normal E s→K E s)→M K) (h : ∀ K : Env→AS→Prop,M K→AY P Γ N L.toArray L K E s:=by (intro K hz; simp only [↓DN,Qa,Qb,Qc,Qd,Qe,Qf,Qg,Qh,reduceCtorEq,↓reduceIte,Na,Nb,Nc,Nk,Nf,Ng,Nh,Za,Zb,Zc,TT]; exact hz)) : cI P Γ N (.region id L.toArray false) Q E s:=wE fun K hK=>h K (k K hK)
theorem jU (a : H) (k : ∀ K : Env→AS→Prop,(∀ E s,Q .normal E s→K E s)→M K) (h : H→∀ K : Env→AS→Prop,M K→AY P Γ N L.toArray L K E s:=by (intro a K hz; simp only [↓DN,Qa,Qb,Qc,Qd,Qe,Qf,Qg,Qh,reduceCtorEq,↓reduceIte,Na,Nb,Nc,Nk,Nf,Ng,Nh,Za,Zb,Zc,TT,a]; exact hz)) : cI P Γ N (.region id L.toArray false) Q E s:=wE fun K hK=>h a K (k K hK)
theorem jR {K : Env→AS→Prop} (hK : ∀ E s,W E s→K E s) (k : W E' s') (h : K E' s'→Z:=by (intro hK; simp only [↓DM,cw,DX,Nz,↓DN,Qa,Qb,Qc,Qd,Qe,Qf,Qg,Qh,reduceCtorEq,↓reduceIte,Na,Nb,Nc,Nk,Nf,Ng,Nh,Za,Zb,Zc,TT]; exact hK)) : Z:=h (hK _ _ k)
theorem jV {K : Env→AS→Prop} (a : H) (hK : ∀ E s,W E s→K E s) (k : W E' s') (h : H→K E' s'→Z:=by (intro a hK; simp only [↓DM,cw,DX,Nz,↓DN,Qa,Qb,Qc,Qd,Qe,Qf,Qg,Qh,reduceCtorEq,↓reduceIte,Na,Nb,Nc,Nk,Nf,Ng,Nh,Za,Zb,Zc,TT,a]; exact hK)) : Z:=h a (hK _ _ k)
end
theorem jM {A Z : Prop} (k : A) (h : A→Z:=by (intro hA; simp only [↓DM,cw,DX,Nz,↓DN,Qa,Qb,Qc,Qd,Qe,Qf,Qg,Qh,reduceCtorEq,↓reduceIte,Na,Nb,Nc,Nk,Nf,Ng,Nh,Za,Zb,Zc,TT]; exact hA)) : Z:=h k
theorem jN {A Z H : Prop} (a : H) (k : A) (h : H→A→Z:=by (intro a hA; simp only [↓DM,cw,DX,Nz,↓DN,Qa,Qb,Qc,Qd,Qe,Qf,Qg,Qh,reduceCtorEq,↓reduceIte,Na,Nb,Nc,Nk,Nf,Ng,Nh,Za,Zb,Zc,TT,a]; exact hA)) : Z:=h a k
theorem jO {A Z : Prop} (k : A) (h : A→Z:=by (intro hA; simp only [↓DN,Qa,Qb,Qc,Qd,Qe,Qf,Qg,Qh,reduceCtorEq,↓reduceIte,Na,Nb,Nc,Nk,Nf,Ng,Nh,Za,Zb,Zc,TT]; exact hA)) : Z:=h k
theorem jP {A Z H : Prop} (a : H) (k : A) (h : H→A→Z:=by (intro a hA; simp only [↓DN,Qa,Qb,Qc,Qd,Qe,Qf,Qg,Qh,reduceCtorEq,↓reduceIte,Na,Nb,Nc,Nk,Nf,Ng,Nh,Za,Zb,Zc,TT,a]; exact hA)) : Z:=h a k
theorem jW {v : AV} {s : AS} {R : AV→AS→Prop} (h : R v s) : ∃ r s',v.aL r∧s'.le s∧R r s':=⟨_,_,AV.aL.refl _,AS.le.refl _,h⟩
end Go.Proofs.YtcjifoccjlpapaaGreatDoor
namespace Go.AM
open Go
def aE (n : Int) : AV:=.v (.int .i64 n)
def aC (l : List Int) (sp : Sp) : AV:=.sl 1 l.length (l.map aE) sp
theorem dC {l : List Int} {i : Nat} (h : i < l.length) : List.take 1 (List.drop i (l.map aE)) = [.v (.int .i64 l[i])]:=by
  rw [List.drop_eq_getElem_cons (by simpa using h)];simp [aE]
theorem cP.ints {iu : List AV} (h : cP (.slice 1 Ho) iu) : ∃ l : List Int,iu = [aC l .any]:=by
  obtain ⟨els,rfl,_,bT⟩:=cP.rows h;have key : ∀ els : List (List AV),(∀ el ∈ els,el.length = 1∧cP Ho el)→∃ l : List Int,l.length = els.length∧els.flatten = l.map aE:=by
    intro els;induction els with
    | nil=>intro _; exact ⟨[],rfl,rfl⟩
    | cons e els ih =>
      intro h;obtain ⟨l,h1,h2⟩:=ih (fun el xh=>h el (by simp [xh]));obtain ⟨_,t⟩:=h e (by simp);obtain ⟨n,rfl,_⟩:=iY t;exact ⟨n :: l,by simp [h1],by simp [h2,aE]⟩
  obtain ⟨l,h1,h2⟩:=key els bT;exact ⟨l,by rw [← h1,h2]; rfl⟩
theorem uF {α : Type} {a b : List α} {i : Nat} (ha : i < a.length) (hb : i < b.length) (h : a.take i = b.take i) (e : a[i] = b[i]) : a.take (i + 1) = b.take (i + 1):=by
  rw [List.take_succ_eq_append_getElem ha,List.take_succ_eq_append_getElem hb,h,e]
structure aa where
  kind : Int
  name : List UInt8
  key : Nat
  parent : List UInt8
  fF : List Int
  deriving DecidableEq
def aa.cells (n : aa) : List AV:=[.v (.int .i64 n.kind),ak n.name .any,.v (.int .u64 n.key),ak n.parent .any,aC n.fF .any]
def aa.bp : aa:=⟨0,[],0,[],[]⟩
theorem uG (k k' : Int) (m m' p p' : List UInt8) (y y' : Nat) (u u' : List Int) :
    decide ((⟨k,m,y,p,u⟩ : aa) = ⟨k',m',y',p',u'⟩) = ((k == k') && (((y : Int) == (y' : Int)) && (decide (m = m') && (decide (p = p') && decide (u = u'))))):=by
  rw [Bool.eq_iff_iff,decide_eq_true_iff];simp only [aa.mk.injEq,Bool.and_eq_true,beq_iff_eq,decide_eq_true_eq,Int.natCast_inj];constructor
  · rintro ⟨h1,h2,h3,h4,h5⟩;exact ⟨h1,h3,h2,h4,h5⟩
  · rintro ⟨h1,h3,h2,h4,h5⟩;exact ⟨h1,h2,h3,h4,h5⟩
theorem cP.node {iu : List AV} (h : cP (.struct (.cons Ho (.cons EW (.cons (.int .u64) (.cons EW (.cons (.slice 1 Ho) .nil)))))) iu) : ∃ N : aa,iu = N.cells∧N.key < 2 ^ 64:=by
  obtain ⟨x1,y1,rfl,t1,h⟩:=b7 (gH h);obtain ⟨x2,y2,rfl,t2,h⟩:=b7 h;obtain ⟨x3,y3,rfl,t3,h⟩:=b7 h;obtain ⟨x4,y4,rfl,t4,h⟩:=b7 h;obtain ⟨x5,y5,rfl,t5,h⟩:=b7 h;obtain rfl:=pq h;obtain ⟨n1,rfl,_⟩:=iY t1;obtain ⟨l2,rfl,_⟩:=t2.bytes;obtain ⟨n3,rfl,w3⟩:=iY t3;obtain ⟨m3,rfl,h3⟩:=IK w3;obtain ⟨l4,rfl,_⟩:=t4.bytes;obtain ⟨l5,rfl⟩:=t5.ints;exact ⟨⟨n1,l2,m3,l4,l5⟩,rfl,h3⟩
def vW (l : List Int) (i : Nat) : Prop:=0≤l.getD i 0∧l.getD i 0 < 32∧(0 < i→l.getD (i - 1) 0 < l.getD i 0)
instance xac (l : List Int) (i : Nat) : Decidable (vW l i):=by unfold vW; infer_instance
def fG (l : List Int) : Prop:=∀ i,i < l.length→vW l i
instance Ug (l : List Int) : Decidable (fG l):=by unfold fG; infer_instance
theorem uH {l : List Int} {i : Nat} (h : i < l.length) (h1 : 0≤l[i]) (h2 : l[i] < 32) (h3 : ∀ k : 0 < i,l[i - 1] < l[i]) : vW l i:=by
  unfold vW;have e : l.getD i 0 = l[i]:=(by simp [List.getD,h]);refine ⟨by rw [e]; exact h1,by rw [e]; exact h2,fun k=>?_⟩;have e2 : l.getD (i - 1) 0 = l[i - 1]:=(by simp [List.getD,show i - 1 < l.length by omega]);rw [e,e2];exact h3 k
theorem mA {l : List Int} {i : Nat} (h : i < l.length) (k : vW l i) : 0≤l[i]∧l[i] < 32∧(∀ q : 0 < i,l[i - 1] < l[i]):=by
  unfold vW at k;have e : l.getD i 0 = l[i]:=(by simp [List.getD,h]);rw [e] at k;refine ⟨k.1,k.2.1,fun q=>?_⟩;have e2 : l.getD (i - 1) 0 = l[i - 1]:=(by simp [List.getD,show i - 1 < l.length by omega]);have:=k.2.2 q;rwa [e2] at this
def aa.held (N : aa) : Prop:=2≤N.key∧N.key≤2305843009213693949∧(N.parent.length = 0∨N.parent.length = 32)
instance Rg (N : aa) : Decidable N.held:=by unfold aa.held; infer_instance
def aa.right (N : aa) : Prop :=
  if N.kind = 0 then N = aa.bp
  else if N.kind = 1 then (1≤N.name.length∧N.name.length≤16∧N.held∧N.fF.length = 0)
  else if N.kind = 2 then (N.name.length = 0∧N.held∧fG N.fF)
  else False
instance O3 (N : aa) : Decidable N.right:=by unfold aa.right; infer_instance
theorem j6 {N : aa} (h : N.kind = 0) : N.right↔N = aa.bp:=by unfold aa.right; rw [if_pos h]
theorem dT {N : aa} (h : N.kind = 1) : N.right↔(1≤N.name.length∧N.name.length≤16∧N.held∧N.fF.length = 0):=by unfold aa.right; rw [if_neg (by omega),if_pos h]
theorem eQ {N : aa} (h : N.kind = 2) : N.right↔(N.name.length = 0∧N.held∧fG N.fF):=by unfold aa.right; rw [if_neg (by omega),if_neg (by omega),if_pos h]
theorem zB {N : aa} (h0 : N.kind≠0) (h1 : N.kind≠1) (h2 : N.kind≠2) : ¬ N.right:=by unfold aa.right; rw [if_neg h0,if_neg h1,if_neg h2]; exact id
structure Rec where
  kind : Int
  group : List UInt8
  b8 : Int
  time : Int
  bucket : Int
  body : List UInt8
  tree : List UInt8
  script : List UInt8
  wrapped : List UInt8
  deriving DecidableEq
def Rec.cells (r : Rec) : List AV:=[.v (.int .i64 r.kind),ak r.group .any,.v (.int .i64 r.b8),.v (.int .i64 r.time),.v (.int .i64 r.bucket),ak r.body .any,ak r.tree .any,ak r.script .any,ak r.wrapped .any]
def Rec.bp : Rec:=⟨0,[],0,0,0,[],[],[],[]⟩
def Rec.right (r : Rec) : Prop :=
  1≤r.kind∧r.kind≤3∧1≤r.group.length∧r.group.length≤16∧0≤r.b8∧r.b8≤1048576∧0≤r.time∧r.time≤1099511627776∧0≤r.bucket∧r.bucket≤1099511627776∧r.body.length≤60000 ∧
    r.tree.length = (if r.kind = 3 then 0 else 32)∧r.script.length = (if r.kind = 3 then 0 else 32)∧r.wrapped.length = (if r.kind = 3 then 0 else 48)
instance (r : Rec) : Decidable r.right:=by unfold Rec.right; infer_instance
def Rec.text (r : Rec) : List UInt8 :=
  be 1 r.kind.toNat ++ (be 1 r.group.length ++ r.group ++ (be 8 r.b8.toNat ++ (be 8 r.time.toNat ++ (be 8 r.bucket.toNat ++
    (be 2 r.body.length ++ r.body ++ (be 1 r.tree.length ++ r.tree ++ (be 1 r.script.length ++ r.script ++ (be 1 r.wrapped.length ++ r.wrapped ++ []))))))))
theorem eI (k n : Nat) (st : List UInt8 × Bool) : gj k n st = cy (be k n) st:=rfl
theorem dM {k n : Nat} (h : n < 256 ^ k) (st : List UInt8 × Bool) : bU k (n : Int) st = cy (be k n) st:=by
  have e : (256 : Nat) ^ k = 2 ^ (8 * k):=(by rw [Nat.pow_mul]);have hh : (n : Int) < 2 ^ (8 * k):=by
    rw [e] at h;exact_mod_cast h
  unfold bU;rw [if_pos ⟨by omega,hh⟩];simp only [Int.toNat_natCast,eI]
theorem bA (a b : List UInt8) (st : List UInt8 × Bool) : cy a (cy b st) = cy (b ++ a) st:=by
  unfold cy;by_cases h : st.2 = true
  · simp [h]
  · simp [h]
theorem nH {k : Nat} {m : List UInt8} (h : m.length < 256 ^ k) (st : List UInt8 × Bool) : fD k m st = cy (be k m.length ++ m) st:=by
  unfold fD;rw [dM h,bA]
theorem tg (st : List UInt8 × Bool) : cy [] st = st:=by
  unfold cy;split
  · rfl
  · rename_i h;obtain ⟨a,b⟩:=st;simp at h;simp [h]
def fj (l : List Int) : List UInt8:=(l.map fun x=>be 1 x.toNat).flatten
def aa.text (N : aa) : List UInt8 :=
  if N.kind = 0 then be 1 0
  else if N.kind = 1 then be 1 1 ++ (be 1 N.name.length ++ N.name) ++ be 8 N.key ++ (be 1 N.parent.length ++ N.parent)
  else be 1 2 ++ be 8 N.key ++ (be 1 N.parent.length ++ N.parent) ++ be 1 N.fF.length ++ fj N.fF
theorem Cr {l : List Int} (h : fG l) : ∀ i,i < l.length→(i : Int)≤l.getD i 0
  | 0,k=>(h 0 k).1
  | i + 1,k=>by
    have:=Cr h i (by omega);have h3:=(h (i + 1) k).2.2 (by omega);simp only [Nat.add_sub_cancel] at h3;omega
theorem iJ {l : List Int} (h : fG l) : l.length≤32:=by
  by_cases k : l.length = 0
  · omega
  · have h1:=Cr h (l.length - 1) (by omega);have h2:=(h (l.length - 1) (by omega)).2.1;omega
theorem mB {l : List Int} (h : fG l) {x : Int} (hx : x ∈ l) : 0≤x∧x < 32:=by
  obtain ⟨i,hi,rfl⟩:=List.getElem_of_mem hx;have:=mA hi (h i hi);exact ⟨this.1,this.2.1⟩
theorem lF : ∀ (l : List Int),(fj l).length = l.length
  | []=>rfl
  | x :: l=>by
    have:=lF l;simp only [fj,List.map_cons,List.flatten_cons,List.length_append,aW,List.length_cons] at *
    omega
theorem sH (l : List Int) (x : Int) : fj (l ++ [x]) = fj l ++ be 1 x.toNat:=by
  simp [fj]
theorem fH : aa.bp.right:=by decide
theorem j7 {N : aa} (h : N.right) : N.kind = 0∨N.kind = 1∨N.kind = 2:=by
  unfold aa.right at h;split at h
  · left; assumption
  · split at h
    · right; left; assumption
    · split at h
      · right; right; assumption
      · exact h.elim
theorem aa.dQ {N : aa} (h : N.right) : N.text.length≤100:=by
  obtain ⟨k,m,y,p,u⟩:=N;rcases j7 h with hk | hk | hk
  · simp only at hk;simp [aa.text,hk]
  · obtain ⟨h1,h2,⟨h3,h4,h5⟩,h6⟩:=(dT hk).1 h;simp only at hk h1 h2 h3 h4 h5 h6;simp [aa.text,hk];omega
  · obtain ⟨h1,⟨h3,h4,h5⟩,h6⟩:=(eQ hk).1 h;simp only at hk h1 h3 h4 h5 h6;have hu:=iJ h6;simp [aa.text,hk,lF];omega
structure RdS (s s1 : AS) (p o2 o3 : Nat) (ce z cs : List AV) : Prop where
  le : (s.drop p).le s1
  eye : s1.aJ p = some ce
  res : s1.aJ o2 = some z
  var : s1.aJ o3 = some cs
  n2 : s.aJ o2 = none
  n3 : s.aJ o3 = none
  p2 : p≠o2
  p3 : p≠o3
  d : o2≠o3
def xgH (s0 s : AS) (x : AV) (l : List Int) : Prop:=(x = bL∧l = [])∨∃ t e,x = aC l (.own t e)∧s.own t = some e∧s0.own t = none
structure Rd4 (s s1 : AS) (p o2 o3 o4 : Nat) (ce z cs ds : List AV) : Prop where
  rd : RdS s s1 p o2 o3 ce z cs
  obj : s1.aJ o4 = some ds
  n4 : s.aJ o4 = none
  p4 : p≠o4
  d2 : o2≠o4
  d3 : o3≠o4
theorem bd {a b : AS} (h : a.le b) {t : Nat} (k : b.own t = none) : a.own t = none:=by
  cases e : a.own t with
  | none=>rfl
  | some x=>rw [h.own t x e] at k; cases k
def lvT : List Nat:=[0,1,0,2,0,1,0,3,0,1,0,2,0,1,0,4,0,1,0,2,0,1,0,3,0,1,0,2,0,1,0,5,0,1,0,2,0,1,0,3,0,1,0,2,0,1,0,4,0,1,0,2,0,1,0,3,0,1,0,2,0,1,0]
def lv (n : Nat) : Nat:=lvT.getD n 0
def rz (x : Int) : Nat:=if 0≤x∧x < 63 then lv x.toNat else 0
def hf (n : Nat) : Nat:=2 ^ lv n / 2
def lo (n : Nat) : Nat:=(n - (2 ^ lv n - 1)) / 2
def hi (n : Nat) : Nat:=(n + (2 ^ lv n - 1)) / 2
def Fit (n : Nat) : Prop:=n = 1∨n = 2∨n = 4∨n = 8∨n = 16∨n = 32
instance (n : Nat) : Decidable (Fit n):=by unfold Fit; infer_instance
theorem Fit.le {n : Nat} (h : Fit n) : 1≤n∧n≤32:=by rcases h with h | h | h | h | h | h <;> omega
theorem xy (n : Nat) : lv n≤5:=by
  by_cases h : n < 63
  · exact (by decide : ∀ n < 63,lv n≤5) n h
  · have : lv n = 0:=(by simp [lv,List.getD,lvT,show 63≤n by omega]);omega
def pT (n : Nat) : Nat:=if n / 2 ^ (lv n + 1) % 2 = 0 then n + 2 ^ lv n else n - 2 ^ lv n
def HE : Nat→Nat→Nat→List Nat
  | 0,_,_=>[]
  | k + 1,n,leaves=>if n = leaves - 1 then [] else pT n :: HE k (pT n) leaves
def aD (leaf leaves : Nat) : List Nat:=HE 6 (2 * leaf) leaves
def eW : List Nat:=[0,1,56,2,57,49,28,3,61,58,42,50,38,29,17,4,62,47,59,36,45,43,51,22,53,39,33,30,24,18,12,5,63,55,48,27,60,41,37,16,46,35,44,21,52,32,23,11,54,26,40,15,34,20,31,10,25,14,19,9,13,8,7,6]
def nj (n : Nat) : AV:=.v (.int .u8 n)
def th (x : Int) : Prop:=0≤x∧Fit x.toNat
instance (x : Int) : Decidable (th x):=by unfold th; infer_instance
theorem SA : ∀ n < 63,∃ k < 64,lW .u64 (kO .u64 (A9 .u64 ((n + 1 : Nat) : Int) (JB .u64 ((n + 1 : Nat) : Int))) 285870213051353865) 58 = ((k : Nat) : Int)∧(List.drop k (eW.map nj))[0]? = some (nj (lv n)):=by
  have key : ∀ n < 63,∃ k < 64,lW .u64 (kO .u64 (A9 .u64 ((n + 1 : Nat) : Int) (JB .u64 ((n + 1 : Nat) : Int))) 285870213051353865) 58 = ((k : Nat) : Int)∧eW[k]? = some (lv n):=(by decide +kernel);intro n hn;obtain ⟨k,h1,h2,h3⟩:=key n hn;refine ⟨k,h1,h2,?_⟩;rw [List.getElem?_drop,Nat.add_zero,List.getElem?_map,h3];rfl
theorem fI {n : Nat} (h : n < 63) : rz (n : Int) = lv n:=by
  unfold rz;rw [if_pos (by omega),Int.toNat_natCast]
theorem Dp (x : Int) : rz x≤5:=by unfold rz; split; exact xy _; omega
theorem O4 {l : Nat} (h : l≤5) : lW .i64 (oY .i64 1 (l : Int)) 1 = ((2 ^ l / 2 : Nat) : Int):=(by decide : ∀ l≤5,lW .i64 (oY .i64 1 ((l : Nat) : Int)) 1 = ((2 ^ l / 2 : Nat) : Int)) l h
theorem Md {l : Nat} (h : l≤5) : oY .i64 1 (l : Int) = ((2 ^ l : Nat) : Int):=(by decide : ∀ l≤5,oY .i64 1 ((l : Nat) : Int) = ((2 ^ l : Nat) : Int)) l h
theorem kt {l : Nat} (h : l≤5) : 1≤2 ^ l∧2 ^ l≤32:=(by decide : ∀ l≤5,1≤2 ^ l∧2 ^ l≤32) l h
def ie (x : Int) : Option (Int × Int):=if rz x = 0 then none else some (x - ((2 ^ rz x / 2 : Nat) : Int),x + ((2 ^ rz x / 2 : Nat) : Int))
def kY (x : Int) : Int × Int:=if 0≤x∧x < 63 then ((lo x.toNat : Int),(hi x.toNat : Int)) else (0,-1)
theorem rA (x : Int) : 2 ^ rz x / 2 = 0↔rz x = 0:=by
  have:=Dp x;generalize rz x = l at *
  exact (by decide : ∀ l≤5,2 ^ l / 2 = 0↔l = 0) l this
theorem SB : ∀ n : Nat,n < 63→ou .i64 (ed .i64 (n : Int) (ed .i64 ((2 ^ lv n : Nat) : Int) 1)) 2 = (lo n : Int)∧ou .i64 (jn .i64 (n : Int) (ed .i64 ((2 ^ lv n : Nat) : Int) 1)) 2 = (hi n : Int):=by decide +kernel
end Go.AM
namespace Go.Proofs.YtcjifoccjlpapaaGreatDoor
open Go Go.AM Go.Proofs Tryz
variable {Γ : Nat→List AV}
theorem zC (x : Int) (s : AS) : ah prog Γ 213 [.v (.int .i64 x)] s (fun r s'=>r = .v (.bool (decide (0≤x∧x < 63)))∧s' = s):=by
 refine ab func213 rfl ntmps213 results213 (by simp) ?_;refine jA ?_;by_cases h : 0≤x
 ·refine jB (decide_eq_true h) ?_;refine jI ?_;exact jW ⟨by simp [h],rfl⟩
 ·refine jB (decide_eq_false h) ?_;refine jI ?_;exact jW ⟨by simp [h],rfl⟩
theorem HF (hG : Γ 3 = eW.map nj) (n : Nat) (hn : n < 63) (s : AS) : ah prog Γ 250 [.v (.int .u64 ((n + 1 : Nat) : Int))] s (fun r s'=>r = .v (.int .i64 (lv n))∧s' = s):=by
 refine ab func250 rfl ntmps250 results250 (by simp) ?_;have h0 : (((n + 1 : Nat) : Int) == 0) = false:=(by simp; omega);refine jA ?_;refine wK fun K hK=>?_;refine jB @h0 ?_;refine jF ?_;refine ad ?_;refine hK _ _ ?_;clear hK K;obtain ⟨k,hk,xbj,kF⟩:=SA n hn;have hl:=xy n;have KX : ((0 : Int)≤(k : Int)) = True:=eq_true (by omega);have oB : ((k : Int) < ((64 : Nat) : Int)) = True:=eq_true (by omega);refine wS fun K hK=>?_;simp only [↓DN,Qa,Qb,Qc,Qd,Qe,Qf,Qg,Qh,reduceCtorEq,↓reduceIte,Na,Nb,Nc,Nk,Nf,Ng,Nh,Za,Zb,Zc,TT,hG,xbj,KX,oB,kF,nj,LD (show lv n < 2 ^ 62 by omega)];refine hK _ _ ?_;clear hK K;exact jJ
theorem Me (hG : Γ 3 = eW.map nj) (n : Nat) (hn : n < 63) (s : AS) : ah prog Γ 232 [.v (.int .u64 ((n + 1 : Nat) : Int))] s (fun r s'=>r = .v (.int .i64 (lv n))∧s' = s):=by
 refine ab func232 rfl ntmps232 results232 (by simp) ?_;refine jA ?_;refine wK fun K hK=>?_;refine jF ?_;refine ad ?_;refine hK _ _ ?_;clear hK K;refine jK (HF hG n hn _) ?_;rintro s1 rfl;exact jJ
theorem qD (hG : Γ 3 = eW.map nj) (x : Int) (s : AS) : ah prog Γ 214 [.v (.int .i64 x)] s (fun r s'=>r = .v (.int .i64 (rz x))∧s' = s):=by
 refine ab func214 rfl ntmps214 results214 (by simp) ?_;refine jA ?_;refine wK fun K hK=>?_;refine jQ fun K hK=>?_;refine ae (zC x _) ?_;rintro r s1 ⟨rfl,rfl⟩;by_cases h : 0≤x∧x < 63
 ·obtain ⟨n,rfl⟩:=Int.eq_ofNat_of_zero_le h.1;have hn : n < 63:=(by omega);rw [decide_eq_true h];refine jR hK ?_;clear hK K;refine jF ?_;refine ad ?_;refine hK _ _ ?_;clear hK K;have e1 : ee .u64 (jn .i64 (n : Int) 1) = ((n + 1 : Nat) : Int):=(by rw [eH n (by omega),kC (by omega)]);refine jS @e1 fun K hK=>?_;refine ae (Me hG n hn _) ?_;rintro r s2 ⟨rfl,rfl⟩;refine jR hK ?_;clear hK K;refine jI ?_;rw [fI hn];exact jW ⟨rfl,rfl⟩
 ·rw [decide_eq_false h];refine jR hK ?_;clear hK K;refine jE ?_;refine jA ?_;refine jI ?_;rw [show rz x = 0 from if_neg h];exact jW ⟨rfl,rfl⟩
theorem px (hG : Γ 3 = eW.map nj) (x : Int) (s : AS) : ah prog Γ 228 [.v (.int .i64 x)] s (fun r s'=>r = .v (.int .i64 ((2 ^ rz x / 2 : Nat) : Int))∧s' = s):=by
 refine ab func228 rfl ntmps228 results228 (by simp) ?_;have hl : rz x≤5:=(by unfold rz; split; exact xy _; omega);refine jA ?_;refine jK (qD hG x _) ?_;rintro s1 rfl;refine jI ?_;rw [O4 hl];exact jW ⟨rfl,rfl⟩
theorem jc (hG : Γ 3 = eW.map nj) (x : Int) (hx : -9000000000000000000≤x∧x≤9000000000000000000) (s : AS) : ah prog Γ 201 [.v (.int .i64 x)] s (fun r s'=>r = (match ie x with | some k=>.dZ [.v (.int .i64 k.1),.v (.bool true)] | none=>.dZ [.v (.int .i64 0),.v (.bool false)])∧s' = s):=by
 refine ab func201 rfl ntmps201 results201 (by simp) ?_;have hl:=Dp x;have hp:=kt hl;refine jA ?_;refine wK fun K hK=>?_;refine jQ fun K hK=>?_;refine ae (px hG x _) ?_;rintro r s1 ⟨rfl,rfl⟩;by_cases h : rz x = 0
 ·have h0 : (((2 ^ rz x / 2 : Nat) : Int) == 0) = true:=(by rw [beq_iff_eq]; have:=(rA x).2 h; omega);refine jV @h0 hK ?_;clear hK K;refine jE ?_;refine jA ?_;refine jI ?_;rw [show ie x = none from if_pos h];exact jW ⟨rfl,rfl⟩
 ·have h0 : (((2 ^ rz x / 2 : Nat) : Int) == 0) = false:=by
   rw [beq_eq_false_iff_ne];intro e;exact h ((rA x).1 (by omega))
  refine jV @h0 hK ?_;clear hK K;refine jF ?_;refine ad ?_;refine hK _ _ ?_;clear hK K;refine jQ fun K hK=>?_;refine ae (px hG x _) ?_;rintro r s2 ⟨rfl,rfl⟩;refine jV (b6 (a:=x) (b:=((2 ^ rz x / 2 : Nat) : Int)) (by omega)) hK ?_;clear hK K;refine jI ?_;rw [show ie x = some (_,_) from if_neg h];exact jW ⟨rfl,rfl⟩
theorem nZ (hG : Γ 3 = eW.map nj) (x : Int) (hx : -9000000000000000000≤x∧x≤9000000000000000000) (s : AS) : ah prog Γ 200 [.v (.int .i64 x)] s (fun r s'=>r = (match ie x with | some k=>.dZ [.v (.int .i64 k.2),.v (.bool true)] | none=>.dZ [.v (.int .i64 0),.v (.bool false)])∧s' = s):=by
 refine ab func200 rfl ntmps200 results200 (by simp) ?_;have hl:=Dp x;have hp:=kt hl;refine jA ?_;refine wK fun K hK=>?_;refine jQ fun K hK=>?_;refine ae (px hG x _) ?_;rintro r s1 ⟨rfl,rfl⟩;by_cases h : rz x = 0
 ·have h0 : (((2 ^ rz x / 2 : Nat) : Int) == 0) = true:=(by rw [beq_iff_eq]; have:=(rA x).2 h; omega);refine jV @h0 hK ?_;clear hK K;refine jE ?_;refine jA ?_;refine jI ?_;rw [show ie x = none from if_pos h];exact jW ⟨rfl,rfl⟩
 ·have h0 : (((2 ^ rz x / 2 : Nat) : Int) == 0) = false:=by
   rw [beq_eq_false_iff_ne];intro e;exact h ((rA x).1 (by omega))
  refine jV @h0 hK ?_;clear hK K;refine jF ?_;refine ad ?_;refine hK _ _ ?_;clear hK K;refine jQ fun K hK=>?_;refine ae (px hG x _) ?_;rintro r s2 ⟨rfl,rfl⟩;refine jV (gF (a:=x) (b:=((2 ^ rz x / 2 : Nat) : Int)) (by omega)) hK ?_;clear hK K;refine jI ?_;rw [show ie x = some (_,_) from if_neg h];exact jW ⟨rfl,rfl⟩
theorem sI (hG : Γ 3 = eW.map nj) (x : Int) (s : AS) : ah prog Γ 173 [.v (.int .i64 x)] s (fun r s'=>r = .dZ [.v (.int .i64 (kY x).1),.v (.int .i64 (kY x).2)]∧s' = s):=by
 refine ab func173 rfl ntmps173 results173 (by simp) ?_;refine jA ?_;refine wK fun K hK=>?_;refine jQ fun K hK=>?_;refine ae (zC x _) ?_;rintro r s1 ⟨rfl,rfl⟩;by_cases h : 0≤x∧x < 63
 ·obtain ⟨n,rfl⟩:=Int.eq_ofNat_of_zero_le h.1;have hn : n < 63:=(by omega);have hl:=xy n;have hp:=kt hl;obtain ⟨u1,u2⟩:=SB n hn;rw [decide_eq_true h];refine jR hK ?_;clear hK K;refine jF ?_;refine ad ?_;refine hK _ _ ?_;clear hK K;refine jQ fun K hK=>?_;refine ae (qD hG n _) ?_;rintro r s2 ⟨rfl,rfl⟩;refine jV (Ai (fI hn) (Md hl)) hK ?_;clear hK K;refine jB (Ai @u1 @u2) ?_;refine jI ?_;rw [show kY (n : Int) = ((lo n : Int),(hi n : Int)) from if_pos h];exact jW ⟨rfl,rfl⟩
 ·rw [decide_eq_false h];refine jR hK ?_;clear hK K;refine jE ?_;refine jA ?_;refine jI ?_;rw [show kY x = (0,-1) from if_neg h];exact jW ⟨rfl,rfl⟩
end Go.Proofs.YtcjifoccjlpapaaGreatDoor
namespace Go.AM
open Go
theorem gB {a b : Int} (h : a = b) : (a == b) = true:=by simpa using h
theorem e8 {a b : Int} (h : a≠b) : (a == b) = false:=by simpa using h
theorem O5 {a b : Int} (h : a≠b) : (a != b) = true:=by simpa using h
theorem eqI {a b : Int} (h : a = b) : (a != b) = false:=by simpa using h
theorem lG : ((2 : Int) = 0) = False:=by decide
theorem Dq {a : Nat} (h : a = 0) : ((a : Int) == 0) = true:=by subst h; rfl
theorem uI {a : Nat} (h : a≠0) : ((a : Int) == 0) = false:=by simpa using h
theorem Mf {a k : Nat} (h : a = k) : ((a : Int) == (k : Int)) = true:=by subst h; simp
theorem Mg {a k : Nat} (h : a≠k) : ((a : Int) == (k : Int)) = false:=by simp only [beq_eq_false_iff_ne,ne_eq]; omega
theorem xz {a b : Nat} (h : a≠b) : ((a : Int) != (b : Int)) = true:=by simp only [bne_iff_ne,ne_eq]; omega
theorem pU {a b : Nat} (h : a = b) : ((a : Int) != (b : Int)) = false:=by subst h; simp
theorem zD {a b : List UInt8} (h : a≠b) : (a != b) = true∧(!a == b) = true:=⟨by simpa using h,by simpa using h⟩
theorem vX {a b : List UInt8} (h : a = b) : (a != b) = false∧(!a == b) = false:=by subst h; simp
theorem aQ (i : Nat) (h : i < 9223372036854775807) : jn .i64 (i : Int) 1 = ((i + 1 : Nat) : Int):=by
  rw [gF (by omega)]; omega
theorem dR (m : Nat) (h : m < 9223372036854775807) : ou .i64 (m : Int) 2 = ((m / 2 : Nat) : Int):=by
  have e : (m : Int).tdiv 2 = ((m / 2 : Nat) : Int):=(Int.ofNat_tdiv m 2).symm;unfold ou;rw [e];exact IntWalk.i64_in _ (by omega)
theorem bw (m : Nat) (h : m < 4611686018427387904) : kO .i64 2 (m : Int) = ((2 * m : Nat) : Int):=by
  rw [fh (by omega)]; omega
theorem X5 (a : Nat) : decide ((a : Int) < 0) = false:=decide_eq_false (by omega)
theorem O6 : ∀ n : Nat,n≤32→1≤n→(A9 .i64 (n : Int) (ed .i64 (n : Int) 1) == 0) = decide (Fit n):=by decide +kernel
theorem mC {n : Nat} : th (n : Int)↔Fit n:=by unfold th; rw [Int.toNat_natCast]; exact ⟨fun h=>h.2,fun h=>⟨by omega,h⟩⟩
theorem qE {x : Int} (h : th x) : 1≤x∧x≤32:=by have:=h.2.le; have:=h.1; omega
def HG (x : Int) : Int:=if th x then 2 * x - 1 else 0
def ti (n l : Nat) : Option Nat:=if n = l - 1 then none else some (pT n)
theorem J9 : ∀ n : Nat,n < 63→(A9 .i64 (n : Int) (kO .i64 2 ((2 ^ lv n : Nat) : Int)) == 0) = decide (n / 2 ^ (lv n + 1) % 2 = 0)∧jn .i64 (n : Int) ((2 ^ lv n : Nat) : Int) = ((n + 2 ^ lv n : Nat) : Int) ∧
    (¬ n / 2 ^ (lv n + 1) % 2 = 0→ed .i64 (n : Int) ((2 ^ lv n : Nat) : Int) = ((n - 2 ^ lv n : Nat) : Int)):=by decide +kernel
def nodeAt (leaf l : Nat) : Nat→Nat
  | 0=>2 * leaf
  | i + 1=>(aD leaf l).getD i 0
theorem Fit.pow {n : Nat} (h : Fit n) : ∃ m,m≤5∧n = 2 ^ m:=by
  rcases h with rfl | rfl | rfl | rfl | rfl | rfl
  · exact ⟨0,by decide,rfl⟩
  · exact ⟨1,by decide,rfl⟩
  · exact ⟨2,by decide,rfl⟩
  · exact ⟨3,by decide,rfl⟩
  · exact ⟨4,by decide,rfl⟩
  · exact ⟨5,by decide,rfl⟩
theorem HI {leaf l : Nat} (hl : Fit l) (h : leaf < l) {i : Nat} (hi : i≤(aD leaf l).length) : nodeAt leaf l i < 2 * l - 1∧ti (nodeAt leaf l i) l = (aD leaf l)[i]?:=by
  obtain ⟨m,hm,rfl⟩:=hl.pow;exact (by decide +kernel : ∀ m≤5,∀ leaf < 2 ^ m,∀ i≤(aD leaf (2 ^ m)).length,nodeAt leaf (2 ^ m) i < 2 * 2 ^ m - 1∧ti (nodeAt leaf (2 ^ m) i) (2 ^ m) = (aD leaf (2 ^ m))[i]?) m hm leaf h i hi
theorem fk {leaf l : Nat} (hl : Fit l) (h : leaf < l) : (aD leaf l).length≤5:=by
  obtain ⟨m,hm,rfl⟩:=hl.pow;exact (by decide +kernel : ∀ m≤5,∀ leaf < 2 ^ m,(aD leaf (2 ^ m)).length≤5) m hm leaf h
theorem iw {leaf l : Nat} (hl : Fit l) (h : leaf < l) : ∀ x ∈ aD leaf l,x < 2 * l - 1∧x % 2 = 1∧lo x≤leaf∧leaf≤hi x:=by
  obtain ⟨m,hm,rfl⟩:=hl.pow;exact (by decide +kernel : ∀ m≤5,∀ leaf < 2 ^ m,∀ x ∈ aD leaf (2 ^ m),x < 2 * 2 ^ m - 1∧x % 2 = 1∧lo x≤leaf∧leaf≤hi x) m hm leaf h
def qa (leaf l : Nat) : List Nat:=(aD leaf l).reverse ++ [2 * leaf]
def yz (leaf l : Nat) : Nat→Nat × Nat
  | 0=>(0,2 * l - 2)
  | j + 1=>let s:=yz leaf l j; let qb:=(s.1 + s.2) / 2; if 2 * leaf < qb then (s.1,qb - 1) else (qb + 1,s.2)
theorem Ka {leaf l : Nat} (hl : Fit l) (h : leaf < l) {j : Nat} (hj : j < (qa leaf l).length) :
    (qa leaf l)[j]? = some (((yz leaf l j).1 + (yz leaf l j).2) / 2)∧(j + 1 = (qa leaf l).length↔2 * leaf = ((yz leaf l j).1 + (yz leaf l j).2) / 2)∧(yz leaf l j).1 + (yz leaf l j).2≤200:=by
  obtain ⟨m,hm,rfl⟩:=hl.pow;exact (by decide +kernel : ∀ m≤5,∀ leaf < 2 ^ m,∀ j < (qa leaf (2 ^ m)).length,(qa leaf (2 ^ m))[j]? = some (((yz leaf (2 ^ m) j).1 + (yz leaf (2 ^ m) j).2) / 2)∧(j + 1 = (qa leaf (2 ^ m)).length↔2 * leaf = ((yz leaf (2 ^ m) j).1 + (yz leaf (2 ^ m) j).2) / 2)∧(yz leaf (2 ^ m) j).1 + (yz leaf (2 ^ m) j).2≤200) m hm leaf h j hj
theorem O7 : ∀ n < 63,(n % 2 = 1→lv n = lv (n / 2) + 1)∧(n % 2 = 0→lv n = 0):=by decide +kernel
theorem O8 : ∀ n < 63,lv n≠0→lo (n - hf n) = lo n∧lv (n - hf n) + 1 = lv n∧n - hf n < 63∧hf n≤n:=by decide +kernel
theorem O9 : ∀ n < 63,lv n≠0→hi (n + hf n) = hi n∧lv (n + hf n) + 1 = lv n∧n + hf n < 63:=by decide +kernel
theorem IX : ∀ n < 63,lv n = 0→lo n = n / 2∧hi n = n / 2:=by decide +kernel
def bt (l : List Nat) : List Int:=l.map fun (n : Nat)=>(n : Int)
theorem bZ (l : List Nat) : (bt l).length = l.length:=by simp [bt]
end Go.AM
namespace Go.Proofs.YtcjifoccjlpapaaGreatDoor
open Go Go.AM Go.Proofs Tryz
variable {Γ : Nat→List AV}
theorem uJ (x : Int) (s : AS) : ah prog Γ 171 [.v (.int .i64 x)] s (fun r s'=>r = .v (.bool (decide (th x)))∧s' = s):=by
 refine ab func171 rfl ntmps171 results171 (by simp) ?_;refine jA ?_;by_cases h1 : 1≤x
 ·by_cases h2 : x≤32
  ·obtain ⟨n,rfl⟩:=Int.eq_ofNat_of_zero_le (show 0≤x by omega);refine jB (Ai (decide_eq_true h1) (Ai (decide_eq_true h2) (O6 n (by omega) (by omega)))) ?_;refine jI ?_;exact jW ⟨by simp only [mC],rfl⟩
  ·have hn : decide (th x) = false:=(decide_eq_false fun h=>by have:=qE h; omega);refine jB (Ai (decide_eq_true h1) (decide_eq_false h2)) ?_;refine jI ?_;rw [hn];exact jW ⟨rfl,rfl⟩
 ·have hn : decide (th x) = false:=(decide_eq_false fun h=>by have:=qE h; omega);refine jB (decide_eq_false h1) ?_;refine jI ?_;rw [hn];exact jW ⟨rfl,rfl⟩
theorem n6 (x : Int) (s : AS) : ah prog Γ 172 [.v (.int .i64 x)] s (fun r s'=>r = .v (.int .i64 (HG x))∧s' = s):=by
 refine ab func172 rfl ntmps172 results172 (by simp) ?_;refine jA ?_;refine wK fun K hK=>?_;refine jQ fun K hK=>?_;refine ae (uJ x _) ?_;rintro r s1 ⟨rfl,rfl⟩;by_cases h : th x
 ·have hb:=qE h;rw [decide_eq_true h];refine jR hK ?_;clear hK K;refine jF ?_;refine ad ?_;refine hK _ _ ?_;clear hK K;refine jA ?_;refine jI ?_;rw [fh (a:=2) (b:=x) (by omega),b6 (a:=2 * x) (b:=1) (by omega),show HG x = 2 * x - 1 from if_pos h];exact jW ⟨rfl,rfl⟩
 ·rw [decide_eq_false h];refine jR hK ?_;clear hK K;refine jE ?_;refine jA ?_;refine jI ?_;rw [show HG x = 0 from if_neg h];exact jW ⟨rfl,rfl⟩
theorem Fs {l : Nat} (h : Fit l) : HG (l : Int) = ((2 * l - 1 : Nat) : Int):=by
 have:=h.le;unfold HG;rw [if_pos (mC.2 h)];omega
theorem n8 (hG : Γ 3 = eW.map nj) (n l : Nat) (hl : Fit l) (hn : n < 2 * l - 1) (s : AS) : ah prog Γ 199 [.v (.int .i64 n),.v (.int .i64 l)] s
  (fun r s'=>r = .dZ [.v (.int .i64 ((ti n l).getD 0)),.v (.bool (ti n l).isSome)]∧s' = s):=by
 refine ab func199 rfl ntmps199 results199 (by simp) ?_;have Ft:=hl.le;have JM : n < 63:=(by omega);have h0 : decide ((n : Int) < 0) = false:=decide_eq_false (by omega);have h1 : decide (((2 * l - 1 : Nat) : Int)≤(n : Int)) = false:=decide_eq_false (by omega);have hw:=Fs hl;have hp:=kt (xy n);obtain ⟨a1,a2,a3⟩:=J9 n JM;refine jA ?_;refine wK fun K hK=>?_;refine jS @h0 fun K hK=>?_;refine ae (n6 l _) ?_;rintro r s1 ⟨rfl,rfl⟩;by_cases he : n = l - 1
 ·have h2 : (((n : Nat) : Int) == ed .i64 (l : Int) 1) = true:=(by rw [b6 (by omega),beq_iff_eq]; omega);refine jV (Ai @hw (Ai @h1 @h2)) hK ?_;clear hK K;refine jE ?_;refine jA ?_;refine jI ?_;rw [show ti n l = none from if_pos he];exact jW ⟨rfl,rfl⟩
 ·have h2 : (((n : Nat) : Int) == ed .i64 (l : Int) 1) = false:=(by rw [b6 (by omega),beq_eq_false_iff_ne]; omega);have ha : ti n l = some (pT n):=if_neg he;refine jV (Ai @hw (Ai @h1 @h2)) hK ?_;clear hK K;refine jF ?_;refine ad ?_;refine hK _ _ ?_;clear hK K;refine jQ fun K hK=>?_;refine ae (qD hG n _) ?_;rintro r s2 ⟨rfl,rfl⟩;refine jV (Ai (fI JM) (Md (xy n))) hK ?_;clear hK K;refine wK fun K hK=>?_;by_cases hb : n / 2 ^ (lv n + 1) % 2 = 0
  ·rw [decide_eq_true hb] at a1;refine jB @a1 ?_;refine jE ?_;refine jB @a2 ?_;refine jI ?_;rw [ha,show pT n = n + 2 ^ lv n from if_pos hb];exact jW ⟨rfl,rfl⟩
  ·rw [decide_eq_false hb] at a1;refine jB @a1 ?_;refine jF ?_;refine ad ?_;refine hK _ _ ?_;clear hK K;refine jB (a3 hb) ?_;refine jI ?_;rw [ha,show pT n = n - 2 ^ lv n from if_neg hb];exact jW ⟨rfl,rfl⟩
def mD : AV→Nat
 | .sl _ n _ _=>n
 | _=>0
theorem lH (hG : Γ 3 = eW.map nj) (leaf l : Nat) (hl : Fit l) (hn : leaf < l) (s : AS) : ah prog Γ 149 [.v (.int .i64 leaf),.v (.int .i64 l)] s
  (fun r s'=>r = aC (bt (aD leaf l)) .any∧s' = s):=by
 refine ab func149 rfl ntmps149 results149 (by simp) ?_;have Ft:=hl.le;have xd:=fk hl hn;have h0 : decide ((leaf : Int) < 0) = false:=decide_eq_false (by omega);have h1 : decide ((l : Int)≤(leaf : Int)) = false:=decide_eq_false (by omega);have il:=fun (i : Nat) (h : i≤(aD leaf l).length)=>HI hl hn h;have tS : ∀ i,i < (aD leaf l).length→nodeAt leaf l (i + 1) = (aD leaf l).getD i 0:=fun i _=>rfl;have hna : nodeAt leaf l 0 = 2 * leaf:=rfl;generalize aD leaf l = P at *
 refine jA ?_;refine wK fun K hK=>?_;refine jB (Ai @h0 @h1) ?_;refine jF ?_;refine ad ?_;refine hK _ _ ?_;clear hK K;refine jA ?_;refine wK fun K hK=>?_;refine jQ fun K hK=>?_;obtain ⟨w0,w1⟩:=il 0 (Nat.zero_le _);rw [hna] at w0 w1;have e0 : kO .i64 2 (leaf : Int) = ((2 * leaf : Nat) : Int):=(by rw [fh (by omega)]; omega);rw [e0];refine ae (n8 hG (2 * leaf) l hl w0 _) ?_;rintro r s1 ⟨rfl,rfl⟩;rw [w1];refine jR hK ?_;clear hK K;refine ag ?_;refine aH (fun E s2=>∃ (i : Nat) (x : AV),i≤P.length∧E 6 = .v (.int .i64 (((P[i]?).getD 0 : Nat) : Int))∧E 7 = .v (.bool (P[i]?).isSome)∧E 1 = .v (.int .i64 l)∧E 5 = x∧cU 1 s1 s2 x i ((bt (P.take i)).map aE)∧s1.le s2)
  (fun E _=>P.length + 1 - mD (E 5)) ?_ ?_
 ·exact ⟨0,bL,Nat.zero_le _,rfl,rfl,rfl,rfl,cU.nil _ _ _,AS.le.refl _⟩
 ·rintro E1 s2 ⟨i,x,hi,g6,g7,g1,g5,hx,hle⟩ -
  refine wK fun K2 aX=>?_;by_cases aO : i < P.length
  ·have hp : P[i]? = some P[i]:=List.getElem?_eq_getElem aO;rw [hp] at g6 g7;simp only [Option.getD_some,Option.isSome_some] at g6 g7;refine jB @g7 ?_;refine jE ?_;refine ad ?_;refine aX _ _ ?_;clear aX K2;refine wK fun K3 bB=>?_;refine ag ?_;have X6 : nodeAt leaf l (i + 1) = P[i]:=(by rw [tS i aO,List.getD,hp]; rfl);obtain ⟨w2,w3⟩:=il (i + 1) aO;rw [X6] at w2 w3;have gQ : bt (P.take (i + 1)) = bt (P.take i) ++ [((P[i] : Nat) : Int)]:=(by unfold bt; rw [List.take_succ_eq_append_getElem aO,List.map_append]; rfl);have bO : ∀ (E : Env) (s3 : AS) (x3 : AV),E 6 = .v (.int .i64 (P[i] : Nat))→E 1 = .v (.int .i64 l)→E 5 = x3→cU 1 s1 s3 x3 (i + 1) ((bt (P.take (i + 1))).map aE)→s1.le s3→K3 E s3:=by
    intro E s3 x3 f6 f1 f5 fx vY;refine bB _ _ ?_;clear bB K3;refine jU (Ai @f6 @f1) fun K hK=>?_;refine ae (n8 hG (P[i]) l hl w2 _) ?_;rintro r s4 ⟨rfl,rfl⟩;rw [w3];refine jM ?_;refine hK _ _ ⟨⟨i + 1,x3,aO,rfl,rfl,f1,f5,fx,vY⟩,?_⟩;have m1 : mD (E1 5) = i:=by
     rw [g5];rcases hx with ⟨rfl,rfl,_⟩ | ⟨t,e,rfl,_⟩ <;> rfl
    have m2 : mD (E 5) = i + 1:=by
     rw [f5];rcases fx with ⟨rfl,h,_⟩ | ⟨t,e,rfl,_⟩
     ·omega
     ·rfl
    simp only [aG,Nc,↓reduceIte,m1,m2];omega
   clear bB;rcases hx with ⟨rfl,lI,rV⟩ | ⟨t,e,rfl,ht,iO⟩
   ·refine wE fun K hK=>?_;simp only [↓DN,Qa,Qb,Qc,Qd,Qe,Qf,Qg,Qh,reduceCtorEq,↓reduceIte,Na,Nb,Nc,Nk,Nf,Ng,Nh,Za,Zb,Zc,TT,g5,g6,bL,List.replicate_succ];intro t ht;refine hK _ _ (bO _ _ (.sl 1 1 [.v (.int .i64 ((P[i] : Nat) : Int))] (.own t 0)) g6 g1 rfl ?_ ?_)
    ·refine .inr ⟨t,0,?_,by simp [AS.cd],bd hle ht⟩;rw [gQ,List.map_append,rV];subst lI;rfl
    ·exact AS.bC hle (bd hle ht) 0
   ·refine wE fun K hK=>?_;simp only [↓DN,Qa,Qb,Qc,Qd,Qe,Qf,Qg,Qh,reduceCtorEq,↓reduceIte,Na,Nb,Nc,Nk,Nf,Ng,Nh,Za,Zb,Zc,TT,g5,g6,ht,List.replicate_succ];have yA : (bt (P.take i)).length = i:=(by rw [bZ,List.length_take]; omega);refine ⟨by omega,by omega,hK _ _ (bO _ _ (.sl 1 (i + 1) ((bt (P.take i)).map aE ++ [.v (.int .i64 ((P[i] : Nat) : Int))]) (.own t (e + 1))) g6 g1 rfl ?_ ?_)⟩
    ·exact .inr ⟨t,e + 1,by rw [gQ,List.map_append]; rfl,by simp [AS.cd],iO⟩
    ·exact AS.bC hle iO (e + 1)
  ·have hp : P[i]? = none:=List.getElem?_eq_none (by omega);rw [hp] at g7;simp only [Option.isSome_none] at g7;refine jB @g7 ?_;refine jF ?_;refine aB ?_;simp only [av,aq,if_true];refine hK _ _ ?_;clear hK aX K2 K;obtain rfl : i = P.length:=(by omega);rw [List.take_of_length_le (Nat.le_refl _)] at hx;have hw:=hx.aL;refine jB @g5 ?_;refine jI ?_;refine ⟨_,_,?_,hle,rfl,rfl⟩;have yA:=bZ P;unfold aC;rw [yA];exact hw
theorem Mh (x : Int) : th x↔x = 1∨x = 2∨x = 4∨x = 8∨x = 16∨x = 32:=by unfold th Fit; omega
theorem pV (x : Int) (s : AS) : ah prog Γ 145 [.v (.int .i64 x)] s (fun r s'=>r = .v (.bool (decide (th x)))∧s' = s):=by
 refine ab func145 rfl ntmps145 results145 (by simp) ?_;refine jA ?_;rcases tt6 (x == 1) (x == 2) (x == 4) (x == 8) (x == 16) (x == 32) with hd | hd | hd | hd | hd | hd | hd;all_goals
  refine jB @hd ?_;refine jI ?_;simp only [beq_iff_eq,beq_eq_false_iff_ne,ne_eq] at hd;have hf:=Mh x
 case inr.inr.inr.inr.inr.inr =>
  rw [decide_eq_false (by rw [hf]; omega)];exact jW ⟨rfl,rfl⟩
 all_goals
  rw [decide_eq_true (by rw [hf]; omega)];exact jW ⟨rfl,rfl⟩
theorem gV (x : Int) (s : AS) : ah prog Γ 198 [.v (.int .i64 x)] s (fun r s'=>r = .v (.int .i64 (rz x))∧s' = s):=by
 refine ab func198 rfl ntmps198 results198 (by simp) ?_;refine jA ?_;refine wK fun K hK=>?_;by_cases h : 0≤x∧x < 63
 ·obtain ⟨n,rfl⟩:=Int.eq_ofNat_of_zero_le h.1;have hn : n < 63:=(by omega);have h0 : decide ((n : Int) < 0) = false:=decide_eq_false (by omega);have h1 : decide ((62 : Int) < (n : Int)) = false:=decide_eq_false (by omega);refine jB (Ai @h0 @h1) ?_;refine jF ?_;refine ad ?_;refine hK _ _ ?_;clear hK K;refine jA ?_;refine wK fun K hK=>?_;refine jA ?_;refine ag ?_;refine aH (fun E s2=>∃ (k m : Nat),m < 63∧k + lv m = lv n∧E 3 = .v (.int .i64 k)∧E 4 = .v (.int .i64 m)∧s2 = s)
   (fun E _=>match E 4 with | .v (.int _ i)=>i.toNat | _=>0) ?_ ?_
  ·exact ⟨0,n,hn,by omega,rfl,rfl,rfl⟩
  ·rintro E1 s2 ⟨k,m,hm,hk,g3,g4,rfl⟩ -
   refine wK fun K2 aX=>?_;have qF:=O7 m hm;have hr : m8 (m : Int) 2 = ((m % 2 : Nat) : Int):=vK m 2;have hq : ou .i64 (m : Int) 2 = ((m / 2 : Nat) : Int):=dR m (by omega);by_cases xbl : m % 2 = 1
   ·have Ba:=qF.1 xbl;have hle:=xy n;have hy : ((m8 (m : Int) 2) == 1) = true:=(by rw [hr]; exact gB (by omega));refine jB (Ai @g4 @hy) ?_;refine wC fun X Y hX hY=>?_;refine jP (Ai @DB @hy) ?_;refine hX ?_;clear hX hY X Y;refine ad ?_;refine aX _ _ ?_;clear aX K2;refine wK fun K3 bB=>?_;refine ag ?_;refine jD @g3 ?_;simp only [aq,av,if_true,if_false];refine bB _ _ ?_;clear bB K3;refine jD (Ai @g4 (Ai @hq (eH k (by omega)))) ?_;refine ⟨⟨k + 1,m / 2,by omega,by omega,rfl,rfl,rfl⟩,?_⟩;simp only [g4,aG,↓reduceIte];omega
   ·have Ba:=qF.2 (by omega);have hy : ((m8 (m : Int) 2) == 1) = false:=(by rw [hr]; exact e8 (by omega));refine jB (Ai @g4 @hy) ?_;refine wC fun X Y hX hY=>?_;refine jP (Ai @DB @hy) ?_;refine hY ?_;clear hX hY X Y;refine aB ?_;simp only [av,aq,if_true];refine hK _ _ ?_;clear hK aX K2 K;refine jB @g3 ?_;refine jI ?_;exact jW ⟨by rw [fI hn,show k = lv n by omega],rfl⟩
 ·rw [show rz x = 0 from if_neg h];by_cases h0 : x < 0
  ·refine jB (decide_eq_true h0) ?_;refine jE ?_;refine jA ?_;exact jJ
  ·have h1 : (62 : Int) < x:=(by omega);refine jB (Ai (decide_eq_false h0) (decide_eq_true h1)) ?_;refine jE ?_;refine jA ?_;exact jJ
theorem dw (x : Int) (hx : -9000000000000000000≤x∧x≤9000000000000000000) (s : AS) : ah prog Γ 166 [.v (.int .i64 x)] s
  (fun r s'=>r = (match ie x with | some k=>.dZ [.v (.int .i64 k.1),.v (.int .i64 k.2),.v (.bool true)] | none=>.dZ [.v (.int .i64 0),.v (.int .i64 0),.v (.bool false)])∧s' = s):=by
 refine ab func166 rfl ntmps166 results166 (by simp) ?_;have hl:=Dp x;have hp:=kt hl;refine jA ?_;refine wK fun K hK=>?_;refine jQ fun K hK=>?_;refine ae (gV x _) ?_;rintro r s1 ⟨rfl,rfl⟩;by_cases h : rz x = 0
 ·refine jV (Dq h) hK ?_;clear hK K;refine jE ?_;refine jA ?_;refine jI ?_;rw [show ie x = none from if_pos h];exact jW ⟨rfl,rfl⟩
 ·refine jV (uI h) hK ?_;clear hK K;refine jF ?_;refine ad ?_;refine hK _ _ ?_;clear hK K;refine jA ?_;refine wK fun K hK=>?_;refine jA ?_;refine ag ?_;refine aH (fun E s2=>∃ (i : Nat),i < rz x∧E 6 = .v (.int .i64 ((i + 1 : Nat) : Int))∧E 5 = .v (.int .i64 ((2 ^ i : Nat) : Int))∧E 0 = .v (.int .i64 x)∧s2 = s1)
   (fun E _=>match E 6 with | .v (.int _ i)=>7 - i.toNat | _=>0) ?_ ?_
  ·exact ⟨0,by omega,rfl,rfl,rfl,rfl⟩
  ·rintro E1 s2 ⟨i,hi,g6,g5,g0,rfl⟩ -
   refine wK fun K2 aX=>?_;refine jS (Ai @g6 @g0) fun K hK=>?_;refine ae (gV x _) ?_;rintro r s3 ⟨rfl,rfl⟩;by_cases aO : i + 1 < rz x
   ·refine jV (Ai @af (decide_eq_true aO)) hK ?_;clear hK K;refine jE ?_;refine ad ?_;refine aX _ _ ?_;clear aX K2;refine wK fun K3 bB=>?_;refine ag ?_;have hp2:=kt (show i≤5 by omega);have hm : kO .i64 ((2 ^ i : Nat) : Int) 2 = ((2 ^ (i + 1) : Nat) : Int):=(by rw [fh (by omega),Nat.pow_succ]; omega);refine jD (Ai @g5 @hm) ?_;simp only [aq,av,if_true,if_false];refine bB _ _ ?_;clear bB K3;refine jD (Ai @g6 (eH (i + 1) (by omega))) ?_;refine ⟨⟨i + 1,aO,rfl,rfl,g0,rfl⟩,?_⟩;simp only [g6,aG,↓reduceIte];omega
   ·refine jV (Ai @af (decide_eq_false aO)) hK ?_;clear hK K;refine jF ?_;refine aB ?_;simp only [av,aq,if_true];refine hK _ _ ?_;clear hK aX K2 K;have he : 2 ^ i = 2 ^ rz x / 2:=by
     rw [show rz x = i + 1 by omega,Nat.pow_succ]; omega
    rw [he] at g5;refine jB (Ai @g5 (Ai @g0 (Ai (b6 (a:=x) (b:=((2 ^ rz x / 2 : Nat) : Int)) (by omega)) (gF (a:=x) (b:=((2 ^ rz x / 2 : Nat) : Int)) (by omega))))) ?_;refine jI ?_;rw [show ie x = some (_,_) from if_neg h];exact jW ⟨rfl,rfl⟩
theorem Fu (leaf l : Nat) (hl : Fit l) (hn : leaf < l) (s : AS) : ah prog Γ 146 [.v (.int .i64 ((2 * leaf : Nat) : Int)),.v (.int .i64 l)] s
  (fun r s'=>r = aC (bt (qa leaf l)) .any∧s' = s):=by
 refine ab func146 rfl ntmps146 results146 (by simp) ?_;have Ft:=hl.le;have xd:=fk hl hn;have SC : (qa leaf l).length≤6:=(by simp [qa]; omega);have Lq : 0 < (qa leaf l).length:=(by simp [qa]);have il:=fun (i : Nat) (h : i < (qa leaf l).length)=>Ka hl hn h;have Uh : yz leaf l 0 = (0,2 * l - 2):=rfl;have vE : ∀ j,yz leaf l (j + 1) = (if 2 * leaf < ((yz leaf l j).1 + (yz leaf l j).2) / 2 then ((yz leaf l j).1,((yz leaf l j).1 + (yz leaf l j).2) / 2 - 1) else (((yz leaf l j).1 + (yz leaf l j).2) / 2 + 1,(yz leaf l j).2)):=fun j=>rfl;generalize qa leaf l = P at *
 generalize yz leaf l = S at *
 refine jA ?_;refine jA ?_;have e0 : ed .i64 (kO .i64 2 (l : Int)) 2 = ((2 * l - 2 : Nat) : Int):=(by rw [bw l (by omega),b6 (by omega)]; omega);refine jB @e0 ?_;refine ag ?_;refine aH (fun E s2=>∃ (i : Nat) (x : AV),i < P.length∧E 6 = .v (.int .i64 ((S i).1 : Nat))∧E 7 = .v (.int .i64 ((S i).2 : Nat))∧E 0 = .v (.int .i64 ((2 * leaf : Nat) : Int))∧E 5 = x∧cU 1 s s2 x i ((bt (P.take i)).map aE)∧s.le s2)
  (fun E _=>P.length + 1 - mD (E 5)) ?_ ?_
 ·refine ⟨0,_,Lq,?_,?_,rfl,rfl,cU.nil _ _ _,AS.le.refl _⟩
  ·rw [Uh]; simp only [aG,Nc,↓reduceIte]; rfl
  ·rw [Uh]; simp only [aG,Nc,↓reduceIte]
 ·rintro E1 s2 ⟨i,x,hi,g6,g7,g0,g5,hx,hle⟩ -
  refine ag ?_;obtain ⟨w1,w2,w3⟩:=il i hi;obtain ⟨qb,Mi⟩ : ∃ m,m = ((S i).1 + (S i).2) / 2:=⟨_,rfl⟩;have tj:=vE i;rw [← Mi] at w1 w2 tj;have e1 : ou .i64 (jn .i64 (((S i).1 : Nat) : Int) (((S i).2 : Nat) : Int)) 2 = (qb : Int):=by
   rw [gF (by omega),show (((S i).1 : Nat) : Int) + (((S i).2 : Nat) : Int) = (((S i).1 + (S i).2 : Nat) : Int) by omega,dR _ (by omega),Mi]
  refine jB (Ai @g6 (Ai @g7 @e1)) ?_;have gQ : bt (P.take (i + 1)) = bt (P.take i) ++ [(qb : Int)]:=by
   unfold bt;rw [List.take_succ_eq_append_getElem hi,List.map_append];rw [List.getElem?_eq_getElem hi] at w1;rw [Option.some.inj w1];rfl
  refine wK fun K3 bB=>?_;have bO : ∀ (E : Env) (s3 : AS) (x3 : AV),E 0 = .v (.int .i64 ((2 * leaf : Nat) : Int))→E 6 = .v (.int .i64 ((S i).1 : Nat))→E 7 = .v (.int .i64 ((S i).2 : Nat))→E 8 = .v (.int .i64 qb)→E 5 = x3→cU 1 s s3 x3 (i + 1) ((bt (P.take (i + 1))).map aE)→s.le s3→K3 E s3:=by
   intro E s3 x3 f0 f6 f7 f8 f5 fx vY;refine bB _ _ ?_;clear bB K3;refine wK fun K4 fS=>?_;by_cases he : 2 * leaf = qb
   ·have KY:=w2.2 he;refine jB (Ai @f0 @f8) ?_;refine wC fun X Y hX hY=>?_;refine jP (Ai @DB (gB (show ((2 * leaf : Nat) : Int) = (qb : Int) by omega))) ?_;refine hX ?_;clear hX hY X Y;rw [KY,List.take_of_length_le (Nat.le_refl _)] at fx;have hw:=fx.aL;refine jB @f5 ?_;refine jI ?_;refine ⟨_,_,?_,vY,rfl,rfl⟩;have yA:=bZ P;unfold aC;rw [yA];exact hw
   ·have KY : i + 1 < P.length:=by
     have:=mt w2.1 he;omega
    refine jB (Ai @f0 @f8) ?_;refine wC fun X Y hX hY=>?_;refine jP (Ai @DB (e8 (show ¬ ((2 * leaf : Nat) : Int) = (qb : Int) by omega))) ?_;refine hY ?_;clear hX hY X Y;refine ad ?_;refine fS _ _ ?_;clear fS K4;have m1 : mD (E1 5) = i:=by
     rw [g5];rcases hx with ⟨rfl,rfl,_⟩ | ⟨t,e,rfl,_⟩ <;> rfl
    have m2 : mD (E 5) = i + 1:=by
     rw [f5];rcases fx with ⟨rfl,h,_⟩ | ⟨t,e,rfl,_⟩
     ·omega
     ·rfl
    by_cases cN : 2 * leaf < qb
    ·rw [if_pos cN] at tj;have e2 : ed .i64 (qb : Int) 1 = ((qb - 1 : Nat) : Int):=(by rw [b6 (by omega)]; omega);refine jB (Ai @f0 @f8) ?_;refine wC fun X Y hX hY=>?_;refine jP (Ai @DB (Ai (eq_true (show ((2 * leaf : Nat) : Int) < (qb : Int) by omega)) @not_true_eq_false)) ?_;refine hX ?_;clear hX hY X Y;refine jD (Ai @f8 @e2) ?_;refine ⟨⟨i + 1,x3,KY,?_,?_,f0,f5,fx,vY⟩,?_⟩
     ·rw [tj]; simp only [aG,f6,Nc,↓reduceIte]
     ·rw [tj]; simp only [aG,Nc,↓reduceIte]
     ·simp only [aG,Nc,↓reduceIte,m1,m2];omega
    ·rw [if_neg cN] at tj;refine jB (Ai @f0 @f8) ?_;refine wC fun X Y hX hY=>?_;refine jP (Ai @DB (Ai (eq_false (show ¬ ((2 * leaf : Nat) : Int) < (qb : Int) by omega)) @not_false_eq_true)) ?_;refine hY ?_;clear hX hY X Y;refine jD (Ai @f8 (eH qb (by omega))) ?_;refine ⟨⟨i + 1,x3,KY,?_,?_,f0,f5,fx,vY⟩,?_⟩
     ·rw [tj]; simp only [aG,Nc,↓reduceIte]
     ·rw [tj]; simp only [aG,f7,Nc,↓reduceIte]
     ·simp only [aG,Nc,↓reduceIte,m1,m2];omega
  clear bB;rcases hx with ⟨rfl,lI,rV⟩ | ⟨t,e,rfl,ht,iO⟩
  ·refine wE fun K hK=>?_;simp only [↓DN,Qa,Qb,Qc,Qd,Qe,Qf,Qg,Qh,reduceCtorEq,↓reduceIte,Na,Nb,Nc,Nk,Nf,Ng,Nh,Za,Zb,Zc,TT,g5,bL,List.replicate_succ];intro t ht;refine hK _ _ (bO _ _ (.sl 1 1 [.v (.int .i64 (qb : Int))] (.own t 0)) g0 g6 g7 rfl rfl ?_ ?_)
   ·refine .inr ⟨t,0,?_,by simp [AS.cd],bd hle ht⟩;rw [gQ,List.map_append,rV];subst lI;rfl
   ·exact AS.bC hle (bd hle ht) 0
  ·refine wE fun K hK=>?_;simp only [↓DN,Qa,Qb,Qc,Qd,Qe,Qf,Qg,Qh,reduceCtorEq,↓reduceIte,Na,Nb,Nc,Nk,Nf,Ng,Nh,Za,Zb,Zc,TT,g5,ht,List.replicate_succ];have yA : (bt (P.take i)).length = i:=(by rw [bZ,List.length_take]; omega);refine ⟨by omega,by omega,hK _ _ (bO _ _ (.sl 1 (i + 1) ((bt (P.take i)).map aE ++ [.v (.int .i64 (qb : Int))]) (.own t (e + 1))) g0 g6 g7 rfl rfl ?_ ?_)⟩
   ·exact .inr ⟨t,e + 1,by rw [gQ,List.map_append]; rfl,by simp [AS.cd],iO⟩
   ·exact AS.bC hle iO (e + 1)
theorem Pb {leaf l i : Nat} (h : i < (aD leaf l).length) : (bt (qa leaf l))[(aD leaf l).length - 1 - i]? = some ((((aD leaf l)[i]'h : Nat)) : Int):=by
 unfold bt qa;rw [List.getElem?_map,List.getElem?_append_left (by simp; omega),List.getElem?_reverse (by omega)];rw [show (aD leaf l).length - 1 - ((aD leaf l).length - 1 - i) = i by omega,List.getElem?_eq_getElem h];rfl
theorem fT (leaf l : Nat) (hl : Fit l) (hn : leaf < l) (s : AS) : ah prog Γ 81 [.v (.int .i64 leaf),.v (.int .i64 l)] s
  (fun r s'=>r = aC (bt (aD leaf l)) .any∧s' = s):=by
 refine ab func81 rfl ntmps81 results81 (by simp) ?_;have Ft:=hl.le;have xd:=fk hl hn;have hg:=fun (i : Nat) (h : i < (aD leaf l).length)=>Pb h;have Pc : (bt (qa leaf l)).length = (aD leaf l).length + 1:=(by rw [bZ]; simp [qa]);have SE:=fun s=>Fu (Γ:=Γ) leaf l hl hn s;generalize bt (qa leaf l) = W at *
 generalize aD leaf l = P at *
 have hf : decide (th (l : Int)) = true:=decide_eq_true (mC.2 hl);have h1 : decide ((l : Int)≤(leaf : Int)) = false:=decide_eq_false (by omega);refine jA ?_;refine wK fun K hK=>?_;refine jQ fun K hK=>?_;refine ae (pV l _) ?_;rintro r s1 ⟨rfl,rfl⟩;rw [hf];refine jV (Ai @X5 @h1) hK ?_;clear hK K;refine jF ?_;refine ad ?_;refine hK _ _ ?_;clear hK K;refine jS (bw leaf (by omega)) fun K hK=>?_;refine ae (SE _) ?_;rintro r s2 ⟨rfl,rfl⟩;refine jR hK ?_;clear hK K;refine jA ?_;refine wK fun K hK=>?_;have e0 : ed .i64 (W.length : Int) 2 = ((P.length : Nat) : Int) - 1:=(by rw [b6 (by omega)]; omega);refine jB (Ai @aC.eq_1 @e0) ?_;refine ag ?_;refine aH (fun E s3=>∃ (i : Nat) (x : AV),i≤P.length∧E 7 = .v (.int .i64 (((P.length : Nat) : Int) - 1 - (i : Int)))∧E 5 = .sl 1 W.length (W.map aE) .any∧E 6 = x∧cU 1 s2 s3 x i ((bt (P.take i)).map aE)∧s2.le s3)
  (fun E _=>P.length + 1 - mD (E 6)) ?_ ?_
 ·refine ⟨0,_,Nat.zero_le _,?_,rfl,rfl,cU.nil _ _ _,AS.le.refl _⟩;simp only [aG,Nc,↓reduceIte];congr 2;omega
 ·rintro E1 s3 ⟨i,x,hi,g7,g5,g6,hx,hle⟩ -
  refine wK fun K2 aX=>?_;by_cases aO : i < P.length
  ·have bK : decide ((0 : Int)≤(((P.length : Nat) : Int) - 1 - (i : Int))) = true:=decide_eq_true (by omega);refine jB (Ai @g7 @bK) ?_;refine jE ?_;refine ad ?_;refine aX _ _ ?_;clear aX K2;refine wK fun K3 bB=>?_;refine ag ?_;have gQ : bt (P.take (i + 1)) = bt (P.take i) ++ [((P[i] : Nat) : Int)]:=(by unfold bt; rw [List.take_succ_eq_append_getElem aO,List.map_append]; rfl);have bO : ∀ (E : Env) (s4 : AS) (x3 : AV),E 7 = .v (.int .i64 (((P.length : Nat) : Int) - 1 - (i : Int)))→E 5 = .sl 1 W.length (W.map aE) .any→E 6 = x3→cU 1 s2 s4 x3 (i + 1) ((bt (P.take (i + 1))).map aE)→s2.le s4→K3 E s4:=by
    intro E s4 x3 f7 f5 f6 fx vY;refine bB _ _ ?_;clear bB K3;refine jD @f7 ?_;refine ⟨⟨i + 1,x3,aO,?_,f5,f6,fx,vY⟩,?_⟩
    ·simp only [aG,Nc,↓reduceIte];rw [b6 (by omega)];congr 2;omega
    ·have m1 : mD (E1 6) = i:=by
      rw [g6];rcases hx with ⟨rfl,rfl,_⟩ | ⟨t,e,rfl,_⟩ <;> rfl
     have m2 : mD (E 6) = i + 1:=by
      rw [f6];rcases fx with ⟨rfl,h,_⟩ | ⟨t,e,rfl,_⟩
      ·omega
      ·rfl
     simp only [aG,Nc,↓reduceIte,m1,m2];omega
   clear bB;have hgi:=hg i aO;obtain ⟨j,hj⟩ : ∃ j,j = P.length - 1 - i:=⟨_,rfl⟩;have GH : ((P.length : Nat) : Int) - 1 - (i : Int) = (j : Int):=(by omega);have hjW : j < W.length:=(by omega);rw [← hj] at hgi;have bN : List.take 1 (List.drop j (W.map aE)) = [.v (.int .i64 ((P[i] : Nat) : Int))]:=by
    rw [dC hjW];rw [List.getElem?_eq_getElem hjW] at hgi;rw [Option.some.inj hgi]
   have bK : (0 : Int)≤(j : Int):=(by omega);rw [GH] at g7 bO;rcases hx with ⟨rfl,lI,rV⟩ | ⟨t,e,rfl,ht,iO⟩
   ·refine wE fun K hK=>?_;simp only [↓DN,Qa,Qb,Qc,Qd,Qe,Qf,Qg,Qh,reduceCtorEq,↓reduceIte,Na,Nb,Nc,Nk,Nf,Ng,Nh,Za,Zb,Zc,TT,g5,g6,g7,bL,List.replicate_succ,af,hjW,bK,bN];intro t ht;refine hK _ _ (bO _ _ (.sl 1 1 [.v (.int .i64 ((P[i] : Nat) : Int))] (.own t 0)) g7 g5 rfl ?_ ?_)
    ·refine .inr ⟨t,0,?_,by simp [AS.cd],bd hle ht⟩;rw [gQ,List.map_append,rV];subst lI;rfl
    ·exact AS.bC hle (bd hle ht) 0
   ·refine wE fun K hK=>?_;simp only [↓DN,Qa,Qb,Qc,Qd,Qe,Qf,Qg,Qh,reduceCtorEq,↓reduceIte,Na,Nb,Nc,Nk,Nf,Ng,Nh,Za,Zb,Zc,TT,g5,g6,g7,ht,List.replicate_succ,af,hjW,bK,bN];have yA : (bt (P.take i)).length = i:=(by rw [bZ,List.length_take]; omega);refine ⟨by omega,by omega,hK _ _ (bO _ _ (.sl 1 (i + 1) ((bt (P.take i)).map aE ++ [.v (.int .i64 ((P[i] : Nat) : Int))]) (.own t (e + 1))) g7 g5 rfl ?_ ?_)⟩
    ·exact .inr ⟨t,e + 1,by rw [gQ,List.map_append]; rfl,by simp [AS.cd],iO⟩
    ·exact AS.bC hle iO (e + 1)
  ·have bK : decide ((0 : Int)≤(((P.length : Nat) : Int) - 1 - (i : Int))) = false:=decide_eq_false (by omega);refine jB (Ai @g7 @bK) ?_;refine jF ?_;refine aB ?_;simp only [av,aq,if_true];refine hK _ _ ?_;clear hK aX K2 K;obtain rfl : i = P.length:=(by omega);rw [List.take_of_length_le (Nat.le_refl _)] at hx;have hw:=hx.aL;refine jB @g6 ?_;refine jI ?_;refine ⟨_,_,?_,hle,rfl,rfl⟩;have yA:=bZ P;unfold aC;rw [yA];exact hw
theorem oG (x : Int) (s : AS) : ah prog Γ 144 [.v (.int .i64 x)] s (fun r s'=>r = .dZ [.v (.int .i64 (kY x).1),.v (.int .i64 (kY x).2)]∧s' = s):=by
 refine ab func144 rfl ntmps144 results144 (by simp) ?_;refine jA ?_;refine wK fun K hK=>?_;by_cases h : 0≤x∧x < 63
 ·obtain ⟨n,rfl⟩:=Int.eq_ofNat_of_zero_le h.1;have hn : n < 63:=(by omega);have h1 : decide ((62 : Int) < (n : Int)) = false:=decide_eq_false (by omega);have HJ : kY (n : Int) = ((lo n : Int),(hi n : Int)):=if_pos h;refine jB (Ai @X5 @h1) ?_;refine jF ?_;refine ad ?_;refine hK _ _ ?_;clear hK K;refine jA ?_;refine wK fun K hK=>?_;refine ag ?_;refine aH (fun E s2=>∃ (m : Nat),m < 63∧lo m = lo n∧E 4 = .v (.int .i64 m)∧E 5 = .v (.int .i64 n)∧s2 = s)
   (fun E _=>match E 4 with | .v (.int _ i)=>rz i | _=>0) ?_ ?_
  ·exact ⟨n,hn,rfl,rfl,rfl,rfl⟩
  ·rintro E1 s2 ⟨m,hm,sW,g4,g5,rfl⟩ -
   refine wK fun K2 aX=>?_;refine jS @g4 fun K hK=>?_;refine ae (gV m _) ?_;rintro r s3 ⟨rfl,rfl⟩;rw [fI hm];by_cases hz : lv m = 0
   ·refine jR hK ?_;clear hK K;refine wC fun X Y hX hY=>?_;refine jP (Ai @DB (Ai (eq_false (show ¬ (0 : Int) < ((lv m : Nat) : Int) by omega)) @not_false_eq_true)) ?_;refine hY ?_;clear hX hY X Y;refine aB ?_;simp only [av,aq,if_true];refine hK _ _ ?_;clear hK aX K2 K;have hL:=(IX m hm hz).1;refine wK fun K hK=>?_;refine ag ?_;refine aH (fun E s4=>∃ (m' : Nat),m' < 63∧hi m' = hi n∧E 5 = .v (.int .i64 m')∧E 4 = .v (.int .i64 m)∧s4 = s3)
     (fun E _=>match E 5 with | .v (.int _ i)=>rz i | _=>0) ?_ ?_
    ·exact ⟨n,hn,rfl,g5,g4,rfl⟩
    ·clear g4 g5;rintro E2 s4 ⟨m',En,tP,g5,g4,rfl⟩ -
     refine wK fun K2 aX=>?_;refine jS @g5 fun K hK=>?_;refine ae (gV m' _) ?_;rintro r s5 ⟨rfl,rfl⟩;rw [fI En];by_cases hz' : lv m' = 0
     ·refine jR hK ?_;clear hK K;refine wC fun X Y hX hY=>?_;refine jP (Ai @DB (Ai (eq_false (show ¬ (0 : Int) < ((lv m' : Nat) : Int) by omega)) @not_false_eq_true)) ?_;refine hY ?_;clear hX hY X Y;refine aB ?_;simp only [av,aq,if_true];refine hK _ _ ?_;clear hK aX K2 K;have hH:=(IX m' En hz').2;refine jB (Ai @g4 (Ai @g5 (Ai (dR m (by omega)) (dR m' (by omega))))) ?_;refine jI ?_;rw [← hL,← hH,sW,tP,HJ];exact jW ⟨rfl,rfl⟩
     ·obtain ⟨w1,w2,w3⟩:=O9 m' En hz';refine jR hK ?_;clear hK K;refine wC fun X Y hX hY=>?_;refine jP (Ai @DB (Ai (eq_true (show (0 : Int) < ((lv m' : Nat) : Int) by omega)) @not_true_eq_false)) ?_;refine hX ?_;clear hX hY X Y;refine ad ?_;refine aX _ _ ?_;clear aX K2;refine ag ?_;have Kb : ie (m' : Int) = some (((m' : Int) - (hf m' : Int)),((m' + hf m' : Nat) : Int)):=by
       unfold ie;rw [fI En,if_neg hz'];unfold hf;congr 2
      refine jU @g5 fun K hK=>?_;refine ae (dw m' (by omega) _) ?_;rintro r s6 ⟨rfl,rfl⟩;rw [Kb];refine jM ?_;refine hK _ _ ⟨⟨m' + hf m',w3,by rw [w1,tP],rfl,g4,rfl⟩,?_⟩;simp only [g5,aG,↓reduceIte];rw [fI En,fI w3];omega
   ·obtain ⟨w1,w2,w3,w4⟩:=O8 m hm hz;refine jR hK ?_;clear hK K;refine wC fun X Y hX hY=>?_;refine jP (Ai @DB (Ai (eq_true (show (0 : Int) < ((lv m : Nat) : Int) by omega)) @not_true_eq_false)) ?_;refine hX ?_;clear hX hY X Y;refine ad ?_;refine aX _ _ ?_;clear aX K2;refine ag ?_;have Kb : ie (m : Int) = some (((m - hf m : Nat) : Int),((m : Int) + (hf m : Int))):=by
     unfold ie;rw [fI hm,if_neg hz];unfold hf at w4 ⊢;congr 2;omega
    refine jU @g4 fun K hK=>?_;refine ae (dw m (by omega) _) ?_;rintro r s6 ⟨rfl,rfl⟩;rw [Kb];refine jM ?_;refine hK _ _ ⟨⟨m - hf m,w3,by rw [w1,sW],rfl,g5,rfl⟩,?_⟩;simp only [g4,aG,↓reduceIte];rw [fI hm,fI w3];omega
 ·have HJ : kY x = (0,-1):=if_neg h;by_cases h0 : x < 0
  ·refine jB (decide_eq_true h0) ?_;refine jE ?_;refine jA ?_;refine jI ?_;rw [HJ];exact jW ⟨rfl,rfl⟩
  ·have h1 : (62 : Int) < x:=(by omega);refine jB (Ai (decide_eq_false h0) (decide_eq_true h1)) ?_;refine jE ?_;refine jA ?_;refine jI ?_;rw [HJ];exact jW ⟨rfl,rfl⟩
theorem Fv (l : List UInt8) (sp : Sp) (ha : sp.isAny = false) (s : AS) (hl : l.length≤2 ^ 45) : ah prog Γ 161 [ak l sp] s (fun r s'=>r = ak l .any∧s' = s):=by
 refine ab func161 rfl ntmps161 results161 (by simp) ?_;unfold ak;refine jA ?_;refine wK fun K hK=>?_;refine jB (Ai @ha @and_false) ?_;refine jF ?_;refine ad ?_;refine hK _ _ ?_;clear hK K;by_cases h0 : l.length = 0
 ·have xc : l = []:=List.eq_nil_of_length_eq_zero h0;subst xc;refine jA ?_;refine bo ?_;simp only [↓DN,Qa,Qb,Qc,Qd,Qe,Qf,Qg,Qh,reduceCtorEq,↓reduceIte,Na,Nb,Nc,Nk,Nf,Ng,Nh,Za,Zb,Zc,TT,cF,bI,bM,dh,fg];exact ⟨_,s,AV.db,AS.le.refl s,rfl,rfl⟩
 ·refine jS @h0 fun K hK=>?_;refine ⟨by omega,by omega,fun t ht=>hK _ _ ?_⟩;clear hK K;refine bo ?_;simp only [↓DN,Qa,Qb,Qc,Qd,Qe,Qf,Qg,Qh,reduceCtorEq,↓reduceIte,Na,Nb,Nc,Nk,Nf,Ng,Nh,Za,Zb,Zc,TT,cF,bI,bM,dh,fg];exact ⟨_,s,AV.db,AS.bC (AS.le.refl s) ht 0,rfl,rfl⟩
theorem Dr (s0 s : AS) (p : Nat) (l : List UInt8) (n size : Nat) (hn : n < 2 ^ 64) (hs : size≤8) (hl : l.length + 8≤2 ^ 45) (h : yv s0 s p l false) :
  ah prog Γ 159 [.ptr p 0,.v (.int .u64 n),.v (.int .i64 size)] s (fun r s'=>r = .dZ []∧yv s0 s' p (l ++ be size n) false):=by
 refine ab func159 rfl ntmps159 results159 (by simp) ?_;refine jA ?_;refine ag ?_;refine aH (fun E s1=>∃ (i : Int) (l' : List UInt8),E 6 = .v (.int .i64 i)∧-1≤i∧i < size∧E 0 = .ptr p 0∧E 1 = .v (.int .u64 n)∧yv s0 s1 p l' false∧l' ++ be (i + 1).toNat n = l ++ be size n)
  (fun E _=>match E 6 with | .v (.int _ i)=>(i + 1).toNat | _=>0) ?_ ?_
 ·refine ⟨size - 1,l,?_,by omega,by omega,by simp [aG,dE],by simp [aG,dE],h,by congr 2; omega⟩;simp [aG,b6 (show -9223372036854775808≤(size : Int) - 1∧(size : Int) - 1≤9223372036854775807 by omega)]
 ·rintro E1 s1 ⟨i,l',h6,KY,ik,h0,h1,hp,Ft⟩ -
  obtain ⟨x,hx,hb⟩:=hp.obj;refine wK fun K hK=>?_;by_cases hi : 0≤i
  ·refine jB (Ai @h6 (Ai @h0 (Ai @h1 (Ai @hx (decide_eq_true hi))))) ?_;refine jE ?_;refine ad ?_;refine hK _ _ ?_;clear hK K;refine wK fun K hK=>?_;refine ag ?_;have hmul : kO .i64 8 i = 8 * i:=fh (by omega);have Rh : ¬ (8 * i < 0):=(by omega);obtain ⟨j,rfl⟩:=Int.eq_ofNat_of_zero_le hi;have hj : j < 8:=(by omega);have dc:=OB n j hj;have hbe : be ((j : Int) + 1).toNat n = UInt8.ofNat (n / 2 ^ (8 * j)) :: be j n:=by
    rw [show ((j : Int) + 1).toNat = j + 1 from by omega]; rfl
   have hlen : l'.length≤l.length + size:=by
    have:=congrArg List.length Ft;simp at this;omega
   have zE : ed .i64 (j : Int) 1 = (j : Int) - 1:=b6 (by omega);have bO : ∀ (E2 : Env) (s2 : AS),E2 6 = .v (.int .i64 j)→E2 0 = .ptr p 0→E2 1 = .v (.int .u64 n)→yv s0 s2 p (l' ++ [UInt8.ofNat (n / 2 ^ (8 * j))]) false→K E2 s2:=by
    intro E2 s2 e6 e0 e1 hp2;refine hK _ _ ?_;clear hK K;refine jD (Ai @e6 @zE) ?_;refine ⟨⟨(j : Int) - 1,_,rfl,by omega,by omega,e0,e1,hp2,?_⟩,?_⟩
    ·rw [← Ft,hbe];simp
    ·simp only [h6,aG,↓reduceIte];omega
   clear hK;rcases hb with ⟨rfl,xc⟩ | ⟨t,e,rfl,ht,iO⟩
   ·subst xc;refine fy T.mixed [4,11,14] (by kernel_rfl) ?_;intro K hK;simp only [↓DM,cw,DX,Nz,↓DN,Qa,Qb,Qc,Qd,Qe,Qf,Qg,Qh,reduceCtorEq,↓reduceIte,Na,Nb,Nc,Nk,Nf,Ng,Nh,Za,Zb,Zc,TT,h6,h0,h1,hx,bL,hmul,Rh,List.replicate_succ];intro t ht;refine hK _ _ (bO _ _ h6 h0 h1 ?_);rw [dc];exact hp.one ht _
   ·refine fy T.mixed [4,11,14] (by kernel_rfl) ?_;intro K hK;simp only [↓DM,cw,DX,Nz,↓DN,Qa,Qb,Qc,Qd,Qe,Qf,Qg,Qh,reduceCtorEq,↓reduceIte,Na,Nb,Nc,Nk,Nf,Ng,Nh,Za,Zb,Zc,TT,h6,h0,h1,hx,ak,hmul,Rh,ht,List.replicate_succ];refine ⟨by omega,by omega,hK _ _ (bO _ _ h6 h0 h1 ?_)⟩;rw [dc];exact hp.more iO [_] rfl rfl
  ·have lI : i = -1:=(by omega);subst lI;refine jB (Ai @h6 (Ai @h0 (Ai @h1 @hx))) ?_;refine jF ?_;refine aB ?_;simp only [av,aq,if_true,cF,bI,bM,fg,List.toList_toArray];refine ⟨_,s1,AV.aL.refl _,AS.le.refl _,rfl,?_⟩;have : l' = l ++ be size n:=(by simpa [be] using Ft);rw [← this];exact hp
end Go.Proofs.YtcjifoccjlpapaaGreatDoor
