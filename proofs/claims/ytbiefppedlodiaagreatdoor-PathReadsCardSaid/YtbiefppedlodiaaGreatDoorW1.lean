/- Contracts of functions, each walked once; each theorem states its conditions. -/
import Derived.Test.YtbiefppedlodiaaGreatDoorProg
import Derived.Test.YtbiefppedlodiaaGreatDoorAMp4
import Derived.Test.YtbiefppedlodiaaGreatDoorAMp6
import Derived.Test.YtbiefppedlodiaaGreatDoorAMp5
import Derived.Test.YtbiefppedlodiaaGreatDoorAMp7
import Derived.Shelf.Spec.SlicesInsertGrow
import Derived.Shelf.Slices.SearchI
import Derived.Shelf.Slices.Empties
import Derived.Sort.EveryDepth
import Derived.Shelf.Sort.AssemblyIn
import Derived.Lib.RowBridge
set_option linter.unusedSimpArgs false
set_option linter.unusedVariables false
open Nat renaming reduceLT → Na, reduceLeDiff → Nb, reduceEqDiff → Nc, reduceAdd → Nk, reduceMul → Nf, reducePow → Ng, reduceSub → Nh, reduceBEq → Nz
open Int renaming reduceLT → Za, reduceLE → Zb, reduceToNat → Zc
open And renaming intro → Ai
open Go.AM renaming ashift → Qa, aconv → Qb, aindexAddr → Qc, aindex → Qd, aslice → Qe, abuiltin → Qf, awp_reg_seq → wS, awp_reg_end → wE, awp_seq_k → wK, awp_cond_k → wC
open Go.AM.AV renaming cells → Qg, one → Qh
set_option maxRecDepth 100000
set_option maxHeartbeats 8000000
namespace Go.Proofs.YtbiefppedlodiaaGreatDoor
open Go Go.AM Go.Proofs Tryz
theorem T.c3 : prog.cellsOf 3 = 1:=by kernel_rfl
theorem T.b3 : prog.bytesOf 3 = 8:=by kernel_rfl
theorem T.g3 : bF prog 3 = some false:=by kernel_rfl
theorem T.z3 : ba prog 3 = some [.v (.int .i64 0)]:=by kernel_rfl
theorem T.c4 : prog.cellsOf 4 = 1:=by kernel_rfl
theorem T.b4 : prog.bytesOf 4 = 1:=by kernel_rfl
theorem T.g4 : bF prog 4 = some false:=by kernel_rfl
theorem T.z4 : ba prog 4 = some [.v (.bool false)]:=by kernel_rfl
theorem T.c5 : prog.cellsOf 5 = 1:=by kernel_rfl
theorem T.b5 : prog.bytesOf 5 = 1:=by kernel_rfl
theorem T.g5 : bF prog 5 = some false:=by kernel_rfl
theorem T.z5 : ba prog 5 = some [.v (.int .u8 0)]:=by kernel_rfl
theorem T.c9 : prog.cellsOf 9 = 1:=by kernel_rfl
theorem T.b9 : prog.bytesOf 9 = 16:=by kernel_rfl
theorem T.g9 : bF prog 9 = some false:=by kernel_rfl
theorem T.z9 : ba prog 9 = some [.v (.string ByteArray.empty)]:=by kernel_rfl
theorem T.c22 : prog.cellsOf 22 = 1:=by kernel_rfl
theorem T.b22 : prog.bytesOf 22 = 24:=by kernel_rfl
theorem T.g22 : bF prog 22 = some false:=by kernel_rfl
theorem T.z22 : ba prog 22 = some [.v (.slice none 0 0)]:=by kernel_rfl
theorem T.s22 : dJ prog 22 = true:=by kernel_rfl
theorem T.OQ : prog.cellsOf 23 = 1:=by kernel_rfl
theorem T.b23 : prog.bytesOf 23 = 24:=by kernel_rfl
theorem T.g23 : bF prog 23 = some false:=by kernel_rfl
theorem T.z23 : ba prog 23 = some [.v (.slice none 0 0)]:=by kernel_rfl
theorem T.s23 : dJ prog 23 = true:=by kernel_rfl
theorem T.c24 : prog.cellsOf 24 = 1:=by kernel_rfl
theorem T.b24 : prog.bytesOf 24 = 24:=by kernel_rfl
theorem T.g24 : bF prog 24 = some false:=by kernel_rfl
theorem T.z24 : ba prog 24 = some [.v (.slice none 0 0)]:=by kernel_rfl
theorem T.Mb : dJ prog 24 = true:=by kernel_rfl
theorem T.Lh : prog.cellsOf 29 = 1:=by kernel_rfl
theorem T.b29 : prog.bytesOf 29 = 8:=by kernel_rfl
theorem T.g29 : bF prog 29 = some false:=by kernel_rfl
theorem T.z29 : ba prog 29 = some [.v (.int .u64 0)]:=by kernel_rfl
theorem T.Ts : prog.cellsOf 30 = 1:=by kernel_rfl
theorem T.b30 : prog.bytesOf 30 = 24:=by kernel_rfl
theorem T.g30 : bF prog 30 = some false:=by kernel_rfl
theorem T.z30 : ba prog 30 = some [.v (.slice none 0 0)]:=by kernel_rfl
theorem T.s30 : dJ prog 30 = true:=by kernel_rfl
theorem T.Li : prog.cellsOf 32 = 3:=by kernel_rfl
theorem T.b32 : prog.bytesOf 32 = 56:=by kernel_rfl
theorem T.g32 : bF prog 32 = some true:=by kernel_rfl
theorem T.l6 : eZ prog 32 = true:=by kernel_rfl
theorem T.RC : b6 prog 32 0 = some (0,29):=by kernel_rfl
theorem T.RD : b6 prog 32 1 = some (1,23):=by kernel_rfl
theorem T.RF : b6 prog 32 2 = some (2,30):=by kernel_rfl
theorem T.tw : ba prog 32 = some [.v (.int .u64 0),.v (.slice none 0 0),.v (.slice none 0 0)]:=by kernel_rfl
theorem T.c33 : prog.cellsOf 33 = 1:=by kernel_rfl
theorem T.b33 : prog.bytesOf 33 = 24:=by kernel_rfl
theorem T.g33 : bF prog 33 = some false:=by kernel_rfl
theorem T.z33 : ba prog 33 = some [.v (.slice none 0 0)]:=by kernel_rfl
theorem T.s33 : dJ prog 33 = true:=by kernel_rfl
theorem T.c34 : prog.cellsOf 34 = 1:=by kernel_rfl
theorem T.b34 : prog.bytesOf 34 = 8:=by kernel_rfl
theorem T.g34 : bF prog 34 = some false:=by kernel_rfl
theorem T.z34 : ba prog 34 = some [.v (.int .i64 0)]:=by kernel_rfl
theorem T.c50 : prog.cellsOf 50 = 1:=by kernel_rfl
theorem T.b50 : prog.bytesOf 50 = 24:=by kernel_rfl
theorem T.g50 : bF prog 50 = some false:=by kernel_rfl
theorem T.z50 : ba prog 50 = some [.v (.slice none 0 0)]:=by kernel_rfl
theorem T.s50 : dJ prog 50 = true:=by kernel_rfl
theorem T.c51 : prog.cellsOf 51 = 1:=by kernel_rfl
theorem T.b51 : prog.bytesOf 51 = 24:=by kernel_rfl
theorem T.g51 : bF prog 51 = some false:=by kernel_rfl
theorem T.z51 : ba prog 51 = some [.v (.slice none 0 0)]:=by kernel_rfl
theorem T.s51 : dJ prog 51 = true:=by kernel_rfl
theorem T.RG : prog.cellsOf 54 = 5:=by kernel_rfl
theorem T.b54 : prog.bytesOf 54 = 88:=by kernel_rfl
theorem T.g54 : bF prog 54 = some true:=by kernel_rfl
theorem T.Fi : eZ prog 54 = true:=by kernel_rfl
theorem T.RH : b6 prog 54 0 = some (0,3):=by kernel_rfl
theorem T.RI : b6 prog 54 1 = some (1,23):=by kernel_rfl
theorem T.RJ : b6 prog 54 2 = some (2,29):=by kernel_rfl
theorem T.RK : b6 prog 54 3 = some (3,23):=by kernel_rfl
theorem T.RL : b6 prog 54 4 = some (4,24):=by kernel_rfl
theorem T.z54 : ba prog 54 = some [.v (.int .i64 0),.v (.slice none 0 0),.v (.int .u64 0),.v (.slice none 0 0),.v (.slice none 0 0)]:=by kernel_rfl
theorem T.c67 : prog.cellsOf 67 = 2:=by kernel_rfl
theorem T.b67 : prog.bytesOf 67 = 16:=by kernel_rfl
theorem T.OR : bF prog 67 = some true:=by kernel_rfl
theorem T.h67 : eZ prog 67 = true:=by kernel_rfl
theorem T.RM : b6 prog 67 0 = some (0,3):=by kernel_rfl
theorem T.RN : b6 prog 67 1 = some (1,29):=by kernel_rfl
theorem T.z67 : ba prog 67 = some [.v (.int .i64 0),.v (.int .u64 0)]:=by kernel_rfl
theorem T.Wh : prog.cellsOf 74 = 1:=by kernel_rfl
theorem T.b74 : prog.bytesOf 74 = 24:=by kernel_rfl
theorem T.g74 : bF prog 74 = some false:=by kernel_rfl
theorem T.z74 : ba prog 74 = some [.v (.slice none 0 0)]:=by kernel_rfl
theorem T.s74 : dJ prog 74 = true:=by kernel_rfl
theorem T.RB : prog.cellsOf 76 = 2:=by kernel_rfl
theorem T.b76 : prog.bytesOf 76 = 32:=by kernel_rfl
theorem T.g76 : bF prog 76 = some true:=by kernel_rfl
theorem T.Tu : eZ prog 76 = true:=by kernel_rfl
theorem T.RO : b6 prog 76 0 = some (0,29):=by kernel_rfl
theorem T.RP : b6 prog 76 1 = some (1,74):=by kernel_rfl
theorem T.z76 : ba prog 76 = some [.v (.int .u64 0),.v (.slice none 0 0)]:=by kernel_rfl
theorem T.PF : prog.cellsOf 78 = 2:=by kernel_rfl
theorem T.b78 : prog.bytesOf 78 = 32:=by kernel_rfl
theorem T.g78 : bF prog 78 = some true:=by kernel_rfl
theorem T.h78 : eZ prog 78 = true:=by kernel_rfl
theorem T.RQ : b6 prog 78 0 = some (0,29):=by kernel_rfl
theorem T.RR : b6 prog 78 1 = some (1,23):=by kernel_rfl
theorem T.z78 : ba prog 78 = some [.v (.int .u64 0),.v (.slice none 0 0)]:=by kernel_rfl
theorem T.c79 : prog.cellsOf 79 = 1:=by kernel_rfl
theorem T.b79 : prog.bytesOf 79 = 8:=by kernel_rfl
theorem T.g79 : bF prog 79 = some false:=by kernel_rfl
theorem T.z79 : ba prog 79 = some [.v (.pointer none)]:=by kernel_rfl
theorem T.p79 : kq prog 79 = true:=by kernel_rfl
theorem T.c85 : prog.cellsOf 85 = 1:=by kernel_rfl
theorem T.b85 : prog.bytesOf 85 = 8:=by kernel_rfl
theorem T.g85 : bF prog 85 = some false:=by kernel_rfl
theorem T.z85 : ba prog 85 = some [.v (.pointer none)]:=by kernel_rfl
theorem T.p85 : kq prog 85 = true:=by kernel_rfl
theorem T.c87 : prog.cellsOf 87 = 1:=by kernel_rfl
theorem T.b87 : prog.bytesOf 87 = 8:=by kernel_rfl
theorem T.g87 : bF prog 87 = some false:=by kernel_rfl
theorem T.z87 : ba prog 87 = some [.v (.pointer none)]:=by kernel_rfl
theorem T.p87 : kq prog 87 = true:=by kernel_rfl
theorem T.c89 : prog.cellsOf 89 = 2:=by kernel_rfl
theorem T.b89 : prog.bytesOf 89 = 24:=by kernel_rfl
theorem T.g89 : bF prog 89 = some true:=by kernel_rfl
theorem T.h89 : eZ prog 89 = true:=by kernel_rfl
theorem T.RS : b6 prog 89 0 = some (0,9):=by kernel_rfl
theorem T.RU : b6 prog 89 1 = some (1,3):=by kernel_rfl
theorem T.z89 : ba prog 89 = some [.v (.string ByteArray.empty),.v (.int .i64 0)]:=by kernel_rfl
theorem T.PL : prog.cellsOf 108 = 2:=by kernel_rfl
theorem T.Wl : prog.bytesOf 108 = 24:=by kernel_rfl
theorem T.Wm : bF prog 108 = some true:=by kernel_rfl
theorem T.Wn : eZ prog 108 = true:=by kernel_rfl
theorem T.Mc : b6 prog 108 0 = some (0,29):=by kernel_rfl
theorem T.Md : b6 prog 108 1 = some (1,9):=by kernel_rfl
theorem T.Wo : ba prog 108 = some [.v (.int .u64 0),.v (.string ByteArray.empty)]:=by kernel_rfl
theorem T.Wp : prog.cellsOf 137 = 2:=by kernel_rfl
theorem T.Wq : prog.bytesOf 137 = 32:=by kernel_rfl
theorem T.Wr : bF prog 137 = some true:=by kernel_rfl
theorem T.Ws : eZ prog 137 = true:=by kernel_rfl
theorem T.Me : b6 prog 137 0 = some (0,23):=by kernel_rfl
theorem T.Mf : b6 prog 137 1 = some (1,4):=by kernel_rfl
theorem T.Wt : ba prog 137 = some [.v (.slice none 0 0),.v (.bool false)]:=by kernel_rfl
theorem T.Wu : prog.cellsOf 145 = 2:=by kernel_rfl
theorem T.Wv : prog.bytesOf 145 = 32:=by kernel_rfl
theorem T.Ww : bF prog 145 = some true:=by kernel_rfl
theorem T.Wx : eZ prog 145 = true:=by kernel_rfl
theorem T.Mg : b6 prog 145 0 = some (0,23):=by kernel_rfl
theorem T.Mh : b6 prog 145 1 = some (1,34):=by kernel_rfl
theorem T.z145 : ba prog 145 = some [.v (.slice none 0 0),.v (.int .i64 0)]:=by kernel_rfl
theorem T.Wy : prog.cellsOf 185 = 1:=by kernel_rfl
theorem T.Wz : prog.bytesOf 185 = 8:=by kernel_rfl
theorem T.WA : bF prog 185 = some false:=by kernel_rfl
theorem T.WB : ba prog 185 = some [.v (.int .u64 0)]:=by kernel_rfl
theorem T.C5 : prog.cellsOf 214 = 1:=by kernel_rfl
theorem T.WC : prog.bytesOf 214 = 4:=by kernel_rfl
theorem T.WD : bF prog 214 = some false:=by kernel_rfl
theorem T.Tv : ba prog 214 = some [.v (.int .u32 0)]:=by kernel_rfl
theorem T.Tw : prog.cellsOf 215 = 8:=by kernel_rfl
theorem T.WE : prog.bytesOf 215 = 32:=by kernel_rfl
theorem T.WG : bF prog 215 = some true:=by kernel_rfl
theorem T.WH : ba prog 215 = some [.v (.int .u32 0),.v (.int .u32 0),.v (.int .u32 0),.v (.int .u32 0),.v (.int .u32 0),.v (.int .u32 0),.v (.int .u32 0),.v (.int .u32 0)]:=by kernel_rfl
theorem T.WI : prog.cellsOf 227 = 1:=by kernel_rfl
theorem T.WJ : prog.bytesOf 227 = 24:=by kernel_rfl
theorem T.WK : bF prog 227 = some false:=by kernel_rfl
theorem T.z227 : ba prog 227 = some [.v (.slice none 0 0)]:=by kernel_rfl
theorem T.WM : dJ prog 227 = true:=by kernel_rfl
theorem T.WN : prog.cellsOf 232 = 64:=by kernel_rfl
theorem T.WO : prog.bytesOf 232 = 64:=by kernel_rfl
theorem T.WQ : bF prog 232 = some true:=by kernel_rfl
theorem T.Mi : prog.cellsOf 236 = 16:=by kernel_rfl
theorem T.WR : prog.bytesOf 236 = 16:=by kernel_rfl
theorem T.WS : bF prog 236 = some true:=by kernel_rfl
theorem T.z236 : ba prog 236 = some [.v (.int .u8 0),.v (.int .u8 0),.v (.int .u8 0),.v (.int .u8 0),.v (.int .u8 0),.v (.int .u8 0),.v (.int .u8 0),.v (.int .u8 0),.v (.int .u8 0),.v (.int .u8 0),.v (.int .u8 0),.v (.int .u8 0),.v (.int .u8 0),.v (.int .u8 0),.v (.int .u8 0),.v (.int .u8 0)]:=by kernel_rfl
theorem T.WT : prog.cellsOf 239 = 1:=by kernel_rfl
theorem T.WU : prog.bytesOf 239 = 8:=by kernel_rfl
theorem T.WV : bF prog 239 = some false:=by kernel_rfl
theorem T.WW : ba prog 239 = some [.v (.int .i64 0)]:=by kernel_rfl
theorem T.Tx : prog.cellsOf 246 = 64:=by kernel_rfl
theorem T.WX : prog.bytesOf 246 = 256:=by kernel_rfl
theorem T.WY : bF prog 246 = some true:=by kernel_rfl
theorem T.Tz : prog.cellsOf 252 = 256:=by kernel_rfl
theorem T.WZ : prog.bytesOf 252 = 256:=by kernel_rfl
theorem T.W4 : bF prog 252 = some true:=by kernel_rfl
theorem T.TA : prog.cellsOf 254 = 176:=by kernel_rfl
theorem T.W5 : prog.bytesOf 254 = 176:=by kernel_rfl
theorem T.W6 : bF prog 254 = some true:=by kernel_rfl
theorem T.TB : prog.cellsOf 264 = 4:=by kernel_rfl
theorem T.W7 : prog.bytesOf 264 = 4:=by kernel_rfl
theorem T.W8 : bF prog 264 = some true:=by kernel_rfl
theorem T.W9 : ba prog 264 = some [.v (.int .u8 0),.v (.int .u8 0),.v (.int .u8 0),.v (.int .u8 0)]:=by kernel_rfl
theorem T.k8 : af prog 8 = true:=by kernel_rfl
theorem T.IL : af prog 10 = true:=by kernel_rfl
theorem T.Gv : af prog 12 = true:=by kernel_rfl
theorem T.Hp : af prog 15 = true:=by kernel_rfl
theorem T.Vk : af prog 18 = true:=by kernel_rfl
theorem T.k19 : af prog 19 = true:=by kernel_rfl
theorem T.k25 : af prog 25 = true:=by kernel_rfl
theorem T.k27 : af prog 27 = true:=by kernel_rfl
theorem T.k31 : af prog 31 = true:=by kernel_rfl
theorem T.k32 : af prog 32 = true:=by kernel_rfl
theorem T.k33 : af prog 33 = true:=by kernel_rfl
theorem T.k34 : af prog 34 = true:=by kernel_rfl
theorem T.k35 : af prog 35 = true:=by kernel_rfl
theorem T.k36 : af prog 36 = true:=by kernel_rfl
theorem T.k37 : af prog 37 = true:=by kernel_rfl
theorem T.k38 : af prog 38 = true:=by kernel_rfl
theorem T.k39 : af prog 39 = true:=by kernel_rfl
theorem T.k40 : af prog 40 = true:=by kernel_rfl
theorem T.k41 : af prog 41 = true:=by kernel_rfl
theorem T.k42 : af prog 42 = true:=by kernel_rfl
theorem T.k43 : af prog 43 = true:=by kernel_rfl
theorem T.k44 : af prog 44 = true:=by kernel_rfl
theorem T.k45 : af prog 45 = true:=by kernel_rfl
theorem T.k46 : af prog 46 = true:=by kernel_rfl
theorem T.k47 : af prog 47 = true:=by kernel_rfl
theorem T.k48 : af prog 48 = true:=by kernel_rfl
theorem T.k49 : af prog 49 = true:=by kernel_rfl
theorem T.k50 : af prog 50 = true:=by kernel_rfl
theorem T.k51 : af prog 51 = true:=by kernel_rfl
theorem T.k53 : af prog 53 = true:=by kernel_rfl
theorem T.k57 : af prog 57 = true:=by kernel_rfl
theorem T.k61 : af prog 61 = true:=by kernel_rfl
theorem T.k62 : af prog 62 = true:=by kernel_rfl
theorem T.k67 : af prog 67 = true:=by kernel_rfl
theorem T.k68 : af prog 68 = true:=by kernel_rfl
theorem T.k70 : af prog 70 = true:=by kernel_rfl
theorem T.k71 : af prog 71 = true:=by kernel_rfl
theorem T.k73 : af prog 73 = true:=by kernel_rfl
theorem T.k74 : af prog 74 = true:=by kernel_rfl
theorem T.k77 : af prog 77 = true:=by kernel_rfl
theorem T.k79 : af prog 79 = true:=by kernel_rfl
theorem T.k81 : af prog 81 = true:=by kernel_rfl
theorem T.k82 : af prog 82 = true:=by kernel_rfl
theorem T.k86 : af prog 86 = true:=by kernel_rfl
theorem T.k87 : af prog 87 = true:=by kernel_rfl
theorem T.k88 : af prog 88 = true:=by kernel_rfl
theorem T.k89 : af prog 89 = true:=by kernel_rfl
theorem T.k90 : af prog 90 = true:=by kernel_rfl
theorem T.k91 : af prog 91 = true:=by kernel_rfl
theorem T.k92 : af prog 92 = true:=by kernel_rfl
theorem T.k93 : af prog 93 = true:=by kernel_rfl
theorem T.k94 : af prog 94 = true:=by kernel_rfl
theorem T.k95 : af prog 95 = true:=by kernel_rfl
theorem T.k96 : af prog 96 = true:=by kernel_rfl
theorem T.k97 : af prog 97 = true:=by kernel_rfl
theorem T.k98 : af prog 98 = true:=by kernel_rfl
theorem T.k99 : af prog 99 = true:=by kernel_rfl
theorem T.Xa : af prog 100 = true:=by kernel_rfl
theorem T.Xb : af prog 101 = true:=by kernel_rfl
theorem T.PM : af prog 102 = true:=by kernel_rfl
theorem T.Xc : af prog 103 = true:=by kernel_rfl
theorem T.Xd : af prog 104 = true:=by kernel_rfl
theorem T.PN : af prog 105 = true:=by kernel_rfl
theorem T.Xe : af prog 106 = true:=by kernel_rfl
theorem T.PO : af prog 107 = true:=by kernel_rfl
theorem T.Xf : af prog 108 = true:=by kernel_rfl
theorem T.Xg : af prog 109 = true:=by kernel_rfl
theorem T.Xh : af prog 110 = true:=by kernel_rfl
theorem T.Xi : af prog 111 = true:=by kernel_rfl
theorem T.Xj : af prog 112 = true:=by kernel_rfl
theorem T.Xk : af prog 113 = true:=by kernel_rfl
theorem T.Xl : af prog 114 = true:=by kernel_rfl
theorem T.Xm : af prog 117 = true:=by kernel_rfl
theorem T.Xn : af prog 124 = true:=by kernel_rfl
theorem T.Xo : af prog 126 = true:=by kernel_rfl
theorem T.Xp : af prog 128 = true:=by kernel_rfl
theorem T.Xq : af prog 129 = true:=by kernel_rfl
theorem T.Xr : af prog 130 = true:=by kernel_rfl
theorem T.Xt : af prog 132 = true:=by kernel_rfl
theorem T.Xu : af prog 133 = true:=by kernel_rfl
theorem T.Xv : af prog 134 = true:=by kernel_rfl
theorem T.Xw : af prog 135 = true:=by kernel_rfl
theorem T.Xx : af prog 136 = true:=by kernel_rfl
theorem T.Xy : af prog 137 = true:=by kernel_rfl
theorem T.Xz : af prog 138 = true:=by kernel_rfl
theorem T.XA : af prog 139 = true:=by kernel_rfl
theorem T.XB : af prog 140 = true:=by kernel_rfl
theorem T.XC : af prog 141 = true:=by kernel_rfl
theorem T.XD : af prog 142 = true:=by kernel_rfl
theorem T.XE : af prog 143 = true:=by kernel_rfl
theorem T.XF : af prog 144 = true:=by kernel_rfl
theorem T.XG : af prog 145 = true:=by kernel_rfl
theorem T.XH : af prog 146 = true:=by kernel_rfl
theorem T.XI : af prog 147 = true:=by kernel_rfl
theorem T.XJ : af prog 148 = true:=by kernel_rfl
theorem T.XK : af prog 149 = true:=by kernel_rfl
theorem T.XL : af prog 150 = true:=by kernel_rfl
theorem T.XM : af prog 151 = true:=by kernel_rfl
theorem T.XN : af prog 152 = true:=by kernel_rfl
theorem T.XO : af prog 153 = true:=by kernel_rfl
theorem T.XP : af prog 154 = true:=by kernel_rfl
theorem T.XQ : af prog 155 = true:=by kernel_rfl
theorem T.XR : af prog 156 = true:=by kernel_rfl
theorem T.XS : af prog 158 = true:=by kernel_rfl
theorem T.XW : af prog 159 = true:=by kernel_rfl
theorem T.XY : af prog 161 = true:=by kernel_rfl
theorem T.XZ : af prog 162 = true:=by kernel_rfl
theorem T.X3 : af prog 164 = true:=by kernel_rfl
theorem T.X4 : af prog 165 = true:=by kernel_rfl
theorem T.X5 : af prog 166 = true:=by kernel_rfl
theorem T.X6 : af prog 170 = true:=by kernel_rfl
theorem T.X7 : af prog 173 = true:=by kernel_rfl
theorem T.X8 : af prog 174 = true:=by kernel_rfl
theorem T.X9 : af prog 175 = true:=by kernel_rfl
theorem T.Ya : af prog 176 = true:=by kernel_rfl
theorem T.Yb : af prog 177 = true:=by kernel_rfl
theorem T.Yc : af prog 179 = true:=by kernel_rfl
theorem T.Yd : af prog 180 = true:=by kernel_rfl
theorem T.Ye : af prog 181 = true:=by kernel_rfl
theorem T.Yf : af prog 182 = true:=by kernel_rfl
theorem T.Yg : af prog 183 = true:=by kernel_rfl
theorem T.Yh : af prog 184 = true:=by kernel_rfl
theorem T.Yi : af prog 185 = true:=by kernel_rfl
theorem T.Yj : af prog 186 = true:=by kernel_rfl
theorem T.Yk : af prog 187 = true:=by kernel_rfl
theorem T.Yl : af prog 188 = true:=by kernel_rfl
theorem T.Ym : af prog 189 = true:=by kernel_rfl
theorem T.Yn : af prog 190 = true:=by kernel_rfl
theorem T.Yo : af prog 191 = true:=by kernel_rfl
theorem T.Yp : af prog 192 = true:=by kernel_rfl
theorem T.Yq : af prog 193 = true:=by kernel_rfl
theorem T.Yr : af prog 194 = true:=by kernel_rfl
theorem T.Ys : af prog 195 = true:=by kernel_rfl
theorem T.Yt : af prog 196 = true:=by kernel_rfl
theorem T.Yu : af prog 197 = true:=by kernel_rfl
theorem T.Yv : af prog 198 = true:=by kernel_rfl
theorem T.Yw : af prog 199 = true:=by kernel_rfl
theorem T.Yx : af prog 200 = true:=by kernel_rfl
theorem T.Yy : af prog 201 = true:=by kernel_rfl
theorem T.Yz : af prog 202 = true:=by kernel_rfl
theorem T.YB : af prog 203 = true:=by kernel_rfl
theorem T.YC : af prog 208 = true:=by kernel_rfl
theorem T.YD : af prog 209 = true:=by kernel_rfl
theorem T.YE : af prog 210 = true:=by kernel_rfl
theorem T.YF : af prog 212 = true:=by kernel_rfl
theorem T.YG : af prog 213 = true:=by kernel_rfl
theorem T.YH : af prog 214 = true:=by kernel_rfl
theorem T.YI : af prog 215 = true:=by kernel_rfl
theorem T.YJ : af prog 216 = true:=by kernel_rfl
theorem T.YK : af prog 217 = true:=by kernel_rfl
theorem T.YM : af prog 218 = true:=by kernel_rfl
theorem T.YN : af prog 219 = true:=by kernel_rfl
theorem T.YO : af prog 220 = true:=by kernel_rfl
theorem T.YP : af prog 221 = true:=by kernel_rfl
theorem T.YQ : af prog 222 = true:=by kernel_rfl
theorem T.YR : af prog 223 = true:=by kernel_rfl
theorem T.YS : af prog 224 = true:=by kernel_rfl
theorem T.YT : af prog 225 = true:=by kernel_rfl
theorem T.YU : af prog 226 = true:=by kernel_rfl
theorem T.YV : af prog 227 = true:=by kernel_rfl
theorem T.YW : af prog 228 = true:=by kernel_rfl
theorem T.YX : af prog 229 = true:=by kernel_rfl
theorem T.YY : af prog 230 = true:=by kernel_rfl
theorem T.YZ : af prog 231 = true:=by kernel_rfl
theorem T.Y0 : af prog 233 = true:=by kernel_rfl
theorem T.Y3 : af prog 234 = true:=by kernel_rfl
theorem T.Y4 : af prog 236 = true:=by kernel_rfl
theorem T.Y5 : af prog 239 = true:=by kernel_rfl
theorem T.Y6 : af prog 240 = true:=by kernel_rfl
theorem T.Y7 : af prog 241 = true:=by kernel_rfl
theorem T.Y8 : af prog 242 = true:=by kernel_rfl
theorem T.Y9 : af prog 249 = true:=by kernel_rfl
theorem T.Zd : af prog 250 = true:=by kernel_rfl
theorem T.Ze : af prog 251 = true:=by kernel_rfl
theorem T.Zf : af prog 252 = true:=by kernel_rfl
theorem T.Zg : af prog 253 = true:=by kernel_rfl
theorem T.Zh : af prog 255 = true:=by kernel_rfl
theorem T.Zi : af prog 256 = true:=by kernel_rfl
theorem T.Zj : af prog 257 = true:=by kernel_rfl
theorem T.mixed : prog.follows .mixedOrders = true:=by kernel_rfl
end Go.Proofs.YtbiefppedlodiaaGreatDoor
set_option maxRecDepth 100000
namespace Go.Proofs.YtbiefppedlodiaaGreatDoor
open Go Go.AM Go.Proofs Tryz
open And renaming intro→Ai
theorem TT : type_of% (Ai (Ai UP DF) (Ai (Ai (Ai (Ai (Ai (Ai (Ai (Ai (Ai @underlying3 T.c3) (Ai T.g3 T.b3)) (Ai (Ai T.z3 ntmps173) (Ai @underlying5 (Ai T.c5 T.g5)))) (Ai (Ai (Ai T.b5 T.z5) (Ai @underlying29 T.Lh)) (Ai (Ai T.g29 T.b29) (Ai T.z29 (Ai @underlying232 T.WN))))) (Ai (Ai (Ai (Ai T.WQ T.WO) (Ai ntmps215 @underlying185)) (Ai (Ai T.Wy T.WA) (Ai T.Wz (Ai T.WB @underlying214)))) (Ai (Ai (Ai T.C5 T.WD) (Ai T.WC T.Tv)) (Ai (Ai T.YI T.YH) (Ai ntmps184 (Ai @underlying4 T.c4)))))) (Ai (Ai (Ai (Ai (Ai T.g4 T.b4) (Ai T.z4 T.Yh)) (Ai (Ai T.X7 ntmps152) (Ai T.XN (Ai ntmps183 T.Yg)))) (Ai (Ai (Ai ntmps151 ntmps150) (Ai ntmps128 ntmps148)) (Ai (Ai T.XJ ntmps149) (Ai T.XK (Ai ntmps106 @underlying24))))) (Ai (Ai (Ai (Ai T.c24 T.g24) (Ai T.b24 T.z24)) (Ai (Ai T.Mb T.Xe) (Ai ntmps47 (Ai ntmps112 ntmps110)))) (Ai (Ai (Ai ntmps160 ntmps157) (Ai ntmps192 (Ai T.Yp ntmps158))) (Ai (Ai @underlying9 T.c9) (Ai T.g9 (Ai T.b9 T.z9))))))) (Ai (Ai (Ai (Ai (Ai (Ai ntmps230 T.YX) (Ai T.YY ntmps194)) (Ai (Ai T.YU ntmps220) (Ai @underlying239 (Ai T.WT T.WV)))) (Ai (Ai (Ai T.WU T.WW) (Ai T.YV T.YP)) (Ai (Ai T.YO T.YQ) (Ai T.YT (Ai T.YW T.YS))))) (Ai (Ai (Ai (Ai T.Yq T.YR) (Ai ntmps193 T.Yr)) (Ai (Ai ntmps159 T.XS) (Ai T.XW (Ai ntmps111 T.XL)))) (Ai (Ai (Ai T.XM ntmps105) (Ai @underlying23 T.OQ)) (Ai (Ai T.g23 T.b23) (Ai T.z23 (Ai T.s23 ntmps90)))))) (Ai (Ai (Ai (Ai (Ai @underlying137 T.Wp) (Ai T.Wr T.Wq)) (Ai (Ai T.Wt T.Ws) (Ai T.Me (Ai T.Mf ntmps133)))) (Ai (Ai (Ai ntmps31 @underlying79) (Ai T.c79 T.g79)) (Ai (Ai T.b79 T.z79) (Ai T.p79 (Ai T.Xu ntmps135))))) (Ai (Ai (Ai (Ai T.Xw ntmps88) (Ai ntmps145 ntmps219)) (Ai (Ai ntmps86 ntmps175) (Ai T.X9 (Ai ntmps134 T.Xv)))) (Ai (Ai (Ai ntmps87 ntmps136) (Ai T.k90 (Ai ntmps33 @underlying34))) (Ai (Ai T.c34 T.g34) (Ai T.b34 (Ai T.z34 @underlying145)))))))) (Ai (Ai (Ai (Ai (Ai (Ai (Ai T.Wu T.Ww) (Ai T.Wv T.z145)) (Ai (Ai T.Wx T.Mg) (Ai T.Mh (Ai ntmps35 ntmps176)))) (Ai (Ai (Ai @underlying85 T.c85) (Ai T.g85 T.b85)) (Ai (Ai T.z85 T.p85) (Ai T.Ya (Ai ntmps137 ntmps177))))) (Ai (Ai (Ai (Ai T.Xy ntmps96) (Ai ntmps217 ntmps94)) (Ai (Ai T.Yb ntmps138) (Ai T.Xz (Ai ntmps95 ntmps140)))) (Ai (Ai (Ai ntmps39 ntmps38) (Ai ntmps139 ntmps91)) (Ai (Ai T.k91 ntmps92) (Ai ntmps67 (Ai @underlying89 T.c89)))))) (Ai (Ai (Ai (Ai (Ai T.g89 T.b89) (Ai T.z89 T.h89)) (Ai (Ai T.RS T.RU) (Ai T.k67 (Ai ntmps98 ntmps99)))) (Ai (Ai (Ai ntmps44 ntmps53) (Ai ntmps62 ntmps231)) (Ai (Ai @underlying54 T.RG) (Ai T.g54 (Ai T.b54 T.z54))))) (Ai (Ai (Ai (Ai T.Fi T.RH) (Ai T.RI T.RJ)) (Ai (Ai T.RK T.RL) (Ai T.k62 (Ai T.YZ ntmps195)))) (Ai (Ai (Ai ntmps197 T.k44) (Ai ntmps196 (Ai T.Yu T.Ys))) (Ai (Ai T.Yt ntmps161) (Ai T.k86 (Ai T.k88 T.XY))))))) (Ai (Ai (Ai (Ai (Ai (Ai T.k87 ntmps236) (Ai @underlying22 T.c22)) (Ai (Ai T.g22 T.b22) (Ai T.z22 (Ai T.s22 ntmps104)))) (Ai (Ai (Ai T.Xd ntmps142) (Ai T.XD ntmps144)) (Ai (Ai ntmps143 ntmps71) (Ai T.k71 (Ai ntmps179 ntmps178))))) (Ai (Ai (Ai (Ai T.Yc T.Xp) (Ai ntmps141 T.XF)) (Ai (Ai T.XC T.XE) (Ai ntmps101 (Ai ntmps51 T.Xb)))) (Ai (Ai (Ai ntmps45 ntmps73) (Ai ntmps70 T.k70)) (Ai (Ai ntmps40 T.PN) (Ai T.k47 (Ai ntmps46 ntmps250)))))) (Ai (Ai (Ai (Ai (Ai T.Zd ntmps234) (Ai ntmps249 ntmps210)) (Ai (Ai @underlying227 T.WI) (Ai T.WK (Ai T.WJ T.z227)))) (Ai (Ai (Ai T.WM ntmps208) (Ai @underlying246 T.Tx)) (Ai (Ai T.WY T.WX) (Ai T.Y9 (Ai ntmps233 @underlying215))))) (Ai (Ai (Ai (Ai T.Tw T.WG) (Ai T.WE T.WH)) (Ai (Ai T.Y0 T.Y3) (Ai ntmps200 (Ai ntmps216 @underlying50)))) (Ai (Ai (Ai T.c50 T.g50) (Ai T.b50 (Ai T.z50 T.s50))) (Ai (Ai T.YJ ntmps186) (Ai ntmps199 (Ai ntmps232 ntmps198))))))))) (Ai (Ai (Ai (Ai (Ai (Ai (Ai (Ai T.Yx T.Yj) (Ai T.Yv T.Yw)) (Ai (Ai ntmps164 ntmps209) (Ai T.YE (Ai T.YD T.YC)))) (Ai (Ai (Ai ntmps170 T.YN) (Ai T.Y4 ntmps235)) (Ai (Ai ntmps237 ntmps163) (Ai T.k31 (Ai T.k33 ntmps162))))) (Ai (Ai (Ai (Ai T.XZ T.X3) (Ai ntmps201 ntmps202)) (Ai (Ai ntmps113 T.X4) (Ai T.Yz (Ai T.Yy ntmps165)))) (Ai (Ai (Ai ntmps114 ntmps129) (Ai T.Xq ntmps77)) (Ai (Ai T.k77 T.Xn) (Ai ntmps124 (Ai ntmps61 ntmps191)))))) (Ai (Ai (Ai (Ai (Ai T.Yo T.k51) (Ai ntmps156 T.XR)) (Ai (Ai ntmps109 @underlying78) (Ai T.PF (Ai T.g78 T.b78)))) (Ai (Ai (Ai T.z78 T.h78) (Ai T.RQ T.RR)) (Ai (Ai T.k38 T.k94) (Ai T.XA (Ai T.XB ntmps97))))) (Ai (Ai (Ai (Ai @underlying87 T.c87) (Ai T.g87 T.b87)) (Ai (Ai T.z87 T.p87) (Ai @underlying108 (Ai T.PL T.Wm)))) (Ai (Ai (Ai T.Wl T.Wo) (Ai T.Wn (Ai T.Mc T.Md))) (Ai (Ai T.k98 T.k53) (Ai T.k99 (Ai ntmps100 T.Xx))))))) (Ai (Ai (Ai (Ai (Ai (Ai ntmps89 T.k92) (Ai ntmps93 @underlying30)) (Ai (Ai T.Ts T.g30) (Ai T.b30 (Ai T.z30 T.s30)))) (Ai (Ai (Ai @underlying32 T.Li) (Ai T.g32 T.b32)) (Ai (Ai T.tw T.l6) (Ai @underlying74 (Ai T.Wh T.g74))))) (Ai (Ai (Ai (Ai T.b74 T.z74) (Ai T.s74 @underlying76)) (Ai (Ai T.RB T.g76) (Ai T.b76 (Ai T.z76 T.Tu)))) (Ai (Ai (Ai T.RC T.RD) (Ai T.RF T.RO)) (Ai (Ai T.RP T.k89) (Ai ntmps32 (Ai ntmps12 T.k93)))))) (Ai (Ai (Ai (Ai (Ai ntmps34 T.k95) (Ai T.k96 T.k97)) (Ai (Ai ntmps36 T.Xa) (Ai ntmps37 (Ai @underlying51 T.c51)))) (Ai (Ai (Ai T.g51 T.b51) (Ai T.z51 T.s51)) (Ai (Ai T.k46 T.Xj) (Ai T.k73 (Ai T.k45 T.Xi))))) (Ai (Ai (Ai (Ai T.Xl T.Xk) (Ai T.Xh T.Xg)) (Ai (Ai ntmps50 T.k50) (Ai T.k61 (Ai T.k40 ntmps15)))) (Ai (Ai (Ai ntmps213 T.YG) (Ai ntmps180 (Ai ntmps203 T.YB))) (Ai (Ai T.X6 ntmps166) (Ai ntmps212 (Ai T.Yd ntmps185)))))))) (Ai (Ai (Ai (Ai (Ai (Ai (Ai ntmps146 T.X5) (Ai ntmps117 T.XH)) (Ai (Ai T.XG ntmps102) (Ai T.Xm (Ai ntmps57 T.PM)))) (Ai (Ai (Ai ntmps42 ntmps252) (Ai T.Zf ntmps257)) (Ai (Ai T.Zj ntmps255) (Ai ntmps256 (Ai T.Zh T.Zi))))) (Ai (Ai (Ai (Ai ntmps251 @underlying252) (Ai T.Tz T.W4)) (Ai (Ai T.WZ T.Ze) (Ai ntmps239 (Ai @underlying236 T.Mi)))) (Ai (Ai (Ai T.WS T.WR) (Ai T.z236 ntmps241)) (Ai (Ai @underlying264 T.TB) (Ai T.W8 (Ai T.W7 T.W9)))))) (Ai (Ai (Ai (Ai (Ai ntmps253 T.Zg) (Ai ntmps242 @underlying254)) (Ai (Ai T.TA T.W6) (Ai T.W5 (Ai ntmps240 T.Y6)))) (Ai (Ai (Ai T.Y5 T.Y8) (Ai T.Y7 ntmps218)) (Ai (Ai T.YM T.YK) (Ai T.k35 (Ai ntmps189 ntmps188))))) (Ai (Ai (Ai (Ai ntmps190 T.Ym) (Ai T.Yn T.Yl)) (Ai (Ai ntmps155 T.YF) (Ai ntmps174 (Ai ntmps182 ntmps181)))) (Ai (Ai (Ai T.Ye T.Yf) (Ai ntmps147 (Ai T.XI ntmps103))) (Ai (Ai ntmps126 T.Xo) (Ai ntmps68 (Ai ntmps187 ntmps41))))))) (Ai (Ai (Ai (Ai (Ai (Ai T.k57 ntmps18) (Ai T.Xc ntmps43)) (Ai (Ai T.k68 ntmps19) (Ai T.Yk (Ai ntmps154 T.Yi)))) (Ai (Ai (Ai ntmps153 T.XO) (Ai T.XP T.k41)) (Ai (Ai T.XQ T.k43) (Ai ntmps107 (Ai T.X8 ntmps132))))) (Ai (Ai (Ai (Ai T.k42 ntmps49) (Ai ntmps25 @underlying33)) (Ai (Ai T.c33 T.g33) (Ai T.b33 (Ai T.z33 T.s33)))) (Ai (Ai (Ai @underlying67 T.c67) (Ai T.OR T.b67)) (Ai (Ai T.z67 T.h67) (Ai ntmps130 (Ai T.Xr ntmps81)))))) (Ai (Ai (Ai (Ai (Ai ntmps82 T.RM) (Ai ntmps131 ntmps83)) (Ai (Ai ntmps78 ntmps80) (Ai ntmps108 (Ai T.RN T.k49)))) (Ai (Ai (Ai ntmps74 T.Xt) (Ai ntmps79 T.k81)) (Ai (Ai T.k82 T.k74) (Ai T.k79 (Ai T.Hp ntmps27))))) (Ai (Ai (Ai (Ai T.k25 T.Xf) (Ai T.PO ntmps48)) (Ai (Ai T.k48 ntmps10) (Ai T.k19 (Ai T.k27 T.Vk)))) (Ai (Ai (Ai T.IL ntmps8) (Ai T.k32 (Ai T.k8 T.k37))) (Ai (Ai T.k39 T.k34) (Ai T.k36 (Ai T.Gv ntmps7))))))))))) :=
  (Ai (Ai UP DF) (Ai (Ai (Ai (Ai (Ai (Ai (Ai (Ai (Ai @underlying3 T.c3) (Ai T.g3 T.b3)) (Ai (Ai T.z3 ntmps173) (Ai @underlying5 (Ai T.c5 T.g5)))) (Ai (Ai (Ai T.b5 T.z5) (Ai @underlying29 T.Lh)) (Ai (Ai T.g29 T.b29) (Ai T.z29 (Ai @underlying232 T.WN))))) (Ai (Ai (Ai (Ai T.WQ T.WO) (Ai ntmps215 @underlying185)) (Ai (Ai T.Wy T.WA) (Ai T.Wz (Ai T.WB @underlying214)))) (Ai (Ai (Ai T.C5 T.WD) (Ai T.WC T.Tv)) (Ai (Ai T.YI T.YH) (Ai ntmps184 (Ai @underlying4 T.c4)))))) (Ai (Ai (Ai (Ai (Ai T.g4 T.b4) (Ai T.z4 T.Yh)) (Ai (Ai T.X7 ntmps152) (Ai T.XN (Ai ntmps183 T.Yg)))) (Ai (Ai (Ai ntmps151 ntmps150) (Ai ntmps128 ntmps148)) (Ai (Ai T.XJ ntmps149) (Ai T.XK (Ai ntmps106 @underlying24))))) (Ai (Ai (Ai (Ai T.c24 T.g24) (Ai T.b24 T.z24)) (Ai (Ai T.Mb T.Xe) (Ai ntmps47 (Ai ntmps112 ntmps110)))) (Ai (Ai (Ai ntmps160 ntmps157) (Ai ntmps192 (Ai T.Yp ntmps158))) (Ai (Ai @underlying9 T.c9) (Ai T.g9 (Ai T.b9 T.z9))))))) (Ai (Ai (Ai (Ai (Ai (Ai ntmps230 T.YX) (Ai T.YY ntmps194)) (Ai (Ai T.YU ntmps220) (Ai @underlying239 (Ai T.WT T.WV)))) (Ai (Ai (Ai T.WU T.WW) (Ai T.YV T.YP)) (Ai (Ai T.YO T.YQ) (Ai T.YT (Ai T.YW T.YS))))) (Ai (Ai (Ai (Ai T.Yq T.YR) (Ai ntmps193 T.Yr)) (Ai (Ai ntmps159 T.XS) (Ai T.XW (Ai ntmps111 T.XL)))) (Ai (Ai (Ai T.XM ntmps105) (Ai @underlying23 T.OQ)) (Ai (Ai T.g23 T.b23) (Ai T.z23 (Ai T.s23 ntmps90)))))) (Ai (Ai (Ai (Ai (Ai @underlying137 T.Wp) (Ai T.Wr T.Wq)) (Ai (Ai T.Wt T.Ws) (Ai T.Me (Ai T.Mf ntmps133)))) (Ai (Ai (Ai ntmps31 @underlying79) (Ai T.c79 T.g79)) (Ai (Ai T.b79 T.z79) (Ai T.p79 (Ai T.Xu ntmps135))))) (Ai (Ai (Ai (Ai T.Xw ntmps88) (Ai ntmps145 ntmps219)) (Ai (Ai ntmps86 ntmps175) (Ai T.X9 (Ai ntmps134 T.Xv)))) (Ai (Ai (Ai ntmps87 ntmps136) (Ai T.k90 (Ai ntmps33 @underlying34))) (Ai (Ai T.c34 T.g34) (Ai T.b34 (Ai T.z34 @underlying145)))))))) (Ai (Ai (Ai (Ai (Ai (Ai (Ai T.Wu T.Ww) (Ai T.Wv T.z145)) (Ai (Ai T.Wx T.Mg) (Ai T.Mh (Ai ntmps35 ntmps176)))) (Ai (Ai (Ai @underlying85 T.c85) (Ai T.g85 T.b85)) (Ai (Ai T.z85 T.p85) (Ai T.Ya (Ai ntmps137 ntmps177))))) (Ai (Ai (Ai (Ai T.Xy ntmps96) (Ai ntmps217 ntmps94)) (Ai (Ai T.Yb ntmps138) (Ai T.Xz (Ai ntmps95 ntmps140)))) (Ai (Ai (Ai ntmps39 ntmps38) (Ai ntmps139 ntmps91)) (Ai (Ai T.k91 ntmps92) (Ai ntmps67 (Ai @underlying89 T.c89)))))) (Ai (Ai (Ai (Ai (Ai T.g89 T.b89) (Ai T.z89 T.h89)) (Ai (Ai T.RS T.RU) (Ai T.k67 (Ai ntmps98 ntmps99)))) (Ai (Ai (Ai ntmps44 ntmps53) (Ai ntmps62 ntmps231)) (Ai (Ai @underlying54 T.RG) (Ai T.g54 (Ai T.b54 T.z54))))) (Ai (Ai (Ai (Ai T.Fi T.RH) (Ai T.RI T.RJ)) (Ai (Ai T.RK T.RL) (Ai T.k62 (Ai T.YZ ntmps195)))) (Ai (Ai (Ai ntmps197 T.k44) (Ai ntmps196 (Ai T.Yu T.Ys))) (Ai (Ai T.Yt ntmps161) (Ai T.k86 (Ai T.k88 T.XY))))))) (Ai (Ai (Ai (Ai (Ai (Ai T.k87 ntmps236) (Ai @underlying22 T.c22)) (Ai (Ai T.g22 T.b22) (Ai T.z22 (Ai T.s22 ntmps104)))) (Ai (Ai (Ai T.Xd ntmps142) (Ai T.XD ntmps144)) (Ai (Ai ntmps143 ntmps71) (Ai T.k71 (Ai ntmps179 ntmps178))))) (Ai (Ai (Ai (Ai T.Yc T.Xp) (Ai ntmps141 T.XF)) (Ai (Ai T.XC T.XE) (Ai ntmps101 (Ai ntmps51 T.Xb)))) (Ai (Ai (Ai ntmps45 ntmps73) (Ai ntmps70 T.k70)) (Ai (Ai ntmps40 T.PN) (Ai T.k47 (Ai ntmps46 ntmps250)))))) (Ai (Ai (Ai (Ai (Ai T.Zd ntmps234) (Ai ntmps249 ntmps210)) (Ai (Ai @underlying227 T.WI) (Ai T.WK (Ai T.WJ T.z227)))) (Ai (Ai (Ai T.WM ntmps208) (Ai @underlying246 T.Tx)) (Ai (Ai T.WY T.WX) (Ai T.Y9 (Ai ntmps233 @underlying215))))) (Ai (Ai (Ai (Ai T.Tw T.WG) (Ai T.WE T.WH)) (Ai (Ai T.Y0 T.Y3) (Ai ntmps200 (Ai ntmps216 @underlying50)))) (Ai (Ai (Ai T.c50 T.g50) (Ai T.b50 (Ai T.z50 T.s50))) (Ai (Ai T.YJ ntmps186) (Ai ntmps199 (Ai ntmps232 ntmps198))))))))) (Ai (Ai (Ai (Ai (Ai (Ai (Ai (Ai T.Yx T.Yj) (Ai T.Yv T.Yw)) (Ai (Ai ntmps164 ntmps209) (Ai T.YE (Ai T.YD T.YC)))) (Ai (Ai (Ai ntmps170 T.YN) (Ai T.Y4 ntmps235)) (Ai (Ai ntmps237 ntmps163) (Ai T.k31 (Ai T.k33 ntmps162))))) (Ai (Ai (Ai (Ai T.XZ T.X3) (Ai ntmps201 ntmps202)) (Ai (Ai ntmps113 T.X4) (Ai T.Yz (Ai T.Yy ntmps165)))) (Ai (Ai (Ai ntmps114 ntmps129) (Ai T.Xq ntmps77)) (Ai (Ai T.k77 T.Xn) (Ai ntmps124 (Ai ntmps61 ntmps191)))))) (Ai (Ai (Ai (Ai (Ai T.Yo T.k51) (Ai ntmps156 T.XR)) (Ai (Ai ntmps109 @underlying78) (Ai T.PF (Ai T.g78 T.b78)))) (Ai (Ai (Ai T.z78 T.h78) (Ai T.RQ T.RR)) (Ai (Ai T.k38 T.k94) (Ai T.XA (Ai T.XB ntmps97))))) (Ai (Ai (Ai (Ai @underlying87 T.c87) (Ai T.g87 T.b87)) (Ai (Ai T.z87 T.p87) (Ai @underlying108 (Ai T.PL T.Wm)))) (Ai (Ai (Ai T.Wl T.Wo) (Ai T.Wn (Ai T.Mc T.Md))) (Ai (Ai T.k98 T.k53) (Ai T.k99 (Ai ntmps100 T.Xx))))))) (Ai (Ai (Ai (Ai (Ai (Ai ntmps89 T.k92) (Ai ntmps93 @underlying30)) (Ai (Ai T.Ts T.g30) (Ai T.b30 (Ai T.z30 T.s30)))) (Ai (Ai (Ai @underlying32 T.Li) (Ai T.g32 T.b32)) (Ai (Ai T.tw T.l6) (Ai @underlying74 (Ai T.Wh T.g74))))) (Ai (Ai (Ai (Ai T.b74 T.z74) (Ai T.s74 @underlying76)) (Ai (Ai T.RB T.g76) (Ai T.b76 (Ai T.z76 T.Tu)))) (Ai (Ai (Ai T.RC T.RD) (Ai T.RF T.RO)) (Ai (Ai T.RP T.k89) (Ai ntmps32 (Ai ntmps12 T.k93)))))) (Ai (Ai (Ai (Ai (Ai ntmps34 T.k95) (Ai T.k96 T.k97)) (Ai (Ai ntmps36 T.Xa) (Ai ntmps37 (Ai @underlying51 T.c51)))) (Ai (Ai (Ai T.g51 T.b51) (Ai T.z51 T.s51)) (Ai (Ai T.k46 T.Xj) (Ai T.k73 (Ai T.k45 T.Xi))))) (Ai (Ai (Ai (Ai T.Xl T.Xk) (Ai T.Xh T.Xg)) (Ai (Ai ntmps50 T.k50) (Ai T.k61 (Ai T.k40 ntmps15)))) (Ai (Ai (Ai ntmps213 T.YG) (Ai ntmps180 (Ai ntmps203 T.YB))) (Ai (Ai T.X6 ntmps166) (Ai ntmps212 (Ai T.Yd ntmps185)))))))) (Ai (Ai (Ai (Ai (Ai (Ai (Ai ntmps146 T.X5) (Ai ntmps117 T.XH)) (Ai (Ai T.XG ntmps102) (Ai T.Xm (Ai ntmps57 T.PM)))) (Ai (Ai (Ai ntmps42 ntmps252) (Ai T.Zf ntmps257)) (Ai (Ai T.Zj ntmps255) (Ai ntmps256 (Ai T.Zh T.Zi))))) (Ai (Ai (Ai (Ai ntmps251 @underlying252) (Ai T.Tz T.W4)) (Ai (Ai T.WZ T.Ze) (Ai ntmps239 (Ai @underlying236 T.Mi)))) (Ai (Ai (Ai T.WS T.WR) (Ai T.z236 ntmps241)) (Ai (Ai @underlying264 T.TB) (Ai T.W8 (Ai T.W7 T.W9)))))) (Ai (Ai (Ai (Ai (Ai ntmps253 T.Zg) (Ai ntmps242 @underlying254)) (Ai (Ai T.TA T.W6) (Ai T.W5 (Ai ntmps240 T.Y6)))) (Ai (Ai (Ai T.Y5 T.Y8) (Ai T.Y7 ntmps218)) (Ai (Ai T.YM T.YK) (Ai T.k35 (Ai ntmps189 ntmps188))))) (Ai (Ai (Ai (Ai ntmps190 T.Ym) (Ai T.Yn T.Yl)) (Ai (Ai ntmps155 T.YF) (Ai ntmps174 (Ai ntmps182 ntmps181)))) (Ai (Ai (Ai T.Ye T.Yf) (Ai ntmps147 (Ai T.XI ntmps103))) (Ai (Ai ntmps126 T.Xo) (Ai ntmps68 (Ai ntmps187 ntmps41))))))) (Ai (Ai (Ai (Ai (Ai (Ai T.k57 ntmps18) (Ai T.Xc ntmps43)) (Ai (Ai T.k68 ntmps19) (Ai T.Yk (Ai ntmps154 T.Yi)))) (Ai (Ai (Ai ntmps153 T.XO) (Ai T.XP T.k41)) (Ai (Ai T.XQ T.k43) (Ai ntmps107 (Ai T.X8 ntmps132))))) (Ai (Ai (Ai (Ai T.k42 ntmps49) (Ai ntmps25 @underlying33)) (Ai (Ai T.c33 T.g33) (Ai T.b33 (Ai T.z33 T.s33)))) (Ai (Ai (Ai @underlying67 T.c67) (Ai T.OR T.b67)) (Ai (Ai T.z67 T.h67) (Ai ntmps130 (Ai T.Xr ntmps81)))))) (Ai (Ai (Ai (Ai (Ai ntmps82 T.RM) (Ai ntmps131 ntmps83)) (Ai (Ai ntmps78 ntmps80) (Ai ntmps108 (Ai T.RN T.k49)))) (Ai (Ai (Ai ntmps74 T.Xt) (Ai ntmps79 T.k81)) (Ai (Ai T.k82 T.k74) (Ai T.k79 (Ai T.Hp ntmps27))))) (Ai (Ai (Ai (Ai T.k25 T.Xf) (Ai T.PO ntmps48)) (Ai (Ai T.k48 ntmps10) (Ai T.k19 (Ai T.k27 T.Vk)))) (Ai (Ai (Ai T.IL ntmps8) (Ai T.k32 (Ai T.k8 T.k37))) (Ai (Ai T.k39 T.k34) (Ai T.k36 (Ai T.Gv ntmps7)))))))))))
theorem DM : type_of% (Ai @bI @bp) :=
  (Ai @bI @bp)
section
variable {P : Program} {Γ : Nat→List AV} {N : Nat} {Q : Exit→Env→AS→Prop} {E E' : Env} {s s' : AS} {id : Nat} {L : List Oper} {x y : Code} {c : Operand} {H Z : Prop} {O : Array Oper} {W : Env→AS→Prop} {M : (Env→AS→Prop)→Prop} {f : FuncId} {ags : List AV} {v : AV} {s0 s2 : AS} {E2 : AS→Env} {s3 : AS→AS}
theorem jA (k : ck P Γ N y Q E' s') (h : ∀ K : Env→AS→Prop,K E' s'→AY P Γ N L.toArray L K E s:=by (intro K hK; simp only [↓DN,Qa,Qb,Qc,Qd,Qe,Qf,Qg,Qh,reduceCtorEq,↓reduceIte,Na,Nb,Nc,Nk,Nf,Ng,Nh,Za,Zb,Zc,TT]; exact hK)) : ck P Γ N (.seq (.region id L.toArray false) y) Q E s:=wS fun K hK=>h K (hK _ _ k)
theorem jB (a : H) (k : ck P Γ N y Q E' s') (h : H→∀ K : Env→AS→Prop,K E' s'→AY P Γ N L.toArray L K E s:=by (intro a K hK; simp only [↓DN,Qa,Qb,Qc,Qd,Qe,Qf,Qg,Qh,reduceCtorEq,↓reduceIte,Na,Nb,Nc,Nk,Nf,Ng,Nh,Za,Zb,Zc,TT,a]; exact hK)) : ck P Γ N (.seq (.region id L.toArray false) y) Q E s:=wS fun K hK=>h a K (hK _ _ k)
theorem jC (k : Q .normal E' s') (h : ∀ K : Env→AS→Prop,K E' s'→AY P Γ N L.toArray L K E s:=by (intro K hK; simp only [↓DN,Qa,Qb,Qc,Qd,Qe,Qf,Qg,Qh,reduceCtorEq,↓reduceIte,Na,Nb,Nc,Nk,Nf,Ng,Nh,Za,Zb,Zc,TT]; exact hK)) : ck P Γ N (.region id L.toArray false) Q E s:=wE fun K hK=>h K (hK _ _ k)
theorem jD (a : H) (k : Q .normal E' s') (h : H→∀ K : Env→AS→Prop,K E' s'→AY P Γ N L.toArray L K E s:=by (intro a K hK; simp only [↓DN,Qa,Qb,Qc,Qd,Qe,Qf,Qg,Qh,reduceCtorEq,↓reduceIte,Na,Nb,Nc,Nk,Nf,Ng,Nh,Za,Zb,Zc,TT,a]; exact hK)) : ck P Γ N (.region id L.toArray false) Q E s:=wE fun K hK=>h a K (hK _ _ k)
theorem jE (k : ck P Γ N x Q E s) (h : ∀ X Y : Prop,X→match aI Γ E c with | .v (.bool t)=>(t = true→X)∧(t = false→Y) | _=>False:=by (intro X Y hX; simp only [UP,DF,Nc,↓reduceIte,DB]; exact hX)) : ck P Γ N (.cond c x y) Q E s:=wC fun X Y hX hY=>h X Y (hX k)
theorem jF (k : ck P Γ N y Q E s) (h : ∀ X Y : Prop,Y→match aI Γ E c with | .v (.bool t)=>(t = true→X)∧(t = false→Y) | _=>False:=by (intro X Y hX; simp only [UP,DF,Nc,↓reduceIte,DB]; exact hX)) : ck P Γ N (.cond c x y) Q E s:=wC fun X Y hX hY=>h X Y (hY k)
theorem jG (a : H) (k : ck P Γ N x Q E s) (h : H→∀ X Y : Prop,X→match aI Γ E c with | .v (.bool t)=>(t = true→X)∧(t = false→Y) | _=>False:=by (intro a X Y hX; simp only [UP,DF,Nc,↓reduceIte,DB,a]; exact hX)) : ck P Γ N (.cond c x y) Q E s:=wC fun X Y hX hY=>h a X Y (hX k)
theorem jH (a : H) (k : ck P Γ N y Q E s) (h : H→∀ X Y : Prop,Y→match aI Γ E c with | .v (.bool t)=>(t = true→X)∧(t = false→Y) | _=>False:=by (intro a X Y hX; simp only [UP,DF,Nc,↓reduceIte,DB,a]; exact hX)) : ck P Γ N (.cond c x y) Q E s:=wC fun X Y hX hY=>h a X Y (hY k)
theorem jI (k : Z) (h : Z→Q .ret E s:=by (intro hz; (try simp only [az,aw]); simp only [cn,bz,bD,dy,List.toList_toArray,↓a8]; (try simp only [UP,DF,Nc,↓reduceIte,DT]); exact hz)) : ck P Γ N .ret Q E s:=a7 (h k)
theorem jJ (h : Q .ret E s:=by ((try simp only [az,aw]); simp only [cn,bz,bD,dy,List.toList_toArray,↓a8]; (try simp only [UP,DF,Nc,↓reduceIte,DT]); exact ⟨_,_,AV.aA.refl _,AS.le.refl _,rfl,rfl⟩)) : ck P Γ N .ret Q E s:=a7 h
theorem jK (a : ah P Γ f ags s0 fun r s'=>r = v∧s' = s2) (k : ∀ s1,s1 = s2→ck P Γ N y Q (E2 s1) (s3 s1)) (h : (ah P Γ f ags s0 fun r s'=>r = v∧s' = s2)→∀ K : Env→AS→Prop,(∀ s1,s1 = s2→K (E2 s1) (s3 s1))→AY P Γ N L.toArray L K E s:=by (intro a K hK; simp only [↓DN,Qa,Qb,Qc,Qd,Qe,Qf,Qg,Qh,reduceCtorEq,↓reduceIte,Na,Nb,Nc,Nk,Nf,Ng,Nh,Za,Zb,Zc,TT]; refine ad a ?_; rintro _ s1 ⟨rfl,e⟩; simp only [↓DM,bL,DX,Nz,↓DN,Qa,Qb,Qc,Qd,Qe,Qf,Qg,Qh,reduceCtorEq,↓reduceIte,Na,Nb,Nc,Nk,Nf,Ng,Nh,Za,Zb,Zc,TT]; exact hK s1 e)) : ck P Γ N (.seq (.region id L.toArray false) y) Q E s:=wS fun K hK=>h a K fun s1 e=>hK _ _ (k s1 e)
theorem jL (a : ah P Γ f ags s0 fun r s'=>r = v∧s' = s2) (k : ∀ s1,s1 = s2→Q .normal (E2 s1) (s3 s1)) (h : (ah P Γ f ags s0 fun r s'=>r = v∧s' = s2)→∀ K : Env→AS→Prop,(∀ s1,s1 = s2→K (E2 s1) (s3 s1))→AY P Γ N L.toArray L K E s:=by (intro a K hK; simp only [↓DN,Qa,Qb,Qc,Qd,Qe,Qf,Qg,Qh,reduceCtorEq,↓reduceIte,Na,Nb,Nc,Nk,Nf,Ng,Nh,Za,Zb,Zc,TT]; refine ad a ?_; rintro _ s1 ⟨rfl,e⟩; simp only [↓DM,bL,DX,Nz,↓DN,Qa,Qb,Qc,Qd,Qe,Qf,Qg,Qh,reduceCtorEq,↓reduceIte,Na,Nb,Nc,Nk,Nf,Ng,Nh,Za,Zb,Zc,TT]; exact hK s1 e)) : ck P Γ N (.region id L.toArray false) Q E s:=wE fun K hK=>h a K fun s1 e=>hK _ _ (k s1 e)
theorem jQ (k : ∀ K : Env→AS→Prop,(∀ E s,ck P Γ N y Q E s→K E s)→M K) (h : ∀ K : Env→AS→Prop,M K→AY P Γ N L.toArray L K E s:=by (intro K hz; simp only [↓DN,Qa,Qb,Qc,Qd,Qe,Qf,Qg,Qh,reduceCtorEq,↓reduceIte,Na,Nb,Nc,Nk,Nf,Ng,Nh,Za,Zb,Zc,TT]; exact hz)) : ck P Γ N (.seq (.region id L.toArray false) y) Q E s:=wS fun K hK=>h K (k K hK)
theorem jS (a : H) (k : ∀ K : Env→AS→Prop,(∀ E s,ck P Γ N y Q E s→K E s)→M K) (h : H→∀ K : Env→AS→Prop,M K→AY P Γ N L.toArray L K E s:=by (intro a K hz; simp only [↓DN,Qa,Qb,Qc,Qd,Qe,Qf,Qg,Qh,reduceCtorEq,↓reduceIte,Na,Nb,Nc,Nk,Nf,Ng,Nh,Za,Zb,Zc,TT,a]; exact hz)) : ck P Γ N (.seq (.region id L.toArray false) y) Q E s:=wS fun K hK=>h a K (k K hK)
theorem jT (k : ∀ K : Env→AS→Prop,(∀ E s,Q .normal E s→K E s)→M K) (h : ∀ K : Env→AS→Prop,M K→AY P Γ N L.toArray L K E s:=by (intro K hz; simp only [↓DN,Qa,Qb,Qc,Qd,Qe,Qf,Qg,Qh,reduceCtorEq,↓reduceIte,Na,Nb,Nc,Nk,Nf,Ng,Nh,Za,Zb,Zc,TT]; exact hz)) : ck P Γ N (.region id L.toArray false) Q E s:=wE fun K hK=>h K (k K hK)
theorem jU (a : H) (k : ∀ K : Env→AS→Prop,(∀ E s,Q .normal E s→K E s)→M K) (h : H→∀ K : Env→AS→Prop,M K→AY P Γ N L.toArray L K E s:=by (intro a K hz; simp only [↓DN,Qa,Qb,Qc,Qd,Qe,Qf,Qg,Qh,reduceCtorEq,↓reduceIte,Na,Nb,Nc,Nk,Nf,Ng,Nh,Za,Zb,Zc,TT,a]; exact hz)) : ck P Γ N (.region id L.toArray false) Q E s:=wE fun K hK=>h a K (k K hK)
theorem jR {K : Env→AS→Prop} (hK : ∀ E s,W E s→K E s) (k : W E' s') (h : K E' s'→Z:=by (intro hK; simp only [↓DM,bL,DX,Nz,↓DN,Qa,Qb,Qc,Qd,Qe,Qf,Qg,Qh,reduceCtorEq,↓reduceIte,Na,Nb,Nc,Nk,Nf,Ng,Nh,Za,Zb,Zc,TT]; exact hK)) : Z:=h (hK _ _ k)
theorem jV {K : Env→AS→Prop} (a : H) (hK : ∀ E s,W E s→K E s) (k : W E' s') (h : H→K E' s'→Z:=by (intro a hK; simp only [↓DM,bL,DX,Nz,↓DN,Qa,Qb,Qc,Qd,Qe,Qf,Qg,Qh,reduceCtorEq,↓reduceIte,Na,Nb,Nc,Nk,Nf,Ng,Nh,Za,Zb,Zc,TT,a]; exact hK)) : Z:=h a (hK _ _ k)
end
theorem jM {A Z : Prop} (k : A) (h : A→Z:=by (intro hA; simp only [↓DM,bL,DX,Nz,↓DN,Qa,Qb,Qc,Qd,Qe,Qf,Qg,Qh,reduceCtorEq,↓reduceIte,Na,Nb,Nc,Nk,Nf,Ng,Nh,Za,Zb,Zc,TT]; exact hA)) : Z:=h k
theorem jN {A Z H : Prop} (a : H) (k : A) (h : H→A→Z:=by (intro a hA; simp only [↓DM,bL,DX,Nz,↓DN,Qa,Qb,Qc,Qd,Qe,Qf,Qg,Qh,reduceCtorEq,↓reduceIte,Na,Nb,Nc,Nk,Nf,Ng,Nh,Za,Zb,Zc,TT,a]; exact hA)) : Z:=h a k
theorem jO {A Z : Prop} (k : A) (h : A→Z:=by (intro hA; simp only [↓DN,Qa,Qb,Qc,Qd,Qe,Qf,Qg,Qh,reduceCtorEq,↓reduceIte,Na,Nb,Nc,Nk,Nf,Ng,Nh,Za,Zb,Zc,TT]; exact hA)) : Z:=h k
theorem jP {A Z H : Prop} (a : H) (k : A) (h : H→A→Z:=by (intro a hA; simp only [↓DN,Qa,Qb,Qc,Qd,Qe,Qf,Qg,Qh,reduceCtorEq,↓reduceIte,Na,Nb,Nc,Nk,Nf,Ng,Nh,Za,Zb,Zc,TT,a]; exact hA)) : Z:=h a k
theorem jW {v : AV} {s : AS} {R : AV→AS→Prop} (h : R v s) : ∃ r s',v.aA r∧s'.le s∧R r s':=⟨_,_,AV.aA.refl _,AS.le.refl _,h⟩
end Go.Proofs.YtbiefppedlodiaaGreatDoor
namespace Go.AM
open Go
def aV (n : Int) : AV:=.v (.int .i64 n)
def aR (l : List Int) (sp : Sp) : AV:=.sl 1 l.length (l.map aV) sp
theorem mr {l : List Int} {i : Nat} (h : i < l.length) : List.take 1 (List.drop i (l.map aV)) = [.v (.int .i64 l[i])]:=by
  rw [List.drop_eq_getElem_cons (by simpa using h)];simp [aV]
theorem C6 {α : Type} {a b : List α} {i : Nat} (ha : i < a.length) (hb : i < b.length) (h : a.take i = b.take i) (e : a[i] = b[i]) : a.take (i + 1) = b.take (i + 1):=by
  rw [List.take_succ_eq_append_getElem ha,List.take_succ_eq_append_getElem hb,h,e]
structure ao where
  kind : Int
  name : List UInt8
  key : Nat
  parent : List UInt8
  kY : List Int
  deriving DecidableEq
def ao.cells (n : ao) : List AV:=[.v (.int .i64 n.kind),aj n.name .any,.v (.int .u64 n.key),aj n.parent .any,aR n.kY .any]
def ao.kA : ao:=⟨0,[],0,[],[]⟩
theorem C7 (k k' : Int) (m m' p p' : List UInt8) (y y' : Nat) (u u' : List Int) :
    decide ((⟨k,m,y,p,u⟩ : ao) = ⟨k',m',y',p',u'⟩) = ((k == k') && (((y : Int) == (y' : Int)) && (decide (m = m') && (decide (p = p') && decide (u = u'))))):=by
  rw [Bool.eq_iff_iff,decide_eq_true_iff];simp only [ao.mk.injEq,Bool.and_eq_true,beq_iff_eq,decide_eq_true_eq,Int.natCast_inj];constructor
  · rintro ⟨h1,h2,h3,h4,h5⟩;exact ⟨h1,h3,h2,h4,h5⟩
  · rintro ⟨h1,h3,h2,h4,h5⟩;exact ⟨h1,h2,h3,h4,h5⟩
def AA (l : List Int) (i : Nat) : Prop:=0≤l.getD i 0∧l.getD i 0 < 32∧(0 < i→l.getD (i - 1) 0 < l.getD i 0)
instance xbJ (l : List Int) (i : Nat) : Decidable (AA l i):=by unfold AA; infer_instance
def lH (l : List Int) : Prop:=∀ i,i < l.length→AA l i
instance Vl (l : List Int) : Decidable (lH l):=by unfold lH; infer_instance
theorem IM {l : List Int} {i : Nat} (h : i < l.length) (h1 : 0≤l[i]) (h2 : l[i] < 32) (h3 : ∀ k : 0 < i,l[i - 1] < l[i]) : AA l i:=by
  unfold AA;have e : l.getD i 0 = l[i]:=(by simp [List.getD,h]);refine ⟨by rw [e]; exact h1,by rw [e]; exact h2,fun k=>?_⟩;have e2 : l.getD (i - 1) 0 = l[i - 1]:=(by simp [List.getD,show i - 1 < l.length by omega]);rw [e,e2];exact h3 k
theorem tB {l : List Int} {i : Nat} (h : i < l.length) (k : AA l i) : 0≤l[i]∧l[i] < 32∧(∀ q : 0 < i,l[i - 1] < l[i]):=by
  unfold AA at k;have e : l.getD i 0 = l[i]:=(by simp [List.getD,h]);rw [e] at k;refine ⟨k.1,k.2.1,fun q=>?_⟩;have e2 : l.getD (i - 1) 0 = l[i - 1]:=(by simp [List.getD,show i - 1 < l.length by omega]);have:=k.2.2 q;rwa [e2] at this
def ao.held (N : ao) : Prop:=2≤N.key∧N.key≤2305843009213693949∧(N.parent.length = 0∨N.parent.length = 32)
instance RV (N : ao) : Decidable N.held:=by unfold ao.held; infer_instance
def ao.right (N : ao) : Prop :=
  if N.kind = 0 then N = ao.kA
  else if N.kind = 1 then (1≤N.name.length∧N.name.length≤16∧N.held∧N.kY.length = 0)
  else if N.kind = 2 then (N.name.length = 0∧N.held∧lH N.kY)
  else False
instance PQ (N : ao) : Decidable N.right:=by unfold ao.right; infer_instance
theorem yJ {N : ao} (h : N.kind = 0) : N.right↔N = ao.kA:=by unfold ao.right; rw [if_pos h]
theorem m8 {N : ao} (h : N.kind = 1) : N.right↔(1≤N.name.length∧N.name.length≤16∧N.held∧N.kY.length = 0):=by unfold ao.right; rw [if_neg (by omega),if_pos h]
theorem m9 {N : ao} (h : N.kind = 2) : N.right↔(N.name.length = 0∧N.held∧lH N.kY):=by unfold ao.right; rw [if_neg (by omega),if_neg (by omega),if_pos h]
theorem Hq {N : ao} (h0 : N.kind≠0) (h1 : N.kind≠1) (h2 : N.kind≠2) : ¬ N.right:=by unfold ao.right; rw [if_neg h0,if_neg h1,if_neg h2]; exact id
structure Rec where
  kind : Int
  group : List UInt8
  iA : Int
  time : Int
  bucket : Int
  body : List UInt8
  tree : List UInt8
  script : List UInt8
  wrapped : List UInt8
  deriving DecidableEq
def Rec.cells (r : Rec) : List AV:=[.v (.int .i64 r.kind),aj r.group .any,.v (.int .i64 r.iA),.v (.int .i64 r.time),.v (.int .i64 r.bucket),aj r.body .any,aj r.tree .any,aj r.script .any,aj r.wrapped .any]
def Rec.kA : Rec:=⟨0,[],0,0,0,[],[],[],[]⟩
def Rec.right (r : Rec) : Prop :=
  1≤r.kind∧r.kind≤3∧1≤r.group.length∧r.group.length≤16∧0≤r.iA∧r.iA≤1048576∧0≤r.time∧r.time≤1099511627776∧0≤r.bucket∧r.bucket≤1099511627776∧r.body.length≤60000 ∧
    r.tree.length = (if r.kind = 3 then 0 else 32)∧r.script.length = (if r.kind = 3 then 0 else 32)∧r.wrapped.length = (if r.kind = 3 then 0 else 48)
instance (r : Rec) : Decidable r.right:=by unfold Rec.right; infer_instance
def Rec.text (r : Rec) : List UInt8 :=
  be 1 r.kind.toNat ++ (be 1 r.group.length ++ r.group ++ (be 8 r.iA.toNat ++ (be 8 r.time.toNat ++ (be 8 r.bucket.toNat ++
    (be 2 r.body.length ++ r.body ++ (be 1 r.tree.length ++ r.tree ++ (be 1 r.script.length ++ r.script ++ (be 1 r.wrapped.length ++ r.wrapped ++ []))))))))
theorem gV (k n : Nat) (st : List UInt8 × Bool) : dN k n st = cx (be k n) st:=rfl
theorem eg {k n : Nat} (h : n < 256 ^ k) (st : List UInt8 × Bool) : bf k (n : Int) st = cx (be k n) st:=by
  have e : (256 : Nat) ^ k = 2 ^ (8 * k):=(by rw [Nat.pow_mul]);have hh : (n : Int) < 2 ^ (8 * k):=by
    rw [e] at h;exact_mod_cast h
  unfold bf;rw [if_pos ⟨by omega,hh⟩];simp only [Int.toNat_natCast,gV]
theorem cv (a b : List UInt8) (st : List UInt8 × Bool) : cx a (cx b st) = cx (b ++ a) st:=by
  unfold cx;by_cases h : st.2 = true
  · simp [h]
  · simp [h]
theorem mu {k : Nat} {m : List UInt8} (h : m.length < 256 ^ k) (st : List UInt8 × Bool) : dj k m st = cx (be k m.length ++ m) st:=by
  unfold dj;rw [eg h,cv]
theorem yK (st : List UInt8 × Bool) : cx [] st = st:=by
  unfold cx;split
  · rfl
  · rename_i h;obtain ⟨a,b⟩:=st;simp at h;simp [h]
def iB (l : List Int) : List UInt8:=(l.map fun x=>be 1 x.toNat).flatten
def ao.text (N : ao) : List UInt8 :=
  if N.kind = 0 then be 1 0
  else if N.kind = 1 then be 1 1 ++ (be 1 N.name.length ++ N.name) ++ be 8 N.key ++ (be 1 N.parent.length ++ N.parent)
  else be 1 2 ++ be 8 N.key ++ (be 1 N.parent.length ++ N.parent) ++ be 1 N.kY.length ++ iB N.kY
theorem BR {l : List Int} (h : lH l) : ∀ i,i < l.length→(i : Int)≤l.getD i 0
  | 0,k=>(h 0 k).1
  | i + 1,k=>by
    have:=BR h i (by omega);have h3:=(h (i + 1) k).2.2 (by omega);simp only [Nat.add_sub_cancel] at h3;omega
theorem rR {l : List Int} (h : lH l) : l.length≤32:=by
  by_cases k : l.length = 0
  · omega
  · have h1:=BR h (l.length - 1) (by omega);have h2:=(h (l.length - 1) (by omega)).2.1;omega
theorem yL {l : List Int} (h : lH l) {x : Int} (hx : x ∈ l) : 0≤x∧x < 32:=by
  obtain ⟨i,hi,rfl⟩:=List.getElem_of_mem hx;have:=tB hi (h i hi);exact ⟨this.1,this.2.1⟩
theorem nW : ∀ (l : List Int),(iB l).length = l.length
  | []=>rfl
  | x :: l=>by
    have:=nW l;simp only [iB,List.map_cons,List.flatten_cons,List.length_append,b8,List.length_cons] at *
    omega
theorem AB (l : List Int) (x : Int) : iB (l ++ [x]) = iB l ++ be 1 x.toNat:=by
  simp [iB]
theorem C8 : ao.kA.right:=by decide
theorem qC {N : ao} (h : N.right) : N.kind = 0∨N.kind = 1∨N.kind = 2:=by
  unfold ao.right at h;split at h
  · left; assumption
  · split at h
    · right; left; assumption
    · split at h
      · right; right; assumption
      · exact h.elim
theorem ao.nf {N : ao} (h : N.right) : N.text.length≤100:=by
  obtain ⟨k,m,y,p,u⟩:=N;rcases qC h with hk | hk | hk
  · simp only at hk;simp [ao.text,hk]
  · obtain ⟨h1,h2,⟨h3,h4,h5⟩,h6⟩:=(m8 hk).1 h;simp only at hk h1 h2 h3 h4 h5 h6;simp [ao.text,hk];omega
  · obtain ⟨h1,⟨h3,h4,h5⟩,h6⟩:=(m9 hk).1 h;simp only at hk h1 h3 h4 h5 h6;have hu:=rR h6;simp [ao.text,hk,nW];omega
structure qD (s s1 : AS) (p o2 o3 : Nat) (ce z cs : List AV) : Prop where
  le : (s.drop p).le s1
  xx : s1.aq p = some ce
  res : s1.aq o2 = some z
  var : s1.aq o3 = some cs
  n2 : s.aq o2 = none
  n3 : s.aq o3 = none
  p2 : p≠o2
  p3 : p≠o3
  d : o2≠o3
theorem AS.cj {s : AS} {p o : Nat} (h : s.aq o = none) : (s.drop p).aq o = none:=by
  simp only [AS.drop,aF]; split
  · rfl
  · exact h
theorem AS.ng (s : AS) (p : Nat) : (s.drop p).aq p = none:=by simp [AS.drop]
theorem qD.gp {s s1 : AS} {p o2 o3 : Nat} {ce z cs : List AV} (h : qD s s1 p o2 o3 ce z cs) (Vm : List AV) : qD s (s1.set p Vm) p o2 o3 Vm z cs :=
  ⟨AS.aB h.le (AS.ng _ _) _,AS.aa _ _ _,by rw [AS.ae _ h.p2.symm]; exact h.res,by rw [AS.ae _ h.p3.symm]; exact h.var,h.n2,h.n3,h.p2,h.p3,h.d⟩
theorem qD.pO {s s1 : AS} {p o2 o3 : Nat} {ce z cs : List AV} (h : qD s s1 p o2 o3 ce z cs) (z' : List AV) : qD s (s1.set o2 z') p o2 o3 ce z' cs :=
  ⟨AS.aB h.le (AS.cj h.n2) _,by rw [AS.ae _ h.p2]; exact h.xx,AS.aa _ _ _,by rw [AS.ae _ h.d.symm]; exact h.var,h.n2,h.n3,h.p2,h.p3,h.d⟩
theorem qD.nX {s s1 : AS} {p o2 o3 : Nat} {ce z cs : List AV} (h : qD s s1 p o2 o3 ce z cs) (cs' : List AV) : qD s (s1.set o3 cs') p o2 o3 ce z cs' :=
  ⟨AS.aB h.le (AS.cj h.n3) _,by rw [AS.ae _ h.p3]; exact h.xx,by rw [AS.ae _ h.d]; exact h.res,AS.aa _ _ _,h.n2,h.n3,h.p2,h.p3,h.d⟩
theorem qD.bo {s s1 : AS} {p o2 o3 : Nat} {ce z cs : List AV} (h : qD s s1 p o2 o3 ce z cs) {t : Nat} (ht : s.own t = none) (e : Nat) : qD s (s1.bo t e) p o2 o3 ce z cs :=
  ⟨AS.bG h.le (by simpa [AS.drop] using ht) e,h.xx,h.res,h.var,h.n2,h.n3,h.p2,h.p3,h.d⟩
theorem qD.out {s s1 : AS} {p o2 o3 : Nat} {ce z cs : List AV} (h : qD s s1 p o2 o3 ce z cs) : (s.set p ce).le s1:=AS.qw h.le h.xx
theorem qD.iv {s s1 : AS} {p o2 o3 : Nat} {ce z cs : List AV} (h : qD s s1 p o2 o3 ce z cs) {t : Nat} (ht : s1.own t = none) : s.own t = none:=by
  cases h0 : s.own t with
  | none=>rfl
  | some e =>
    have:=h.le.own t e (by simpa [AS.drop] using h0);rw [ht] at this;cases this
def xil (s0 s : AS) (x : AV) (l : List Int) : Prop:=(x = bZ∧l = [])∨∃ t e,x = aR l (.own t e)∧s.own t = some e∧s0.own t = none
theorem Fj {s : AS} {p o : Nat} {cs : List AV} (h : s.aq p = some cs) (k : s.aq o = none) : p≠o:=by
  rintro rfl;rw [h] at k;cases k
theorem C9 {s : AS} {t t' e : Nat} (h : s.own t = some e) (k : s.own t' = none) : t≠t':=by
  rintro rfl;rw [h] at k;cases k
structure Da (s s1 : AS) (p o2 o3 o4 : Nat) (ce z cs ds : List AV) : Prop where
  rd : qD s s1 p o2 o3 ce z cs
  obj : s1.aq o4 = some ds
  n4 : s.aq o4 = none
  p4 : p≠o4
  d2 : o2≠o4
  d3 : o3≠o4
theorem Da.gp {s s1 : AS} {p o2 o3 o4 : Nat} {ce z cs ds : List AV} (h : Da s s1 p o2 o3 o4 ce z cs ds) (Vm : List AV) : Da s (s1.set p Vm) p o2 o3 o4 Vm z cs ds :=
  ⟨h.rd.gp Vm,by rw [AS.ae _ h.p4.symm]; exact h.obj,h.n4,h.p4,h.d2,h.d3⟩
theorem qD.Hr {s s1 : AS} {p o2 o3 o4 : Nat} {ce z cs : List AV} (h : qD s s1 p o2 o3 ce z cs) (h4 : s1.aq o4 = none) (ds : List AV) : Da s (s1.set o4 ds) p o2 o3 o4 ce z cs ds:=by
  have hp : p≠o4:=(by rintro rfl; rw [h.xx] at h4; cases h4);have h2 : o2≠o4:=(by rintro rfl; rw [h.res] at h4; cases h4);have h3 : o3≠o4:=(by rintro rfl; rw [h.var] at h4; cases h4);have hn : (s.drop p).aq o4 = none:=by
    cases e : (s.drop p).aq o4 with
    | none=>rfl
    | some x=>have:=h.le.aq _ _ e; rw [h4] at this; cases this
  have hn' : s.aq o4 = none:=(by simpa [AS.drop,aF,hp.symm] using hn);refine ⟨⟨AS.aB h.le hn _,?_,?_,?_,h.n2,h.n3,h.p2,h.p3,h.d⟩,AS.aa _ _ _,hn',hp,h2,h3⟩
  · rw [AS.ae _ hp]; exact h.xx
  · rw [AS.ae _ h2]; exact h.res
  · rw [AS.ae _ h3]; exact h.var
theorem Da.setObj {s s1 : AS} {p o2 o3 o4 : Nat} {ce z cs ds : List AV} (h : Da s s1 p o2 o3 o4 ce z cs ds) (ds' : List AV) : Da s (s1.set o4 ds') p o2 o3 o4 ce z cs ds':=by
  refine ⟨⟨AS.aB h.rd.le (AS.cj h.n4) _,?_,?_,?_,h.rd.n2,h.rd.n3,h.rd.p2,h.rd.p3,h.rd.d⟩,AS.aa _ _ _,h.n4,h.p4,h.d2,h.d3⟩
  · rw [AS.ae _ h.p4]; exact h.rd.xx
  · rw [AS.ae _ h.d2]; exact h.rd.res
  · rw [AS.ae _ h.d3]; exact h.rd.var
theorem Da.bo {s s1 : AS} {p o2 o3 o4 : Nat} {ce z cs ds : List AV} (h : Da s s1 p o2 o3 o4 ce z cs ds) {t : Nat} (ht : s.own t = none) (e : Nat) : Da s (s1.bo t e) p o2 o3 o4 ce z cs ds :=
  ⟨h.rd.bo ht e,h.obj,h.n4,h.p4,h.d2,h.d3⟩
theorem bN {a b : AS} (h : a.le b) {t : Nat} (k : b.own t = none) : a.own t = none:=by
  cases e : a.own t with
  | none=>rfl
  | some x=>rw [h.own t x e] at k; cases k
theorem qD.fresh {s s1 : AS} {p o2 o3 o5 : Nat} {ce z cs : List AV} (h : qD s s1 p o2 o3 ce z cs) (h5 : s1.aq o5 = none) (ds : List AV) : qD s (s1.set o5 ds) p o2 o3 ce z cs:=(h.Hr h5 ds).rd
theorem Da.fresh {s s1 : AS} {p o2 o3 o4 o5 : Nat} {ce z cs ds : List AV} (h : Da s s1 p o2 o3 o4 ce z cs ds) (h5 : s1.aq o5 = none) (es : List AV) : Da s (s1.set o5 es) p o2 o3 o4 ce z cs ds :=
  ⟨h.rd.fresh h5 es,by rw [AS.ae _ (Fj h.obj h5)]; exact h.obj,h.n4,h.p4,h.d2,h.d3⟩
def lvT : List Nat:=[0,1,0,2,0,1,0,3,0,1,0,2,0,1,0,4,0,1,0,2,0,1,0,3,0,1,0,2,0,1,0,5,0,1,0,2,0,1,0,3,0,1,0,2,0,1,0,4,0,1,0,2,0,1,0,3,0,1,0,2,0,1,0]
def lv (n : Nat) : Nat:=lvT.getD n 0
def yM (x : Int) : Nat:=if 0≤x∧x < 63 then lv x.toNat else 0
def hf (n : Nat) : Nat:=2 ^ lv n / 2
def lo (n : Nat) : Nat:=(n - (2 ^ lv n - 1)) / 2
def hi (n : Nat) : Nat:=(n + (2 ^ lv n - 1)) / 2
def Fit (n : Nat) : Prop:=n = 1∨n = 2∨n = 4∨n = 8∨n = 16∨n = 32
instance (n : Nat) : Decidable (Fit n):=by unfold Fit; infer_instance
theorem Fit.le {n : Nat} (h : Fit n) : 1≤n∧n≤32:=by rcases h with h | h | h | h | h | h <;> omega
theorem pP (n : Nat) : lv n≤5:=by
  by_cases h : n < 63
  · exact (by decide : ∀ n < 63,lv n≤5) n h
  · have : lv n = 0:=(by simp [lv,List.getD,lvT,show 63≤n by omega]);omega
def rS (n : Nat) : Nat:=if n / 2 ^ (lv n + 1) % 2 = 0 then n + 2 ^ lv n else n - 2 ^ lv n
def ej : Nat→Nat→Nat→List Nat
  | 0,_,_=>[]
  | k + 1,n,leaves=>if n = leaves - 1 then [] else rS n :: ej k (rS n) leaves
def aH (leaf leaves : Nat) : List Nat:=ej 6 (2 * leaf) leaves
def fM : List Nat:=[0,1,56,2,57,49,28,3,61,58,42,50,38,29,17,4,62,47,59,36,45,43,51,22,53,39,33,30,24,18,12,5,63,55,48,27,60,41,37,16,46,35,44,21,52,32,23,11,54,26,40,15,34,20,31,10,25,14,19,9,13,8,7,6]
def pg (n : Nat) : AV:=.v (.int .u8 n)
def AD (x : Int) : Prop:=0≤x∧Fit x.toNat
instance (x : Int) : Decidable (AD x):=by unfold AD; infer_instance
theorem TC : ∀ n < 63,∃ k < 64,fa .u64 (lj .u64 (lX .u64 ((n + 1 : Nat) : Int) (Eh .u64 ((n + 1 : Nat) : Int))) 285870213051353865) 58 = ((k : Nat) : Int)∧(List.drop k (fM.map pg))[0]? = some (pg (lv n)):=by
  have key : ∀ n < 63,∃ k < 64,fa .u64 (lj .u64 (lX .u64 ((n + 1 : Nat) : Int) (Eh .u64 ((n + 1 : Nat) : Int))) 285870213051353865) 58 = ((k : Nat) : Int)∧fM[k]? = some (lv n):=(by decide +kernel);intro n hn;obtain ⟨k,h1,h2,h3⟩:=key n hn;refine ⟨k,h1,h2,?_⟩;rw [List.getElem?_drop,Nat.add_zero,List.getElem?_map,h3];rfl
theorem qE {n : Nat} (h : n < 63) : yM (n : Int) = lv n:=by
  unfold yM;rw [if_pos (by omega),Int.toNat_natCast]
theorem Hs (x : Int) : yM x≤5:=by unfold yM; split; exact pP _; omega
theorem PR {l : Nat} (h : l≤5) : fa .i64 (ko .i64 1 (l : Int)) 1 = ((2 ^ l / 2 : Nat) : Int):=(by decide : ∀ l≤5,fa .i64 (ko .i64 1 ((l : Nat) : Int)) 1 = ((2 ^ l / 2 : Nat) : Int)) l h
theorem Mj {l : Nat} (h : l≤5) : ko .i64 1 (l : Int) = ((2 ^ l : Nat) : Int):=(by decide : ∀ l≤5,ko .i64 1 ((l : Nat) : Int) = ((2 ^ l : Nat) : Int)) l h
theorem tC {l : Nat} (h : l≤5) : 1≤2 ^ l∧2 ^ l≤32:=(by decide : ∀ l≤5,1≤2 ^ l∧2 ^ l≤32) l h
def mw (x : Int) : Option (Int × Int):=if yM x = 0 then none else some (x - ((2 ^ yM x / 2 : Nat) : Int),x + ((2 ^ yM x / 2 : Nat) : Int))
def wY (x : Int) : Int × Int:=if 0≤x∧x < 63 then ((lo x.toNat : Int),(hi x.toNat : Int)) else (0,-1)
theorem qF (x : Int) : 2 ^ yM x / 2 = 0↔yM x = 0:=by
  have:=Hs x;generalize yM x = l at *
  exact (by decide : ∀ l≤5,2 ^ l / 2 = 0↔l = 0) l this
theorem TD : ∀ n : Nat,n < 63→nC .i64 (eC .i64 (n : Int) (eC .i64 ((2 ^ lv n : Nat) : Int) 1)) 2 = (lo n : Int)∧nC .i64 (eu .i64 (n : Int) (eC .i64 ((2 ^ lv n : Nat) : Int) 1)) 2 = (hi n : Int):=by decide +kernel
end Go.AM
namespace Go.Proofs.YtbiefppedlodiaaGreatDoor
open Go Go.AM Go.Proofs Tryz
variable {Γ : Nat→List AV}
theorem yN (x : Int) (s : AS) : ah prog Γ 173 [.v (.int .i64 x)] s (fun r s'=>r = .v (.bool (decide (0≤x∧x < 63)))∧s' = s):=by
 refine ab func173 rfl ntmps173 results173 (by simp) ?_;refine jA ?_;by_cases h : 0≤x
 ·refine jB (decide_eq_true h) ?_;refine jI ?_;exact jW ⟨by simp [h],rfl⟩
 ·refine jB (decide_eq_false h) ?_;refine jI ?_;exact jW ⟨by simp [h],rfl⟩
theorem Ht (hG : Γ 3 = fM.map pg) (n : Nat) (hn : n < 63) (s : AS) : ah prog Γ 215 [.v (.int .u64 ((n + 1 : Nat) : Int))] s (fun r s'=>r = .v (.int .i64 (lv n))∧s' = s):=by
 refine ab func215 rfl ntmps215 results215 (by simp) ?_;have h0 : (((n + 1 : Nat) : Int) == 0) = false:=(by simp; omega);refine jA ?_;refine wK fun K hK=>?_;refine jB @h0 ?_;refine jF ?_;refine ag ?_;refine hK _ _ ?_;clear hK K;obtain ⟨k,hk,yO,gn⟩:=TC n hn;have hl:=pP n;have Zk : ((0 : Int)≤(k : Int)) = True:=eq_true (by omega);have Lf : ((k : Int) < ((64 : Nat) : Int)) = True:=eq_true (by omega);refine wS fun K hK=>?_;simp only [↓DN,Qa,Qb,Qc,Qd,Qe,Qf,Qg,Qh,reduceCtorEq,↓reduceIte,Na,Nb,Nc,Nk,Nf,Ng,Nh,Za,Zb,Zc,TT,hG,yO,Zk,Lf,gn,pg,yt (show lv n < 2 ^ 62 by omega)];refine hK _ _ ?_;clear hK K;exact jJ
theorem Ml (hG : Γ 3 = fM.map pg) (n : Nat) (hn : n < 63) (s : AS) : ah prog Γ 184 [.v (.int .u64 ((n + 1 : Nat) : Int))] s (fun r s'=>r = .v (.int .i64 (lv n))∧s' = s):=by
 refine ab func184 rfl ntmps184 results184 (by simp) ?_;refine jA ?_;refine wK fun K hK=>?_;refine jF ?_;refine ag ?_;refine hK _ _ ?_;clear hK K;refine jK (Ht hG n hn _) ?_;rintro s1 rfl;exact jJ
theorem pQ (hG : Γ 3 = fM.map pg) (x : Int) (s : AS) : ah prog Γ 152 [.v (.int .i64 x)] s (fun r s'=>r = .v (.int .i64 (yM x))∧s' = s):=by
 refine ab func152 rfl ntmps152 results152 (by simp) ?_;refine jA ?_;refine wK fun K hK=>?_;refine jQ fun K hK=>?_;refine ad (yN x _) ?_;rintro r s1 ⟨rfl,rfl⟩;by_cases h : 0≤x∧x < 63
 ·obtain ⟨n,rfl⟩:=Int.eq_ofNat_of_zero_le h.1;have hn : n < 63:=(by omega);rw [decide_eq_true h];refine jR hK ?_;clear hK K;refine jF ?_;refine ag ?_;refine hK _ _ ?_;clear hK K;have e1 : cB .u64 (eu .i64 (n : Int) 1) = ((n + 1 : Nat) : Int):=(by rw [eE n (by omega),tf (by omega)]);refine jS @e1 fun K hK=>?_;refine ad (Ml hG n hn _) ?_;rintro r s2 ⟨rfl,rfl⟩;refine jR hK ?_;clear hK K;refine jI ?_;rw [qE hn];exact jW ⟨rfl,rfl⟩
 ·rw [decide_eq_false h];refine jR hK ?_;clear hK K;refine jE ?_;refine jA ?_;refine jI ?_;rw [show yM x = 0 from if_neg h];exact jW ⟨rfl,rfl⟩
theorem nY (hG : Γ 3 = fM.map pg) (x : Int) (s : AS) : ah prog Γ 183 [.v (.int .i64 x)] s (fun r s'=>r = .v (.int .i64 ((2 ^ yM x / 2 : Nat) : Int))∧s' = s):=by
 refine ab func183 rfl ntmps183 results183 (by simp) ?_;have hl : yM x≤5:=(by unfold yM; split; exact pP _; omega);refine jA ?_;refine jK (pQ hG x _) ?_;rintro s1 rfl;refine jI ?_;rw [PR hl];exact jW ⟨rfl,rfl⟩
theorem iC (hG : Γ 3 = fM.map pg) (x : Int) (hx : -9000000000000000000≤x∧x≤9000000000000000000) (s : AS) : ah prog Γ 151 [.v (.int .i64 x)] s (fun r s'=>r = (match mw x with | some k=>.eJ [.v (.int .i64 k.1),.v (.bool true)] | none=>.eJ [.v (.int .i64 0),.v (.bool false)])∧s' = s):=by
 refine ab func151 rfl ntmps151 results151 (by simp) ?_;have hl:=Hs x;have hp:=tC hl;refine jA ?_;refine wK fun K hK=>?_;refine jQ fun K hK=>?_;refine ad (nY hG x _) ?_;rintro r s1 ⟨rfl,rfl⟩;by_cases h : yM x = 0
 ·have h0 : (((2 ^ yM x / 2 : Nat) : Int) == 0) = true:=(by rw [beq_iff_eq]; have:=(qF x).2 h; omega);refine jV @h0 hK ?_;clear hK K;refine jE ?_;refine jA ?_;refine jI ?_;rw [show mw x = none from if_pos h];exact jW ⟨rfl,rfl⟩
 ·have h0 : (((2 ^ yM x / 2 : Nat) : Int) == 0) = false:=by
   rw [beq_eq_false_iff_ne];intro e;exact h ((qF x).1 (by omega))
  refine jV @h0 hK ?_;clear hK K;refine jF ?_;refine ag ?_;refine hK _ _ ?_;clear hK K;refine jQ fun K hK=>?_;refine ad (nY hG x _) ?_;rintro r s2 ⟨rfl,rfl⟩;refine jV (dM (a:=x) (b:=((2 ^ yM x / 2 : Nat) : Int)) (by omega)) hK ?_;clear hK K;refine jI ?_;rw [show mw x = some (_,_) from if_neg h];exact jW ⟨rfl,rfl⟩
theorem mO (hG : Γ 3 = fM.map pg) (x : Int) (hx : -9000000000000000000≤x∧x≤9000000000000000000) (s : AS) : ah prog Γ 150 [.v (.int .i64 x)] s (fun r s'=>r = (match mw x with | some k=>.eJ [.v (.int .i64 k.2),.v (.bool true)] | none=>.eJ [.v (.int .i64 0),.v (.bool false)])∧s' = s):=by
 refine ab func150 rfl ntmps150 results150 (by simp) ?_;have hl:=Hs x;have hp:=tC hl;refine jA ?_;refine wK fun K hK=>?_;refine jQ fun K hK=>?_;refine ad (nY hG x _) ?_;rintro r s1 ⟨rfl,rfl⟩;by_cases h : yM x = 0
 ·have h0 : (((2 ^ yM x / 2 : Nat) : Int) == 0) = true:=(by rw [beq_iff_eq]; have:=(qF x).2 h; omega);refine jV @h0 hK ?_;clear hK K;refine jE ?_;refine jA ?_;refine jI ?_;rw [show mw x = none from if_pos h];exact jW ⟨rfl,rfl⟩
 ·have h0 : (((2 ^ yM x / 2 : Nat) : Int) == 0) = false:=by
   rw [beq_eq_false_iff_ne];intro e;exact h ((qF x).1 (by omega))
  refine jV @h0 hK ?_;clear hK K;refine jF ?_;refine ag ?_;refine hK _ _ ?_;clear hK K;refine jQ fun K hK=>?_;refine ad (nY hG x _) ?_;rintro r s2 ⟨rfl,rfl⟩;refine jV (gC (a:=x) (b:=((2 ^ yM x / 2 : Nat) : Int)) (by omega)) hK ?_;clear hK K;refine jI ?_;rw [show mw x = some (_,_) from if_neg h];exact jW ⟨rfl,rfl⟩
theorem ri (hG : Γ 3 = fM.map pg) (x : Int) (s : AS) : ah prog Γ 128 [.v (.int .i64 x)] s (fun r s'=>r = .eJ [.v (.int .i64 (wY x).1),.v (.int .i64 (wY x).2)]∧s' = s):=by
 refine ab func128 rfl ntmps128 results128 (by simp) ?_;refine jA ?_;refine wK fun K hK=>?_;refine jQ fun K hK=>?_;refine ad (yN x _) ?_;rintro r s1 ⟨rfl,rfl⟩;by_cases h : 0≤x∧x < 63
 ·obtain ⟨n,rfl⟩:=Int.eq_ofNat_of_zero_le h.1;have hn : n < 63:=(by omega);have hl:=pP n;have hp:=tC hl;obtain ⟨u1,u2⟩:=TD n hn;rw [decide_eq_true h];refine jR hK ?_;clear hK K;refine jF ?_;refine ag ?_;refine hK _ _ ?_;clear hK K;refine jQ fun K hK=>?_;refine ad (pQ hG n _) ?_;rintro r s2 ⟨rfl,rfl⟩;refine jV (Ai (qE hn) (Mj hl)) hK ?_;clear hK K;refine jB (Ai @u1 @u2) ?_;refine jI ?_;rw [show wY (n : Int) = ((lo n : Int),(hi n : Int)) from if_pos h];exact jW ⟨rfl,rfl⟩
 ·rw [decide_eq_false h];refine jR hK ?_;clear hK K;refine jE ?_;refine jA ?_;refine jI ?_;rw [show wY x = (0,-1) from if_neg h];exact jW ⟨rfl,rfl⟩
end Go.Proofs.YtbiefppedlodiaaGreatDoor
namespace Go.AM
open Go
theorem wZ {a b : Int} (h : a = b) : (a == b) = true:=by simpa using h
theorem uV {a b : Int} (h : a≠b) : (a == b) = false:=by simpa using h
theorem tD : ((2 : Int) = 0) = False:=by decide
theorem Zl {a : Nat} (h : a = 0) : ((a : Int) == 0) = true:=by subst h; rfl
theorem RW {a : Nat} (h : a≠0) : ((a : Int) == 0) = false:=by simpa using h
theorem yP {a b : Nat} (h : a≠b) : ((a : Int) != (b : Int)) = true:=by simp only [bne_iff_ne,ne_eq]; omega
theorem pR {a b : Nat} (h : a = b) : ((a : Int) != (b : Int)) = false:=by subst h; simp
theorem Hu {a b : List UInt8} (h : a≠b) : (a != b) = true∧(!a == b) = true:=⟨by simpa using h,by simpa using h⟩
theorem Db {a b : List UInt8} (h : a = b) : (a != b) = false∧(!a == b) = false:=by subst h; simp
theorem bt (i : Nat) (h : i < 9223372036854775807) : eu .i64 (i : Int) 1 = ((i + 1 : Nat) : Int):=by
  rw [gC (by omega)]; omega
theorem nh (m : Nat) (h : m < 9223372036854775807) : nC .i64 (m : Int) 2 = ((m / 2 : Nat) : Int):=by
  have e : (m : Int).tdiv 2 = ((m / 2 : Nat) : Int):=(Int.ofNat_tdiv m 2).symm;unfold nC;rw [e];exact IntWalk.i64_in _ (by omega)
theorem eG (m : Nat) (h : m < 4611686018427387904) : lj .i64 2 (m : Int) = ((2 * m : Nat) : Int):=by
  rw [fc (by omega)]; omega
theorem PS : ∀ n : Nat,n≤32→1≤n→(lX .i64 (n : Int) (eC .i64 (n : Int) 1) == 0) = decide (Fit n):=by decide +kernel
theorem tE {n : Nat} : AD (n : Int)↔Fit n:=by unfold AD; rw [Int.toNat_natCast]; exact ⟨fun h=>h.2,fun h=>⟨by omega,h⟩⟩
theorem pS {x : Int} (h : AD x) : 1≤x∧x≤32:=by have:=h.2.le; have:=h.1; omega
def Mm (x : Int) : Int:=if AD x then 2 * x - 1 else 0
def rT (n l : Nat) : Option Nat:=if n = l - 1 then none else some (rS n)
theorem Kd : ∀ n : Nat,n < 63→(lX .i64 (n : Int) (lj .i64 2 ((2 ^ lv n : Nat) : Int)) == 0) = decide (n / 2 ^ (lv n + 1) % 2 = 0)∧eu .i64 (n : Int) ((2 ^ lv n : Nat) : Int) = ((n + 2 ^ lv n : Nat) : Int) ∧
    (¬ n / 2 ^ (lv n + 1) % 2 = 0→eC .i64 (n : Int) ((2 ^ lv n : Nat) : Int) = ((n - 2 ^ lv n : Nat) : Int)):=by decide +kernel
def nodeAt (leaf l : Nat) : Nat→Nat
  | 0=>2 * leaf
  | i + 1=>(aH leaf l).getD i 0
theorem Fit.pow {n : Nat} (h : Fit n) : ∃ m,m≤5∧n = 2 ^ m:=by
  rcases h with rfl | rfl | rfl | rfl | rfl | rfl
  · exact ⟨0,by decide,rfl⟩
  · exact ⟨1,by decide,rfl⟩
  · exact ⟨2,by decide,rfl⟩
  · exact ⟨3,by decide,rfl⟩
  · exact ⟨4,by decide,rfl⟩
  · exact ⟨5,by decide,rfl⟩
theorem Hv {leaf l : Nat} (hl : Fit l) (h : leaf < l) {i : Nat} (hi : i≤(aH leaf l).length) : nodeAt leaf l i < 2 * l - 1∧rT (nodeAt leaf l i) l = (aH leaf l)[i]?:=by
  obtain ⟨m,hm,rfl⟩:=hl.pow;exact (by decide +kernel : ∀ m≤5,∀ leaf < 2 ^ m,∀ i≤(aH leaf (2 ^ m)).length,nodeAt leaf (2 ^ m) i < 2 * 2 ^ m - 1∧rT (nodeAt leaf (2 ^ m) i) (2 ^ m) = (aH leaf (2 ^ m))[i]?) m hm leaf h i hi
theorem ni {leaf l : Nat} (hl : Fit l) (h : leaf < l) : (aH leaf l).length≤5:=by
  obtain ⟨m,hm,rfl⟩:=hl.pow;exact (by decide +kernel : ∀ m≤5,∀ leaf < 2 ^ m,(aH leaf (2 ^ m)).length≤5) m hm leaf h
theorem Mn {leaf l : Nat} (hl : Fit l) (h : leaf < l) : ∀ x ∈ aH leaf l,x < 2 * l - 1∧x % 2 = 1∧lo x≤leaf∧leaf≤hi x:=by
  obtain ⟨m,hm,rfl⟩:=hl.pow;exact (by decide +kernel : ∀ m≤5,∀ leaf < 2 ^ m,∀ x ∈ aH leaf (2 ^ m),x < 2 * 2 ^ m - 1∧x % 2 = 1∧lo x≤leaf∧leaf≤hi x) m hm leaf h
def bw (l : List Nat) : List Int:=l.map fun (n : Nat)=>(n : Int)
theorem cJ (l : List Nat) : (bw l).length = l.length:=by simp [bw]
end Go.AM
namespace Go.Proofs.YtbiefppedlodiaaGreatDoor
open Go Go.AM Go.Proofs Tryz
variable {Γ : Nat→List AV}
theorem tF (x : Int) (s : AS) : ah prog Γ 148 [.v (.int .i64 x)] s (fun r s'=>r = .v (.bool (decide (AD x)))∧s' = s):=by
 refine ab func148 rfl ntmps148 results148 (by simp) ?_;refine jA ?_;by_cases h1 : 1≤x
 ·by_cases h2 : x≤32
  ·obtain ⟨n,rfl⟩:=Int.eq_ofNat_of_zero_le (show 0≤x by omega);refine jB (Ai (decide_eq_true h1) (Ai (decide_eq_true h2) (PS n (by omega) (by omega)))) ?_;refine jI ?_;exact jW ⟨by simp only [tE],rfl⟩
  ·have hn : decide (AD x) = false:=(decide_eq_false fun h=>by have:=pS h; omega);refine jB (Ai (decide_eq_true h1) (decide_eq_false h2)) ?_;refine jI ?_;rw [hn];exact jW ⟨rfl,rfl⟩
 ·have hn : decide (AD x) = false:=(decide_eq_false fun h=>by have:=pS h; omega);refine jB (decide_eq_false h1) ?_;refine jI ?_;rw [hn];exact jW ⟨rfl,rfl⟩
theorem rj (x : Int) (s : AS) : ah prog Γ 149 [.v (.int .i64 x)] s (fun r s'=>r = .v (.int .i64 (Mm x))∧s' = s):=by
 refine ab func149 rfl ntmps149 results149 (by simp) ?_;refine jA ?_;refine wK fun K hK=>?_;refine jQ fun K hK=>?_;refine ad (tF x _) ?_;rintro r s1 ⟨rfl,rfl⟩;by_cases h : AD x
 ·have hb:=pS h;rw [decide_eq_true h];refine jR hK ?_;clear hK K;refine jF ?_;refine ag ?_;refine hK _ _ ?_;clear hK K;refine jA ?_;refine jI ?_;rw [fc (a:=2) (b:=x) (by omega),dM (a:=2 * x) (b:=1) (by omega),show Mm x = 2 * x - 1 from if_pos h];exact jW ⟨rfl,rfl⟩
 ·rw [decide_eq_false h];refine jR hK ?_;clear hK K;refine jE ?_;refine jA ?_;refine jI ?_;rw [show Mm x = 0 from if_neg h];exact jW ⟨rfl,rfl⟩
theorem Fk {l : Nat} (h : Fit l) : Mm (l : Int) = ((2 * l - 1 : Nat) : Int):=by
 have:=h.le;unfold Mm;rw [if_pos (tE.2 h)];omega
theorem mP (hG : Γ 3 = fM.map pg) (n l : Nat) (hl : Fit l) (hn : n < 2 * l - 1) (s : AS) : ah prog Γ 106 [.v (.int .i64 n),.v (.int .i64 l)] s
  (fun r s'=>r = .eJ [.v (.int .i64 ((rT n l).getD 0)),.v (.bool (rT n l).isSome)]∧s' = s):=by
 refine ab func106 rfl ntmps106 results106 (by simp) ?_;have PT:=hl.le;have Lu : n < 63:=(by omega);have h0 : decide ((n : Int) < 0) = false:=decide_eq_false (by omega);have h1 : decide (((2 * l - 1 : Nat) : Int)≤(n : Int)) = false:=decide_eq_false (by omega);have hw:=Fk hl;have hp:=tC (pP n);obtain ⟨a1,a2,a3⟩:=Kd n Lu;refine jA ?_;refine wK fun K hK=>?_;refine jS @h0 fun K hK=>?_;refine ad (rj l _) ?_;rintro r s1 ⟨rfl,rfl⟩;by_cases he : n = l - 1
 ·have h2 : (((n : Nat) : Int) == eC .i64 (l : Int) 1) = true:=(by rw [dM (by omega),beq_iff_eq]; omega);refine jV (Ai @hw (Ai @h1 @h2)) hK ?_;clear hK K;refine jE ?_;refine jA ?_;refine jI ?_;rw [show rT n l = none from if_pos he];exact jW ⟨rfl,rfl⟩
 ·have h2 : (((n : Nat) : Int) == eC .i64 (l : Int) 1) = false:=(by rw [dM (by omega),beq_eq_false_iff_ne]; omega);have ha : rT n l = some (rS n):=if_neg he;refine jV (Ai @hw (Ai @h1 @h2)) hK ?_;clear hK K;refine jF ?_;refine ag ?_;refine hK _ _ ?_;clear hK K;refine jQ fun K hK=>?_;refine ad (pQ hG n _) ?_;rintro r s2 ⟨rfl,rfl⟩;refine jV (Ai (qE Lu) (Mj (pP n))) hK ?_;clear hK K;refine wK fun K hK=>?_;by_cases hb : n / 2 ^ (lv n + 1) % 2 = 0
  ·rw [decide_eq_true hb] at a1;refine jB @a1 ?_;refine jE ?_;refine jB @a2 ?_;refine jI ?_;rw [ha,show rS n = n + 2 ^ lv n from if_pos hb];exact jW ⟨rfl,rfl⟩
  ·rw [decide_eq_false hb] at a1;refine jB @a1 ?_;refine jF ?_;refine ag ?_;refine hK _ _ ?_;clear hK K;refine jB (a3 hb) ?_;refine jI ?_;rw [ha,show rS n = n - 2 ^ lv n from if_neg hb];exact jW ⟨rfl,rfl⟩
def BS : AV→Nat
 | .sl _ n _ _=>n
 | _=>0
theorem kM (hG : Γ 3 = fM.map pg) (leaf l : Nat) (hl : Fit l) (hn : leaf < l) (s : AS) : ah prog Γ 47 [.v (.int .i64 leaf),.v (.int .i64 l)] s
  (fun r s'=>r = aR (bw (aH leaf l)) .any∧s' = s):=by
 refine ab func47 rfl ntmps47 results47 (by simp) ?_;have PT:=hl.le;have GF:=ni hl hn;have h0 : decide ((leaf : Int) < 0) = false:=decide_eq_false (by omega);have h1 : decide ((l : Int)≤(leaf : Int)) = false:=decide_eq_false (by omega);have ir:=fun (i : Nat) (h : i≤(aH leaf l).length)=>Hv hl hn h;have Ke : ∀ i,i < (aH leaf l).length→nodeAt leaf l (i + 1) = (aH leaf l).getD i 0:=fun i _=>rfl;have TE : nodeAt leaf l 0 = 2 * leaf:=rfl;generalize aH leaf l = P at *
 refine jA ?_;refine wK fun K hK=>?_;refine jB (Ai @h0 @h1) ?_;refine jF ?_;refine ag ?_;refine hK _ _ ?_;clear hK K;refine jA ?_;refine wK fun K hK=>?_;refine jQ fun K hK=>?_;obtain ⟨w0,w1⟩:=ir 0 (Nat.zero_le _);rw [TE] at w0 w1;have e0 : lj .i64 2 (leaf : Int) = ((2 * leaf : Nat) : Int):=(by rw [fc (by omega)]; omega);rw [e0];refine ad (mP hG (2 * leaf) l hl w0 _) ?_;rintro r s1 ⟨rfl,rfl⟩;rw [w1];refine jR hK ?_;clear hK K;refine al ?_;refine aE (fun E s2=>∃ (i : Nat) (x : AV),i≤P.length∧E 6 = .v (.int .i64 (((P[i]?).getD 0 : Nat) : Int))∧E 7 = .v (.bool (P[i]?).isSome)∧E 1 = .v (.int .i64 l)∧E 5 = x∧cO 1 s1 s2 x i ((bw (P.take i)).map aV)∧s1.le s2)
  (fun E _=>P.length + 1 - BS (E 5)) ?_ ?_
 ·exact ⟨0,bZ,Nat.zero_le _,rfl,rfl,rfl,rfl,cO.nil _ _ _,AS.le.refl _⟩
 ·rintro E1 s2 ⟨i,x,hi,g6,g7,g1,g5,hx,hle⟩ -
  refine wK fun K2 aW=>?_;by_cases bc : i < P.length
  ·have hp : P[i]? = some P[i]:=List.getElem?_eq_getElem bc;rw [hp] at g6 g7;simp only [Option.getD_some,Option.isSome_some] at g6 g7;refine jB @g7 ?_;refine jE ?_;refine ag ?_;refine aW _ _ ?_;clear aW K2;refine wK fun K3 bC=>?_;refine al ?_;have Fl : nodeAt leaf l (i + 1) = P[i]:=(by rw [Ke i bc,List.getD,hp]; rfl);obtain ⟨w2,w3⟩:=ir (i + 1) bc;rw [Fl] at w2 w3;have ft : bw (P.take (i + 1)) = bw (P.take i) ++ [((P[i] : Nat) : Int)]:=(by unfold bw; rw [List.take_succ_eq_append_getElem bc,List.map_append]; rfl);have cW : ∀ (E : Env) (s3 : AS) (x3 : AV),E 6 = .v (.int .i64 (P[i] : Nat))→E 1 = .v (.int .i64 l)→E 5 = x3→cO 1 s1 s3 x3 (i + 1) ((bw (P.take (i + 1))).map aV)→s1.le s3→K3 E s3:=by
    intro E s3 x3 f6 f1 f5 fx PU;refine bC _ _ ?_;clear bC K3;refine jU (Ai @f6 @f1) fun K hK=>?_;refine ad (mP hG (P[i]) l hl w2 _) ?_;rintro r s4 ⟨rfl,rfl⟩;rw [w3];refine jM ?_;refine hK _ _ ⟨⟨i + 1,x3,bc,rfl,rfl,f1,f5,fx,PU⟩,?_⟩;have m1 : BS (E1 5) = i:=by
     rw [g5];rcases hx with ⟨rfl,rfl,_⟩ | ⟨t,e,rfl,_⟩ <;> rfl
    have m2 : BS (E 5) = i + 1:=by
     rw [f5];rcases fx with ⟨rfl,h,_⟩ | ⟨t,e,rfl,_⟩
     ·omega
     ·rfl
    simp only [aF,Nc,↓reduceIte,m1,m2];omega
   clear bC;rcases hx with ⟨rfl,ic,BT⟩ | ⟨t,e,rfl,ht,gM⟩
   ·refine wE fun K hK=>?_;simp only [↓DN,Qa,Qb,Qc,Qd,Qe,Qf,Qg,Qh,reduceCtorEq,↓reduceIte,Na,Nb,Nc,Nk,Nf,Ng,Nh,Za,Zb,Zc,TT,g5,g6,bZ,List.replicate_succ];intro t ht;refine hK _ _ (cW _ _ (.sl 1 1 [.v (.int .i64 ((P[i] : Nat) : Int))] (.own t 0)) g6 g1 rfl ?_ ?_)
    ·refine .inr ⟨t,0,?_,by simp [AS.bo],bN hle ht⟩;rw [ft,List.map_append,BT];subst ic;rfl
    ·exact AS.bG hle (bN hle ht) 0
   ·refine wE fun K hK=>?_;simp only [↓DN,Qa,Qb,Qc,Qd,Qe,Qf,Qg,Qh,reduceCtorEq,↓reduceIte,Na,Nb,Nc,Nk,Nf,Ng,Nh,Za,Zb,Zc,TT,g5,g6,ht,List.replicate_succ];have TF : (bw (P.take i)).length = i:=(by rw [cJ,List.length_take]; omega);refine ⟨by omega,by omega,hK _ _ (cW _ _ (.sl 1 (i + 1) ((bw (P.take i)).map aV ++ [.v (.int .i64 ((P[i] : Nat) : Int))]) (.own t (e + 1))) g6 g1 rfl ?_ ?_)⟩
    ·exact .inr ⟨t,e + 1,by rw [ft,List.map_append]; rfl,by simp [AS.bo],gM⟩
    ·exact AS.bG hle gM (e + 1)
  ·have hp : P[i]? = none:=List.getElem?_eq_none (by omega);rw [hp] at g7;simp only [Option.isSome_none] at g7;refine jB @g7 ?_;refine jF ?_;refine aC ?_;simp only [az,aw,if_true];refine hK _ _ ?_;clear hK aW K2 K;obtain rfl : i = P.length:=(by omega);rw [List.take_of_length_le (Nat.le_refl _)] at hx;have hw:=hx.aA;refine jB @g5 ?_;refine jI ?_;refine ⟨_,_,?_,hle,rfl,rfl⟩;have TF:=cJ P;unfold aR;rw [TF];exact hw
theorem IP {k : Int} (h1 : -4611686018427387904≤k) (h2 : k≤4611686018427387904) : eC .i64 k 1 = k - 1:=IntWalk.i64_in _ (by omega)
theorem Dc (n : Nat) (cs : List AV) (s : AS) :
  ah prog Γ 112 [.sl 1 n cs .any] s (fun r s'=>r = .qK 160 [.dq [.sl 1 n cs .any]]∧s' = s):=by
 refine ab func112 rfl ntmps112 results112 (by simp) ?_;refine aU 1 (by decide) ?_;intro K hK;refine jM ?_;intro o1 h1;refine hK _ _ o1 _ rfl h1 ?_;clear hK K;refine jA ?_;exact jJ
theorem yQ (n : Nat) (cs : List AV) (s : AS) :
  ah prog Γ 110 [.sl 1 n cs .any] s (fun r s'=>r = .qK 157 [.dq [.sl 1 n cs .any]]∧s' = s):=by
 refine ab func110 rfl ntmps110 results110 (by simp) ?_;refine aU 1 (by decide) ?_;intro K hK;refine jM ?_;intro o1 h1;refine hK _ _ o1 _ rfl h1 ?_;clear hK K;refine jA ?_;exact jJ
theorem Dd (cs : List AV) (n : Nat) (hl : cs.length = n) (hn : n≤2 ^ 40) :
  v8 prog Γ 160 [.dq [.sl 1 n cs .any]] (cs.map fun c=>[c]):=by
 refine Fb func160 rfl ntmps160 results160 (by simp) ?_;intro I l s G h0 hy;refine eV (ck.y ?_);refine jC ?_;refine qB ?_;refine Fa (fun E s'=>∃ i : Nat,i≤n∧E 0 = .v (.func (.yield l) #[] #[])∧E 5 = .sl 1 n cs .any∧E 6 = .v (.int .i64 n)∧E 7 = .v (.int .i64 i)∧I i s')
  (fun E _=>match E 7 with | .v (.int _ i)=>n - i.toNat | _=>0) ?_ ?_
 ·exact ⟨0,Nat.zero_le _,rfl,rfl,rfl,rfl,h0⟩
 rintro E s' ⟨i,hi,e0,e5,e6,e7,hI⟩ -
 by_cases bc : i < n
 ·have bS : ((i : Nat) : Int) < ((n : Nat) : Int):=(by omega);have h0i : (0 : Int)≤((i : Nat) : Int):=(by omega);obtain ⟨c,hc⟩ : ∃ c,cs[i]? = some c:=⟨cs[i]'(by omega),by simp [hl,bc]⟩;have gn : (List.take 1 (List.drop i cs))[0]? = some c:=(by simp [List.getElem?_take,hc]);refine eV (ck.y ?_);refine jD (Ai @e6 (Ai @e7 (decide_eq_true bS))) ?_;refine eV (ck.y (qR (by simp only [aI,aF,↓reduceIte]) (ag ?_)));refine eV (qB ?_);refine eV (ck.y ?_);refine jD (Ai @e5 (Ai @e7 (Ai @bS (Ai @h0i @gn)))) ?_;refine Hj (l:=l) (xs:=[_]) rfl rfl (by decide) ?_;intro K hK ops;refine jN @e0 ?_;refine ⟨_,hy i [c] _ (by simp [hc]) hI,?_⟩;intro s2 oR;refine hK _ _ ?_;clear hK K;refine ck.y (fE (by simp only [aI,aF,↓reduceIte]) (ag ?_));simp only [aw,az];refine ck.y ?_;refine jD (Ai @e7 (bt i (by omega))) ?_;refine ⟨⟨i + 1,by omega,e0,e5,e6,rfl,oR⟩,?_⟩;simp only [aF,e7,↓reduceIte,Int.toNat_natCast];omega
 ·have bS : ¬ ((i : Nat) : Int) < ((n : Nat) : Int):=(by omega);obtain rfl : i = n:=(by omega);refine eV (ck.y ?_);refine jD (Ai @e6 (Ai @e7 (decide_eq_false bS))) ?_;refine eV (ck.y (fE (by simp only [aI,aF,↓reduceIte]) (aC ?_)));simp only [aw,az,↓reduceIte];exact ⟨by simp,by simpa [hl] using hI⟩
theorem yR (l0 : List Int) (n : Nat) (hl : l0.length = n) (hn : n≤2 ^ 40) :
  v8 prog Γ 157 [.dq [.sl 1 n (l0.map aV) .any]] ((List.range n).map fun i=>[aV ((n - 1 - i : Nat) : Int),aV (l0.getD (n - 1 - i) 0)]):=by
 refine Fb func157 rfl ntmps157 results157 (by simp) ?_;intro I l s G h0 hy;refine eV (ck.y ?_);refine jC ?_;refine qB ?_;refine Fa (fun E s'=>∃ i : Nat,i≤n∧E 0 = .v (.func (.yield l) #[] #[])∧E 1 = .dq [.sl 1 n (l0.map aV) .any]∧E 3 = .v (.int .i64 ((n : Int) - 1 - i))∧I i s')
  (fun E _=>match E 3 with | .v (.int _ i)=>(i + 1).toNat | _=>0) ?_ ?_
 ·refine ⟨0,Nat.zero_le _,rfl,rfl,?_,h0⟩;simp only [aF,↓reduceIte,Nc];rw [IP (by omega) (by omega)];simp
 rintro E s' ⟨i,hi,e0,e1,e3,hI⟩ -
 by_cases bc : i < n
 ·have dr : (n : Int) - 1 - i ≥ 0:=(by omega);have Zm : (0 : Int)≤(n : Int) - 1 - i:=(by omega);have bS : (n : Int) - 1 - i < (n : Int):=(by omega);obtain ⟨k,hk⟩ : ∃ k : Nat,(n : Int) - 1 - i = (k : Int):=⟨n - 1 - i,by omega⟩;have hkn : n - 1 - i = k:=(by omega);rw [hk] at e3 dr Zm bS;have gn : (List.take 1 (List.drop k (l0.map aV)))[0]? = some (aV (l0.getD k 0)):=by
   have oT : k < l0.length:=(by omega);simp [List.getElem?_take,List.getD,oT]
  refine eV (eV (ck.y ?_));refine jD (Ai @e3 (decide_eq_true dr)) ?_;refine ck.y (qR (by simp only [aI,aF,↓reduceIte]) (ag ?_));simp only [az];refine eV (qB ?_);refine Hk (l:=l) (xs:=[_,_]) rfl rfl (by decide) ?_;intro K hK ops;refine jN (Ai @e0 (Ai @e1 (Ai @e3 (Ai @Zm (Ai @bS @gn))))) ?_;refine ⟨_,hy i [aV (k : Int),aV (l0.getD k 0)] _ (by simp [bc,hkn]) hI,?_⟩;intro s2 oR;refine hK _ _ ?_;clear hK K;refine ck.y (fE (by simp only [aI,aF,↓reduceIte]) (ag ?_));simp only [aw,az];refine ck.y ?_;refine jD (Ai @e3 (IP (k:=(k : Int)) (by omega) (by omega))) ?_;refine ⟨⟨i + 1,by omega,e0,e1,?_,oR⟩,?_⟩
  ·simp only [aF,↓reduceIte,Nc];rw [show ((k : Nat) : Int) - 1 = (n : Int) - 1 - ((i + 1 : Nat) : Int) by omega]
  ·simp only [aF,e3,↓reduceIte,Nc];omega
 ·obtain rfl : i = n:=(by omega);have dr : ¬ (((i : Nat) : Int) - 1 - i ≥ 0):=(by omega);refine eV (eV (ck.y ?_));refine jD (Ai @e3 (decide_eq_false dr)) ?_;refine ck.y (fE (by simp only [aI,aF,↓reduceIte]) (aC ?_));simp only [aw,az,↓reduceIte];exact ⟨by simp,by simpa using hI⟩
end Go.Proofs.YtbiefppedlodiaaGreatDoor
namespace Go.AM
open Go Go.RowKit Go.Shelf Go.Proofs
variable {P : Program} {Γ : Nat→List AV} {G : Gh} {s : AS} {w : World} {N : Nat}
def Hw (i : Int) : Value:=.int .i64 i
theorem ar.ints {G : Gh} (l : List Int) : ar G (l.map aV) (l.map Hw):=by
  induction l with
  | nil=>simp [ar]
  | cons i l ih=>simp only [List.map_cons,ar]; exact ⟨Hw i,_,rfl,by simp [aV,Hw,au],ih⟩
theorem ar.IQ {G : Gh} : ∀ {l : List Int} {vs : List Value},ar G (l.map aV) vs→vs = l.map Hw
  | [],vs,h=>by simpa [ar] using h
  | i :: l,vs,h=>by
    simp only [List.map_cons,ar] at h;obtain ⟨u,us,rfl,h1,h2⟩:=h;rw [ar.IQ h2];simp only [aV,au] at h1;rw [h1];rfl
open Go
structure IU where
  kind : Int
  n : Int
  b : List UInt8
def IU.cells (p : IU) : List AV:=[.v (.int .i64 p.kind),.v (.int .i64 p.n),aj p.b .any]
def xcV (ps : List IU) : List AV:=(ps.map IU.cells).flatten
def aK {α : Type} (c : α→List AV) (l : List α) : List AV:=(l.map c).flatten
theorem fN {α : Type} {c : α→List AV} {k : Nat} (hk : ∀ a,(c a).length = k) {l : List α} {i : Nat} (h : i < l.length) : List.take k (List.drop (i * k) (aK c l)) = c l[i]:=by
  have:=yv (sz:=k) (els:=l.map c) (i:=i) (by simpa using h) (by
    intro el wQ;obtain ⟨p,_,rfl⟩:=List.mem_map.1 wQ;exact hk p)
  unfold aK;rw [this];simp
theorem dk {α : Type} {c : α→List AV} {k : Nat} (hk : ∀ a,(c a).length = k) (l : List α) : (aK c l).length = l.length * k:=by
  induction l with
  | nil=>simp [aK]
  | cons a l ih =>
    have : aK c (a :: l) = c a ++ aK c l:=rfl;rw [this,List.length_append,ih,hk,List.length_cons,Nat.succ_mul,Nat.add_comm]
theorem pT {α : Type} {c : α→List AV} (l : List α) (a : α) : aK c (l ++ [a]) = aK c l ++ c a:=by simp [aK]
theorem dT.row {α : Type} {c : α→List AV} {ty : Ty} {k : Nat} {Q : α→Prop} (wQ : ∀ el,dT ty el→∃ a,el = c a∧Q a) {j0 : List AV} (h : dT (.slice k ty) j0) :
    ∃ l : List α,j0 = [.sl k l.length (aK c l) .any]∧(∀ a ∈ l,Q a)∧l.length≤maxLen:=by
  obtain ⟨els,rfl,hlen,cu⟩:=dT.rows h;have key : ∀ els : List (List AV),(∀ el ∈ els,el.length = k∧dT ty el)→∃ l : List α,els = l.map c∧∀ a ∈ l,Q a:=by
    intro els;induction els with
    | nil=>intro _; exact ⟨[],rfl,by simp⟩
    | cons e els ih =>
      intro h;obtain ⟨l,rfl,hl⟩:=ih (fun el wQ=>h el (by simp [wQ]));obtain ⟨_,h1⟩:=h e (by simp);obtain ⟨a,rfl,ha⟩:=wQ e h1;refine ⟨a :: l,rfl,?_⟩;intro b hb;rcases List.mem_cons.1 hb with rfl | hb
      · exact ha
      · exact hl b hb
  obtain ⟨l,rfl,hl⟩:=key els cu;exact ⟨l,by simp [aK],hl,by simpa using hlen⟩
def Mo (n : Nat) : Prop:=2≤n∧n≤2305843009213693949
instance (n : Nat) : Decidable (Mo n):=by unfold Mo; infer_instance
structure lI where
  kind : Int
  leaf : Int
  name : List UInt8
  key : Nat
  init : Nat
  deriving DecidableEq
structure aY where
  ju : Nat
  text : List UInt8
  deriving DecidableEq
structure aM where
  key : Nat
  c7 : List aY
  deriving DecidableEq
structure bE where
  key : Nat
  parent : List UInt8
  steps : List aM
  deriving DecidableEq
structure cQ where
  group : List UInt8
  iA : Int
  De : Int
  props : List lI
  xy : Bool
  path : bE
  Df : List UInt8
  Hy : List UInt8
  deriving DecidableEq
def lI.cells (p : lI) : List AV:=[.v (.int .i64 p.kind),.v (.int .i64 p.leaf),aj p.name .any,.v (.int .u64 p.key),.v (.int .u64 p.init)]
def aY.cells (p : aY) : List AV:=[.v (.int .u64 p.ju),aj p.text .any]
def aM.cells (p : aM) : List AV:=[.v (.int .u64 p.key),.sl 2 p.c7.length (aK aY.cells p.c7) .any]
def bE.cells (p : bE) : List AV:=[.v (.int .u64 p.key),aj p.parent .any,.sl 2 p.steps.length (aK aM.cells p.steps) .any]
def cQ.cells (c : cQ) : List AV :=
  [aj c.group .any,.v (.int .i64 c.iA),.v (.int .i64 c.De),.sl 5 c.props.length (aK lI.cells c.props) .any,.v (.bool c.xy),
   .v (.int .u64 c.path.key),aj c.path.parent .any,.sl 2 c.path.steps.length (aK aM.cells c.path.steps) .any,aj c.Df .any,aj c.Hy .any]
def lI.wf (p : lI) : Prop:=p.key < 2 ^ 64∧p.init < 2 ^ 64
def aY.wf (p : aY) : Prop:=p.ju < 2 ^ 64
def aM.wf (p : aM) : Prop:=p.key < 2 ^ 64∧(∀ x ∈ p.c7,x.wf)∧p.c7.length≤maxLen
def bE.wf (p : bE) : Prop:=p.key < 2 ^ 64∧(∀ x ∈ p.steps,x.wf)∧p.steps.length≤maxLen
def cQ.wf (c : cQ) : Prop:=(∀ x ∈ c.props,x.wf)∧c.path.wf∧c.props.length≤maxLen
abbrev Vn : Ty:=.int .u64
abbrev TG : Ty:=.struct (.cons Vf (.cons Vf (.cons Rr (.cons Vn (.cons Vn .nil)))))
abbrev Mp : Ty:=.struct (.cons Vn (.cons Rr .nil))
abbrev Mq : Ty:=.struct (.cons Vn (.cons (.slice 2 Mp) .nil))
abbrev Mr : Ty:=.struct (.cons Vn (.cons Rr (.cons (.slice 2 Mq) .nil)))
abbrev Zn : Ty:=.struct (.cons Rr (.cons Vf (.cons Vf (.cons (.slice 5 TG) (.cons .bool (.cons Mr (.cons Rr (.cons Rr .nil))))))))
theorem yS {x : List AV} (h : dT Vn x) : ∃ n : Nat,x = [.v (.int .u64 n)]∧n < 2 ^ 64:=by
  obtain ⟨a,rfl,ha⟩:=LJ h;obtain ⟨n,rfl,hn⟩:=Pp ha;exact ⟨n,rfl,hn⟩
theorem dT.Zo {x : List AV} (h : dT Mp x) : ∃ p : aY,x = p.cells∧p.wf:=by
  obtain ⟨x1,y1,rfl,t1,h⟩:=lB (pF h);obtain ⟨x2,y2,rfl,t2,h⟩:=lB h;obtain rfl:=CO h;obtain ⟨n1,rfl,h1⟩:=yS t1;obtain ⟨l2,rfl,_⟩:=t2.bytes;exact ⟨⟨n1,l2⟩,rfl,h1⟩
theorem dT.Zp {x : List AV} (h : dT Mq x) : ∃ p : aM,x = p.cells∧p.wf:=by
  obtain ⟨x1,y1,rfl,t1,h⟩:=lB (pF h);obtain ⟨x2,y2,rfl,t2,h⟩:=lB h;obtain rfl:=CO h;obtain ⟨n1,rfl,h1⟩:=yS t1;obtain ⟨l,rfl,hl,hm⟩:=dT.row (c:=aY.cells) (Q:=aY.wf) (fun el h=>dT.Zo h) t2;exact ⟨⟨n1,l⟩,rfl,h1,hl,hm⟩
theorem dT.Wk {x : List AV} (h : dT Mr x) : ∃ p : bE,x = p.cells∧p.wf:=by
  obtain ⟨x1,y1,rfl,t1,h⟩:=lB (pF h);obtain ⟨x2,y2,rfl,t2,h⟩:=lB h;obtain ⟨x3,y3,rfl,t3,h⟩:=lB h;obtain rfl:=CO h;obtain ⟨n1,rfl,h1⟩:=yS t1;obtain ⟨l2,rfl,_⟩:=t2.bytes;obtain ⟨l,rfl,hl,hm⟩:=dT.row (c:=aM.cells) (Q:=aM.wf) (fun el h=>dT.Zp h) t3;exact ⟨⟨n1,l2,l⟩,rfl,h1,hl,hm⟩
def lI.right (p : lI) : Prop :=
  (p.kind = 1∧p.leaf = 0∧1≤p.name.length∧p.name.length≤16∧Mo p.key∧Mo p.init) ∨
  (p.kind = 2∧0≤p.leaf∧p.leaf < 32∧p.name.length = 0∧Mo p.key∧p.init = 0) ∨
  (p.kind = 3∧0≤p.leaf∧p.leaf < 32∧p.name.length = 0∧p.key = 0∧p.init = 0)
def aY.right (p : aY) : Prop:=Mo p.ju∧p.text.length = 48
def aM.right (p : aM) : Prop:=(∀ x ∈ p.c7,x.right)∧Mo p.key∧p.c7.length≤32
def bE.right (p : bE) : Prop:=(∀ x ∈ p.steps,x.right)∧Mo p.key∧(p.parent.length = 0∨p.parent.length = 32)∧p.steps.length≤5
def bE.none (p : bE) : Prop:=p.key = 0∧p.parent.length = 0∧p.steps.length = 0
def cQ.Hz (c : cQ) : Prop:=(c.xy = true→c.path.right)∧(c.xy = false→c.path.none)
def cQ.right (c : cQ) : Prop :=
  (∀ x ∈ c.props,x.right)∧(1≤c.group.length∧c.group.length≤16)∧(0≤c.iA∧c.iA≤1048576)∧(0≤c.De∧c.De < 32)∧c.props.length≤16∧c.Hz∧c.Df.length = 32∧c.Hy.length = 32
instance (p : lI) : Decidable p.right:=by unfold lI.right; infer_instance
instance (p : aY) : Decidable p.right:=by unfold aY.right; infer_instance
instance (p : aM) : Decidable p.right:=by unfold aM.right; infer_instance
instance (p : bE) : Decidable p.right:=by unfold bE.right; infer_instance
instance (p : bE) : Decidable p.none:=by unfold bE.none; infer_instance
instance (c : cQ) : Decidable c.Hz:=by unfold cQ.Hz; infer_instance
instance (c : cQ) : Decidable c.right:=by unfold cQ.right; infer_instance
def bA (t : List ao) : AV:=.sl 5 t.length (aK ao.cells t) .any
def gG (t : List ao) : Prop:=t.length≤2 ^ 61∧∀ n ∈ t,n.kY.length≤2 ^ 61∧n.key < 2 ^ 64
def nd (t : List ao) (i : Nat) : ao:=t.getD i ao.kA
theorem yU {t : List ao} {i : Nat} (h : i < t.length) : nd t i = t[i]:=by simp [nd,List.getD,h]
theorem gG.nd {t : List ao} (h : gG t) (i : Nat) : (nd t i).kY.length≤2 ^ 61∧(nd t i).key < 2 ^ 64:=by
  by_cases hi : i < t.length
  · rw [yU hi]; exact h.2 _ (List.getElem_mem hi)
  · have : Go.AM.nd t i = ao.kA:=(by simp [Go.AM.nd,List.getD,show t.length≤i by omega]);rw [this];exact ⟨by decide,by decide⟩
theorem fY {t : List ao} {i : Nat} (h : i < t.length) : List.take 5 (List.drop (i * 5) (aK ao.cells t)) = (nd t i).cells:=by
  rw [yU h];exact fN (k:=5) (fun _=>rfl) h
def bj (t : List ao) : Nat:=if Fit ((t.length + 1) / 2)∧t.length = 2 * ((t.length + 1) / 2) - 1 then (t.length + 1) / 2 else 0
theorem dn {t : List ao} : bj t = 0∨(Fit (bj t)∧t.length = 2 * bj t - 1):=by
  unfold bj;split
  · rename_i h; exact .inr h
  · exact .inl rfl
theorem Ms (t : List ao) : bj t≤32:=by
  rcases dn (t:=t) with h | h
  · omega
  · exact h.1.le.2
theorem Mt {t : List ao} {i : Nat} (h : i < bj t) : 2 * i < t.length:=by
  rcases dn (t:=t) with h0 | h0
  · omega
  · omega
def eW (t : List ao) (i : Int) : Prop:=0≤i∧i < (bj t : Int)∧(nd t (2 * i.toNat)).kind = 1
instance (t : List ao) (i : Int) : Decidable (eW t i):=by unfold eW; infer_instance
def l7 (t : List ao) (i : Int) : Prop:=0≤i∧2 * i < (t.length : Int)∧(nd t (2 * i.toNat)).kind = 1
instance (t : List ao) (i : Int) : Decidable (l7 t i):=by unfold l7; infer_instance
def rU (P : Int→Prop) [DecidablePred P] (a : Nat) : Nat→Nat
  | 0=>0
  | k + 1=>rU P a k + if P ((a + k : Nat) : Int) then 1 else 0
theorem IV (P : Int→Prop) [DecidablePred P] (a : Nat) : ∀ k,rU P a k≤k
  | 0=>Nat.le_refl _
  | k + 1=>by
    have:=IV P a k;simp only [rU];split <;> omega
def cy (P : Nat→Bool) : Nat→Nat→Int
  | 0,_=>-1
  | k + 1,i=>if P i then (i : Int) else cy P k (i + 1)
theorem pU (P : Nat→Bool) : ∀ k i,(cy P k i = -1∧∀ j,i≤j→j < i + k→P j = false)∨(∃ j,i≤j∧j < i + k∧P j = true∧cy P k i = (j : Int)∧∀ m,i≤m→m < j→P m = false)
  | 0,i=>.inl ⟨rfl,fun j h1 h2=>by omega⟩
  | k + 1,i=>by
    simp only [cy];cases hp : P i with
    | true=>exact .inr ⟨i,Nat.le_refl _,by omega,hp,by simp,fun m h1 h2=>by omega⟩
    | false =>
      simp only [Bool.false_eq_true,if_false];rcases pU P k (i + 1) with ⟨h1,h2⟩ | ⟨j,h1,h2,h3,h4,h5⟩
      · refine .inl ⟨h1,fun j a b=>?_⟩;by_cases e : j = i
        · rw [e,hp]
        · exact h2 j (by omega) (by omega)
      · refine .inr ⟨j,by omega,by omega,h3,h4,fun m a b=>?_⟩;by_cases e : m = i
        · rw [e,hp]
        · exact h5 m (by omega) b
theorem uW (P : Nat→Bool) (k i : Nat) : decide (0≤cy P k i) = true↔∃ j,i≤j∧j < i + k∧P j = true:=by
  rw [decide_eq_true_iff];rcases pU P k i with ⟨h1,h2⟩ | ⟨j,h1,h2,h3,h4,h5⟩
  · rw [h1];constructor
    · intro h; omega
    · rintro ⟨j,a,b,c⟩; rw [h2 j a b] at c; cases c
  · rw [h4];exact ⟨fun _=>⟨j,h1,h2,h3⟩,fun _=>by omega⟩
def pV (t : List ao) : Nat:=(t.length + 1) / 2
theorem Mu {t : List ao} {i : Nat} : i < pV t↔2 * i < t.length:=by unfold pV; omega
def nZ (t : List ao) (name : List UInt8) (a : Nat) : Int:=cy (fun j=>decide (eW t j∧(nd t (2 * j)).name = name)) (pV t - a) a
def rk (t : List ao) (i : Nat) : Prop :=
  (nd t i).right∧((nd t i).kind = 0∨((nd t i).kind = 1↔i % 2 = 0))∧∀ u ∈ (nd t i).kY,(wY (i : Int)).1≤u∧u≤(wY (i : Int)).2∧eW t u
instance (t : List ao) (i : Nat) : Decidable (rk t i):=by unfold rk; infer_instance
def gW (t : List ao) (i : Nat) : Prop:=rk t i∧(i % 2 = 0→eW t ((i / 2 : Nat) : Int)→∀ j,j < pV t→i / 2 < j→¬ (eW t (j : Int)∧(nd t (2 * j)).name = (nd t i).name))
def bO (t : List ao) : Prop:=bj t≠0∧(∀ i,i < t.length→gW t i)∧(bj t = 1∨0 < rU (eW t) (bj t / 2) (bj t - bj t / 2))
instance (t : List ao) (i : Nat) : Decidable (gW t i):=by unfold gW; infer_instance
instance (t : List ao) : Decidable (bO t):=by unfold bO; infer_instance
theorem yV (P : Int→Bool) (l : List Int) : decide (0≤cy (fun i=>P (l.getD i 0)) l.length 0) = l.any P:=by
  rw [Bool.eq_iff_iff,uW,List.any_eq_true];constructor
  · rintro ⟨j,_,h2,h3⟩;have hj : j < l.length:=(by omega);refine ⟨l[j],List.getElem_mem hj,?_⟩;simpa [List.getD,hj] using h3
  · rintro ⟨x,hx,hp⟩;obtain ⟨j,hj,rfl⟩:=List.getElem_of_mem hx;exact ⟨j,Nat.zero_le _,by omega,by simpa [List.getD,hj] using hp⟩
theorem my {P : Nat→Bool} {k i : Nat} (h : P i = false) : cy P (k + 1) i = cy P k (i + 1):=by simp only [cy,h]; rfl
theorem mz {P : Nat→Bool} {k i : Nat} (h : P i = true) : cy P (k + 1) i = (i : Int):=by simp only [cy,h]; rfl
theorem TH {t : List ao} {n : Nat} (h : Fit n) (hl : t.length = 2 * n - 1) : bj t = n:=by
  have:=h.le;unfold bj;rw [show (t.length + 1) / 2 = n by omega];exact if_pos ⟨h,hl⟩
structure IW where
  leaf : Int
  name : List UInt8
  deriving DecidableEq
def IW.cells (x : IW) : List AV:=[.v (.int .i64 x.leaf),aj x.name .any]
theorem bO.len {t : List ao} (h : bO t) : t.length = 2 * bj t - 1∧Fit (bj t):=by
  have h1:=(dn.resolve_left h.1);exact ⟨h1.2,h1.1⟩
theorem bO.nd {t : List ao} (h : bO t) (i : Nat) : (nd t i).right:=by
  by_cases hi : i < t.length
  · exact (h.2.1 i hi).1.1
  · have : Go.AM.nd t i = ao.kA:=(by simp [Go.AM.nd,List.getD,show t.length≤i by omega]);rw [this]; exact C8
theorem BU {n : Nat} (h : n < 63) (hl : lv n = 0) : mw (n : Int) = none:=by unfold mw; rw [qE h,if_pos hl]
theorem we {n l : Nat} (h : n < 63) (hl : lv n = l + 1) : mw (n : Int) = some (((n - 2 ^ l : Nat) : Int),((n + 2 ^ l : Nat) : Int))∧lv (n - 2 ^ l) = l∧lv (n + 2 ^ l) = l∧n + 2 ^ l < 63∧2 ^ l≤n∧2 ^ l≤32:=by
  have key : ∀ n < 63,lv n≠0→lv (n - 2 ^ (lv n - 1)) = lv n - 1∧lv (n + 2 ^ (lv n - 1)) = lv n - 1∧n + 2 ^ (lv n - 1) < 63∧2 ^ (lv n - 1)≤n∧2 ^ lv n / 2 = 2 ^ (lv n - 1)∧2 ^ (lv n - 1)≤32:=(by decide +kernel);obtain ⟨k1,k2,k3,k4,k5,k6⟩:=key n h (by omega);rw [hl] at k1 k2 k3 k4 k5 k6;simp only [Nat.add_sub_cancel] at k1 k2 k3 k4 k5 k6;refine ⟨?_,k1,k2,k3,k4,k6⟩;unfold mw;rw [qE h,if_neg (by omega),hl,k5];congr 2;omega
theorem PV {L n : Nat} (h : Fit L) (hn : n < 2 * L - 1) : n + 2 ^ lv n≤2 * L - 1∧n < 63:=by
  obtain ⟨m,hm,rfl⟩:=h.pow;exact (by decide +kernel : ∀ m≤5,∀ n < 2 * 2 ^ m - 1,n + 2 ^ lv n≤2 * 2 ^ m - 1∧n < 63) m hm n hn
theorem bO.span {t : List ao} (h : bO t) {n : Nat} (hn : n < t.length) : n + 2 ^ lv n≤t.length∧n < 63:=by
  obtain ⟨h1,h2⟩:=h.len;rw [h1] at hn ⊢;exact PV h2 hn
def oU (skip : List Int) (l : List Int) : List Int:=(l.filter fun u=>decide (u ∉ skip)).map fun u=>2 * u
def rl (skip : List Int) (N : ao) (n : Nat) : List Int:=if (N.kind = 1∧((n / 2 : Nat) : Int) ∉ skip)∨N.kind = 2 then [(n : Int)] else []
def l8 (t : List ao) (skip : List Int) : Nat→Nat→List Int
  | 0,n=>rl skip (nd t n) n ++ oU skip (nd t n).kY
  | l + 1,n=>if (nd t n).kind = 0 then l8 t skip l (n - 2 ^ l) ++ l8 t skip l (n + 2 ^ l) else rl skip (nd t n) n ++ oU skip (nd t n).kY
theorem uX {N : ao} (h : N.right) : N.kY.length≤32∧∀ u ∈ N.kY,0≤u∧u < 32:=by
  rcases qC h with hk | hk | hk
  · rw [(yJ hk).1 h];exact ⟨by decide,(by intro u hu; cases hu)⟩
  · have:=((m8 hk).1 h).2.2.2;rw [List.eq_nil_of_length_eq_zero this];exact ⟨by decide,(by intro u hu; cases hu)⟩
  · have:=((m9 hk).1 h).2.2;exact ⟨rR this,fun u hu=>yL this hu⟩
theorem yW (skip l : List Int) : (oU skip l).length≤l.length:=by
  unfold oU;rw [List.length_map];exact List.length_filter_le _ _
theorem Kf {skip l : List Int} {i : Nat} (h : i < l.length) : oU skip (l.take (i + 1)) = oU skip (l.take i) ++ if l[i] ∉ skip then [2 * l[i]] else []:=by
  unfold oU;rw [List.take_succ_eq_append_getElem h,List.filter_append,List.map_append];congr 1;by_cases hs : l[i] ∉ skip
  · rw [if_pos hs]; simp [hs]
  · rw [if_neg hs]; simp [hs]
theorem uY (skip : List Int) (N : ao) (n : Nat) : (rl skip N n).length≤1:=by
  unfold rl; split <;> simp
theorem nj {t : List ao} (hr : bO t) (skip : List Int) : ∀ l n,(l8 t skip l n).length≤33 * 2 ^ l
  | 0,n=>by
    have h1:=uY skip (nd t n) n;have h2:=yW skip (nd t n).kY;have h3:=(uX (hr.nd n)).1;simp only [l8,List.length_append];omega
  | l + 1,n=>by
    have hp:=Nat.two_pow_pos l;have TI : 2 ^ (l + 1) = 2 ^ l + 2 ^ l:=(by rw [Nat.pow_succ]; omega);simp only [l8];split
    · have h1:=nj hr skip l (n - 2 ^ l);have h2:=nj hr skip l (n + 2 ^ l);rw [List.length_append];omega
    · have h1:=uY skip (nd t n) n;have h2:=yW skip (nd t n).kY;have h3:=(uX (hr.nd n)).1;rw [List.length_append];omega
def bQ (t : List ao) (x : Int) (skip : List Int) : List Int:=if 0≤x∧x < (t.length : Int)∧bO t then l8 t skip (lv x.toNat) x.toNat else []
open Go Go.RowKit
def wg : AV→Option Nat
  | .gw o _ _ _ _=>some o
  | _=>none
def gq (p : ao × AV) : List AV:=[.v (.int .i64 p.1.kind),aj p.1.name .any,.v (.int .u64 p.1.key),aj p.1.parent .any,p.2]
theorem HA (p : ao × AV) : (gq p).length = 5:=rfl
theorem qG (n : ao) : n.cells.length = 5:=rfl
theorem m6.le {sz n : Nat} {x : AV} {cs : List AV} {s s' : AS} (h : m6 sz s x n cs) (k : s.le s') : m6 sz s' x n cs:=by
  rcases h with h | ⟨o,cap,rest,h1,h2,h3⟩
  · exact .inl h
  · exact .inr ⟨o,cap,rest,h1,k.aq _ _ h2,h3⟩
theorem m6.mQ {sz n : Nat} {x : AV} {cs : List AV} {s : AS} {o : Nat} {ds : List AV} (h : m6 sz s x n cs) (k : wg x≠some o) : m6 sz (s.set o ds) x n cs:=by
  rcases h with h | ⟨o',cap,rest,rfl,h2,h3⟩
  · exact .inl h
  · exact .inr ⟨o',cap,rest,rfl,by rw [AS.ae _ (fun e=>k (by rw [e]; rfl))]; exact h2,h3⟩
theorem m6.PW {sz n : Nat} {x : AV} {cs : List AV} {s : AS} {o : Nat} (h : m6 sz s x n cs) (k : wg x≠some o) : m6 sz (s.drop o) x n cs:=by
  rcases h with h | ⟨o',cap,rest,rfl,h2,h3⟩
  · exact .inl h
  · exact .inr ⟨o',cap,rest,rfl,by rw [AS.qo,fu _ _ (fun e=>k (by rw [e]; rfl))]; exact h2,h3⟩
theorem m6.some {sz n : Nat} {x : AV} {cs : List AV} {s : AS} {o : Nat} (h : m6 sz s x n cs) (k : wg x = some o) : ∃ ds,s.aq o = some ds:=by
  rcases h with ⟨_,_,rfl | rfl | rfl⟩ | ⟨o',cap,rest,rfl,h2,h3⟩
  · cases k
  · cases k
  · cases k
  · cases k; exact ⟨_,h2⟩
theorem yX {sz : Nat} {sp : Sp} (h : sp = .full∨sp = .new) : (AV.sl sz 0 [] sp).aA (.sl sz 0 [] .any):=by
  intro G u hv;simp only [au] at hv ⊢;rcases hv with ⟨b,off,cap,vs,h1,h2,h3,h4,h5,h6⟩ | ⟨_,_,a,cap,h1,_⟩ | ⟨_,_,h1,_⟩
  · exact .inl ⟨b,off,cap,vs,h1,h2,h3,h4,h5,trivial⟩
  · exact .inr (.inl ⟨trivial,trivial,a,cap,h1,by simp⟩)
  · rcases h with rfl | rfl <;> cases h1
structure TJ (s0 s : AS) (T : List (ao × AV)) : Prop where
  buf : ∀ p ∈ T,m6 1 s p.2 p.1.kY.length (p.1.kY.map aV)
  new : ∀ p ∈ T,∀ o,wg p.2 = some o→s0.aq o = none
  sep : T.Pairwise fun p q=>∀ o,wg p.2 = some o→wg q.2≠some o
structure oI (s0 s : AS) (X : AV) (T : List (ao × AV)) : Prop where
  xs : TJ s0 s T
  le : s0.le s
  row : m6 5 s X T.length (aK gq T)
  PX : ∀ O,wg X = some O→s0.aq O = none
  TK : ∀ O,wg X = some O→∀ p ∈ T,wg p.2≠some O
theorem AS.le_none {s s' : AS} (h : s.le s') {o : Nat} (k : s'.aq o = none) : s.aq o = none:=by
  cases hs : s.aq o with
  | none=>rfl
  | some cs=>rw [h.aq _ _ hs] at k; cases k
theorem oI.nil (s : AS) : oI s s bZ [] :=
  ⟨⟨fun p hp=>absurd hp (List.not_mem_nil),fun p hp=>absurd hp (List.not_mem_nil),.nil⟩,.refl s,.inl ⟨rfl,rfl,.inl rfl⟩,(fun O h=>by cases h),(fun O h=>by cases h)⟩
theorem oI.push {s0 s : AS} {X : AV} {T : List (ao × AV)} {p : ao × AV} {ob cap : Nat} {rest : List AV} (h : oI s0 s X T) (hb : m6 1 s p.2 p.1.kY.length (p.1.kY.map aV))
    (h1 : ∀ o,wg p.2 = some o→s0.aq o = none∧(∀ q ∈ T,wg q.2≠some o)∧wg X≠some o) (h2 : s.aq ob = none∨∃ rQ,X = .gw ob 0 5 T.length rQ) (h3 : T.length + 1≤cap) (h4 : cap < 2 ^ 63) (h5 : rest.length = (cap - (T.length + 1)) * 5) :
    oI s0 (s.set ob (aK gq T ++ gq p ++ rest)) (.gw ob 0 5 (T.length + 1) cap) (T ++ [p]):=by
  have Zq : s0.aq ob = none:=by
    rcases h2 with h2 | ⟨rQ,h2⟩
    · exact AS.le_none h.le h2
    · exact h.PX ob (by rw [h2]; rfl)
  have dp : ∀ q ∈ T ++ [p],wg q.2≠some ob:=by
    intro q hq e;rw [List.mem_append,List.mem_singleton] at hq;rcases h2 with h2 | ⟨rQ,h2⟩
    · have : ∃ ds,s.aq ob = some ds:=by
        rcases hq with hq | rfl
        · exact (h.xs.buf q hq).some e
        · exact hb.some e
      rw [h2] at this;obtain ⟨ds,hd⟩:=this;cases hd
    · have hX : wg X = some ob:=(by rw [h2]; rfl);rcases hq with hq | rfl
      · exact h.TK ob hX q hq e
      · exact (h1 ob e).2.2 hX
  refine ⟨⟨fun q hq=>?_,fun q hq o ho=>?_,?_⟩,AS.aB h.le Zq _,.inr ⟨ob,cap,rest,by rw [List.length_append]; rfl,by rw [AS.aa,pT],?_,by rw [List.length_append]; exact h5,by rw [List.length_append]; exact h3,h4⟩,fun O hO=>?_,fun O hO q hq=>?_⟩
  · have Mv:=hq;rw [List.mem_append,List.mem_singleton] at hq;rcases hq with hq | rfl
    · exact (h.xs.buf q hq).mQ (dp q Mv)
    · exact hb.mQ (dp q Mv)
  · rw [List.mem_append,List.mem_singleton] at hq;rcases hq with hq | rfl
    · exact h.xs.new q hq o ho
    · exact (h1 o ho).1
  · rw [List.pairwise_append];refine ⟨h.xs.sep,List.pairwise_singleton _ _,fun a ha b Pu o ho=>?_⟩;rw [List.mem_singleton] at Pu;subst Pu;intro e;exact (h1 o e).2.1 a ha ho
  · exact dk HA _
  · cases hO; exact Zq
  · cases hO; exact dp q hq
theorem Kg {s0 : AS} {O : Nat} {rest : List AV} (Vo : s0.aq O = none) (x : AV) : ∀ (B : List (ao × AV)) (A : List ao) (s : AS),TJ s0 s B→s0.le s→(∀ p ∈ B,wg p.2≠some O)→s.aq O = some (aK ao.cells A ++ aK gq B ++ rest) →
    ∃ s',cM Γ s x s' x∧s'.aq O = some (aK ao.cells (A ++ B.map (·.1)) ++ rest)∧s0.le s':=by
  intro B;induction B with
  | nil =>
    intro A s _ hle _ hO;refine ⟨s,.refl x,?_,hle⟩;simpa [aK] using hO
  | cons p B ih =>
    intro A s hx hle dp hO;have TL : aK ao.cells A ++ aK gq (p :: B) ++ rest = (aK ao.cells A ++ [.v (.int .i64 p.1.kind),aj p.1.name .any,.v (.int .u64 p.1.key),aj p.1.parent .any]) ++ p.2 :: (aK gq B ++ rest):=by
      simp [aK,gq]
    rw [TL] at hO;have RX : (aK ao.cells A ++ [.v (.int .i64 p.1.kind),aj p.1.name .any,.v (.int .u64 p.1.key),aj p.1.parent .any]) ++ aR p.1.kY .any :: (aK gq B ++ rest) = aK ao.cells (A ++ [p.1]) ++ aK gq B ++ rest:=by
      simp [aK,ao.cells]
    have Zr:=List.pairwise_cons.1 hx.sep;have hp : p ∈ p :: B:=List.mem_cons_self;have Fm : ∀ s' : AS,(∀ q ∈ B,m6 1 s' q.2 q.1.kY.length (q.1.kY.map aV))→TJ s0 s' B:=fun s' h=>⟨h,fun q hq=>hx.new q (List.mem_cons_of_mem _ hq),Zr.2⟩;rcases hx.buf p hp with ⟨h0,ur,hv⟩ | ⟨o,cap,rs,hv,ho,gy,uS,Em,Ep⟩
    · have hw : p.2.aA (aR p.1.kY .any):=by
        have hu : p.1.kY = []:=List.eq_nil_of_length_eq_zero h0;rw [hu];rcases hv with hv | hv | hv
        · rw [hv]; exact AV.aJ
        · rw [hv]; exact yX (.inl rfl)
        · rw [hv]; exact yX (.inr rfl)
      have h1:=cM.cells (Γ:=Γ) x hO hw;rw [RX] at h1;obtain ⟨s',k1,k2,k3⟩:=ih (A ++ [p.1]) _ (Fm _ fun q hq=>(hx.buf q (List.mem_cons_of_mem _ hq)).mQ (dp q (List.mem_cons_of_mem _ hq))) (AS.aB hle Vo _) (fun q hq=>dp q (List.mem_cons_of_mem _ hq)) (AS.aa _ _ _);refine ⟨s',h1.trans k1,?_,k3⟩;simpa using k2
    · have hpo : wg p.2 = some o:=(by rw [hv]; rfl);have hOo : O≠o:=fun e=>dp p hp (by rw [hpo,e]);rw [hv] at hO;have h1:=cM.inner (Γ:=Γ) x hO ho hOo gy;have e : (AV.sl 1 p.1.kY.length (p.1.kY.map aV) .any) = aR p.1.kY .any:=rfl;rw [e,RX] at h1;obtain ⟨s',k1,k2,k3⟩:=ih (A ++ [p.1]) _ (Fm _ fun q hq=>((hx.buf q (List.mem_cons_of_mem _ hq)).PW (Zr.1 q hq o hpo)).mQ (dp q (List.mem_cons_of_mem _ hq))) (AS.aB (AS.sN hle (hx.new p hp o hpo)) Vo _) (fun q hq=>dp q (List.mem_cons_of_mem _ hq)) (AS.aa _ _ _);refine ⟨s',h1.trans k1,?_,k3⟩;simpa using k2
theorem aN.drewN (h : aN Γ G s w) : ∀ q,aN Γ G s (w.drewN q)
  | 0=>h
  | q + 1=>(aN.drewN h q).drew
open Go Go.RowKit Go.Shelf Go.Proofs Go.Sort
theorem aN.grow (h : aN Γ G s w) (os : Array Obj) : aN Γ G s (Go.Sort.grow w os):=by
  refine h.ext ?_;exact (Below.refl _ _).grown (row:=none) ⟨rfl,rfl,rfl,by simp,fun i hi _=>by simp [Go.Sort.grow,Array.getElem?_append,hi]⟩ (Nat.le_refl _) (fun i e=>by cases e)
theorem HB {ρ : Ren} (L : Lays.n189 P ρ) {o cap : Nat} {l : List Int} {rest : List AV} (hl : l.length < 4611686018427387904) (ho : s.aq o = some (l.map aV ++ rest)) :
    ah P Γ (ρ.f 189) [.gw o 0 1 l.length cap] s (fun r s'=>r = .v (.tuple #[])∧s' = s.set o ((l.mergeSort fun x y=>decide (x≤y)).map aV ++ rest)):=by
  intro G w vs hsr hv;simp only [ar] at hv;obtain ⟨u,us,rfl,hx,rfl⟩:=hv;simp only [au] at hx;obtain ⟨b,BG,rfl,hn⟩:=hx;obtain ⟨b',vs,q1,q2,q3,q4⟩:=hsr.aq o _ ho;rw [BG] at q1;cases q1;have hvt:=q2.take (l.map aV).length;rw [List.take_left] at hvt;have hvt:=ar.IQ hvt;have hH : Holds (Value.int .i64) w b 0 l.toArray:=by
    intro j hj;have gQ : j < l.length:=(by simpa using hj);rw [Nat.zero_add];have : vs[j]? = some (Value.int .i64 l.toArray[j]!):=by
      have h1 : (vs.take (l.map aV).length)[j]? = some (Hw l[j]):=(by rw [hvt]; simp [gQ]);rw [List.getElem?_take] at h1;split at h1
      · rw [h1]; simp [Hw,gQ]
      · cases h1
    exact ⟨(q4 j _ this).1,(q4 j _ this).2.1⟩
  refine (calls_of_every_depth fun D=>AnyS.slices_Sort_int_in L D b 0 cap l w hH (hsr.cX o b BG) hl).mono ?_;rintro e w' ⟨rfl,n,os,rfl⟩;rw [Go.Lib.putRow_eq_setCells (Value.int .i64) w b 0 l.toArray _ n hH (by simp)];have uq : (l.mergeSort fun x y=>decide (x≤y)).length = l.length:=(by simp);generalize (l.mergeSort fun x y=>decide (x≤y)) = m at uq ⊢;obtain ⟨_,_,f3⟩:=kL (hsr.drewN n) ho BG (off:=0) (ds:=m.map aV) (us:=m.map Hw) (by simp; omega) (ar.ints _);have ha:=pJ (m.map aV) [] (l.map aV ++ rest) (by simp; omega);simp only [List.nil_append,List.length_nil,List.length_map,uq] at ha;rw [show (l.map aV ++ rest).drop l.length = rest by rw [List.drop_append_of_le_length (by simp)]; simp] at ha;rw [ha] at f3;exact ⟨G,.v (.tuple #[]),_,_,rfl,.refl G,aN.grow f3 os,by simp [au],rfl,rfl⟩
end Go.AM
namespace Go.Proofs.YtbiefppedlodiaaGreatDoor
open Go Go.AM Go.Proofs Tryz
variable {Γ : Nat→List AV}
def xcY : Go.Shelf.Ren:=⟨fun | 125=>194 | 128=>229 | 129=>230 | 189=>159 | 215=>248 | 216=>226 | 257=>193 | 294=>220 | 295=>221 | 296=>222 | 297=>223 | 298=>224 | 299=>225 | 300=>227 | 301=>228 | 328=>243 | 329=>244 | 330=>245 | 331=>246 | 332=>247 | 343=>254 | n=>n,fun | 28=>24 | 46=>185 | 51=>214 | 53=>29 | 131=>119 | 182=>239 | 183=>240 | 218=>257 | 222=>260 | 228=>266 | 229=>58 | n=>n,fun n=>n⟩
theorem Zs : Lays.n189 prog xcY where
  mixed:=by kernel_rfl
  f125:=(func194).trans (congrArg some (by kernel_rfl))
  f128:=(func229).trans (congrArg some (by kernel_rfl))
  f129:=(func230).trans (congrArg some (by kernel_rfl))
  f189:=(func159).trans (congrArg some (by kernel_rfl))
  f215:=(func248).trans (congrArg some (by kernel_rfl))
  f216:=(func226).trans (congrArg some (by kernel_rfl))
  f257:=(func193).trans (congrArg some (by kernel_rfl))
  f294:=(func220).trans (congrArg some (by kernel_rfl))
  f295:=(func221).trans (congrArg some (by kernel_rfl))
  f296:=(func222).trans (congrArg some (by kernel_rfl))
  f297:=(func223).trans (congrArg some (by kernel_rfl))
  f298:=(func224).trans (congrArg some (by kernel_rfl))
  f299:=(func225).trans (congrArg some (by kernel_rfl))
  f300:=(func227).trans (congrArg some (by kernel_rfl))
  f301:=(func228).trans (congrArg some (by kernel_rfl))
  f328:=(func243).trans (congrArg some (by kernel_rfl))
  f329:=(func244).trans (congrArg some (by kernel_rfl))
  f330:=(func245).trans (congrArg some (by kernel_rfl))
  f331:=(func246).trans (congrArg some (by kernel_rfl))
  f332:=(func247).trans (congrArg some (by kernel_rfl))
  f343:=(func254).trans (congrArg some (by kernel_rfl))
  t0:=underlying0
  a0:=isAgg0
  z0:=sizeOf0
  v0:=zeroValue0
  t3:=underlying3
  a3:=isAgg3
  z3:=sizeOf3
  v3:=zeroValue3
  t4:=underlying4
  a4:=isAgg4
  z4:=sizeOf4
  v4:=zeroValue4
  t5:=underlying5
  a5:=isAgg5
  z5:=sizeOf5
  v5:=zeroValue5
  t9:=underlying9
  a9:=isAgg9
  z9:=sizeOf9
  v9:=zeroValue9
  t28:=underlying24
  a28:=isAgg24
  z28:=sizeOf24
  v28:=zeroValue24
  t46:=underlying185
  a46:=isAgg185
  z46:=sizeOf185
  v46:=zeroValue185
  t51:=underlying214
  a51:=isAgg214
  z51:=sizeOf214
  v51:=zeroValue214
  t53:=underlying29
  a53:=isAgg29
  z53:=sizeOf29
  v53:=zeroValue29
  t131:=underlying119
  a131:=isAgg119
  z131:=sizeOf119
  v131:=zeroValue119
  t182:=underlying239
  a182:=isAgg239
  z182:=sizeOf239
  v182:=zeroValue239
  t183:=underlying240
  a183:=isAgg240
  z183:=sizeOf240
  v183:=zeroValue240
  t218:=underlying257
  a218:=isAgg257
  z218:=sizeOf257
  v218:=zeroValue257
  t222:=underlying260
  a222:=isAgg260
  z222:=sizeOf260
  v222:=zeroValue260
  t228:=underlying266
  a228:=isAgg266
  z228:=sizeOf266
  v228:=zeroValue266
  t229:=underlying58
  a229:=isAgg58
  z229:=sizeOf58
  v229:=zeroValue58
theorem Mw {o cap : Nat} {l : List Int} {rest : List AV} {s : AS} (hl : l.length < 4611686018427387904) (ho : s.aq o = some (l.map aV ++ rest)) :
    ah prog Γ 159 [.gw o 0 1 l.length cap] s (fun r s'=>r = .v (.tuple #[])∧s' = s.set o ((l.mergeSort fun x y=>decide (x≤y)).map aV ++ rest)) :=
  HB Zs hl ho
end Go.Proofs.YtbiefppedlodiaaGreatDoor
