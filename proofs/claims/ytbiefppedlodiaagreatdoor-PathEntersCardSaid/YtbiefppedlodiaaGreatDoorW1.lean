/- Contracts of functions, each walked once; each theorem states its conditions. -/
import Derived.Test.YtbiefppedlodiaaGreatDoorProg
import Derived.Test.YtbiefppedlodiaaGreatDoorAMp4
import Derived.Test.YtbiefppedlodiaaGreatDoorAMp6
import Derived.Test.YtbiefppedlodiaaGreatDoorAMp5
import Derived.Test.YtbiefppedlodiaaGreatDoorAMp7
import Derived.Shelf.Spec.SlicesInsertGrow
set_option linter.unusedSimpArgs false
set_option linter.unusedVariables false
open Nat renaming reduceLT → Na, reduceLeDiff → Nb, reduceEqDiff → Nc, reduceAdd → Nk, reduceMul → Nf, reducePow → Ng, reduceSub → Nh, reduceBEq → Nz
open Int renaming reduceLT → Za, reduceLE → Zb, reduceToNat → Zc
open And renaming intro → Ai
open Go.AM renaming ashift → Qa, aconv → Qb, aindexAddr → Qc, aindex → Qd, aslice → Qe, abuiltin → Qf, awp_reg_seq → wS, awp_reg_end → wE, awp_seq_k → wK, awp_cond_k → wC
open Go.AM.AV renaming cells → Qg, one → Qh
set_option maxRecDepth 100000
set_option maxHeartbeats 8000000
namespace Go.Proofs.YtbiefppedlodiaaGreatDoor
open Go Go.AM Go.Proofs Tryz
theorem T.c3 : prog.cellsOf 3 = 1:=by kernel_rfl
theorem T.b3 : prog.bytesOf 3 = 8:=by kernel_rfl
theorem T.g3 : bF prog 3 = some false:=by kernel_rfl
theorem T.z3 : bg prog 3 = some [.v (.int .i64 0)]:=by kernel_rfl
theorem T.c4 : prog.cellsOf 4 = 1:=by kernel_rfl
theorem T.b4 : prog.bytesOf 4 = 1:=by kernel_rfl
theorem T.g4 : bF prog 4 = some false:=by kernel_rfl
theorem T.z4 : bg prog 4 = some [.v (.bool false)]:=by kernel_rfl
theorem T.c5 : prog.cellsOf 5 = 1:=by kernel_rfl
theorem T.b5 : prog.bytesOf 5 = 1:=by kernel_rfl
theorem T.g5 : bF prog 5 = some false:=by kernel_rfl
theorem T.z5 : bg prog 5 = some [.v (.int .u8 0)]:=by kernel_rfl
theorem T.c9 : prog.cellsOf 9 = 1:=by kernel_rfl
theorem T.b9 : prog.bytesOf 9 = 16:=by kernel_rfl
theorem T.g9 : bF prog 9 = some false:=by kernel_rfl
theorem T.z9 : bg prog 9 = some [.v (.string ByteArray.empty)]:=by kernel_rfl
theorem T.Ma : prog.cellsOf 22 = 1:=by kernel_rfl
theorem T.b22 : prog.bytesOf 22 = 24:=by kernel_rfl
theorem T.g22 : bF prog 22 = some false:=by kernel_rfl
theorem T.z22 : bg prog 22 = some [.v (.slice none 0 0)]:=by kernel_rfl
theorem T.s22 : dx prog 22 = true:=by kernel_rfl
theorem T.Dt : prog.cellsOf 23 = 1:=by kernel_rfl
theorem T.b23 : prog.bytesOf 23 = 24:=by kernel_rfl
theorem T.g23 : bF prog 23 = some false:=by kernel_rfl
theorem T.z23 : bg prog 23 = some [.v (.slice none 0 0)]:=by kernel_rfl
theorem T.s23 : dx prog 23 = true:=by kernel_rfl
theorem T.Ex : prog.cellsOf 24 = 1:=by kernel_rfl
theorem T.b24 : prog.bytesOf 24 = 24:=by kernel_rfl
theorem T.g24 : bF prog 24 = some false:=by kernel_rfl
theorem T.z24 : bg prog 24 = some [.v (.slice none 0 0)]:=by kernel_rfl
theorem T.JD : dx prog 24 = true:=by kernel_rfl
theorem T.MU : prog.cellsOf 26 = 6:=by kernel_rfl
theorem T.b26 : prog.bytesOf 26 = 112:=by kernel_rfl
theorem T.SU : bF prog 26 = some true:=by kernel_rfl
theorem T.h26 : eX prog 26 = true:=by kernel_rfl
theorem T.Pg : bL prog 26 0 = some (0,22):=by kernel_rfl
theorem T.Ph : bL prog 26 1 = some (1,3):=by kernel_rfl
theorem T.Pj : bL prog 26 2 = some (2,3):=by kernel_rfl
theorem T.Pk : bL prog 26 3 = some (3,23):=by kernel_rfl
theorem T.Pl : bL prog 26 4 = some (4,23):=by kernel_rfl
theorem T.Pm : bL prog 26 5 = some (5,24):=by kernel_rfl
theorem T.z26 : bg prog 26 = some [.v (.slice none 0 0),.v (.int .i64 0),.v (.int .i64 0),.v (.slice none 0 0),.v (.slice none 0 0),.v (.slice none 0 0)]:=by kernel_rfl
theorem T.Pf : prog.cellsOf 29 = 1:=by kernel_rfl
theorem T.b29 : prog.bytesOf 29 = 8:=by kernel_rfl
theorem T.g29 : bF prog 29 = some false:=by kernel_rfl
theorem T.z29 : bg prog 29 = some [.v (.int .u64 0)]:=by kernel_rfl
theorem T.c30 : prog.cellsOf 30 = 1:=by kernel_rfl
theorem T.b30 : prog.bytesOf 30 = 24:=by kernel_rfl
theorem T.g30 : bF prog 30 = some false:=by kernel_rfl
theorem T.z30 : bg prog 30 = some [.v (.slice none 0 0)]:=by kernel_rfl
theorem T.s30 : dx prog 30 = true:=by kernel_rfl
theorem T.Y4 : prog.cellsOf 32 = 3:=by kernel_rfl
theorem T.b32 : prog.bytesOf 32 = 56:=by kernel_rfl
theorem T.g32 : bF prog 32 = some true:=by kernel_rfl
theorem T.nZ : eX prog 32 = true:=by kernel_rfl
theorem T.Pn : bL prog 32 0 = some (0,29):=by kernel_rfl
theorem T.Po : bL prog 32 1 = some (1,23):=by kernel_rfl
theorem T.Pp : bL prog 32 2 = some (2,30):=by kernel_rfl
theorem T.si : bg prog 32 = some [.v (.int .u64 0),.v (.slice none 0 0),.v (.slice none 0 0)]:=by kernel_rfl
theorem T.c33 : prog.cellsOf 33 = 1:=by kernel_rfl
theorem T.b33 : prog.bytesOf 33 = 24:=by kernel_rfl
theorem T.g33 : bF prog 33 = some false:=by kernel_rfl
theorem T.z33 : bg prog 33 = some [.v (.slice none 0 0)]:=by kernel_rfl
theorem T.s33 : dx prog 33 = true:=by kernel_rfl
theorem T.c34 : prog.cellsOf 34 = 1:=by kernel_rfl
theorem T.b34 : prog.bytesOf 34 = 8:=by kernel_rfl
theorem T.g34 : bF prog 34 = some false:=by kernel_rfl
theorem T.z34 : bg prog 34 = some [.v (.int .i64 0)]:=by kernel_rfl
theorem T.c50 : prog.cellsOf 50 = 1:=by kernel_rfl
theorem T.b50 : prog.bytesOf 50 = 24:=by kernel_rfl
theorem T.g50 : bF prog 50 = some false:=by kernel_rfl
theorem T.z50 : bg prog 50 = some [.v (.slice none 0 0)]:=by kernel_rfl
theorem T.s50 : dx prog 50 = true:=by kernel_rfl
theorem T.c51 : prog.cellsOf 51 = 1:=by kernel_rfl
theorem T.b51 : prog.bytesOf 51 = 24:=by kernel_rfl
theorem T.g51 : bF prog 51 = some false:=by kernel_rfl
theorem T.z51 : bg prog 51 = some [.v (.slice none 0 0)]:=by kernel_rfl
theorem T.s51 : dx prog 51 = true:=by kernel_rfl
theorem T.Fg : prog.cellsOf 54 = 5:=by kernel_rfl
theorem T.Y3 : prog.bytesOf 54 = 88:=by kernel_rfl
theorem T.g54 : bF prog 54 = some true:=by kernel_rfl
theorem T.Gu : eX prog 54 = true:=by kernel_rfl
theorem T.Pq : bL prog 54 0 = some (0,3):=by kernel_rfl
theorem T.Pr : bL prog 54 1 = some (1,23):=by kernel_rfl
theorem T.Ps : bL prog 54 2 = some (2,29):=by kernel_rfl
theorem T.Pt : bL prog 54 3 = some (3,23):=by kernel_rfl
theorem T.Pu : bL prog 54 4 = some (4,24):=by kernel_rfl
theorem T.z54 : bg prog 54 = some [.v (.int .i64 0),.v (.slice none 0 0),.v (.int .u64 0),.v (.slice none 0 0),.v (.slice none 0 0)]:=by kernel_rfl
theorem T.c67 : prog.cellsOf 67 = 2:=by kernel_rfl
theorem T.b67 : prog.bytesOf 67 = 16:=by kernel_rfl
theorem T.Mb : bF prog 67 = some true:=by kernel_rfl
theorem T.h67 : eX prog 67 = true:=by kernel_rfl
theorem T.Pv : bL prog 67 0 = some (0,3):=by kernel_rfl
theorem T.Pw : bL prog 67 1 = some (1,29):=by kernel_rfl
theorem T.z67 : bg prog 67 = some [.v (.int .i64 0),.v (.int .u64 0)]:=by kernel_rfl
theorem T.c74 : prog.cellsOf 74 = 1:=by kernel_rfl
theorem T.b74 : prog.bytesOf 74 = 24:=by kernel_rfl
theorem T.g74 : bF prog 74 = some false:=by kernel_rfl
theorem T.z74 : bg prog 74 = some [.v (.slice none 0 0)]:=by kernel_rfl
theorem T.s74 : dx prog 74 = true:=by kernel_rfl
theorem T.Y5 : prog.cellsOf 76 = 2:=by kernel_rfl
theorem T.b76 : prog.bytesOf 76 = 32:=by kernel_rfl
theorem T.g76 : bF prog 76 = some true:=by kernel_rfl
theorem T.Q3 : eX prog 76 = true:=by kernel_rfl
theorem T.Px : bL prog 76 0 = some (0,29):=by kernel_rfl
theorem T.Py : bL prog 76 1 = some (1,74):=by kernel_rfl
theorem T.z76 : bg prog 76 = some [.v (.int .u64 0),.v (.slice none 0 0)]:=by kernel_rfl
theorem T.c78 : prog.cellsOf 78 = 2:=by kernel_rfl
theorem T.b78 : prog.bytesOf 78 = 32:=by kernel_rfl
theorem T.g78 : bF prog 78 = some true:=by kernel_rfl
theorem T.h78 : eX prog 78 = true:=by kernel_rfl
theorem T.Pz : bL prog 78 0 = some (0,29):=by kernel_rfl
theorem T.PA : bL prog 78 1 = some (1,23):=by kernel_rfl
theorem T.z78 : bg prog 78 = some [.v (.int .u64 0),.v (.slice none 0 0)]:=by kernel_rfl
theorem T.c79 : prog.cellsOf 79 = 1:=by kernel_rfl
theorem T.b79 : prog.bytesOf 79 = 8:=by kernel_rfl
theorem T.g79 : bF prog 79 = some false:=by kernel_rfl
theorem T.z79 : bg prog 79 = some [.v (.pointer none)]:=by kernel_rfl
theorem T.p79 : kB prog 79 = true:=by kernel_rfl
theorem T.c85 : prog.cellsOf 85 = 1:=by kernel_rfl
theorem T.b85 : prog.bytesOf 85 = 8:=by kernel_rfl
theorem T.g85 : bF prog 85 = some false:=by kernel_rfl
theorem T.z85 : bg prog 85 = some [.v (.pointer none)]:=by kernel_rfl
theorem T.p85 : kB prog 85 = true:=by kernel_rfl
theorem T.TY : prog.cellsOf 137 = 2:=by kernel_rfl
theorem T.T1 : prog.bytesOf 137 = 32:=by kernel_rfl
theorem T.T2 : bF prog 137 = some true:=by kernel_rfl
theorem T.T3 : eX prog 137 = true:=by kernel_rfl
theorem T.JE : bL prog 137 0 = some (0,23):=by kernel_rfl
theorem T.JF : bL prog 137 1 = some (1,4):=by kernel_rfl
theorem T.T4 : bg prog 137 = some [.v (.slice none 0 0),.v (.bool false)]:=by kernel_rfl
theorem T.T5 : prog.cellsOf 145 = 2:=by kernel_rfl
theorem T.T6 : prog.bytesOf 145 = 32:=by kernel_rfl
theorem T.T7 : bF prog 145 = some true:=by kernel_rfl
theorem T.T8 : eX prog 145 = true:=by kernel_rfl
theorem T.JG : bL prog 145 0 = some (0,23):=by kernel_rfl
theorem T.JH : bL prog 145 1 = some (1,34):=by kernel_rfl
theorem T.z145 : bg prog 145 = some [.v (.slice none 0 0),.v (.int .i64 0)]:=by kernel_rfl
theorem T.T9 : prog.cellsOf 185 = 1:=by kernel_rfl
theorem T.Ua : prog.bytesOf 185 = 8:=by kernel_rfl
theorem T.Ub : bF prog 185 = some false:=by kernel_rfl
theorem T.Uc : bg prog 185 = some [.v (.int .u64 0)]:=by kernel_rfl
theorem T.Bw : prog.cellsOf 214 = 1:=by kernel_rfl
theorem T.Ud : prog.bytesOf 214 = 4:=by kernel_rfl
theorem T.Ue : bF prog 214 = some false:=by kernel_rfl
theorem T.Q4 : bg prog 214 = some [.v (.int .u32 0)]:=by kernel_rfl
theorem T.Q5 : prog.cellsOf 215 = 8:=by kernel_rfl
theorem T.Uf : prog.bytesOf 215 = 32:=by kernel_rfl
theorem T.Ug : bF prog 215 = some true:=by kernel_rfl
theorem T.Uh : bg prog 215 = some [.v (.int .u32 0),.v (.int .u32 0),.v (.int .u32 0),.v (.int .u32 0),.v (.int .u32 0),.v (.int .u32 0),.v (.int .u32 0),.v (.int .u32 0)]:=by kernel_rfl
theorem T.Ui : prog.cellsOf 227 = 1:=by kernel_rfl
theorem T.Uj : prog.bytesOf 227 = 24:=by kernel_rfl
theorem T.Uk : bF prog 227 = some false:=by kernel_rfl
theorem T.z227 : bg prog 227 = some [.v (.slice none 0 0)]:=by kernel_rfl
theorem T.Ul : dx prog 227 = true:=by kernel_rfl
theorem T.Um : prog.cellsOf 232 = 64:=by kernel_rfl
theorem T.Un : prog.bytesOf 232 = 64:=by kernel_rfl
theorem T.Uo : bF prog 232 = some true:=by kernel_rfl
theorem T.JI : prog.cellsOf 236 = 16:=by kernel_rfl
theorem T.Up : prog.bytesOf 236 = 16:=by kernel_rfl
theorem T.Uq : bF prog 236 = some true:=by kernel_rfl
theorem T.z236 : bg prog 236 = some [.v (.int .u8 0),.v (.int .u8 0),.v (.int .u8 0),.v (.int .u8 0),.v (.int .u8 0),.v (.int .u8 0),.v (.int .u8 0),.v (.int .u8 0),.v (.int .u8 0),.v (.int .u8 0),.v (.int .u8 0),.v (.int .u8 0),.v (.int .u8 0),.v (.int .u8 0),.v (.int .u8 0),.v (.int .u8 0)]:=by kernel_rfl
theorem T.Ur : prog.cellsOf 239 = 1:=by kernel_rfl
theorem T.Us : prog.bytesOf 239 = 8:=by kernel_rfl
theorem T.Ut : bF prog 239 = some false:=by kernel_rfl
theorem T.Uu : bg prog 239 = some [.v (.int .i64 0)]:=by kernel_rfl
theorem T.Q6 : prog.cellsOf 246 = 64:=by kernel_rfl
theorem T.Uv : prog.bytesOf 246 = 256:=by kernel_rfl
theorem T.Uw : bF prog 246 = some true:=by kernel_rfl
theorem T.Q7 : prog.cellsOf 252 = 256:=by kernel_rfl
theorem T.Ux : prog.bytesOf 252 = 256:=by kernel_rfl
theorem T.Uy : bF prog 252 = some true:=by kernel_rfl
theorem T.Q8 : prog.cellsOf 254 = 176:=by kernel_rfl
theorem T.Uz : prog.bytesOf 254 = 176:=by kernel_rfl
theorem T.UA : bF prog 254 = some true:=by kernel_rfl
theorem T.Q9 : prog.cellsOf 264 = 4:=by kernel_rfl
theorem T.UB : prog.bytesOf 264 = 4:=by kernel_rfl
theorem T.UC : bF prog 264 = some true:=by kernel_rfl
theorem T.UD : bg prog 264 = some [.v (.int .u8 0),.v (.int .u8 0),.v (.int .u8 0),.v (.int .u8 0)]:=by kernel_rfl
theorem T.k8 : af prog 8 = true:=by kernel_rfl
theorem T.k9 : af prog 9 = true:=by kernel_rfl
theorem T.Gv : af prog 10 = true:=by kernel_rfl
theorem T.IL : af prog 14 = true:=by kernel_rfl
theorem T.Fh : af prog 15 = true:=by kernel_rfl
theorem T.k16 : af prog 16 = true:=by kernel_rfl
theorem T.SW : af prog 18 = true:=by kernel_rfl
theorem T.k19 : af prog 19 = true:=by kernel_rfl
theorem T.k20 : af prog 20 = true:=by kernel_rfl
theorem T.k21 : af prog 21 = true:=by kernel_rfl
theorem T.k24 : af prog 24 = true:=by kernel_rfl
theorem T.k25 : af prog 25 = true:=by kernel_rfl
theorem T.k27 : af prog 27 = true:=by kernel_rfl
theorem T.k29 : af prog 29 = true:=by kernel_rfl
theorem T.Y6 : af prog 30 = true:=by kernel_rfl
theorem T.k31 : af prog 31 = true:=by kernel_rfl
theorem T.k33 : af prog 33 = true:=by kernel_rfl
theorem T.k35 : af prog 35 = true:=by kernel_rfl
theorem T.k40 : af prog 40 = true:=by kernel_rfl
theorem T.k41 : af prog 41 = true:=by kernel_rfl
theorem T.k42 : af prog 42 = true:=by kernel_rfl
theorem T.k43 : af prog 43 = true:=by kernel_rfl
theorem T.k44 : af prog 44 = true:=by kernel_rfl
theorem T.k45 : af prog 45 = true:=by kernel_rfl
theorem T.k46 : af prog 46 = true:=by kernel_rfl
theorem T.k47 : af prog 47 = true:=by kernel_rfl
theorem T.k48 : af prog 48 = true:=by kernel_rfl
theorem T.k49 : af prog 49 = true:=by kernel_rfl
theorem T.k50 : af prog 50 = true:=by kernel_rfl
theorem T.k51 : af prog 51 = true:=by kernel_rfl
theorem T.k52 : af prog 52 = true:=by kernel_rfl
theorem T.k53 : af prog 53 = true:=by kernel_rfl
theorem T.k54 : af prog 54 = true:=by kernel_rfl
theorem T.k55 : af prog 55 = true:=by kernel_rfl
theorem T.k57 : af prog 57 = true:=by kernel_rfl
theorem T.k60 : af prog 60 = true:=by kernel_rfl
theorem T.k61 : af prog 61 = true:=by kernel_rfl
theorem T.k62 : af prog 62 = true:=by kernel_rfl
theorem T.k63 : af prog 63 = true:=by kernel_rfl
theorem T.k64 : af prog 64 = true:=by kernel_rfl
theorem T.k65 : af prog 65 = true:=by kernel_rfl
theorem T.k66 : af prog 66 = true:=by kernel_rfl
theorem T.k67 : af prog 67 = true:=by kernel_rfl
theorem T.k68 : af prog 68 = true:=by kernel_rfl
theorem T.k70 : af prog 70 = true:=by kernel_rfl
theorem T.k71 : af prog 71 = true:=by kernel_rfl
theorem T.k73 : af prog 73 = true:=by kernel_rfl
theorem T.k74 : af prog 74 = true:=by kernel_rfl
theorem T.k76 : af prog 76 = true:=by kernel_rfl
theorem T.k77 : af prog 77 = true:=by kernel_rfl
theorem T.k79 : af prog 79 = true:=by kernel_rfl
theorem T.k81 : af prog 81 = true:=by kernel_rfl
theorem T.k82 : af prog 82 = true:=by kernel_rfl
theorem T.k84 : af prog 84 = true:=by kernel_rfl
theorem T.k85 : af prog 85 = true:=by kernel_rfl
theorem T.k86 : af prog 86 = true:=by kernel_rfl
theorem T.k87 : af prog 87 = true:=by kernel_rfl
theorem T.k88 : af prog 88 = true:=by kernel_rfl
theorem T.k90 : af prog 90 = true:=by kernel_rfl
theorem T.k91 : af prog 91 = true:=by kernel_rfl
theorem T.k92 : af prog 92 = true:=by kernel_rfl
theorem T.k94 : af prog 94 = true:=by kernel_rfl
theorem T.UE : af prog 101 = true:=by kernel_rfl
theorem T.M0 : af prog 102 = true:=by kernel_rfl
theorem T.UF : af prog 103 = true:=by kernel_rfl
theorem T.UG : af prog 104 = true:=by kernel_rfl
theorem T.M3 : af prog 105 = true:=by kernel_rfl
theorem T.UH : af prog 106 = true:=by kernel_rfl
theorem T.M4 : af prog 107 = true:=by kernel_rfl
theorem T.UI : af prog 108 = true:=by kernel_rfl
theorem T.UJ : af prog 109 = true:=by kernel_rfl
theorem T.UK : af prog 110 = true:=by kernel_rfl
theorem T.UL : af prog 111 = true:=by kernel_rfl
theorem T.UM : af prog 112 = true:=by kernel_rfl
theorem T.UN : af prog 113 = true:=by kernel_rfl
theorem T.UO : af prog 114 = true:=by kernel_rfl
theorem T.UQ : af prog 115 = true:=by kernel_rfl
theorem T.UR : af prog 116 = true:=by kernel_rfl
theorem T.US : af prog 117 = true:=by kernel_rfl
theorem T.UT : af prog 123 = true:=by kernel_rfl
theorem T.UU : af prog 124 = true:=by kernel_rfl
theorem T.UW : af prog 125 = true:=by kernel_rfl
theorem T.UX : af prog 126 = true:=by kernel_rfl
theorem T.UY : af prog 128 = true:=by kernel_rfl
theorem T.UZ : af prog 129 = true:=by kernel_rfl
theorem T.U0 : af prog 130 = true:=by kernel_rfl
theorem T.U1 : af prog 132 = true:=by kernel_rfl
theorem T.U3 : af prog 133 = true:=by kernel_rfl
theorem T.U4 : af prog 134 = true:=by kernel_rfl
theorem T.U5 : af prog 135 = true:=by kernel_rfl
theorem T.U6 : af prog 136 = true:=by kernel_rfl
theorem T.U7 : af prog 137 = true:=by kernel_rfl
theorem T.U8 : af prog 141 = true:=by kernel_rfl
theorem T.U9 : af prog 142 = true:=by kernel_rfl
theorem T.Va : af prog 143 = true:=by kernel_rfl
theorem T.Vb : af prog 144 = true:=by kernel_rfl
theorem T.Vc : af prog 145 = true:=by kernel_rfl
theorem T.Vd : af prog 146 = true:=by kernel_rfl
theorem T.Ve : af prog 147 = true:=by kernel_rfl
theorem T.Vf : af prog 148 = true:=by kernel_rfl
theorem T.Vg : af prog 149 = true:=by kernel_rfl
theorem T.Vh : af prog 150 = true:=by kernel_rfl
theorem T.Vi : af prog 151 = true:=by kernel_rfl
theorem T.Vj : af prog 152 = true:=by kernel_rfl
theorem T.Vk : af prog 153 = true:=by kernel_rfl
theorem T.Vl : af prog 154 = true:=by kernel_rfl
theorem T.Vm : af prog 155 = true:=by kernel_rfl
theorem T.Vn : af prog 156 = true:=by kernel_rfl
theorem T.Vo : af prog 158 = true:=by kernel_rfl
theorem T.Vp : af prog 159 = true:=by kernel_rfl
theorem T.Vq : af prog 161 = true:=by kernel_rfl
theorem T.Vr : af prog 162 = true:=by kernel_rfl
theorem T.Vs : af prog 164 = true:=by kernel_rfl
theorem T.Vt : af prog 165 = true:=by kernel_rfl
theorem T.Vu : af prog 166 = true:=by kernel_rfl
theorem T.Vv : af prog 170 = true:=by kernel_rfl
theorem T.Vw : af prog 173 = true:=by kernel_rfl
theorem T.Vx : af prog 174 = true:=by kernel_rfl
theorem T.Vy : af prog 175 = true:=by kernel_rfl
theorem T.Vz : af prog 176 = true:=by kernel_rfl
theorem T.VA : af prog 179 = true:=by kernel_rfl
theorem T.VB : af prog 180 = true:=by kernel_rfl
theorem T.VC : af prog 181 = true:=by kernel_rfl
theorem T.VD : af prog 182 = true:=by kernel_rfl
theorem T.VE : af prog 183 = true:=by kernel_rfl
theorem T.VF : af prog 184 = true:=by kernel_rfl
theorem T.VG : af prog 185 = true:=by kernel_rfl
theorem T.VH : af prog 186 = true:=by kernel_rfl
theorem T.VI : af prog 187 = true:=by kernel_rfl
theorem T.VJ : af prog 188 = true:=by kernel_rfl
theorem T.VK : af prog 189 = true:=by kernel_rfl
theorem T.VL : af prog 190 = true:=by kernel_rfl
theorem T.VM : af prog 191 = true:=by kernel_rfl
theorem T.VN : af prog 192 = true:=by kernel_rfl
theorem T.VO : af prog 193 = true:=by kernel_rfl
theorem T.VP : af prog 194 = true:=by kernel_rfl
theorem T.VQ : af prog 195 = true:=by kernel_rfl
theorem T.VR : af prog 196 = true:=by kernel_rfl
theorem T.VS : af prog 197 = true:=by kernel_rfl
theorem T.VT : af prog 198 = true:=by kernel_rfl
theorem T.VU : af prog 199 = true:=by kernel_rfl
theorem T.VV : af prog 200 = true:=by kernel_rfl
theorem T.VW : af prog 201 = true:=by kernel_rfl
theorem T.VX : af prog 202 = true:=by kernel_rfl
theorem T.VY : af prog 203 = true:=by kernel_rfl
theorem T.VZ : af prog 208 = true:=by kernel_rfl
theorem T.V0 : af prog 209 = true:=by kernel_rfl
theorem T.V1 : af prog 210 = true:=by kernel_rfl
theorem T.V2 : af prog 212 = true:=by kernel_rfl
theorem T.V3 : af prog 213 = true:=by kernel_rfl
theorem T.V4 : af prog 214 = true:=by kernel_rfl
theorem T.V5 : af prog 215 = true:=by kernel_rfl
theorem T.V6 : af prog 216 = true:=by kernel_rfl
theorem T.V7 : af prog 217 = true:=by kernel_rfl
theorem T.V8 : af prog 218 = true:=by kernel_rfl
theorem T.V9 : af prog 219 = true:=by kernel_rfl
theorem T.Wb : af prog 220 = true:=by kernel_rfl
theorem T.Wc : af prog 221 = true:=by kernel_rfl
theorem T.Wd : af prog 222 = true:=by kernel_rfl
theorem T.We : af prog 223 = true:=by kernel_rfl
theorem T.Wf : af prog 224 = true:=by kernel_rfl
theorem T.Wg : af prog 225 = true:=by kernel_rfl
theorem T.Wh : af prog 226 = true:=by kernel_rfl
theorem T.Wi : af prog 227 = true:=by kernel_rfl
theorem T.Wj : af prog 228 = true:=by kernel_rfl
theorem T.Wk : af prog 229 = true:=by kernel_rfl
theorem T.Wl : af prog 230 = true:=by kernel_rfl
theorem T.Wm : af prog 231 = true:=by kernel_rfl
theorem T.Wn : af prog 233 = true:=by kernel_rfl
theorem T.Wo : af prog 234 = true:=by kernel_rfl
theorem T.Wp : af prog 236 = true:=by kernel_rfl
theorem T.Wq : af prog 239 = true:=by kernel_rfl
theorem T.Wr : af prog 240 = true:=by kernel_rfl
theorem T.Ws : af prog 241 = true:=by kernel_rfl
theorem T.Wt : af prog 242 = true:=by kernel_rfl
theorem T.Wu : af prog 249 = true:=by kernel_rfl
theorem T.Wv : af prog 250 = true:=by kernel_rfl
theorem T.Ww : af prog 251 = true:=by kernel_rfl
theorem T.Wx : af prog 252 = true:=by kernel_rfl
theorem T.Wy : af prog 253 = true:=by kernel_rfl
theorem T.Wz : af prog 255 = true:=by kernel_rfl
theorem T.WA : af prog 256 = true:=by kernel_rfl
theorem T.WB : af prog 257 = true:=by kernel_rfl
theorem T.mixed : prog.follows .mixedOrders = true:=by kernel_rfl
end Go.Proofs.YtbiefppedlodiaaGreatDoor
set_option maxRecDepth 100000
namespace Go.Proofs.YtbiefppedlodiaaGreatDoor
open Go Go.AM Go.Proofs Tryz
open And renaming intro→Ai
theorem TT : type_of% (Ai (Ai UP DF) (Ai (Ai (Ai (Ai (Ai (Ai (Ai (Ai (Ai @underlying3 T.c3) (Ai T.g3 T.b3)) (Ai (Ai T.z3 ntmps173) (Ai @underlying5 (Ai T.c5 T.g5)))) (Ai (Ai (Ai T.b5 T.z5) (Ai @underlying29 T.Pf)) (Ai (Ai T.g29 T.b29) (Ai T.z29 (Ai @underlying232 T.Um))))) (Ai (Ai (Ai (Ai T.Uo T.Un) (Ai ntmps215 @underlying185)) (Ai (Ai T.T9 T.Ub) (Ai T.Ua (Ai T.Uc @underlying214)))) (Ai (Ai (Ai T.Bw T.Ue) (Ai T.Ud T.Q4)) (Ai (Ai T.V5 T.V4) (Ai ntmps184 (Ai @underlying4 T.c4)))))) (Ai (Ai (Ai (Ai (Ai T.g4 T.b4) (Ai T.z4 T.VF)) (Ai (Ai T.Vw ntmps152) (Ai T.Vj (Ai ntmps183 T.VE)))) (Ai (Ai (Ai ntmps151 ntmps150) (Ai ntmps128 ntmps148)) (Ai (Ai T.Vf ntmps149) (Ai T.Vg (Ai ntmps106 @underlying24))))) (Ai (Ai (Ai (Ai T.Ex T.g24) (Ai T.b24 T.z24)) (Ai (Ai T.JD T.UH) (Ai ntmps47 (Ai ntmps115 ntmps125)))) (Ai (Ai (Ai T.UW ntmps76) (Ai ntmps116 (Ai T.UR T.UQ))) (Ai (Ai ntmps54 T.k76) (Ai ntmps65 (Ai ntmps112 ntmps110))))))) (Ai (Ai (Ai (Ai (Ai (Ai ntmps160 ntmps157) (Ai ntmps192 T.VN)) (Ai (Ai ntmps158 @underlying9) (Ai T.c9 (Ai T.g9 T.b9)))) (Ai (Ai (Ai T.z9 ntmps230) (Ai T.Wk T.Wl)) (Ai (Ai ntmps194 T.Wh) (Ai ntmps220 (Ai @underlying239 T.Ur))))) (Ai (Ai (Ai (Ai T.Ut T.Us) (Ai T.Uu T.Wi)) (Ai (Ai T.Wc T.Wb) (Ai T.Wd (Ai T.Wg T.Wj)))) (Ai (Ai (Ai T.Wf T.VO) (Ai T.We ntmps193)) (Ai (Ai T.VP ntmps159) (Ai T.Vo (Ai T.Vp ntmps111)))))) (Ai (Ai (Ai (Ai (Ai T.Vh T.Vi) (Ai ntmps105 @underlying23)) (Ai (Ai T.Dt T.g23) (Ai T.b23 (Ai T.z23 T.s23)))) (Ai (Ai (Ai ntmps90 @underlying137) (Ai T.TY T.T2)) (Ai (Ai T.T1 T.T4) (Ai T.T3 (Ai T.JE T.JF))))) (Ai (Ai (Ai (Ai ntmps133 ntmps31) (Ai @underlying79 T.c79)) (Ai (Ai T.g79 T.b79) (Ai T.z79 (Ai T.p79 T.U3)))) (Ai (Ai (Ai ntmps135 T.U5) (Ai ntmps88 (Ai ntmps145 ntmps219))) (Ai (Ai ntmps86 ntmps175) (Ai T.Vy (Ai ntmps134 T.U4)))))))) (Ai (Ai (Ai (Ai (Ai (Ai (Ai ntmps87 ntmps136) (Ai T.k90 ntmps33)) (Ai (Ai @underlying34 T.c34) (Ai T.g34 (Ai T.b34 T.z34)))) (Ai (Ai (Ai @underlying145 T.T5) (Ai T.T7 T.T6)) (Ai (Ai T.z145 T.T8) (Ai T.JG (Ai T.JH ntmps35))))) (Ai (Ai (Ai (Ai ntmps176 @underlying85) (Ai T.c85 T.g85)) (Ai (Ai T.b85 T.z85) (Ai T.p85 (Ai T.Vz ntmps137)))) (Ai (Ai (Ai T.U7 ntmps217) (Ai ntmps94 ntmps91)) (Ai (Ai T.k91 ntmps92) (Ai ntmps67 (Ai ntmps44 ntmps53)))))) (Ai (Ai (Ai (Ai (Ai ntmps62 ntmps231) (Ai ntmps123 @underlying54)) (Ai (Ai T.Fg T.g54) (Ai T.Y3 (Ai T.z54 T.Gu)))) (Ai (Ai (Ai T.Pq T.Pr) (Ai T.Ps T.Pt)) (Ai (Ai T.Pu T.k62) (Ai T.Wm (Ai ntmps195 T.UT))))) (Ai (Ai (Ai (Ai ntmps60 ntmps197) (Ai T.k44 ntmps196)) (Ai (Ai T.VS T.VQ) (Ai T.VR (Ai ntmps161 T.k53)))) (Ai (Ai (Ai T.k60 ntmps63) (Ai T.k86 (Ai T.k88 T.Vq))) (Ai (Ai T.k87 ntmps236) (Ai @underlying22 (Ai T.Ma T.g22))))))) (Ai (Ai (Ai (Ai (Ai (Ai T.b22 T.z22) (Ai T.s22 ntmps104)) (Ai (Ai T.UG ntmps142) (Ai T.U9 (Ai ntmps144 ntmps143)))) (Ai (Ai (Ai ntmps71 T.k71) (Ai ntmps179 ntmps178)) (Ai (Ai T.VA T.UY) (Ai ntmps141 (Ai T.Vb T.U8))))) (Ai (Ai (Ai (Ai T.Va ntmps101) (Ai ntmps20 ntmps21)) (Ai (Ai T.k21 ntmps66) (Ai ntmps64 (Ai T.k65 T.k64)))) (Ai (Ai (Ai T.k20 T.k66) (Ai T.k63 ntmps16)) (Ai (Ai ntmps51 T.UE) (Ai ntmps45 (Ai ntmps73 ntmps84)))))) (Ai (Ai (Ai (Ai (Ai ntmps70 T.k70) (Ai ntmps40 T.k16)) (Ai (Ai ntmps52 T.M3) (Ai T.k47 (Ai ntmps46 ntmps250)))) (Ai (Ai (Ai T.Wv ntmps234) (Ai ntmps249 ntmps210)) (Ai (Ai @underlying227 T.Ui) (Ai T.Uk (Ai T.Uj T.z227))))) (Ai (Ai (Ai (Ai T.Ul ntmps208) (Ai @underlying246 T.Q6)) (Ai (Ai T.Uw T.Uv) (Ai T.Wu (Ai ntmps233 @underlying215)))) (Ai (Ai (Ai T.Q5 T.Ug) (Ai T.Uf (Ai T.Uh T.Wn))) (Ai (Ai T.Wo ntmps200) (Ai ntmps216 (Ai @underlying50 T.c50))))))))) (Ai (Ai (Ai (Ai (Ai (Ai (Ai (Ai T.g50 T.b50) (Ai T.z50 T.s50)) (Ai (Ai T.V6 ntmps186) (Ai ntmps199 (Ai ntmps232 ntmps198)))) (Ai (Ai (Ai T.VV T.VH) (Ai T.VT T.VU)) (Ai (Ai ntmps164 ntmps209) (Ai T.V1 (Ai T.V0 T.VZ))))) (Ai (Ai (Ai (Ai ntmps170 T.V9) (Ai T.Wp ntmps235)) (Ai (Ai ntmps237 ntmps163) (Ai T.k31 (Ai T.k33 ntmps162)))) (Ai (Ai (Ai T.Vr T.Vs) (Ai ntmps201 ntmps202)) (Ai (Ai ntmps113 T.Vt) (Ai T.VX (Ai T.VW ntmps165)))))) (Ai (Ai (Ai (Ai (Ai ntmps114 ntmps129) (Ai T.UZ ntmps77)) (Ai (Ai T.k77 T.UU) (Ai ntmps124 (Ai ntmps61 ntmps191)))) (Ai (Ai (Ai T.VM T.k51) (Ai ntmps156 T.Vn)) (Ai (Ai ntmps109 @underlying51) (Ai T.c51 (Ai T.g51 T.b51))))) (Ai (Ai (Ai (Ai T.z51 T.s51) (Ai T.k46 T.UM)) (Ai (Ai T.k73 T.k45) (Ai T.UL (Ai T.UO T.UN)))) (Ai (Ai (Ai T.UK T.UJ) (Ai ntmps50 (Ai @underlying30 T.c30))) (Ai (Ai T.g30 T.b30) (Ai T.z30 (Ai T.s30 @underlying32))))))) (Ai (Ai (Ai (Ai (Ai (Ai T.Y4 T.g32) (Ai T.b32 T.si)) (Ai (Ai T.nZ @underlying74) (Ai T.c74 (Ai T.g74 T.b74)))) (Ai (Ai (Ai T.z74 T.s74) (Ai @underlying76 T.Y5)) (Ai (Ai T.g76 T.b76) (Ai T.z76 (Ai T.Q3 @underlying78))))) (Ai (Ai (Ai (Ai T.c78 T.g78) (Ai T.b78 T.z78)) (Ai (Ai T.h78 T.Pn) (Ai T.Po (Ai T.Pp T.Px)))) (Ai (Ai (Ai T.Py T.k50) (Ai T.k61 T.k40)) (Ai (Ai ntmps15 ntmps213) (Ai T.V3 (Ai ntmps180 ntmps203)))))) (Ai (Ai (Ai (Ai (Ai T.VY T.Vv) (Ai ntmps166 ntmps212)) (Ai (Ai T.VB ntmps185) (Ai ntmps146 (Ai T.Vu ntmps117)))) (Ai (Ai (Ai T.Vd T.Vc) (Ai T.U6 ntmps102)) (Ai (Ai T.k92 T.US) (Ai ntmps57 (Ai T.M0 ntmps42))))) (Ai (Ai (Ai (Ai T.k57 ntmps29) (Ai ntmps252 T.Wx)) (Ai (Ai ntmps257 T.WB) (Ai ntmps255 (Ai ntmps256 T.Wz)))) (Ai (Ai (Ai T.WA ntmps251) (Ai @underlying252 (Ai T.Q7 T.Uy))) (Ai (Ai T.Ux T.Ww) (Ai ntmps239 (Ai @underlying236 T.JI)))))))) (Ai (Ai (Ai (Ai (Ai (Ai (Ai T.Uq T.Up) (Ai T.z236 ntmps241)) (Ai (Ai @underlying264 T.Q9) (Ai T.UC (Ai T.UB T.UD)))) (Ai (Ai (Ai ntmps253 T.Wy) (Ai ntmps242 @underlying254)) (Ai (Ai T.Q8 T.UA) (Ai T.Uz (Ai ntmps240 T.Wr))))) (Ai (Ai (Ai (Ai T.Wq T.Wt) (Ai T.Ws ntmps218)) (Ai (Ai T.V8 T.V7) (Ai T.k35 (Ai ntmps189 ntmps188)))) (Ai (Ai (Ai ntmps190 T.VK) (Ai T.VL T.VJ)) (Ai (Ai ntmps155 T.V2) (Ai ntmps174 (Ai ntmps182 ntmps181)))))) (Ai (Ai (Ai (Ai (Ai T.VC T.VD) (Ai ntmps147 T.Ve)) (Ai (Ai ntmps103 ntmps126) (Ai T.UX (Ai ntmps68 ntmps187)))) (Ai (Ai (Ai T.k94 ntmps41) (Ai T.k67 ntmps18)) (Ai (Ai T.UF ntmps43) (Ai T.k68 (Ai ntmps19 T.VI))))) (Ai (Ai (Ai (Ai ntmps154 T.VG) (Ai ntmps153 T.Pz)) (Ai (Ai T.PA T.Vk) (Ai T.Vl (Ai T.k41 T.Vm)))) (Ai (Ai (Ai T.k43 ntmps107) (Ai T.Vx (Ai ntmps132 T.k42))) (Ai (Ai ntmps49 T.SW) (Ai T.k29 (Ai ntmps55 ntmps25))))))) (Ai (Ai (Ai (Ai (Ai (Ai @underlying33 T.c33) (Ai T.g33 T.b33)) (Ai (Ai T.z33 T.s33) (Ai @underlying67 (Ai T.c67 T.Mb)))) (Ai (Ai (Ai T.b67 T.z67) (Ai T.h67 ntmps130)) (Ai (Ai T.U0 ntmps81) (Ai ntmps82 (Ai T.Pv ntmps131))))) (Ai (Ai (Ai (Ai ntmps83 ntmps78) (Ai ntmps72 ntmps80)) (Ai (Ai ntmps75 ntmps108) (Ai T.Pw (Ai T.k49 ntmps74)))) (Ai (Ai (Ai T.U1 ntmps79) (Ai T.k74 ntmps24)) (Ai (Ai T.k55 T.k19) (Ai ntmps85 (Ai T.k84 T.k85)))))) (Ai (Ai (Ai (Ai (Ai T.k54 T.k52) (Ai ntmps30 T.k81)) (Ai (Ai T.k82 T.k79) (Ai T.Fh (Ai ntmps27 T.k25)))) (Ai (Ai (Ai T.UI T.M4) (Ai ntmps48 T.k48)) (Ai (Ai ntmps10 T.k27) (Ai T.Gv (Ai ntmps8 @underlying26))))) (Ai (Ai (Ai (Ai T.MU T.SU) (Ai T.b26 T.z26)) (Ai (Ai T.h26 T.Pg) (Ai T.Pk (Ai T.Pl T.Pm)))) (Ai (Ai (Ai ntmps9 ntmps14) (Ai T.Ph (Ai T.Pj T.Y6))) (Ai (Ai T.k24 T.IL) (Ai T.k8 (Ai T.k9 ntmps6))))))))))) :=
  (Ai (Ai UP DF) (Ai (Ai (Ai (Ai (Ai (Ai (Ai (Ai (Ai @underlying3 T.c3) (Ai T.g3 T.b3)) (Ai (Ai T.z3 ntmps173) (Ai @underlying5 (Ai T.c5 T.g5)))) (Ai (Ai (Ai T.b5 T.z5) (Ai @underlying29 T.Pf)) (Ai (Ai T.g29 T.b29) (Ai T.z29 (Ai @underlying232 T.Um))))) (Ai (Ai (Ai (Ai T.Uo T.Un) (Ai ntmps215 @underlying185)) (Ai (Ai T.T9 T.Ub) (Ai T.Ua (Ai T.Uc @underlying214)))) (Ai (Ai (Ai T.Bw T.Ue) (Ai T.Ud T.Q4)) (Ai (Ai T.V5 T.V4) (Ai ntmps184 (Ai @underlying4 T.c4)))))) (Ai (Ai (Ai (Ai (Ai T.g4 T.b4) (Ai T.z4 T.VF)) (Ai (Ai T.Vw ntmps152) (Ai T.Vj (Ai ntmps183 T.VE)))) (Ai (Ai (Ai ntmps151 ntmps150) (Ai ntmps128 ntmps148)) (Ai (Ai T.Vf ntmps149) (Ai T.Vg (Ai ntmps106 @underlying24))))) (Ai (Ai (Ai (Ai T.Ex T.g24) (Ai T.b24 T.z24)) (Ai (Ai T.JD T.UH) (Ai ntmps47 (Ai ntmps115 ntmps125)))) (Ai (Ai (Ai T.UW ntmps76) (Ai ntmps116 (Ai T.UR T.UQ))) (Ai (Ai ntmps54 T.k76) (Ai ntmps65 (Ai ntmps112 ntmps110))))))) (Ai (Ai (Ai (Ai (Ai (Ai ntmps160 ntmps157) (Ai ntmps192 T.VN)) (Ai (Ai ntmps158 @underlying9) (Ai T.c9 (Ai T.g9 T.b9)))) (Ai (Ai (Ai T.z9 ntmps230) (Ai T.Wk T.Wl)) (Ai (Ai ntmps194 T.Wh) (Ai ntmps220 (Ai @underlying239 T.Ur))))) (Ai (Ai (Ai (Ai T.Ut T.Us) (Ai T.Uu T.Wi)) (Ai (Ai T.Wc T.Wb) (Ai T.Wd (Ai T.Wg T.Wj)))) (Ai (Ai (Ai T.Wf T.VO) (Ai T.We ntmps193)) (Ai (Ai T.VP ntmps159) (Ai T.Vo (Ai T.Vp ntmps111)))))) (Ai (Ai (Ai (Ai (Ai T.Vh T.Vi) (Ai ntmps105 @underlying23)) (Ai (Ai T.Dt T.g23) (Ai T.b23 (Ai T.z23 T.s23)))) (Ai (Ai (Ai ntmps90 @underlying137) (Ai T.TY T.T2)) (Ai (Ai T.T1 T.T4) (Ai T.T3 (Ai T.JE T.JF))))) (Ai (Ai (Ai (Ai ntmps133 ntmps31) (Ai @underlying79 T.c79)) (Ai (Ai T.g79 T.b79) (Ai T.z79 (Ai T.p79 T.U3)))) (Ai (Ai (Ai ntmps135 T.U5) (Ai ntmps88 (Ai ntmps145 ntmps219))) (Ai (Ai ntmps86 ntmps175) (Ai T.Vy (Ai ntmps134 T.U4)))))))) (Ai (Ai (Ai (Ai (Ai (Ai (Ai ntmps87 ntmps136) (Ai T.k90 ntmps33)) (Ai (Ai @underlying34 T.c34) (Ai T.g34 (Ai T.b34 T.z34)))) (Ai (Ai (Ai @underlying145 T.T5) (Ai T.T7 T.T6)) (Ai (Ai T.z145 T.T8) (Ai T.JG (Ai T.JH ntmps35))))) (Ai (Ai (Ai (Ai ntmps176 @underlying85) (Ai T.c85 T.g85)) (Ai (Ai T.b85 T.z85) (Ai T.p85 (Ai T.Vz ntmps137)))) (Ai (Ai (Ai T.U7 ntmps217) (Ai ntmps94 ntmps91)) (Ai (Ai T.k91 ntmps92) (Ai ntmps67 (Ai ntmps44 ntmps53)))))) (Ai (Ai (Ai (Ai (Ai ntmps62 ntmps231) (Ai ntmps123 @underlying54)) (Ai (Ai T.Fg T.g54) (Ai T.Y3 (Ai T.z54 T.Gu)))) (Ai (Ai (Ai T.Pq T.Pr) (Ai T.Ps T.Pt)) (Ai (Ai T.Pu T.k62) (Ai T.Wm (Ai ntmps195 T.UT))))) (Ai (Ai (Ai (Ai ntmps60 ntmps197) (Ai T.k44 ntmps196)) (Ai (Ai T.VS T.VQ) (Ai T.VR (Ai ntmps161 T.k53)))) (Ai (Ai (Ai T.k60 ntmps63) (Ai T.k86 (Ai T.k88 T.Vq))) (Ai (Ai T.k87 ntmps236) (Ai @underlying22 (Ai T.Ma T.g22))))))) (Ai (Ai (Ai (Ai (Ai (Ai T.b22 T.z22) (Ai T.s22 ntmps104)) (Ai (Ai T.UG ntmps142) (Ai T.U9 (Ai ntmps144 ntmps143)))) (Ai (Ai (Ai ntmps71 T.k71) (Ai ntmps179 ntmps178)) (Ai (Ai T.VA T.UY) (Ai ntmps141 (Ai T.Vb T.U8))))) (Ai (Ai (Ai (Ai T.Va ntmps101) (Ai ntmps20 ntmps21)) (Ai (Ai T.k21 ntmps66) (Ai ntmps64 (Ai T.k65 T.k64)))) (Ai (Ai (Ai T.k20 T.k66) (Ai T.k63 ntmps16)) (Ai (Ai ntmps51 T.UE) (Ai ntmps45 (Ai ntmps73 ntmps84)))))) (Ai (Ai (Ai (Ai (Ai ntmps70 T.k70) (Ai ntmps40 T.k16)) (Ai (Ai ntmps52 T.M3) (Ai T.k47 (Ai ntmps46 ntmps250)))) (Ai (Ai (Ai T.Wv ntmps234) (Ai ntmps249 ntmps210)) (Ai (Ai @underlying227 T.Ui) (Ai T.Uk (Ai T.Uj T.z227))))) (Ai (Ai (Ai (Ai T.Ul ntmps208) (Ai @underlying246 T.Q6)) (Ai (Ai T.Uw T.Uv) (Ai T.Wu (Ai ntmps233 @underlying215)))) (Ai (Ai (Ai T.Q5 T.Ug) (Ai T.Uf (Ai T.Uh T.Wn))) (Ai (Ai T.Wo ntmps200) (Ai ntmps216 (Ai @underlying50 T.c50))))))))) (Ai (Ai (Ai (Ai (Ai (Ai (Ai (Ai T.g50 T.b50) (Ai T.z50 T.s50)) (Ai (Ai T.V6 ntmps186) (Ai ntmps199 (Ai ntmps232 ntmps198)))) (Ai (Ai (Ai T.VV T.VH) (Ai T.VT T.VU)) (Ai (Ai ntmps164 ntmps209) (Ai T.V1 (Ai T.V0 T.VZ))))) (Ai (Ai (Ai (Ai ntmps170 T.V9) (Ai T.Wp ntmps235)) (Ai (Ai ntmps237 ntmps163) (Ai T.k31 (Ai T.k33 ntmps162)))) (Ai (Ai (Ai T.Vr T.Vs) (Ai ntmps201 ntmps202)) (Ai (Ai ntmps113 T.Vt) (Ai T.VX (Ai T.VW ntmps165)))))) (Ai (Ai (Ai (Ai (Ai ntmps114 ntmps129) (Ai T.UZ ntmps77)) (Ai (Ai T.k77 T.UU) (Ai ntmps124 (Ai ntmps61 ntmps191)))) (Ai (Ai (Ai T.VM T.k51) (Ai ntmps156 T.Vn)) (Ai (Ai ntmps109 @underlying51) (Ai T.c51 (Ai T.g51 T.b51))))) (Ai (Ai (Ai (Ai T.z51 T.s51) (Ai T.k46 T.UM)) (Ai (Ai T.k73 T.k45) (Ai T.UL (Ai T.UO T.UN)))) (Ai (Ai (Ai T.UK T.UJ) (Ai ntmps50 (Ai @underlying30 T.c30))) (Ai (Ai T.g30 T.b30) (Ai T.z30 (Ai T.s30 @underlying32))))))) (Ai (Ai (Ai (Ai (Ai (Ai T.Y4 T.g32) (Ai T.b32 T.si)) (Ai (Ai T.nZ @underlying74) (Ai T.c74 (Ai T.g74 T.b74)))) (Ai (Ai (Ai T.z74 T.s74) (Ai @underlying76 T.Y5)) (Ai (Ai T.g76 T.b76) (Ai T.z76 (Ai T.Q3 @underlying78))))) (Ai (Ai (Ai (Ai T.c78 T.g78) (Ai T.b78 T.z78)) (Ai (Ai T.h78 T.Pn) (Ai T.Po (Ai T.Pp T.Px)))) (Ai (Ai (Ai T.Py T.k50) (Ai T.k61 T.k40)) (Ai (Ai ntmps15 ntmps213) (Ai T.V3 (Ai ntmps180 ntmps203)))))) (Ai (Ai (Ai (Ai (Ai T.VY T.Vv) (Ai ntmps166 ntmps212)) (Ai (Ai T.VB ntmps185) (Ai ntmps146 (Ai T.Vu ntmps117)))) (Ai (Ai (Ai T.Vd T.Vc) (Ai T.U6 ntmps102)) (Ai (Ai T.k92 T.US) (Ai ntmps57 (Ai T.M0 ntmps42))))) (Ai (Ai (Ai (Ai T.k57 ntmps29) (Ai ntmps252 T.Wx)) (Ai (Ai ntmps257 T.WB) (Ai ntmps255 (Ai ntmps256 T.Wz)))) (Ai (Ai (Ai T.WA ntmps251) (Ai @underlying252 (Ai T.Q7 T.Uy))) (Ai (Ai T.Ux T.Ww) (Ai ntmps239 (Ai @underlying236 T.JI)))))))) (Ai (Ai (Ai (Ai (Ai (Ai (Ai T.Uq T.Up) (Ai T.z236 ntmps241)) (Ai (Ai @underlying264 T.Q9) (Ai T.UC (Ai T.UB T.UD)))) (Ai (Ai (Ai ntmps253 T.Wy) (Ai ntmps242 @underlying254)) (Ai (Ai T.Q8 T.UA) (Ai T.Uz (Ai ntmps240 T.Wr))))) (Ai (Ai (Ai (Ai T.Wq T.Wt) (Ai T.Ws ntmps218)) (Ai (Ai T.V8 T.V7) (Ai T.k35 (Ai ntmps189 ntmps188)))) (Ai (Ai (Ai ntmps190 T.VK) (Ai T.VL T.VJ)) (Ai (Ai ntmps155 T.V2) (Ai ntmps174 (Ai ntmps182 ntmps181)))))) (Ai (Ai (Ai (Ai (Ai T.VC T.VD) (Ai ntmps147 T.Ve)) (Ai (Ai ntmps103 ntmps126) (Ai T.UX (Ai ntmps68 ntmps187)))) (Ai (Ai (Ai T.k94 ntmps41) (Ai T.k67 ntmps18)) (Ai (Ai T.UF ntmps43) (Ai T.k68 (Ai ntmps19 T.VI))))) (Ai (Ai (Ai (Ai ntmps154 T.VG) (Ai ntmps153 T.Pz)) (Ai (Ai T.PA T.Vk) (Ai T.Vl (Ai T.k41 T.Vm)))) (Ai (Ai (Ai T.k43 ntmps107) (Ai T.Vx (Ai ntmps132 T.k42))) (Ai (Ai ntmps49 T.SW) (Ai T.k29 (Ai ntmps55 ntmps25))))))) (Ai (Ai (Ai (Ai (Ai (Ai @underlying33 T.c33) (Ai T.g33 T.b33)) (Ai (Ai T.z33 T.s33) (Ai @underlying67 (Ai T.c67 T.Mb)))) (Ai (Ai (Ai T.b67 T.z67) (Ai T.h67 ntmps130)) (Ai (Ai T.U0 ntmps81) (Ai ntmps82 (Ai T.Pv ntmps131))))) (Ai (Ai (Ai (Ai ntmps83 ntmps78) (Ai ntmps72 ntmps80)) (Ai (Ai ntmps75 ntmps108) (Ai T.Pw (Ai T.k49 ntmps74)))) (Ai (Ai (Ai T.U1 ntmps79) (Ai T.k74 ntmps24)) (Ai (Ai T.k55 T.k19) (Ai ntmps85 (Ai T.k84 T.k85)))))) (Ai (Ai (Ai (Ai (Ai T.k54 T.k52) (Ai ntmps30 T.k81)) (Ai (Ai T.k82 T.k79) (Ai T.Fh (Ai ntmps27 T.k25)))) (Ai (Ai (Ai T.UI T.M4) (Ai ntmps48 T.k48)) (Ai (Ai ntmps10 T.k27) (Ai T.Gv (Ai ntmps8 @underlying26))))) (Ai (Ai (Ai (Ai T.MU T.SU) (Ai T.b26 T.z26)) (Ai (Ai T.h26 T.Pg) (Ai T.Pk (Ai T.Pl T.Pm)))) (Ai (Ai (Ai ntmps9 ntmps14) (Ai T.Ph (Ai T.Pj T.Y6))) (Ai (Ai T.k24 T.IL) (Ai T.k8 (Ai T.k9 ntmps6)))))))))))
theorem DM : type_of% (Ai @cj @bM) :=
  (Ai @cj @bM)
section
variable {P : Program} {Γ : Nat→List AV} {N : Nat} {Q : Exit→Env→AS→Prop} {E E' : Env} {s s' : AS} {id : Nat} {L : List Oper} {x y : Code} {c : Operand} {H Z : Prop} {O : Array Oper} {W : Env→AS→Prop} {M : (Env→AS→Prop)→Prop} {f : FuncId} {Y7 : List AV} {v : AV} {s0 s2 : AS} {E2 : AS→Env} {s3 : AS→AS}
theorem jA (k : ch P Γ N y Q E' s') (h : ∀ K : Env→AS→Prop,K E' s'→AY P Γ N L.toArray L K E s:=by (intro K hK; simp only [↓DN,Qa,Qb,Qc,Qd,Qe,Qf,Qg,Qh,reduceCtorEq,↓reduceIte,Na,Nb,Nc,Nk,Nf,Ng,Nh,Za,Zb,Zc,TT]; exact hK)) : ch P Γ N (.seq (.region id L.toArray false) y) Q E s:=wS fun K hK=>h K (hK _ _ k)
theorem jB (a : H) (k : ch P Γ N y Q E' s') (h : H→∀ K : Env→AS→Prop,K E' s'→AY P Γ N L.toArray L K E s:=by (intro a K hK; simp only [↓DN,Qa,Qb,Qc,Qd,Qe,Qf,Qg,Qh,reduceCtorEq,↓reduceIte,Na,Nb,Nc,Nk,Nf,Ng,Nh,Za,Zb,Zc,TT,a]; exact hK)) : ch P Γ N (.seq (.region id L.toArray false) y) Q E s:=wS fun K hK=>h a K (hK _ _ k)
theorem jC (k : Q .normal E' s') (h : ∀ K : Env→AS→Prop,K E' s'→AY P Γ N L.toArray L K E s:=by (intro K hK; simp only [↓DN,Qa,Qb,Qc,Qd,Qe,Qf,Qg,Qh,reduceCtorEq,↓reduceIte,Na,Nb,Nc,Nk,Nf,Ng,Nh,Za,Zb,Zc,TT]; exact hK)) : ch P Γ N (.region id L.toArray false) Q E s:=wE fun K hK=>h K (hK _ _ k)
theorem jD (a : H) (k : Q .normal E' s') (h : H→∀ K : Env→AS→Prop,K E' s'→AY P Γ N L.toArray L K E s:=by (intro a K hK; simp only [↓DN,Qa,Qb,Qc,Qd,Qe,Qf,Qg,Qh,reduceCtorEq,↓reduceIte,Na,Nb,Nc,Nk,Nf,Ng,Nh,Za,Zb,Zc,TT,a]; exact hK)) : ch P Γ N (.region id L.toArray false) Q E s:=wE fun K hK=>h a K (hK _ _ k)
theorem jE (k : ch P Γ N x Q E s) (h : ∀ X Y : Prop,X→match aL Γ E c with | .v (.bool t)=>(t = true→X)∧(t = false→Y) | _=>False:=by (intro X Y hX; simp only [UP,DF,Nc,↓reduceIte,DB]; exact hX)) : ch P Γ N (.cond c x y) Q E s:=wC fun X Y hX hY=>h X Y (hX k)
theorem jF (k : ch P Γ N y Q E s) (h : ∀ X Y : Prop,Y→match aL Γ E c with | .v (.bool t)=>(t = true→X)∧(t = false→Y) | _=>False:=by (intro X Y hX; simp only [UP,DF,Nc,↓reduceIte,DB]; exact hX)) : ch P Γ N (.cond c x y) Q E s:=wC fun X Y hX hY=>h X Y (hY k)
theorem jG (a : H) (k : ch P Γ N x Q E s) (h : H→∀ X Y : Prop,X→match aL Γ E c with | .v (.bool t)=>(t = true→X)∧(t = false→Y) | _=>False:=by (intro a X Y hX; simp only [UP,DF,Nc,↓reduceIte,DB,a]; exact hX)) : ch P Γ N (.cond c x y) Q E s:=wC fun X Y hX hY=>h a X Y (hX k)
theorem jH (a : H) (k : ch P Γ N y Q E s) (h : H→∀ X Y : Prop,Y→match aL Γ E c with | .v (.bool t)=>(t = true→X)∧(t = false→Y) | _=>False:=by (intro a X Y hX; simp only [UP,DF,Nc,↓reduceIte,DB,a]; exact hX)) : ch P Γ N (.cond c x y) Q E s:=wC fun X Y hX hY=>h a X Y (hY k)
theorem jI (k : Z) (h : Z→Q .ret E s:=by (intro hz; (try simp only [az,ar]); simp only [b8,bt,bD,cU,List.toList_toArray,↓ba]; (try simp only [UP,DF,Nc,↓reduceIte,DT]); exact hz)) : ch P Γ N .ret Q E s:=aW (h k)
theorem jJ (h : Q .ret E s:=by ((try simp only [az,ar]); simp only [b8,bt,bD,cU,List.toList_toArray,↓ba]; (try simp only [UP,DF,Nc,↓reduceIte,DT]); exact ⟨_,_,AV.aB.refl _,AS.le.refl _,rfl,rfl⟩)) : ch P Γ N .ret Q E s:=aW h
theorem jK (a : ai P Γ f Y7 s0 fun r s'=>r = v∧s' = s2) (k : ∀ s1,s1 = s2→ch P Γ N y Q (E2 s1) (s3 s1)) (h : (ai P Γ f Y7 s0 fun r s'=>r = v∧s' = s2)→∀ K : Env→AS→Prop,(∀ s1,s1 = s2→K (E2 s1) (s3 s1))→AY P Γ N L.toArray L K E s:=by (intro a K hK; simp only [↓DN,Qa,Qb,Qc,Qd,Qe,Qf,Qg,Qh,reduceCtorEq,↓reduceIte,Na,Nb,Nc,Nk,Nf,Ng,Nh,Za,Zb,Zc,TT]; refine ad a ?_; rintro _ s1 ⟨rfl,e⟩; simp only [↓DM,bY,DX,Nz,↓DN,Qa,Qb,Qc,Qd,Qe,Qf,Qg,Qh,reduceCtorEq,↓reduceIte,Na,Nb,Nc,Nk,Nf,Ng,Nh,Za,Zb,Zc,TT]; exact hK s1 e)) : ch P Γ N (.seq (.region id L.toArray false) y) Q E s:=wS fun K hK=>h a K fun s1 e=>hK _ _ (k s1 e)
theorem jL (a : ai P Γ f Y7 s0 fun r s'=>r = v∧s' = s2) (k : ∀ s1,s1 = s2→Q .normal (E2 s1) (s3 s1)) (h : (ai P Γ f Y7 s0 fun r s'=>r = v∧s' = s2)→∀ K : Env→AS→Prop,(∀ s1,s1 = s2→K (E2 s1) (s3 s1))→AY P Γ N L.toArray L K E s:=by (intro a K hK; simp only [↓DN,Qa,Qb,Qc,Qd,Qe,Qf,Qg,Qh,reduceCtorEq,↓reduceIte,Na,Nb,Nc,Nk,Nf,Ng,Nh,Za,Zb,Zc,TT]; refine ad a ?_; rintro _ s1 ⟨rfl,e⟩; simp only [↓DM,bY,DX,Nz,↓DN,Qa,Qb,Qc,Qd,Qe,Qf,Qg,Qh,reduceCtorEq,↓reduceIte,Na,Nb,Nc,Nk,Nf,Ng,Nh,Za,Zb,Zc,TT]; exact hK s1 e)) : ch P Γ N (.region id L.toArray false) Q E s:=wE fun K hK=>h a K fun s1 e=>hK _ _ (k s1 e)
theorem jQ (k : ∀ K : Env→AS→Prop,(∀ E s,ch P Γ N y Q E s→K E s)→M K) (h : ∀ K : Env→AS→Prop,M K→AY P Γ N L.toArray L K E s:=by (intro K hz; simp only [↓DN,Qa,Qb,Qc,Qd,Qe,Qf,Qg,Qh,reduceCtorEq,↓reduceIte,Na,Nb,Nc,Nk,Nf,Ng,Nh,Za,Zb,Zc,TT]; exact hz)) : ch P Γ N (.seq (.region id L.toArray false) y) Q E s:=wS fun K hK=>h K (k K hK)
theorem jS (a : H) (k : ∀ K : Env→AS→Prop,(∀ E s,ch P Γ N y Q E s→K E s)→M K) (h : H→∀ K : Env→AS→Prop,M K→AY P Γ N L.toArray L K E s:=by (intro a K hz; simp only [↓DN,Qa,Qb,Qc,Qd,Qe,Qf,Qg,Qh,reduceCtorEq,↓reduceIte,Na,Nb,Nc,Nk,Nf,Ng,Nh,Za,Zb,Zc,TT,a]; exact hz)) : ch P Γ N (.seq (.region id L.toArray false) y) Q E s:=wS fun K hK=>h a K (k K hK)
theorem jT (k : ∀ K : Env→AS→Prop,(∀ E s,Q .normal E s→K E s)→M K) (h : ∀ K : Env→AS→Prop,M K→AY P Γ N L.toArray L K E s:=by (intro K hz; simp only [↓DN,Qa,Qb,Qc,Qd,Qe,Qf,Qg,Qh,reduceCtorEq,↓reduceIte,Na,Nb,Nc,Nk,Nf,Ng,Nh,Za,Zb,Zc,TT]; exact hz)) : ch P Γ N (.region id L.toArray false) Q E s:=wE fun K hK=>h K (k K hK)
theorem jU (a : H) (k : ∀ K : Env→AS→Prop,(∀ E s,Q .normal E s→K E s)→M K) (h : H→∀ K : Env→AS→Prop,M K→AY P Γ N L.toArray L K E s:=by (intro a K hz; simp only [↓DN,Qa,Qb,Qc,Qd,Qe,Qf,Qg,Qh,reduceCtorEq,↓reduceIte,Na,Nb,Nc,Nk,Nf,Ng,Nh,Za,Zb,Zc,TT,a]; exact hz)) : ch P Γ N (.region id L.toArray false) Q E s:=wE fun K hK=>h a K (k K hK)
theorem jR {K : Env→AS→Prop} (hK : ∀ E s,W E s→K E s) (k : W E' s') (h : K E' s'→Z:=by (intro hK; simp only [↓DM,bY,DX,Nz,↓DN,Qa,Qb,Qc,Qd,Qe,Qf,Qg,Qh,reduceCtorEq,↓reduceIte,Na,Nb,Nc,Nk,Nf,Ng,Nh,Za,Zb,Zc,TT]; exact hK)) : Z:=h (hK _ _ k)
theorem jV {K : Env→AS→Prop} (a : H) (hK : ∀ E s,W E s→K E s) (k : W E' s') (h : H→K E' s'→Z:=by (intro a hK; simp only [↓DM,bY,DX,Nz,↓DN,Qa,Qb,Qc,Qd,Qe,Qf,Qg,Qh,reduceCtorEq,↓reduceIte,Na,Nb,Nc,Nk,Nf,Ng,Nh,Za,Zb,Zc,TT,a]; exact hK)) : Z:=h a (hK _ _ k)
end
theorem jM {A Z : Prop} (k : A) (h : A→Z:=by (intro hA; simp only [↓DM,bY,DX,Nz,↓DN,Qa,Qb,Qc,Qd,Qe,Qf,Qg,Qh,reduceCtorEq,↓reduceIte,Na,Nb,Nc,Nk,Nf,Ng,Nh,Za,Zb,Zc,TT]; exact hA)) : Z:=h k
theorem jN {A Z H : Prop} (a : H) (k : A) (h : H→A→Z:=by (intro a hA; simp only [↓DM,bY,DX,Nz,↓DN,Qa,Qb,Qc,Qd,Qe,Qf,Qg,Qh,reduceCtorEq,↓reduceIte,Na,Nb,Nc,Nk,Nf,Ng,Nh,Za,Zb,Zc,TT,a]; exact hA)) : Z:=h a k
theorem jO {A Z : Prop} (k : A) (h : A→Z:=by (intro hA; simp only [↓DN,Qa,Qb,Qc,Qd,Qe,Qf,Qg,Qh,reduceCtorEq,↓reduceIte,Na,Nb,Nc,Nk,Nf,Ng,Nh,Za,Zb,Zc,TT]; exact hA)) : Z:=h k
theorem jP {A Z H : Prop} (a : H) (k : A) (h : H→A→Z:=by (intro a hA; simp only [↓DN,Qa,Qb,Qc,Qd,Qe,Qf,Qg,Qh,reduceCtorEq,↓reduceIte,Na,Nb,Nc,Nk,Nf,Ng,Nh,Za,Zb,Zc,TT,a]; exact hA)) : Z:=h a k
theorem jW {v : AV} {s : AS} {R : AV→AS→Prop} (h : R v s) : ∃ r s',v.aB r∧s'.le s∧R r s':=⟨_,_,AV.aB.refl _,AS.le.refl _,h⟩
end Go.Proofs.YtbiefppedlodiaaGreatDoor
namespace Go.AM
open Go
def aM (n : Int) : AV:=.v (.int .i64 n)
def aH (l : List Int) (sp : Sp) : AV:=.sl 1 l.length (l.map aM) sp
theorem eU {l : List Int} {i : Nat} (h : i < l.length) : List.take 1 (List.drop i (l.map aM)) = [.v (.int .i64 l[i])]:=by
  rw [List.drop_eq_getElem_cons (by simpa using h)];simp [aM]
theorem dU.ints {gy : List AV} (h : dU (.slice 1 Bk) gy) : ∃ l : List Int,gy = [aH l .any]:=by
  obtain ⟨els,rfl,_,bR⟩:=dU.rows h;have key : ∀ els : List (List AV),(∀ el ∈ els,el.length = 1∧dU Bk el)→∃ l : List Int,l.length = els.length∧els.flatten = l.map aM:=by
    intro els;induction els with
    | nil=>intro _; exact ⟨[],rfl,rfl⟩
    | cons e els ih =>
      intro h;obtain ⟨l,h1,h2⟩:=ih (fun el yB=>h el (by simp [yB]));obtain ⟨_,t⟩:=h e (by simp);obtain ⟨n,rfl,_⟩:=oE t;exact ⟨n :: l,by simp [h1],by simp [h2,aM]⟩
  obtain ⟨l,h1,h2⟩:=key els bR;exact ⟨l,by rw [← h1,h2]; rfl⟩
theorem sj {α : Type} {a b : List α} {i : Nat} (ha : i < a.length) (hb : i < b.length) (h : a.take i = b.take i) (e : a[i] = b[i]) : a.take (i + 1) = b.take (i + 1):=by
  rw [List.take_succ_eq_append_getElem ha,List.take_succ_eq_append_getElem hb,h,e]
structure al where
  kind : Int
  name : List UInt8
  key : Nat
  parent : List UInt8
  jk : List Int
  deriving DecidableEq
def al.cells (n : al) : List AV:=[.v (.int .i64 n.kind),aj n.name .any,.v (.int .u64 n.key),aj n.parent .any,aH n.jk .any]
def al.iO : al:=⟨0,[],0,[],[]⟩
theorem sm (k k' : Int) (m m' p p' : List UInt8) (y y' : Nat) (u u' : List Int) :
    decide ((⟨k,m,y,p,u⟩ : al) = ⟨k',m',y',p',u'⟩) = ((k == k') && (((y : Int) == (y' : Int)) && (decide (m = m') && (decide (p = p') && decide (u = u'))))):=by
  rw [Bool.eq_iff_iff,decide_eq_true_iff];simp only [al.mk.injEq,Bool.and_eq_true,beq_iff_eq,decide_eq_true_eq,Int.natCast_inj];constructor
  · rintro ⟨h1,h2,h3,h4,h5⟩;exact ⟨h1,h3,h2,h4,h5⟩
  · rintro ⟨h1,h3,h2,h4,h5⟩;exact ⟨h1,h2,h3,h4,h5⟩
theorem dU.node {gy : List AV} (h : dU (.struct (.cons Bk (.cons Cr (.cons (.int .u64) (.cons Cr (.cons (.slice 1 Bk) .nil)))))) gy) : ∃ N : al,gy = N.cells∧N.key < 2 ^ 64:=by
  obtain ⟨x1,y1,rfl,t1,h⟩:=fg (uK h);obtain ⟨x2,y2,rfl,t2,h⟩:=fg h;obtain ⟨x3,y3,rfl,t3,h⟩:=fg h;obtain ⟨x4,y4,rfl,t4,h⟩:=fg h;obtain ⟨x5,y5,rfl,t5,h⟩:=fg h;obtain rfl:=Gp h;obtain ⟨n1,rfl,_⟩:=oE t1;obtain ⟨l2,rfl,_⟩:=t2.bytes;obtain ⟨n3,rfl,w3⟩:=oE t3;obtain ⟨m3,rfl,h3⟩:=ME w3;obtain ⟨l4,rfl,_⟩:=t4.bytes;obtain ⟨l5,rfl⟩:=t5.ints;exact ⟨⟨n1,l2,m3,l4,l5⟩,rfl,h3⟩
def tE (l : List Int) (i : Nat) : Prop:=0≤l.getD i 0∧l.getD i 0 < 32∧(0 < i→l.getD (i - 1) 0 < l.getD i 0)
instance Y8 (l : List Int) (i : Nat) : Decidable (tE l i):=by unfold tE; infer_instance
def kP (l : List Int) : Prop:=∀ i,i < l.length→tE l i
instance SX (l : List Int) : Decidable (kP l):=by unfold kP; infer_instance
theorem vU {l : List Int} {i : Nat} (h : i < l.length) (h1 : 0≤l[i]) (h2 : l[i] < 32) (h3 : ∀ k : 0 < i,l[i - 1] < l[i]) : tE l i:=by
  unfold tE;have e : l.getD i 0 = l[i]:=(by simp [List.getD,h]);refine ⟨by rw [e]; exact h1,by rw [e]; exact h2,fun k=>?_⟩;have e2 : l.getD (i - 1) 0 = l[i - 1]:=(by simp [List.getD,show i - 1 < l.length by omega]);rw [e,e2];exact h3 k
theorem kQ {l : List Int} {i : Nat} (h : i < l.length) (k : tE l i) : 0≤l[i]∧l[i] < 32∧(∀ q : 0 < i,l[i - 1] < l[i]):=by
  unfold tE at k;have e : l.getD i 0 = l[i]:=(by simp [List.getD,h]);rw [e] at k;refine ⟨k.1,k.2.1,fun q=>?_⟩;have e2 : l.getD (i - 1) 0 = l[i - 1]:=(by simp [List.getD,show i - 1 < l.length by omega]);have:=k.2.2 q;rwa [e2] at this
def al.held (N : al) : Prop:=2≤N.key∧N.key≤2305843009213693949∧(N.parent.length = 0∨N.parent.length = 32)
instance PB (N : al) : Decidable N.held:=by unfold al.held; infer_instance
def al.right (N : al) : Prop :=
  if N.kind = 0 then N = al.iO
  else if N.kind = 1 then (1≤N.name.length∧N.name.length≤16∧N.held∧N.jk.length = 0)
  else if N.kind = 2 then (N.name.length = 0∧N.held∧kP N.jk)
  else False
instance M5 (N : al) : Decidable N.right:=by unfold al.right; infer_instance
theorem qI {N : al} (h : N.kind = 0) : N.right↔N = al.iO:=by unfold al.right; rw [if_pos h]
theorem kq {N : al} (h : N.kind = 1) : N.right↔(1≤N.name.length∧N.name.length≤16∧N.held∧N.jk.length = 0):=by unfold al.right; rw [if_neg (by omega),if_pos h]
theorem ks {N : al} (h : N.kind = 2) : N.right↔(N.name.length = 0∧N.held∧kP N.jk):=by unfold al.right; rw [if_neg (by omega),if_neg (by omega),if_pos h]
theorem xm {N : al} (h0 : N.kind≠0) (h1 : N.kind≠1) (h2 : N.kind≠2) : ¬ N.right:=by unfold al.right; rw [if_neg h0,if_neg h1,if_neg h2]; exact id
structure Rec where
  kind : Int
  group : List UInt8
  gQ : Int
  time : Int
  bucket : Int
  body : List UInt8
  tree : List UInt8
  script : List UInt8
  wrapped : List UInt8
  deriving DecidableEq
def Rec.cells (r : Rec) : List AV:=[.v (.int .i64 r.kind),aj r.group .any,.v (.int .i64 r.gQ),.v (.int .i64 r.time),.v (.int .i64 r.bucket),aj r.body .any,aj r.tree .any,aj r.script .any,aj r.wrapped .any]
def Rec.iO : Rec:=⟨0,[],0,0,0,[],[],[],[]⟩
def Rec.right (r : Rec) : Prop :=
  1≤r.kind∧r.kind≤3∧1≤r.group.length∧r.group.length≤16∧0≤r.gQ∧r.gQ≤1048576∧0≤r.time∧r.time≤1099511627776∧0≤r.bucket∧r.bucket≤1099511627776∧r.body.length≤60000 ∧
    r.tree.length = (if r.kind = 3 then 0 else 32)∧r.script.length = (if r.kind = 3 then 0 else 32)∧r.wrapped.length = (if r.kind = 3 then 0 else 48)
instance (r : Rec) : Decidable r.right:=by unfold Rec.right; infer_instance
def Rec.text (r : Rec) : List UInt8 :=
  be 1 r.kind.toNat ++ (be 1 r.group.length ++ r.group ++ (be 8 r.gQ.toNat ++ (be 8 r.time.toNat ++ (be 8 r.bucket.toNat ++
    (be 2 r.body.length ++ r.body ++ (be 1 r.tree.length ++ r.tree ++ (be 1 r.script.length ++ r.script ++ (be 1 r.wrapped.length ++ r.wrapped ++ []))))))))
theorem qJ (k n : Nat) (st : List UInt8 × Bool) : dQ k n st = dR (be k n) st:=rfl
theorem fy {k n : Nat} (h : n < 256 ^ k) (st : List UInt8 × Bool) : bd k (n : Int) st = dR (be k n) st:=by
  have e : (256 : Nat) ^ k = 2 ^ (8 * k):=(by rw [Nat.pow_mul]);have hh : (n : Int) < 2 ^ (8 * k):=by
    rw [e] at h;exact_mod_cast h
  unfold bd;rw [if_pos ⟨by omega,hh⟩];simp only [Int.toNat_natCast,qJ]
theorem fh (a b : List UInt8) (st : List UInt8 × Bool) : dR a (dR b st) = dR (b ++ a) st:=by
  unfold dR;by_cases h : st.2 = true
  · simp [h]
  · simp [h]
theorem oM {k : Nat} {m : List UInt8} (h : m.length < 256 ^ k) (st : List UInt8 × Bool) : dj k m st = dR (be k m.length ++ m) st:=by
  unfold dj;rw [fy h,fh]
def gR (l : List Int) : List UInt8:=(l.map fun x=>be 1 x.toNat).flatten
def al.text (N : al) : List UInt8 :=
  if N.kind = 0 then be 1 0
  else if N.kind = 1 then be 1 1 ++ (be 1 N.name.length ++ N.name) ++ be 8 N.key ++ (be 1 N.parent.length ++ N.parent)
  else be 1 2 ++ be 8 N.key ++ (be 1 N.parent.length ++ N.parent) ++ be 1 N.jk.length ++ gR N.jk
theorem Ao {l : List Int} (h : kP l) : ∀ i,i < l.length→(i : Int)≤l.getD i 0
  | 0,k=>(h 0 k).1
  | i + 1,k=>by
    have:=Ao h i (by omega);have h3:=(h (i + 1) k).2.2 (by omega);simp only [Nat.add_sub_cancel] at h3;omega
theorem qK {l : List Int} (h : kP l) : l.length≤32:=by
  by_cases k : l.length = 0
  · omega
  · have h1:=Ao h (l.length - 1) (by omega);have h2:=(h (l.length - 1) (by omega)).2.1;omega
theorem xo {l : List Int} (h : kP l) {x : Int} (hx : x ∈ l) : 0≤x∧x < 32:=by
  obtain ⟨i,hi,rfl⟩:=List.getElem_of_mem hx;have:=kQ hi (h i hi);exact ⟨this.1,this.2.1⟩
theorem m8 : ∀ (l : List Int),(gR l).length = l.length
  | []=>rfl
  | x :: l=>by
    have:=m8 l;simp only [gR,List.map_cons,List.flatten_cons,List.length_append,iL,List.length_cons] at *
    omega
theorem yV (l : List Int) (x : Int) : gR (l ++ [x]) = gR l ++ be 1 x.toNat:=by
  simp [gR]
theorem Bx : al.iO.right:=by decide
theorem pB {N : al} (h : N.right) : N.kind = 0∨N.kind = 1∨N.kind = 2:=by
  unfold al.right at h;split at h
  · left; assumption
  · split at h
    · right; left; assumption
    · split at h
      · right; right; assumption
      · exact h.elim
theorem al.mq {N : al} (h : N.right) : N.text.length≤100:=by
  obtain ⟨k,m,y,p,u⟩:=N;rcases pB h with hk | hk | hk
  · simp only at hk;simp [al.text,hk]
  · obtain ⟨h1,h2,⟨h3,h4,h5⟩,h6⟩:=(kq hk).1 h;simp only at hk h1 h2 h3 h4 h5 h6;simp [al.text,hk];omega
  · obtain ⟨h1,⟨h3,h4,h5⟩,h6⟩:=(ks hk).1 h;simp only at hk h1 h3 h4 h5 h6;have hu:=qK h6;simp [al.text,hk,m8];omega
structure RdS (s s1 : AS) (p o2 o3 : Nat) (ce z cs : List AV) : Prop where
  le : (s.drop p).le s1
  eye : s1.av p = some ce
  res : s1.av o2 = some z
  var : s1.av o3 = some cs
  n2 : s.av o2 = none
  n3 : s.av o3 = none
  p2 : p≠o2
  p3 : p≠o3
  d : o2≠o3
def xfM (s0 s : AS) (x : AV) (l : List Int) : Prop:=(x = bO∧l = [])∨∃ t e,x = aH l (.own t e)∧s.own t = some e∧s0.own t = none
structure Rd4 (s s1 : AS) (p o2 o3 o4 : Nat) (ce z cs ds : List AV) : Prop where
  rd : RdS s s1 p o2 o3 ce z cs
  obj : s1.av o4 = some ds
  n4 : s.av o4 = none
  p4 : p≠o4
  d2 : o2≠o4
  d3 : o3≠o4
theorem bf {a b : AS} (h : a.le b) {t : Nat} (k : b.own t = none) : a.own t = none:=by
  cases e : a.own t with
  | none=>rfl
  | some x=>rw [h.own t x e] at k; cases k
def lvT : List Nat:=[0,1,0,2,0,1,0,3,0,1,0,2,0,1,0,4,0,1,0,2,0,1,0,3,0,1,0,2,0,1,0,5,0,1,0,2,0,1,0,3,0,1,0,2,0,1,0,4,0,1,0,2,0,1,0,3,0,1,0,2,0,1,0]
def lv (n : Nat) : Nat:=lvT.getD n 0
def pC (x : Int) : Nat:=if 0≤x∧x < 63 then lv x.toNat else 0
def hf (n : Nat) : Nat:=2 ^ lv n / 2
def lo (n : Nat) : Nat:=(n - (2 ^ lv n - 1)) / 2
def hi (n : Nat) : Nat:=(n + (2 ^ lv n - 1)) / 2
def Fit (n : Nat) : Prop:=n = 1∨n = 2∨n = 4∨n = 8∨n = 16∨n = 32
instance (n : Nat) : Decidable (Fit n):=by unfold Fit; infer_instance
theorem Fit.le {n : Nat} (h : Fit n) : 1≤n∧n≤32:=by rcases h with h | h | h | h | h | h <;> omega
theorem nG (n : Nat) : lv n≤5:=by
  by_cases h : n < 63
  · exact (by decide : ∀ n < 63,lv n≤5) n h
  · have : lv n = 0:=(by simp [lv,List.getD,lvT,show 63≤n by omega]);omega
def p9 (n : Nat) : Nat:=if n / 2 ^ (lv n + 1) % 2 = 0 then n + 2 ^ lv n else n - 2 ^ lv n
def dk : Nat→Nat→Nat→List Nat
  | 0,_,_=>[]
  | k + 1,n,leaves=>if n = leaves - 1 then [] else p9 n :: dk k (p9 n) leaves
def aD (leaf leaves : Nat) : List Nat:=dk 6 (2 * leaf) leaves
def eS : List Nat:=[0,1,56,2,57,49,28,3,61,58,42,50,38,29,17,4,62,47,59,36,45,43,51,22,53,39,33,30,24,18,12,5,63,55,48,27,60,41,37,16,46,35,44,21,52,32,23,11,54,26,40,15,34,20,31,10,25,14,19,9,13,8,7,6]
def nH (n : Nat) : AV:=.v (.int .u8 n)
def sn (x : Int) : Prop:=0≤x∧Fit x.toNat
instance (x : Int) : Decidable (sn x):=by unfold sn; infer_instance
theorem Ra : ∀ n < 63,∃ k < 64,eC .u64 (iF .u64 (ll .u64 ((n + 1 : Nat) : Int) (CB .u64 ((n + 1 : Nat) : Int))) 285870213051353865) 58 = ((k : Nat) : Int)∧(List.drop k (eS.map nH))[0]? = some (nH (lv n)):=by
  have key : ∀ n < 63,∃ k < 64,eC .u64 (iF .u64 (ll .u64 ((n + 1 : Nat) : Int) (CB .u64 ((n + 1 : Nat) : Int))) 285870213051353865) 58 = ((k : Nat) : Int)∧eS[k]? = some (lv n):=(by decide +kernel);intro n hn;obtain ⟨k,h1,h2,h3⟩:=key n hn;refine ⟨k,h1,h2,?_⟩;rw [List.getElem?_drop,Nat.add_zero,List.getElem?_map,h3];rfl
theorem eA {n : Nat} (h : n < 63) : pC (n : Int) = lv n:=by
  unfold pC;rw [if_pos (by omega),Int.toNat_natCast]
theorem Bz (x : Int) : pC x≤5:=by unfold pC; split; exact nG _; omega
theorem M6 {l : Nat} (h : l≤5) : eC .i64 (jl .i64 1 (l : Int)) 1 = ((2 ^ l / 2 : Nat) : Int):=(by decide : ∀ l≤5,eC .i64 (jl .i64 1 ((l : Nat) : Int)) 1 = ((2 ^ l / 2 : Nat) : Int)) l h
theorem JJ {l : Nat} (h : l≤5) : jl .i64 1 (l : Int) = ((2 ^ l : Nat) : Int):=(by decide : ∀ l≤5,jl .i64 1 ((l : Nat) : Int) = ((2 ^ l : Nat) : Int)) l h
theorem lI {l : Nat} (h : l≤5) : 1≤2 ^ l∧2 ^ l≤32:=(by decide : ∀ l≤5,1≤2 ^ l∧2 ^ l≤32) l h
def fV (x : Int) : Option (Int × Int):=if pC x = 0 then none else some (x - ((2 ^ pC x / 2 : Nat) : Int),x + ((2 ^ pC x / 2 : Nat) : Int))
def kR (x : Int) : Int × Int:=if 0≤x∧x < 63 then ((lo x.toNat : Int),(hi x.toNat : Int)) else (0,-1)
theorem pD (x : Int) : 2 ^ pC x / 2 = 0↔pC x = 0:=by
  have:=Bz x;generalize pC x = l at *
  exact (by decide : ∀ l≤5,2 ^ l / 2 = 0↔l = 0) l this
theorem Rb : ∀ n : Nat,n < 63→kA .i64 (dC .i64 (n : Int) (dC .i64 ((2 ^ lv n : Nat) : Int) 1)) 2 = (lo n : Int)∧kA .i64 (dP .i64 (n : Int) (dC .i64 ((2 ^ lv n : Nat) : Int) 1)) 2 = (hi n : Int):=by decide +kernel
end Go.AM
namespace Go.Proofs.YtbiefppedlodiaaGreatDoor
open Go Go.AM Go.Proofs Tryz
variable {Γ : Nat→List AV}
theorem xp (x : Int) (s : AS) : ai prog Γ 173 [.v (.int .i64 x)] s (fun r s'=>r = .v (.bool (decide (0≤x∧x < 63)))∧s' = s):=by
 refine aa func173 rfl ntmps173 results173 (by simp) ?_;refine jA ?_;by_cases h : 0≤x
 ·refine jB (decide_eq_true h) ?_;refine jI ?_;exact jW ⟨by simp [h],rfl⟩
 ·refine jB (decide_eq_false h) ?_;refine jI ?_;exact jW ⟨by simp [h],rfl⟩
theorem Fi (hG : Γ 3 = eS.map nH) (n : Nat) (hn : n < 63) (s : AS) : ai prog Γ 215 [.v (.int .u64 ((n + 1 : Nat) : Int))] s (fun r s'=>r = .v (.int .i64 (lv n))∧s' = s):=by
 refine aa func215 rfl ntmps215 results215 (by simp) ?_;have h0 : (((n + 1 : Nat) : Int) == 0) = false:=(by simp; omega);refine jA ?_;refine wK fun K hK=>?_;refine jB @h0 ?_;refine jF ?_;refine ab ?_;refine hK _ _ ?_;clear hK K;obtain ⟨k,hk,pL,fJ⟩:=Ra n hn;have hl:=nG n;have WC : ((0 : Int)≤(k : Int)) = True:=eq_true (by omega);have IJ : ((k : Int) < ((64 : Nat) : Int)) = True:=eq_true (by omega);refine wS fun K hK=>?_;simp only [↓DN,Qa,Qb,Qc,Qd,Qe,Qf,Qg,Qh,reduceCtorEq,↓reduceIte,Na,Nb,Nc,Nk,Nf,Ng,Nh,Za,Zb,Zc,TT,hG,pL,WC,IJ,fJ,nH,Jf (show lv n < 2 ^ 62 by omega)];refine hK _ _ ?_;clear hK K;exact jJ
theorem JK (hG : Γ 3 = eS.map nH) (n : Nat) (hn : n < 63) (s : AS) : ai prog Γ 184 [.v (.int .u64 ((n + 1 : Nat) : Int))] s (fun r s'=>r = .v (.int .i64 (lv n))∧s' = s):=by
 refine aa func184 rfl ntmps184 results184 (by simp) ?_;refine jA ?_;refine wK fun K hK=>?_;refine jF ?_;refine ab ?_;refine hK _ _ ?_;clear hK K;refine jK (Fi hG n hn _) ?_;rintro s1 rfl;exact jJ
theorem oN (hG : Γ 3 = eS.map nH) (x : Int) (s : AS) : ai prog Γ 152 [.v (.int .i64 x)] s (fun r s'=>r = .v (.int .i64 (pC x))∧s' = s):=by
 refine aa func152 rfl ntmps152 results152 (by simp) ?_;refine jA ?_;refine wK fun K hK=>?_;refine jQ fun K hK=>?_;refine ad (xp x _) ?_;rintro r s1 ⟨rfl,rfl⟩;by_cases h : 0≤x∧x < 63
 ·obtain ⟨n,rfl⟩:=Int.eq_ofNat_of_zero_le h.1;have hn : n < 63:=(by omega);rw [decide_eq_true h];refine jR hK ?_;clear hK K;refine jF ?_;refine ab ?_;refine hK _ _ ?_;clear hK K;have e1 : cB .u64 (dP .i64 (n : Int) 1) = ((n + 1 : Nat) : Int):=(by rw [eF n (by omega),De (by omega)]);refine jS @e1 fun K hK=>?_;refine ad (JK hG n hn _) ?_;rintro r s2 ⟨rfl,rfl⟩;refine jR hK ?_;clear hK K;refine jI ?_;rw [eA hn];exact jW ⟨rfl,rfl⟩
 ·rw [decide_eq_false h];refine jR hK ?_;clear hK K;refine jE ?_;refine jA ?_;refine jI ?_;rw [show pC x = 0 from if_neg h];exact jW ⟨rfl,rfl⟩
theorem m9 (hG : Γ 3 = eS.map nH) (x : Int) (s : AS) : ai prog Γ 183 [.v (.int .i64 x)] s (fun r s'=>r = .v (.int .i64 ((2 ^ pC x / 2 : Nat) : Int))∧s' = s):=by
 refine aa func183 rfl ntmps183 results183 (by simp) ?_;have hl : pC x≤5:=(by unfold pC; split; exact nG _; omega);refine jA ?_;refine jK (oN hG x _) ?_;rintro s1 rfl;refine jI ?_;rw [M6 hl];exact jW ⟨rfl,rfl⟩
theorem gS (hG : Γ 3 = eS.map nH) (x : Int) (hx : -9000000000000000000≤x∧x≤9000000000000000000) (s : AS) : ai prog Γ 151 [.v (.int .i64 x)] s (fun r s'=>r = (match fV x with | some k=>.dX [.v (.int .i64 k.1),.v (.bool true)] | none=>.dX [.v (.int .i64 0),.v (.bool false)])∧s' = s):=by
 refine aa func151 rfl ntmps151 results151 (by simp) ?_;have hl:=Bz x;have hp:=lI hl;refine jA ?_;refine wK fun K hK=>?_;refine jQ fun K hK=>?_;refine ad (m9 hG x _) ?_;rintro r s1 ⟨rfl,rfl⟩;by_cases h : pC x = 0
 ·have h0 : (((2 ^ pC x / 2 : Nat) : Int) == 0) = true:=(by rw [beq_iff_eq]; have:=(pD x).2 h; omega);refine jV @h0 hK ?_;clear hK K;refine jE ?_;refine jA ?_;refine jI ?_;rw [show fV x = none from if_pos h];exact jW ⟨rfl,rfl⟩
 ·have h0 : (((2 ^ pC x / 2 : Nat) : Int) == 0) = false:=by
   rw [beq_eq_false_iff_ne];intro e;exact h ((pD x).1 (by omega))
  refine jV @h0 hK ?_;clear hK K;refine jF ?_;refine ab ?_;refine hK _ _ ?_;clear hK K;refine jQ fun K hK=>?_;refine ad (m9 hG x _) ?_;rintro r s2 ⟨rfl,rfl⟩;refine jV (cf (a:=x) (b:=((2 ^ pC x / 2 : Nat) : Int)) (by omega)) hK ?_;clear hK K;refine jI ?_;rw [show fV x = some (_,_) from if_neg h];exact jW ⟨rfl,rfl⟩
theorem lT (hG : Γ 3 = eS.map nH) (x : Int) (hx : -9000000000000000000≤x∧x≤9000000000000000000) (s : AS) : ai prog Γ 150 [.v (.int .i64 x)] s (fun r s'=>r = (match fV x with | some k=>.dX [.v (.int .i64 k.2),.v (.bool true)] | none=>.dX [.v (.int .i64 0),.v (.bool false)])∧s' = s):=by
 refine aa func150 rfl ntmps150 results150 (by simp) ?_;have hl:=Bz x;have hp:=lI hl;refine jA ?_;refine wK fun K hK=>?_;refine jQ fun K hK=>?_;refine ad (m9 hG x _) ?_;rintro r s1 ⟨rfl,rfl⟩;by_cases h : pC x = 0
 ·have h0 : (((2 ^ pC x / 2 : Nat) : Int) == 0) = true:=(by rw [beq_iff_eq]; have:=(pD x).2 h; omega);refine jV @h0 hK ?_;clear hK K;refine jE ?_;refine jA ?_;refine jI ?_;rw [show fV x = none from if_pos h];exact jW ⟨rfl,rfl⟩
 ·have h0 : (((2 ^ pC x / 2 : Nat) : Int) == 0) = false:=by
   rw [beq_eq_false_iff_ne];intro e;exact h ((pD x).1 (by omega))
  refine jV @h0 hK ?_;clear hK K;refine jF ?_;refine ab ?_;refine hK _ _ ?_;clear hK K;refine jQ fun K hK=>?_;refine ad (m9 hG x _) ?_;rintro r s2 ⟨rfl,rfl⟩;refine jV (eE (a:=x) (b:=((2 ^ pC x / 2 : Nat) : Int)) (by omega)) hK ?_;clear hK K;refine jI ?_;rw [show fV x = some (_,_) from if_neg h];exact jW ⟨rfl,rfl⟩
theorem qc (hG : Γ 3 = eS.map nH) (x : Int) (s : AS) : ai prog Γ 128 [.v (.int .i64 x)] s (fun r s'=>r = .dX [.v (.int .i64 (kR x).1),.v (.int .i64 (kR x).2)]∧s' = s):=by
 refine aa func128 rfl ntmps128 results128 (by simp) ?_;refine jA ?_;refine wK fun K hK=>?_;refine jQ fun K hK=>?_;refine ad (xp x _) ?_;rintro r s1 ⟨rfl,rfl⟩;by_cases h : 0≤x∧x < 63
 ·obtain ⟨n,rfl⟩:=Int.eq_ofNat_of_zero_le h.1;have hn : n < 63:=(by omega);have hl:=nG n;have hp:=lI hl;obtain ⟨u1,u2⟩:=Rb n hn;rw [decide_eq_true h];refine jR hK ?_;clear hK K;refine jF ?_;refine ab ?_;refine hK _ _ ?_;clear hK K;refine jQ fun K hK=>?_;refine ad (oN hG n _) ?_;rintro r s2 ⟨rfl,rfl⟩;refine jV (Ai (eA hn) (JJ hl)) hK ?_;clear hK K;refine jB (Ai @u1 @u2) ?_;refine jI ?_;rw [show kR (n : Int) = ((lo n : Int),(hi n : Int)) from if_pos h];exact jW ⟨rfl,rfl⟩
 ·rw [decide_eq_false h];refine jR hK ?_;clear hK K;refine jE ?_;refine jA ?_;refine jI ?_;rw [show kR x = (0,-1) from if_neg h];exact jW ⟨rfl,rfl⟩
end Go.Proofs.YtbiefppedlodiaaGreatDoor
namespace Go.AM
open Go
theorem mr {a b : Int} (h : a = b) : (a == b) = true:=by simpa using h
theorem lU {a b : Int} (h : a≠b) : (a == b) = false:=by simpa using h
theorem SY {a b : Int} (h : a≠b) : (a != b) = true:=by simpa using h
theorem eqI {a b : Int} (h : a = b) : (a != b) = false:=by simpa using h
theorem lV : ((2 : Int) = 0) = False:=by decide
theorem M7 {a : Nat} (h : a = 0) : ((a : Int) == 0) = true:=by subst h; rfl
theorem Gw {a : Nat} (h : a≠0) : ((a : Int) == 0) = false:=by simpa using h
theorem WD {a k : Nat} (h : a = k) : ((a : Int) == (k : Int)) = true:=by subst h; simp
theorem xao {a k : Nat} (h : a≠k) : ((a : Int) == (k : Int)) = false:=by simp only [beq_eq_false_iff_ne,ne_eq]; omega
theorem PE {a b : Nat} (h : a≠b) : ((a : Int) != (b : Int)) = true:=by simp only [bne_iff_ne,ne_eq]; omega
theorem PF {a b : Nat} (h : a = b) : ((a : Int) != (b : Int)) = false:=by subst h; simp
theorem bj (i : Nat) (h : i < 9223372036854775807) : dP .i64 (i : Int) 1 = ((i + 1 : Nat) : Int):=by
  rw [eE (by omega)]; omega
theorem eG (m : Nat) (h : m < 9223372036854775807) : kA .i64 (m : Int) 2 = ((m / 2 : Nat) : Int):=by
  have e : (m : Int).tdiv 2 = ((m / 2 : Nat) : Int):=(Int.ofNat_tdiv m 2).symm;unfold kA;rw [e];exact IntWalk.i64_in _ (by omega)
theorem ca (m : Nat) (h : m < 4611686018427387904) : iF .i64 2 (m : Int) = ((2 * m : Nat) : Int):=by
  rw [dJ (by omega)]; omega
theorem WE (a : Nat) : decide ((a : Int) < 0) = false:=decide_eq_false (by omega)
theorem M8 : ∀ n : Nat,n≤32→1≤n→(ll .i64 (n : Int) (dC .i64 (n : Int) 1) == 0) = decide (Fit n):=by decide +kernel
theorem oO {n : Nat} : sn (n : Int)↔Fit n:=by unfold sn; rw [Int.toNat_natCast]; exact ⟨fun h=>h.2,fun h=>⟨by omega,h⟩⟩
theorem oP {x : Int} (h : sn x) : 1≤x∧x≤32:=by have:=h.2.le; have:=h.1; omega
def JL (x : Int) : Int:=if sn x then 2 * x - 1 else 0
def qL (n l : Nat) : Option Nat:=if n = l - 1 then none else some (p9 n)
theorem HO : ∀ n : Nat,n < 63→(ll .i64 (n : Int) (iF .i64 2 ((2 ^ lv n : Nat) : Int)) == 0) = decide (n / 2 ^ (lv n + 1) % 2 = 0)∧dP .i64 (n : Int) ((2 ^ lv n : Nat) : Int) = ((n + 2 ^ lv n : Nat) : Int) ∧
    (¬ n / 2 ^ (lv n + 1) % 2 = 0→dC .i64 (n : Int) ((2 ^ lv n : Nat) : Int) = ((n - 2 ^ lv n : Nat) : Int)):=by decide +kernel
def nodeAt (leaf l : Nat) : Nat→Nat
  | 0=>2 * leaf
  | i + 1=>(aD leaf l).getD i 0
theorem Fit.pow {n : Nat} (h : Fit n) : ∃ m,m≤5∧n = 2 ^ m:=by
  rcases h with rfl | rfl | rfl | rfl | rfl | rfl
  · exact ⟨0,by decide,rfl⟩
  · exact ⟨1,by decide,rfl⟩
  · exact ⟨2,by decide,rfl⟩
  · exact ⟨3,by decide,rfl⟩
  · exact ⟨4,by decide,rfl⟩
  · exact ⟨5,by decide,rfl⟩
theorem Fj {leaf l : Nat} (hl : Fit l) (h : leaf < l) {i : Nat} (hi : i≤(aD leaf l).length) : nodeAt leaf l i < 2 * l - 1∧qL (nodeAt leaf l i) l = (aD leaf l)[i]?:=by
  obtain ⟨m,hm,rfl⟩:=hl.pow;exact (by decide +kernel : ∀ m≤5,∀ leaf < 2 ^ m,∀ i≤(aD leaf (2 ^ m)).length,nodeAt leaf (2 ^ m) i < 2 * 2 ^ m - 1∧qL (nodeAt leaf (2 ^ m) i) (2 ^ m) = (aD leaf (2 ^ m))[i]?) m hm leaf h i hi
theorem fW {leaf l : Nat} (hl : Fit l) (h : leaf < l) : (aD leaf l).length≤5:=by
  obtain ⟨m,hm,rfl⟩:=hl.pow;exact (by decide +kernel : ∀ m≤5,∀ leaf < 2 ^ m,(aD leaf (2 ^ m)).length≤5) m hm leaf h
theorem Dv {leaf l : Nat} (hl : Fit l) (h : leaf < l) : ∀ x ∈ aD leaf l,x < 2 * l - 1∧x % 2 = 1∧lo x≤leaf∧leaf≤hi x:=by
  obtain ⟨m,hm,rfl⟩:=hl.pow;exact (by decide +kernel : ∀ m≤5,∀ leaf < 2 ^ m,∀ x ∈ aD leaf (2 ^ m),x < 2 * 2 ^ m - 1∧x % 2 = 1∧lo x≤leaf∧leaf≤hi x) m hm leaf h
def n6 (leaf l : Nat) : List Nat:=(aD leaf l).reverse ++ [2 * leaf]
def vV (leaf l : Nat) : Nat→Nat × Nat
  | 0=>(0,2 * l - 2)
  | j + 1=>let s:=vV leaf l j; let Ct:=(s.1 + s.2) / 2; if 2 * leaf < Ct then (s.1,Ct - 1) else (Ct + 1,s.2)
theorem HP {leaf l : Nat} (hl : Fit l) (h : leaf < l) {j : Nat} (hj : j < (n6 leaf l).length) :
    (n6 leaf l)[j]? = some (((vV leaf l j).1 + (vV leaf l j).2) / 2)∧(j + 1 = (n6 leaf l).length↔2 * leaf = ((vV leaf l j).1 + (vV leaf l j).2) / 2)∧(vV leaf l j).1 + (vV leaf l j).2≤200:=by
  obtain ⟨m,hm,rfl⟩:=hl.pow;exact (by decide +kernel : ∀ m≤5,∀ leaf < 2 ^ m,∀ j < (n6 leaf (2 ^ m)).length,(n6 leaf (2 ^ m))[j]? = some (((vV leaf (2 ^ m) j).1 + (vV leaf (2 ^ m) j).2) / 2)∧(j + 1 = (n6 leaf (2 ^ m)).length↔2 * leaf = ((vV leaf (2 ^ m) j).1 + (vV leaf (2 ^ m) j).2) / 2)∧(vV leaf (2 ^ m) j).1 + (vV leaf (2 ^ m) j).2≤200) m hm leaf h j hj
theorem M9 : ∀ n < 63,(n % 2 = 1→lv n = lv (n / 2) + 1)∧(n % 2 = 0→lv n = 0):=by decide +kernel
theorem Nd : ∀ n < 63,lv n≠0→lo (n - hf n) = lo n∧lv (n - hf n) + 1 = lv n∧n - hf n < 63∧hf n≤n:=by decide +kernel
theorem Ni : ∀ n < 63,lv n≠0→hi (n + hf n) = hi n∧lv (n + hf n) + 1 = lv n∧n + hf n < 63:=by decide +kernel
theorem Gx : ∀ n < 63,lv n = 0→lo n = n / 2∧hi n = n / 2:=by decide +kernel
def aP (l : List Nat) : List Int:=l.map fun (n : Nat)=>(n : Int)
theorem bo (l : List Nat) : (aP l).length = l.length:=by simp [aP]
end Go.AM
namespace Go.Proofs.YtbiefppedlodiaaGreatDoor
open Go Go.AM Go.Proofs Tryz
variable {Γ : Nat→List AV}
theorem sq (x : Int) (s : AS) : ai prog Γ 148 [.v (.int .i64 x)] s (fun r s'=>r = .v (.bool (decide (sn x)))∧s' = s):=by
 refine aa func148 rfl ntmps148 results148 (by simp) ?_;refine jA ?_;by_cases h1 : 1≤x
 ·by_cases h2 : x≤32
  ·obtain ⟨n,rfl⟩:=Int.eq_ofNat_of_zero_le (show 0≤x by omega);refine jB (Ai (decide_eq_true h1) (Ai (decide_eq_true h2) (M8 n (by omega) (by omega)))) ?_;refine jI ?_;exact jW ⟨by simp only [oO],rfl⟩
  ·have hn : decide (sn x) = false:=(decide_eq_false fun h=>by have:=oP h; omega);refine jB (Ai (decide_eq_true h1) (decide_eq_false h2)) ?_;refine jI ?_;rw [hn];exact jW ⟨rfl,rfl⟩
 ·have hn : decide (sn x) = false:=(decide_eq_false fun h=>by have:=oP h; omega);refine jB (decide_eq_false h1) ?_;refine jI ?_;rw [hn];exact jW ⟨rfl,rfl⟩
theorem qd (x : Int) (s : AS) : ai prog Γ 149 [.v (.int .i64 x)] s (fun r s'=>r = .v (.int .i64 (JL x))∧s' = s):=by
 refine aa func149 rfl ntmps149 results149 (by simp) ?_;refine jA ?_;refine wK fun K hK=>?_;refine jQ fun K hK=>?_;refine ad (sq x _) ?_;rintro r s1 ⟨rfl,rfl⟩;by_cases h : sn x
 ·have hb:=oP h;rw [decide_eq_true h];refine jR hK ?_;clear hK K;refine jF ?_;refine ab ?_;refine hK _ _ ?_;clear hK K;refine jA ?_;refine jI ?_;rw [dJ (a:=2) (b:=x) (by omega),cf (a:=2 * x) (b:=1) (by omega),show JL x = 2 * x - 1 from if_pos h];exact jW ⟨rfl,rfl⟩
 ·rw [decide_eq_false h];refine jR hK ?_;clear hK K;refine jE ?_;refine jA ?_;refine jI ?_;rw [show JL x = 0 from if_neg h];exact jW ⟨rfl,rfl⟩
theorem Dw {l : Nat} (h : Fit l) : JL (l : Int) = ((2 * l - 1 : Nat) : Int):=by
 have:=h.le;unfold JL;rw [if_pos (oO.2 h)];omega
theorem lW (hG : Γ 3 = eS.map nH) (n l : Nat) (hl : Fit l) (hn : n < 2 * l - 1) (s : AS) : ai prog Γ 106 [.v (.int .i64 n),.v (.int .i64 l)] s
  (fun r s'=>r = .dX [.v (.int .i64 ((qL n l).getD 0)),.v (.bool (qL n l).isSome)]∧s' = s):=by
 refine aa func106 rfl ntmps106 results106 (by simp) ?_;have HQ:=hl.le;have I4 : n < 63:=(by omega);have h0 : decide ((n : Int) < 0) = false:=decide_eq_false (by omega);have h1 : decide (((2 * l - 1 : Nat) : Int)≤(n : Int)) = false:=decide_eq_false (by omega);have hw:=Dw hl;have hp:=lI (nG n);obtain ⟨a1,a2,a3⟩:=HO n I4;refine jA ?_;refine wK fun K hK=>?_;refine jS @h0 fun K hK=>?_;refine ad (qd l _) ?_;rintro r s1 ⟨rfl,rfl⟩;by_cases he : n = l - 1
 ·have h2 : (((n : Nat) : Int) == dC .i64 (l : Int) 1) = true:=(by rw [cf (by omega),beq_iff_eq]; omega);refine jV (Ai @hw (Ai @h1 @h2)) hK ?_;clear hK K;refine jE ?_;refine jA ?_;refine jI ?_;rw [show qL n l = none from if_pos he];exact jW ⟨rfl,rfl⟩
 ·have h2 : (((n : Nat) : Int) == dC .i64 (l : Int) 1) = false:=(by rw [cf (by omega),beq_eq_false_iff_ne]; omega);have ha : qL n l = some (p9 n):=if_neg he;refine jV (Ai @hw (Ai @h1 @h2)) hK ?_;clear hK K;refine jF ?_;refine ab ?_;refine hK _ _ ?_;clear hK K;refine jQ fun K hK=>?_;refine ad (oN hG n _) ?_;rintro r s2 ⟨rfl,rfl⟩;refine jV (Ai (eA I4) (JJ (nG n))) hK ?_;clear hK K;refine wK fun K hK=>?_;by_cases hb : n / 2 ^ (lv n + 1) % 2 = 0
  ·rw [decide_eq_true hb] at a1;refine jB @a1 ?_;refine jE ?_;refine jB @a2 ?_;refine jI ?_;rw [ha,show p9 n = n + 2 ^ lv n from if_pos hb];exact jW ⟨rfl,rfl⟩
  ·rw [decide_eq_false hb] at a1;refine jB @a1 ?_;refine jF ?_;refine ab ?_;refine hK _ _ ?_;clear hK K;refine jB (a3 hb) ?_;refine jI ?_;rw [ha,show p9 n = n - 2 ^ lv n from if_neg hb];exact jW ⟨rfl,rfl⟩
def nI : AV→Nat
 | .sl _ n _ _=>n
 | _=>0
theorem gT (hG : Γ 3 = eS.map nH) (leaf l : Nat) (hl : Fit l) (hn : leaf < l) (s : AS) : ai prog Γ 47 [.v (.int .i64 leaf),.v (.int .i64 l)] s
  (fun r s'=>r = aH (aP (aD leaf l)) .any∧s' = s):=by
 refine aa func47 rfl ntmps47 results47 (by simp) ?_;have HQ:=hl.le;have vj:=fW hl hn;have h0 : decide ((leaf : Int) < 0) = false:=decide_eq_false (by omega);have h1 : decide ((l : Int)≤(leaf : Int)) = false:=decide_eq_false (by omega);have iG:=fun (i : Nat) (h : i≤(aD leaf l).length)=>Fj hl hn h;have PG : ∀ i,i < (aD leaf l).length→nodeAt leaf l (i + 1) = (aD leaf l).getD i 0:=fun i _=>rfl;have Rc : nodeAt leaf l 0 = 2 * leaf:=rfl;generalize aD leaf l = P at *
 refine jA ?_;refine wK fun K hK=>?_;refine jB (Ai @h0 @h1) ?_;refine jF ?_;refine ab ?_;refine hK _ _ ?_;clear hK K;refine jA ?_;refine wK fun K hK=>?_;refine jQ fun K hK=>?_;obtain ⟨w0,w1⟩:=iG 0 (Nat.zero_le _);rw [Rc] at w0 w1;have e0 : iF .i64 2 (leaf : Int) = ((2 * leaf : Nat) : Int):=(by rw [dJ (by omega)]; omega);rw [e0];refine ad (lW hG (2 * leaf) l hl w0 _) ?_;rintro r s1 ⟨rfl,rfl⟩;rw [w1];refine jR hK ?_;clear hK K;refine ag ?_;refine aC (fun E s2=>∃ (i : Nat) (x : AV),i≤P.length∧E 6 = .v (.int .i64 (((P[i]?).getD 0 : Nat) : Int))∧E 7 = .v (.bool (P[i]?).isSome)∧E 1 = .v (.int .i64 l)∧E 5 = x∧dz 1 s1 s2 x i ((aP (P.take i)).map aM)∧s1.le s2)
  (fun E _=>P.length + 1 - nI (E 5)) ?_ ?_
 ·exact ⟨0,bO,Nat.zero_le _,rfl,rfl,rfl,rfl,dz.nil _ _ _,AS.le.refl _⟩
 ·rintro E1 s2 ⟨i,x,hi,g6,g7,g1,g5,hx,hle⟩ -
  refine wK fun K2 aV=>?_;by_cases aX : i < P.length
  ·have hp : P[i]? = some P[i]:=List.getElem?_eq_getElem aX;rw [hp] at g6 g7;simp only [Option.getD_some,Option.isSome_some] at g6 g7;refine jB @g7 ?_;refine jE ?_;refine ab ?_;refine aV _ _ ?_;clear aV K2;refine wK fun K3 br=>?_;refine ag ?_;have xq : nodeAt leaf l (i + 1) = P[i]:=(by rw [PG i aX,List.getD,hp]; rfl);obtain ⟨w2,w3⟩:=iG (i + 1) aX;rw [xq] at w2 w3;have dN : aP (P.take (i + 1)) = aP (P.take i) ++ [((P[i] : Nat) : Int)]:=(by unfold aP; rw [List.take_succ_eq_append_getElem aX,List.map_append]; rfl);have bX : ∀ (E : Env) (s3 : AS) (x3 : AV),E 6 = .v (.int .i64 (P[i] : Nat))→E 1 = .v (.int .i64 l)→E 5 = x3→dz 1 s1 s3 x3 (i + 1) ((aP (P.take (i + 1))).map aM)→s1.le s3→K3 E s3:=by
    intro E s3 x3 f6 f1 f5 fx BA;refine br _ _ ?_;clear br K3;refine jU (Ai @f6 @f1) fun K hK=>?_;refine ad (lW hG (P[i]) l hl w2 _) ?_;rintro r s4 ⟨rfl,rfl⟩;rw [w3];refine jM ?_;refine hK _ _ ⟨⟨i + 1,x3,aX,rfl,rfl,f1,f5,fx,BA⟩,?_⟩;have m1 : nI (E1 5) = i:=by
     rw [g5];rcases hx with ⟨rfl,rfl,_⟩ | ⟨t,e,rfl,_⟩ <;> rfl
    have m2 : nI (E 5) = i + 1:=by
     rw [f5];rcases fx with ⟨rfl,h,_⟩ | ⟨t,e,rfl,_⟩
     ·omega
     ·rfl
    simp only [aF,Nc,↓reduceIte,m1,m2];omega
   clear br;rcases hx with ⟨rfl,fX,vW⟩ | ⟨t,e,rfl,ht,lh⟩
   ·refine wE fun K hK=>?_;simp only [↓DN,Qa,Qb,Qc,Qd,Qe,Qf,Qg,Qh,reduceCtorEq,↓reduceIte,Na,Nb,Nc,Nk,Nf,Ng,Nh,Za,Zb,Zc,TT,g5,g6,bO,List.replicate_succ];intro t ht;refine hK _ _ (bX _ _ (.sl 1 1 [.v (.int .i64 ((P[i] : Nat) : Int))] (.own t 0)) g6 g1 rfl ?_ ?_)
    ·refine .inr ⟨t,0,?_,by simp [AS.bC],bf hle ht⟩;rw [dN,List.map_append,vW];subst fX;rfl
    ·exact AS.bq hle (bf hle ht) 0
   ·refine wE fun K hK=>?_;simp only [↓DN,Qa,Qb,Qc,Qd,Qe,Qf,Qg,Qh,reduceCtorEq,↓reduceIte,Na,Nb,Nc,Nk,Nf,Ng,Nh,Za,Zb,Zc,TT,g5,g6,ht,List.replicate_succ];have HR : (aP (P.take i)).length = i:=(by rw [bo,List.length_take]; omega);refine ⟨by omega,by omega,hK _ _ (bX _ _ (.sl 1 (i + 1) ((aP (P.take i)).map aM ++ [.v (.int .i64 ((P[i] : Nat) : Int))]) (.own t (e + 1))) g6 g1 rfl ?_ ?_)⟩
    ·exact .inr ⟨t,e + 1,by rw [dN,List.map_append]; rfl,by simp [AS.bC],lh⟩
    ·exact AS.bq hle lh (e + 1)
  ·have hp : P[i]? = none:=List.getElem?_eq_none (by omega);rw [hp] at g7;simp only [Option.isSome_none] at g7;refine jB @g7 ?_;refine jF ?_;refine aA ?_;simp only [az,ar,if_true];refine hK _ _ ?_;clear hK aV K2 K;obtain rfl : i = P.length:=(by omega);rw [List.take_of_length_le (Nat.le_refl _)] at hx;have hw:=hx.aB;refine jB @g5 ?_;refine jI ?_;refine ⟨_,_,?_,hle,rfl,rfl⟩;have HR:=bo P;unfold aH;rw [HR];exact hw
theorem JM (x : Int) : sn x↔x = 1∨x = 2∨x = 4∨x = 8∨x = 16∨x = 32:=by unfold sn Fit; omega
theorem vu (x : Int) (s : AS) : ai prog Γ 115 [.v (.int .i64 x)] s (fun r s'=>r = .v (.bool (decide (sn x)))∧s' = s):=by
 refine aa func115 rfl ntmps115 results115 (by simp) ?_;refine jA ?_;rcases tt6 (x == 1) (x == 2) (x == 4) (x == 8) (x == 16) (x == 32) with hd | hd | hd | hd | hd | hd | hd;all_goals
  refine jB @hd ?_;refine jI ?_;simp only [beq_iff_eq,beq_eq_false_iff_ne,ne_eq] at hd;have hf:=JM x
 case inr.inr.inr.inr.inr.inr =>
  rw [decide_eq_false (by rw [hf]; omega)];exact jW ⟨rfl,rfl⟩
 all_goals
  rw [decide_eq_true (by rw [hf]; omega)];exact jW ⟨rfl,rfl⟩
theorem fA (x : Int) (s : AS) : ai prog Γ 125 [.v (.int .i64 x)] s (fun r s'=>r = .v (.int .i64 (pC x))∧s' = s):=by
 refine aa func125 rfl ntmps125 results125 (by simp) ?_;refine jA ?_;refine wK fun K hK=>?_;by_cases h : 0≤x∧x < 63
 ·obtain ⟨n,rfl⟩:=Int.eq_ofNat_of_zero_le h.1;have hn : n < 63:=(by omega);have h0 : decide ((n : Int) < 0) = false:=decide_eq_false (by omega);have h1 : decide ((62 : Int) < (n : Int)) = false:=decide_eq_false (by omega);refine jB (Ai @h0 @h1) ?_;refine jF ?_;refine ab ?_;refine hK _ _ ?_;clear hK K;refine jA ?_;refine wK fun K hK=>?_;refine jA ?_;refine ag ?_;refine aC (fun E s2=>∃ (k m : Nat),m < 63∧k + lv m = lv n∧E 3 = .v (.int .i64 k)∧E 4 = .v (.int .i64 m)∧s2 = s)
   (fun E _=>match E 4 with | .v (.int _ i)=>i.toNat | _=>0) ?_ ?_
  ·exact ⟨0,n,hn,by omega,rfl,rfl,rfl⟩
  ·rintro E1 s2 ⟨k,m,hm,hk,g3,g4,rfl⟩ -
   refine wK fun K2 aV=>?_;have WG:=M9 m hm;have hr : il (m : Int) 2 = ((m % 2 : Nat) : Int):=kK m 2;have hq : kA .i64 (m : Int) 2 = ((m / 2 : Nat) : Int):=eG m (by omega);by_cases xr : m % 2 = 1
   ·have EC:=WG.1 xr;have hle:=nG n;have hy : ((il (m : Int) 2) == 1) = true:=(by rw [hr]; exact mr (by omega));refine jB (Ai @g4 @hy) ?_;refine wC fun X Y hX hY=>?_;refine jP (Ai @DB @hy) ?_;refine hX ?_;clear hX hY X Y;refine ab ?_;refine aV _ _ ?_;clear aV K2;refine wK fun K3 br=>?_;refine ag ?_;refine jD @g3 ?_;simp only [ar,az,if_true,if_false];refine br _ _ ?_;clear br K3;refine jD (Ai @g4 (Ai @hq (eF k (by omega)))) ?_;refine ⟨⟨k + 1,m / 2,by omega,by omega,rfl,rfl,rfl⟩,?_⟩;simp only [g4,aF,↓reduceIte];omega
   ·have EC:=WG.2 (by omega);have hy : ((il (m : Int) 2) == 1) = false:=(by rw [hr]; exact lU (by omega));refine jB (Ai @g4 @hy) ?_;refine wC fun X Y hX hY=>?_;refine jP (Ai @DB @hy) ?_;refine hY ?_;clear hX hY X Y;refine aA ?_;simp only [az,ar,if_true];refine hK _ _ ?_;clear hK aV K2 K;refine jB @g3 ?_;refine jI ?_;exact jW ⟨by rw [eA hn,show k = lv n by omega],rfl⟩
 ·rw [show pC x = 0 from if_neg h];by_cases h0 : x < 0
  ·refine jB (decide_eq_true h0) ?_;refine jE ?_;refine jA ?_;exact jJ
  ·have h1 : (62 : Int) < x:=(by omega);refine jB (Ai (decide_eq_false h0) (decide_eq_true h1)) ?_;refine jE ?_;refine jA ?_;exact jJ
theorem nJ (x : Int) (hx : -9000000000000000000≤x∧x≤9000000000000000000) (s : AS) : ai prog Γ 76 [.v (.int .i64 x)] s
  (fun r s'=>r = (match fV x with | some k=>.dX [.v (.int .i64 k.1),.v (.int .i64 k.2),.v (.bool true)] | none=>.dX [.v (.int .i64 0),.v (.int .i64 0),.v (.bool false)])∧s' = s):=by
 refine aa func76 rfl ntmps76 results76 (by simp) ?_;have hl:=Bz x;have hp:=lI hl;refine jA ?_;refine wK fun K hK=>?_;refine jQ fun K hK=>?_;refine ad (fA x _) ?_;rintro r s1 ⟨rfl,rfl⟩;by_cases h : pC x = 0
 ·refine jV (M7 h) hK ?_;clear hK K;refine jE ?_;refine jA ?_;refine jI ?_;rw [show fV x = none from if_pos h];exact jW ⟨rfl,rfl⟩
 ·refine jV (Gw h) hK ?_;clear hK K;refine jF ?_;refine ab ?_;refine hK _ _ ?_;clear hK K;refine jA ?_;refine wK fun K hK=>?_;refine jA ?_;refine ag ?_;refine aC (fun E s2=>∃ (i : Nat),i < pC x∧E 6 = .v (.int .i64 ((i + 1 : Nat) : Int))∧E 5 = .v (.int .i64 ((2 ^ i : Nat) : Int))∧E 0 = .v (.int .i64 x)∧s2 = s1)
   (fun E _=>match E 6 with | .v (.int _ i)=>7 - i.toNat | _=>0) ?_ ?_
  ·exact ⟨0,by omega,rfl,rfl,rfl,rfl⟩
  ·rintro E1 s2 ⟨i,hi,g6,g5,g0,rfl⟩ -
   refine wK fun K2 aV=>?_;refine jS (Ai @g6 @g0) fun K hK=>?_;refine ad (fA x _) ?_;rintro r s3 ⟨rfl,rfl⟩;by_cases aX : i + 1 < pC x
   ·refine jV (Ai @ax (decide_eq_true aX)) hK ?_;clear hK K;refine jE ?_;refine ab ?_;refine aV _ _ ?_;clear aV K2;refine wK fun K3 br=>?_;refine ag ?_;have Ew:=lI (show i≤5 by omega);have hm : iF .i64 ((2 ^ i : Nat) : Int) 2 = ((2 ^ (i + 1) : Nat) : Int):=(by rw [dJ (by omega),Nat.pow_succ]; omega);refine jD (Ai @g5 @hm) ?_;simp only [ar,az,if_true,if_false];refine br _ _ ?_;clear br K3;refine jD (Ai @g6 (eF (i + 1) (by omega))) ?_;refine ⟨⟨i + 1,aX,rfl,rfl,g0,rfl⟩,?_⟩;simp only [g6,aF,↓reduceIte];omega
   ·refine jV (Ai @ax (decide_eq_false aX)) hK ?_;clear hK K;refine jF ?_;refine aA ?_;simp only [az,ar,if_true];refine hK _ _ ?_;clear hK aV K2 K;have he : 2 ^ i = 2 ^ pC x / 2:=by
     rw [show pC x = i + 1 by omega,Nat.pow_succ]; omega
    rw [he] at g5;refine jB (Ai @g5 (Ai @g0 (Ai (cf (a:=x) (b:=((2 ^ pC x / 2 : Nat) : Int)) (by omega)) (eE (a:=x) (b:=((2 ^ pC x / 2 : Nat) : Int)) (by omega))))) ?_;refine jI ?_;rw [show fV x = some (_,_) from if_neg h];exact jW ⟨rfl,rfl⟩
theorem Dx (leaf l : Nat) (hl : Fit l) (hn : leaf < l) (s : AS) : ai prog Γ 116 [.v (.int .i64 ((2 * leaf : Nat) : Int)),.v (.int .i64 l)] s
  (fun r s'=>r = aH (aP (n6 leaf l)) .any∧s' = s):=by
 refine aa func116 rfl ntmps116 results116 (by simp) ?_;have HQ:=hl.le;have vj:=fW hl hn;have yC : (n6 leaf l).length≤6:=(by simp [n6]; omega);have Mx : 0 < (n6 leaf l).length:=(by simp [n6]);have iG:=fun (i : Nat) (h : i < (n6 leaf l).length)=>HP hl hn h;have me : vV leaf l 0 = (0,2 * l - 2):=rfl;have ik : ∀ j,vV leaf l (j + 1) = (if 2 * leaf < ((vV leaf l j).1 + (vV leaf l j).2) / 2 then ((vV leaf l j).1,((vV leaf l j).1 + (vV leaf l j).2) / 2 - 1) else (((vV leaf l j).1 + (vV leaf l j).2) / 2 + 1,(vV leaf l j).2)):=fun j=>rfl;generalize n6 leaf l = P at *
 generalize vV leaf l = S at *
 refine jA ?_;refine jA ?_;have e0 : dC .i64 (iF .i64 2 (l : Int)) 2 = ((2 * l - 2 : Nat) : Int):=(by rw [ca l (by omega),cf (by omega)]; omega);refine jB @e0 ?_;refine ag ?_;refine aC (fun E s2=>∃ (i : Nat) (x : AV),i < P.length∧E 6 = .v (.int .i64 ((S i).1 : Nat))∧E 7 = .v (.int .i64 ((S i).2 : Nat))∧E 0 = .v (.int .i64 ((2 * leaf : Nat) : Int))∧E 5 = x∧dz 1 s s2 x i ((aP (P.take i)).map aM)∧s.le s2)
  (fun E _=>P.length + 1 - nI (E 5)) ?_ ?_
 ·refine ⟨0,_,Mx,?_,?_,rfl,rfl,dz.nil _ _ _,AS.le.refl _⟩
  ·rw [me]; simp only [aF,Nc,↓reduceIte]; rfl
  ·rw [me]; simp only [aF,Nc,↓reduceIte]
 ·rintro E1 s2 ⟨i,x,hi,g6,g7,g0,g5,hx,hle⟩ -
  refine ag ?_;obtain ⟨w1,w2,w3⟩:=iG i hi;obtain ⟨Ct,WH⟩ : ∃ m,m = ((S i).1 + (S i).2) / 2:=⟨_,rfl⟩;have Fk:=ik i;rw [← WH] at w1 w2 Fk;have e1 : kA .i64 (dP .i64 (((S i).1 : Nat) : Int) (((S i).2 : Nat) : Int)) 2 = (Ct : Int):=by
   rw [eE (by omega),show (((S i).1 : Nat) : Int) + (((S i).2 : Nat) : Int) = (((S i).1 + (S i).2 : Nat) : Int) by omega,eG _ (by omega),WH]
  refine jB (Ai @g6 (Ai @g7 @e1)) ?_;have dN : aP (P.take (i + 1)) = aP (P.take i) ++ [(Ct : Int)]:=by
   unfold aP;rw [List.take_succ_eq_append_getElem hi,List.map_append];rw [List.getElem?_eq_getElem hi] at w1;rw [Option.some.inj w1];rfl
  refine wK fun K3 br=>?_;have bX : ∀ (E : Env) (s3 : AS) (x3 : AV),E 0 = .v (.int .i64 ((2 * leaf : Nat) : Int))→E 6 = .v (.int .i64 ((S i).1 : Nat))→E 7 = .v (.int .i64 ((S i).2 : Nat))→E 8 = .v (.int .i64 Ct)→E 5 = x3→dz 1 s s3 x3 (i + 1) ((aP (P.take (i + 1))).map aM)→s.le s3→K3 E s3:=by
   intro E s3 x3 f0 f6 f7 f8 f5 fx BA;refine br _ _ ?_;clear br K3;refine wK fun K4 ee=>?_;by_cases he : 2 * leaf = Ct
   ·have WI:=w2.2 he;refine jB (Ai @f0 @f8) ?_;refine wC fun X Y hX hY=>?_;refine jP (Ai @DB (mr (show ((2 * leaf : Nat) : Int) = (Ct : Int) by omega))) ?_;refine hX ?_;clear hX hY X Y;rw [WI,List.take_of_length_le (Nat.le_refl _)] at fx;have hw:=fx.aB;refine jB @f5 ?_;refine jI ?_;refine ⟨_,_,?_,BA,rfl,rfl⟩;have HR:=bo P;unfold aH;rw [HR];exact hw
   ·have WI : i + 1 < P.length:=by
     have:=mt w2.1 he;omega
    refine jB (Ai @f0 @f8) ?_;refine wC fun X Y hX hY=>?_;refine jP (Ai @DB (lU (show ¬ ((2 * leaf : Nat) : Int) = (Ct : Int) by omega))) ?_;refine hY ?_;clear hX hY X Y;refine ab ?_;refine ee _ _ ?_;clear ee K4;have m1 : nI (E1 5) = i:=by
     rw [g5];rcases hx with ⟨rfl,rfl,_⟩ | ⟨t,e,rfl,_⟩ <;> rfl
    have m2 : nI (E 5) = i + 1:=by
     rw [f5];rcases fx with ⟨rfl,h,_⟩ | ⟨t,e,rfl,_⟩
     ·omega
     ·rfl
    by_cases bI : 2 * leaf < Ct
    ·rw [if_pos bI] at Fk;have e2 : dC .i64 (Ct : Int) 1 = ((Ct - 1 : Nat) : Int):=(by rw [cf (by omega)]; omega);refine jB (Ai @f0 @f8) ?_;refine wC fun X Y hX hY=>?_;refine jP (Ai @DB (Ai (eq_true (show ((2 * leaf : Nat) : Int) < (Ct : Int) by omega)) @not_true_eq_false)) ?_;refine hX ?_;clear hX hY X Y;refine jD (Ai @f8 @e2) ?_;refine ⟨⟨i + 1,x3,WI,?_,?_,f0,f5,fx,BA⟩,?_⟩
     ·rw [Fk]; simp only [aF,f6,Nc,↓reduceIte]
     ·rw [Fk]; simp only [aF,Nc,↓reduceIte]
     ·simp only [aF,Nc,↓reduceIte,m1,m2];omega
    ·rw [if_neg bI] at Fk;refine jB (Ai @f0 @f8) ?_;refine wC fun X Y hX hY=>?_;refine jP (Ai @DB (Ai (eq_false (show ¬ ((2 * leaf : Nat) : Int) < (Ct : Int) by omega)) @not_false_eq_true)) ?_;refine hY ?_;clear hX hY X Y;refine jD (Ai @f8 (eF Ct (by omega))) ?_;refine ⟨⟨i + 1,x3,WI,?_,?_,f0,f5,fx,BA⟩,?_⟩
     ·rw [Fk]; simp only [aF,Nc,↓reduceIte]
     ·rw [Fk]; simp only [aF,f7,Nc,↓reduceIte]
     ·simp only [aF,Nc,↓reduceIte,m1,m2];omega
  clear br;rcases hx with ⟨rfl,fX,vW⟩ | ⟨t,e,rfl,ht,lh⟩
  ·refine wE fun K hK=>?_;simp only [↓DN,Qa,Qb,Qc,Qd,Qe,Qf,Qg,Qh,reduceCtorEq,↓reduceIte,Na,Nb,Nc,Nk,Nf,Ng,Nh,Za,Zb,Zc,TT,g5,bO,List.replicate_succ];intro t ht;refine hK _ _ (bX _ _ (.sl 1 1 [.v (.int .i64 (Ct : Int))] (.own t 0)) g0 g6 g7 rfl rfl ?_ ?_)
   ·refine .inr ⟨t,0,?_,by simp [AS.bC],bf hle ht⟩;rw [dN,List.map_append,vW];subst fX;rfl
   ·exact AS.bq hle (bf hle ht) 0
  ·refine wE fun K hK=>?_;simp only [↓DN,Qa,Qb,Qc,Qd,Qe,Qf,Qg,Qh,reduceCtorEq,↓reduceIte,Na,Nb,Nc,Nk,Nf,Ng,Nh,Za,Zb,Zc,TT,g5,ht,List.replicate_succ];have HR : (aP (P.take i)).length = i:=(by rw [bo,List.length_take]; omega);refine ⟨by omega,by omega,hK _ _ (bX _ _ (.sl 1 (i + 1) ((aP (P.take i)).map aM ++ [.v (.int .i64 (Ct : Int))]) (.own t (e + 1))) g0 g6 g7 rfl rfl ?_ ?_)⟩
   ·exact .inr ⟨t,e + 1,by rw [dN,List.map_append]; rfl,by simp [AS.bC],lh⟩
   ·exact AS.bq hle lh (e + 1)
theorem Nj {leaf l i : Nat} (h : i < (aD leaf l).length) : (aP (n6 leaf l))[(aD leaf l).length - 1 - i]? = some ((((aD leaf l)[i]'h : Nat)) : Int):=by
 unfold aP n6;rw [List.getElem?_map,List.getElem?_append_left (by simp; omega),List.getElem?_reverse (by omega)];rw [show (aD leaf l).length - 1 - ((aD leaf l).length - 1 - i) = i by omega,List.getElem?_eq_getElem h];rfl
theorem vv (leaf l : Nat) (hl : Fit l) (hn : leaf < l) (s : AS) : ai prog Γ 54 [.v (.int .i64 leaf),.v (.int .i64 l)] s
  (fun r s'=>r = aH (aP (aD leaf l)) .any∧s' = s):=by
 refine aa func54 rfl ntmps54 results54 (by simp) ?_;have HQ:=hl.le;have vj:=fW hl hn;have hg:=fun (i : Nat) (h : i < (aD leaf l).length)=>Nj h;have Mc : (aP (n6 leaf l)).length = (aD leaf l).length + 1:=(by rw [bo]; simp [n6]);have xap:=fun s=>Dx (Γ:=Γ) leaf l hl hn s;generalize aP (n6 leaf l) = W at *
 generalize aD leaf l = P at *
 have hf : decide (sn (l : Int)) = true:=decide_eq_true (oO.2 hl);have h1 : decide ((l : Int)≤(leaf : Int)) = false:=decide_eq_false (by omega);refine jA ?_;refine wK fun K hK=>?_;refine jQ fun K hK=>?_;refine ad (vu l _) ?_;rintro r s1 ⟨rfl,rfl⟩;rw [hf];refine jV (Ai @WE @h1) hK ?_;clear hK K;refine jF ?_;refine ab ?_;refine hK _ _ ?_;clear hK K;refine jS (ca leaf (by omega)) fun K hK=>?_;refine ad (xap _) ?_;rintro r s2 ⟨rfl,rfl⟩;refine jR hK ?_;clear hK K;refine jA ?_;refine wK fun K hK=>?_;have e0 : dC .i64 (W.length : Int) 2 = ((P.length : Nat) : Int) - 1:=(by rw [cf (by omega)]; omega);refine jB (Ai @aH.eq_1 @e0) ?_;refine ag ?_;refine aC (fun E s3=>∃ (i : Nat) (x : AV),i≤P.length∧E 7 = .v (.int .i64 (((P.length : Nat) : Int) - 1 - (i : Int)))∧E 5 = .sl 1 W.length (W.map aM) .any∧E 6 = x∧dz 1 s2 s3 x i ((aP (P.take i)).map aM)∧s2.le s3)
  (fun E _=>P.length + 1 - nI (E 6)) ?_ ?_
 ·refine ⟨0,_,Nat.zero_le _,?_,rfl,rfl,dz.nil _ _ _,AS.le.refl _⟩;simp only [aF,Nc,↓reduceIte];congr 2;omega
 ·rintro E1 s3 ⟨i,x,hi,g7,g5,g6,hx,hle⟩ -
  refine wK fun K2 aV=>?_;by_cases aX : i < P.length
  ·have cz : decide ((0 : Int)≤(((P.length : Nat) : Int) - 1 - (i : Int))) = true:=decide_eq_true (by omega);refine jB (Ai @g7 @cz) ?_;refine jE ?_;refine ab ?_;refine aV _ _ ?_;clear aV K2;refine wK fun K3 br=>?_;refine ag ?_;have dN : aP (P.take (i + 1)) = aP (P.take i) ++ [((P[i] : Nat) : Int)]:=(by unfold aP; rw [List.take_succ_eq_append_getElem aX,List.map_append]; rfl);have bX : ∀ (E : Env) (s4 : AS) (x3 : AV),E 7 = .v (.int .i64 (((P.length : Nat) : Int) - 1 - (i : Int)))→E 5 = .sl 1 W.length (W.map aM) .any→E 6 = x3→dz 1 s2 s4 x3 (i + 1) ((aP (P.take (i + 1))).map aM)→s2.le s4→K3 E s4:=by
    intro E s4 x3 f7 f5 f6 fx BA;refine br _ _ ?_;clear br K3;refine jD @f7 ?_;refine ⟨⟨i + 1,x3,aX,?_,f5,f6,fx,BA⟩,?_⟩
    ·simp only [aF,Nc,↓reduceIte];rw [cf (by omega)];congr 2;omega
    ·have m1 : nI (E1 6) = i:=by
      rw [g6];rcases hx with ⟨rfl,rfl,_⟩ | ⟨t,e,rfl,_⟩ <;> rfl
     have m2 : nI (E 6) = i + 1:=by
      rw [f6];rcases fx with ⟨rfl,h,_⟩ | ⟨t,e,rfl,_⟩
      ·omega
      ·rfl
     simp only [aF,Nc,↓reduceIte,m1,m2];omega
   clear br;have WJ:=hg i aX;obtain ⟨j,hj⟩ : ∃ j,j = P.length - 1 - i:=⟨_,rfl⟩;have Eu : ((P.length : Nat) : Int) - 1 - (i : Int) = (j : Int):=(by omega);have Y9 : j < W.length:=(by omega);rw [← hj] at WJ;have dw : List.take 1 (List.drop j (W.map aM)) = [.v (.int .i64 ((P[i] : Nat) : Int))]:=by
    rw [eU Y9];rw [List.getElem?_eq_getElem Y9] at WJ;rw [Option.some.inj WJ]
   have cz : (0 : Int)≤(j : Int):=(by omega);rw [Eu] at g7 bX;rcases hx with ⟨rfl,fX,vW⟩ | ⟨t,e,rfl,ht,lh⟩
   ·refine wE fun K hK=>?_;simp only [↓DN,Qa,Qb,Qc,Qd,Qe,Qf,Qg,Qh,reduceCtorEq,↓reduceIte,Na,Nb,Nc,Nk,Nf,Ng,Nh,Za,Zb,Zc,TT,g5,g6,g7,bO,List.replicate_succ,ax,Y9,cz,dw];intro t ht;refine hK _ _ (bX _ _ (.sl 1 1 [.v (.int .i64 ((P[i] : Nat) : Int))] (.own t 0)) g7 g5 rfl ?_ ?_)
    ·refine .inr ⟨t,0,?_,by simp [AS.bC],bf hle ht⟩;rw [dN,List.map_append,vW];subst fX;rfl
    ·exact AS.bq hle (bf hle ht) 0
   ·refine wE fun K hK=>?_;simp only [↓DN,Qa,Qb,Qc,Qd,Qe,Qf,Qg,Qh,reduceCtorEq,↓reduceIte,Na,Nb,Nc,Nk,Nf,Ng,Nh,Za,Zb,Zc,TT,g5,g6,g7,ht,List.replicate_succ,ax,Y9,cz,dw];have HR : (aP (P.take i)).length = i:=(by rw [bo,List.length_take]; omega);refine ⟨by omega,by omega,hK _ _ (bX _ _ (.sl 1 (i + 1) ((aP (P.take i)).map aM ++ [.v (.int .i64 ((P[i] : Nat) : Int))]) (.own t (e + 1))) g7 g5 rfl ?_ ?_)⟩
    ·exact .inr ⟨t,e + 1,by rw [dN,List.map_append]; rfl,by simp [AS.bC],lh⟩
    ·exact AS.bq hle lh (e + 1)
  ·have cz : decide ((0 : Int)≤(((P.length : Nat) : Int) - 1 - (i : Int))) = false:=decide_eq_false (by omega);refine jB (Ai @g7 @cz) ?_;refine jF ?_;refine aA ?_;simp only [az,ar,if_true];refine hK _ _ ?_;clear hK aV K2 K;obtain rfl : i = P.length:=(by omega);rw [List.take_of_length_le (Nat.le_refl _)] at hx;have hw:=hx.aB;refine jB @g6 ?_;refine jI ?_;refine ⟨_,_,?_,hle,rfl,rfl⟩;have HR:=bo P;unfold aH;rw [HR];exact hw
theorem mu (x : Int) (s : AS) : ai prog Γ 65 [.v (.int .i64 x)] s (fun r s'=>r = .dX [.v (.int .i64 (kR x).1),.v (.int .i64 (kR x).2)]∧s' = s):=by
 refine aa func65 rfl ntmps65 results65 (by simp) ?_;refine jA ?_;refine wK fun K hK=>?_;by_cases h : 0≤x∧x < 63
 ·obtain ⟨n,rfl⟩:=Int.eq_ofNat_of_zero_le h.1;have hn : n < 63:=(by omega);have h1 : decide ((62 : Int) < (n : Int)) = false:=decide_eq_false (by omega);have Nl : kR (n : Int) = ((lo n : Int),(hi n : Int)):=if_pos h;refine jB (Ai @WE @h1) ?_;refine jF ?_;refine ab ?_;refine hK _ _ ?_;clear hK K;refine jA ?_;refine wK fun K hK=>?_;refine ag ?_;refine aC (fun E s2=>∃ (m : Nat),m < 63∧lo m = lo n∧E 4 = .v (.int .i64 m)∧E 5 = .v (.int .i64 n)∧s2 = s)
   (fun E _=>match E 4 with | .v (.int _ i)=>pC i | _=>0) ?_ ?_
  ·exact ⟨n,hn,rfl,rfl,rfl,rfl⟩
  ·rintro E1 s2 ⟨m,hm,A8,g4,g5,rfl⟩ -
   refine wK fun K2 aV=>?_;refine jS @g4 fun K hK=>?_;refine ad (fA m _) ?_;rintro r s3 ⟨rfl,rfl⟩;rw [eA hm];by_cases hz : lv m = 0
   ·refine jR hK ?_;clear hK K;refine wC fun X Y hX hY=>?_;refine jP (Ai @DB (Ai (eq_false (show ¬ (0 : Int) < ((lv m : Nat) : Int) by omega)) @not_false_eq_true)) ?_;refine hY ?_;clear hX hY X Y;refine aA ?_;simp only [az,ar,if_true];refine hK _ _ ?_;clear hK aV K2 K;have hL:=(Gx m hm hz).1;refine wK fun K hK=>?_;refine ag ?_;refine aC (fun E s4=>∃ (m' : Nat),m' < 63∧hi m' = hi n∧E 5 = .v (.int .i64 m')∧E 4 = .v (.int .i64 m)∧s4 = s3)
     (fun E _=>match E 5 with | .v (.int _ i)=>pC i | _=>0) ?_ ?_
    ·exact ⟨n,hn,rfl,g5,g4,rfl⟩
    ·clear g4 g5;rintro E2 s4 ⟨m',HA,Cp,g5,g4,rfl⟩ -
     refine wK fun K2 aV=>?_;refine jS @g5 fun K hK=>?_;refine ad (fA m' _) ?_;rintro r s5 ⟨rfl,rfl⟩;rw [eA HA];by_cases hz' : lv m' = 0
     ·refine jR hK ?_;clear hK K;refine wC fun X Y hX hY=>?_;refine jP (Ai @DB (Ai (eq_false (show ¬ (0 : Int) < ((lv m' : Nat) : Int) by omega)) @not_false_eq_true)) ?_;refine hY ?_;clear hX hY X Y;refine aA ?_;simp only [az,ar,if_true];refine hK _ _ ?_;clear hK aV K2 K;have hH:=(Gx m' HA hz').2;refine jB (Ai @g4 (Ai @g5 (Ai (eG m (by omega)) (eG m' (by omega))))) ?_;refine jI ?_;rw [← hL,← hH,A8,Cp,Nl];exact jW ⟨rfl,rfl⟩
     ·obtain ⟨w1,w2,w3⟩:=Ni m' HA hz';refine jR hK ?_;clear hK K;refine wC fun X Y hX hY=>?_;refine jP (Ai @DB (Ai (eq_true (show (0 : Int) < ((lv m' : Nat) : Int) by omega)) @not_true_eq_false)) ?_;refine hX ?_;clear hX hY X Y;refine ab ?_;refine aV _ _ ?_;clear aV K2;refine ag ?_;have Re : fV (m' : Int) = some (((m' : Int) - (hf m' : Int)),((m' + hf m' : Nat) : Int)):=by
       unfold fV;rw [eA HA,if_neg hz'];unfold hf;congr 2
      refine jU @g5 fun K hK=>?_;refine ad (nJ m' (by omega) _) ?_;rintro r s6 ⟨rfl,rfl⟩;rw [Re];refine jM ?_;refine hK _ _ ⟨⟨m' + hf m',w3,by rw [w1,Cp],rfl,g4,rfl⟩,?_⟩;simp only [g5,aF,↓reduceIte];rw [eA HA,eA w3];omega
   ·obtain ⟨w1,w2,w3,w4⟩:=Nd m hm hz;refine jR hK ?_;clear hK K;refine wC fun X Y hX hY=>?_;refine jP (Ai @DB (Ai (eq_true (show (0 : Int) < ((lv m : Nat) : Int) by omega)) @not_true_eq_false)) ?_;refine hX ?_;clear hX hY X Y;refine ab ?_;refine aV _ _ ?_;clear aV K2;refine ag ?_;have Re : fV (m : Int) = some (((m - hf m : Nat) : Int),((m : Int) + (hf m : Int))):=by
     unfold fV;rw [eA hm,if_neg hz];unfold hf at w4 ⊢;congr 2;omega
    refine jU @g4 fun K hK=>?_;refine ad (nJ m (by omega) _) ?_;rintro r s6 ⟨rfl,rfl⟩;rw [Re];refine jM ?_;refine hK _ _ ⟨⟨m - hf m,w3,by rw [w1,A8],rfl,g5,rfl⟩,?_⟩;simp only [g4,aF,↓reduceIte];rw [eA hm,eA w3];omega
 ·have Nl : kR x = (0,-1):=if_neg h;by_cases h0 : x < 0
  ·refine jB (decide_eq_true h0) ?_;refine jE ?_;refine jA ?_;refine jI ?_;rw [Nl];exact jW ⟨rfl,rfl⟩
  ·have h1 : (62 : Int) < x:=(by omega);refine jB (Ai (decide_eq_false h0) (decide_eq_true h1)) ?_;refine jE ?_;refine jA ?_;refine jI ?_;rw [Nl];exact jW ⟨rfl,rfl⟩
theorem Gy {k : Int} (h1 : -4611686018427387904≤k) (h2 : k≤4611686018427387904) : dC .i64 k 1 = k - 1:=IntWalk.i64_in _ (by omega)
theorem BB (n : Nat) (cs : List AV) (s : AS) :
  ai prog Γ 112 [.sl 1 n cs .any] s (fun r s'=>r = .pI 160 [.dc [.sl 1 n cs .any]]∧s' = s):=by
 refine aa func112 rfl ntmps112 results112 (by simp) ?_;refine aY 1 (by decide) ?_;intro K hK;refine jM ?_;intro o1 h1;refine hK _ _ o1 _ rfl h1 ?_;clear hK K;refine jA ?_;exact jJ
theorem xt (n : Nat) (cs : List AV) (s : AS) :
  ai prog Γ 110 [.sl 1 n cs .any] s (fun r s'=>r = .pI 157 [.dc [.sl 1 n cs .any]]∧s' = s):=by
 refine aa func110 rfl ntmps110 results110 (by simp) ?_;refine aY 1 (by decide) ?_;intro K hK;refine jM ?_;intro o1 h1;refine hK _ _ o1 _ rfl h1 ?_;clear hK K;refine jA ?_;exact jJ
theorem BC (cs : List AV) (n : Nat) (hl : cs.length = n) (hn : n≤2 ^ 40) :
  uQ prog Γ 160 [.dc [.sl 1 n cs .any]] (cs.map fun c=>[c]):=by
 refine Dp func160 rfl ntmps160 results160 (by simp) ?_;intro I l s G h0 hy;refine ew (ch.y ?_);refine jC ?_;refine pA ?_;refine Dn (fun E s'=>∃ i : Nat,i≤n∧E 0 = .v (.func (.yield l) #[] #[])∧E 5 = .sl 1 n cs .any∧E 6 = .v (.int .i64 n)∧E 7 = .v (.int .i64 i)∧I i s')
  (fun E _=>match E 7 with | .v (.int _ i)=>n - i.toNat | _=>0) ?_ ?_
 ·exact ⟨0,Nat.zero_le _,rfl,rfl,rfl,rfl,h0⟩
 rintro E s' ⟨i,hi,e0,e5,e6,e7,hI⟩ -
 by_cases aX : i < n
 ·have bI : ((i : Nat) : Int) < ((n : Nat) : Int):=(by omega);have h0i : (0 : Int)≤((i : Nat) : Int):=(by omega);obtain ⟨c,hc⟩ : ∃ c,cs[i]? = some c:=⟨cs[i]'(by omega),by simp [hl,aX]⟩;have fJ : (List.take 1 (List.drop i cs))[0]? = some c:=(by simp [List.getElem?_take,hc]);refine ew (ch.y ?_);refine jD (Ai @e6 (Ai @e7 (decide_eq_true bI))) ?_;refine ew (ch.y (pR (by simp only [aL,aF,↓reduceIte]) (ab ?_)));refine ew (pA ?_);refine ew (ch.y ?_);refine jD (Ai @e5 (Ai @e7 (Ai @bI (Ai @h0i @fJ)))) ?_;refine Fa (l:=l) (xs:=[_]) rfl rfl (by decide) ?_;intro K hK ops;refine jN @e0 ?_;refine ⟨_,hy i [c] _ (by simp [hc]) hI,?_⟩;intro s2 nY;refine hK _ _ ?_;clear hK K;refine ch.y (fa (by simp only [aL,aF,↓reduceIte]) (ab ?_));simp only [ar,az];refine ch.y ?_;refine jD (Ai @e7 (bj i (by omega))) ?_;refine ⟨⟨i + 1,by omega,e0,e5,e6,rfl,nY⟩,?_⟩;simp only [aF,e7,↓reduceIte,Int.toNat_natCast];omega
 ·have bI : ¬ ((i : Nat) : Int) < ((n : Nat) : Int):=(by omega);obtain rfl : i = n:=(by omega);refine ew (ch.y ?_);refine jD (Ai @e6 (Ai @e7 (decide_eq_false bI))) ?_;refine ew (ch.y (fa (by simp only [aL,aF,↓reduceIte]) (aA ?_)));simp only [ar,az,↓reduceIte];exact ⟨by simp,by simpa [hl] using hI⟩
theorem xu (l0 : List Int) (n : Nat) (hl : l0.length = n) (hn : n≤2 ^ 40) :
  uQ prog Γ 157 [.dc [.sl 1 n (l0.map aM) .any]] ((List.range n).map fun i=>[aM ((n - 1 - i : Nat) : Int),aM (l0.getD (n - 1 - i) 0)]):=by
 refine Dp func157 rfl ntmps157 results157 (by simp) ?_;intro I l s G h0 hy;refine ew (ch.y ?_);refine jC ?_;refine pA ?_;refine Dn (fun E s'=>∃ i : Nat,i≤n∧E 0 = .v (.func (.yield l) #[] #[])∧E 1 = .dc [.sl 1 n (l0.map aM) .any]∧E 3 = .v (.int .i64 ((n : Int) - 1 - i))∧I i s')
  (fun E _=>match E 3 with | .v (.int _ i)=>(i + 1).toNat | _=>0) ?_ ?_
 ·refine ⟨0,Nat.zero_le _,rfl,rfl,?_,h0⟩;simp only [aF,↓reduceIte,Nc];rw [Gy (by omega) (by omega)];simp
 rintro E s' ⟨i,hi,e0,e1,e3,hI⟩ -
 by_cases aX : i < n
 ·have cz : (n : Int) - 1 - i ≥ 0:=(by omega);have WK : (0 : Int)≤(n : Int) - 1 - i:=(by omega);have bI : (n : Int) - 1 - i < (n : Int):=(by omega);obtain ⟨k,hk⟩ : ∃ k : Nat,(n : Int) - 1 - i = (k : Int):=⟨n - 1 - i,by omega⟩;have hkn : n - 1 - i = k:=(by omega);rw [hk] at e3 cz WK bI;have fJ : (List.take 1 (List.drop k (l0.map aM)))[0]? = some (aM (l0.getD k 0)):=by
   have sr : k < l0.length:=(by omega);simp [List.getElem?_take,List.getD,sr]
  refine ew (ew (ch.y ?_));refine jD (Ai @e3 (decide_eq_true cz)) ?_;refine ch.y (pR (by simp only [aL,aF,↓reduceIte]) (ab ?_));simp only [az];refine ew (pA ?_);refine Fb (l:=l) (xs:=[_,_]) rfl rfl (by decide) ?_;intro K hK ops;refine jN (Ai @e0 (Ai @e1 (Ai @e3 (Ai @WK (Ai @bI @fJ))))) ?_;refine ⟨_,hy i [aM (k : Int),aM (l0.getD k 0)] _ (by simp [aX,hkn]) hI,?_⟩;intro s2 nY;refine hK _ _ ?_;clear hK K;refine ch.y (fa (by simp only [aL,aF,↓reduceIte]) (ab ?_));simp only [ar,az];refine ch.y ?_;refine jD (Ai @e3 (Gy (k:=(k : Int)) (by omega) (by omega))) ?_;refine ⟨⟨i + 1,by omega,e0,e1,?_,nY⟩,?_⟩
  ·simp only [aF,↓reduceIte,Nc];rw [show ((k : Nat) : Int) - 1 = (n : Int) - 1 - ((i + 1 : Nat) : Int) by omega]
  ·simp only [aF,e3,↓reduceIte,Nc];omega
 ·obtain rfl : i = n:=(by omega);have cz : ¬ (((i : Nat) : Int) - 1 - i ≥ 0):=(by omega);refine ew (ew (ch.y ?_));refine jD (Ai @e3 (decide_eq_false cz)) ?_;refine ch.y (fa (by simp only [aL,aF,↓reduceIte]) (aA ?_));simp only [ar,az,↓reduceIte];exact ⟨by simp,by simpa using hI⟩
end Go.Proofs.YtbiefppedlodiaaGreatDoor
namespace Go.AM
open Go Go.RowKit Go.Shelf Go.Proofs
variable {P : Program} {Γ : Nat→List AV} {G : Gh} {s : AS} {w : World} {N : Nat}
def Fl (i : Int) : Value:=.int .i64 i
theorem aq.ints {G : Gh} (l : List Int) : aq G (l.map aM) (l.map Fl):=by
  induction l with
  | nil=>simp [aq]
  | cons i l ih=>simp only [List.map_cons,aq]; exact ⟨Fl i,_,rfl,by simp [aM,Fl,au],ih⟩
theorem aq.Gz {G : Gh} : ∀ {l : List Int} {vs : List Value},aq G (l.map aM) vs→vs = l.map Fl
  | [],vs,h=>by simpa [aq] using h
  | i :: l,vs,h=>by
    simp only [List.map_cons,aq] at h;obtain ⟨u,us,rfl,h1,h2⟩:=h;rw [aq.Gz h2];simp only [aM,au] at h1;rw [h1];rfl
open Go
structure GA where
  kind : Int
  n : Int
  b : List UInt8
def GA.cells (p : GA) : List AV:=[.v (.int .i64 p.kind),.v (.int .i64 p.n),aj p.b .any]
def xar (ps : List GA) : List AV:=(ps.map GA.cells).flatten
end Go.AM
