/- Contracts of functions, each walked once; each theorem states its conditions. -/
import Derived.Test.YtbiefppedlodiaaGreatDoorProg
import Derived.Test.YtbiefppedlodiaaGreatDoorAMp4
import Derived.Test.YtbiefppedlodiaaGreatDoorAMp6
import Derived.Test.YtbiefppedlodiaaGreatDoorAMp5
import Derived.Test.YtbiefppedlodiaaGreatDoorAMp7
import Derived.Shelf.Spec.SlicesInsertGrow
set_option linter.unusedSimpArgs false
set_option linter.unusedVariables false
open Nat renaming reduceLT → Na, reduceLeDiff → Nb, reduceEqDiff → Nc, reduceAdd → Nk, reduceMul → Nf, reducePow → Ng, reduceSub → Nh, reduceBEq → Nz
open Int renaming reduceLT → Za, reduceLE → Zb, reduceToNat → Zc
open And renaming intro → Ai
open Go.AM renaming ashift → Qa, aconv → Qb, aindexAddr → Qc, aindex → Qd, aslice → Qe, abuiltin → Qf, awp_reg_seq → wS, awp_reg_end → wE, awp_seq_k → wK, awp_cond_k → wC
open Go.AM.AV renaming cells → Qg, one → Qh
set_option maxRecDepth 100000
set_option maxHeartbeats 8000000
namespace Go.Proofs.YtbiefppedlodiaaGreatDoor
open Go Go.AM Go.Proofs Tryz
theorem T.c3:prog.cellsOf 3=1:=by kernel_rfl
theorem T.b3:prog.bytesOf 3=8:=by kernel_rfl
theorem T.g3:bM prog 3=some false:=by kernel_rfl
theorem T.z3:bo prog 3=some [.v (.int .i64 0)]:=by kernel_rfl
theorem T.c4:prog.cellsOf 4=1:=by kernel_rfl
theorem T.b4:prog.bytesOf 4=1:=by kernel_rfl
theorem T.g4:bM prog 4=some false:=by kernel_rfl
theorem T.z4:bo prog 4=some [.v (.bool false)]:=by kernel_rfl
theorem T.c5:prog.cellsOf 5=1:=by kernel_rfl
theorem T.b5:prog.bytesOf 5=1:=by kernel_rfl
theorem T.g5:bM prog 5=some false:=by kernel_rfl
theorem T.z5:bo prog 5=some [.v (.int .u8 0)]:=by kernel_rfl
theorem T.c9:prog.cellsOf 9=1:=by kernel_rfl
theorem T.b9:prog.bytesOf 9=16:=by kernel_rfl
theorem T.g9:bM prog 9=some false:=by kernel_rfl
theorem T.z9:bo prog 9=some [.v (.string ByteArray.empty)]:=by kernel_rfl
theorem T.N0:prog.cellsOf 22=1:=by kernel_rfl
theorem T.b22:prog.bytesOf 22=24:=by kernel_rfl
theorem T.g22:bM prog 22=some false:=by kernel_rfl
theorem T.z22:bo prog 22=some [.v (.slice none 0 0)]:=by kernel_rfl
theorem T.s22:dH prog 22=true:=by kernel_rfl
theorem T.Dz:prog.cellsOf 23=1:=by kernel_rfl
theorem T.b23:prog.bytesOf 23=24:=by kernel_rfl
theorem T.g23:bM prog 23=some false:=by kernel_rfl
theorem T.z23:bo prog 23=some [.v (.slice none 0 0)]:=by kernel_rfl
theorem T.s23:dH prog 23=true:=by kernel_rfl
theorem T.F1:prog.cellsOf 24=1:=by kernel_rfl
theorem T.b24:prog.bytesOf 24=24:=by kernel_rfl
theorem T.g24:bM prog 24=some false:=by kernel_rfl
theorem T.z24:bo prog 24=some [.v (.slice none 0 0)]:=by kernel_rfl
theorem T.Lo:dH prog 24=true:=by kernel_rfl
theorem T.OO:prog.cellsOf 26=6:=by kernel_rfl
theorem T.b26:prog.bytesOf 26=112:=by kernel_rfl
theorem T.UK:bM prog 26=some true:=by kernel_rfl
theorem T.h26:fm prog 26=true:=by kernel_rfl
theorem T.Rg:b6 prog 26 0=some (0,22):=by kernel_rfl
theorem T.Rh:b6 prog 26 1=some (1,3):=by kernel_rfl
theorem T.Ri:b6 prog 26 3=some (3,23):=by kernel_rfl
theorem T.Rj:b6 prog 26 4=some (4,23):=by kernel_rfl
theorem T.Rk:b6 prog 26 5=some (5,24):=by kernel_rfl
theorem T.z26:bo prog 26=some [.v (.slice none 0 0),.v (.int .i64 0),.v (.int .i64 0),.v (.slice none 0 0),.v (.slice none 0 0),.v (.slice none 0 0)]:=by kernel_rfl
theorem T.Rf:prog.cellsOf 29=1:=by kernel_rfl
theorem T.b29:prog.bytesOf 29=8:=by kernel_rfl
theorem T.g29:bM prog 29=some false:=by kernel_rfl
theorem T.z29:bo prog 29=some [.v (.int .u64 0)]:=by kernel_rfl
theorem T.c30:prog.cellsOf 30=1:=by kernel_rfl
theorem T.b30:prog.bytesOf 30=24:=by kernel_rfl
theorem T.g30:bM prog 30=some false:=by kernel_rfl
theorem T.z30:bo prog 30=some [.v (.slice none 0 0)]:=by kernel_rfl
theorem T.s30:dH prog 30=true:=by kernel_rfl
theorem T.c32:prog.cellsOf 32=3:=by kernel_rfl
theorem T.b32:prog.bytesOf 32=56:=by kernel_rfl
theorem T.g32:bM prog 32=some true:=by kernel_rfl
theorem T.qH:fm prog 32=true:=by kernel_rfl
theorem T.Rl:b6 prog 32 0=some (0,29):=by kernel_rfl
theorem T.Rm:b6 prog 32 1=some (1,23):=by kernel_rfl
theorem T.Rn:b6 prog 32 2=some (2,30):=by kernel_rfl
theorem T.tv:bo prog 32=some [.v (.int .u64 0),.v (.slice none 0 0),.v (.slice none 0 0)]:=by kernel_rfl
theorem T.c33:prog.cellsOf 33=1:=by kernel_rfl
theorem T.b33:prog.bytesOf 33=24:=by kernel_rfl
theorem T.g33:bM prog 33=some false:=by kernel_rfl
theorem T.z33:bo prog 33=some [.v (.slice none 0 0)]:=by kernel_rfl
theorem T.s33:dH prog 33=true:=by kernel_rfl
theorem T.c34:prog.cellsOf 34=1:=by kernel_rfl
theorem T.b34:prog.bytesOf 34=8:=by kernel_rfl
theorem T.g34:bM prog 34=some false:=by kernel_rfl
theorem T.z34:bo prog 34=some [.v (.int .i64 0)]:=by kernel_rfl
theorem T.c50:prog.cellsOf 50=1:=by kernel_rfl
theorem T.b50:prog.bytesOf 50=24:=by kernel_rfl
theorem T.g50:bM prog 50=some false:=by kernel_rfl
theorem T.z50:bo prog 50=some [.v (.slice none 0 0)]:=by kernel_rfl
theorem T.s50:dH prog 50=true:=by kernel_rfl
theorem T.c51:prog.cellsOf 51=1:=by kernel_rfl
theorem T.b51:prog.bytesOf 51=24:=by kernel_rfl
theorem T.g51:bM prog 51=some false:=by kernel_rfl
theorem T.z51:bo prog 51=some [.v (.slice none 0 0)]:=by kernel_rfl
theorem T.s51:dH prog 51=true:=by kernel_rfl
theorem T.Bl:prog.cellsOf 54=5:=by kernel_rfl
theorem T.VJ:prog.bytesOf 54=88:=by kernel_rfl
theorem T.g54:bM prog 54=some true:=by kernel_rfl
theorem T.Ia:fm prog 54=true:=by kernel_rfl
theorem T.Ro:b6 prog 54 0=some (0,3):=by kernel_rfl
theorem T.Rp:b6 prog 54 1=some (1,23):=by kernel_rfl
theorem T.Rq:b6 prog 54 2=some (2,29):=by kernel_rfl
theorem T.Rr:b6 prog 54 3=some (3,23):=by kernel_rfl
theorem T.Rs:b6 prog 54 4=some (4,24):=by kernel_rfl
theorem T.z54:bo prog 54=some [.v (.int .i64 0),.v (.slice none 0 0),.v (.int .u64 0),.v (.slice none 0 0),.v (.slice none 0 0)]:=by kernel_rfl
theorem T.c67:prog.cellsOf 67=2:=by kernel_rfl
theorem T.b67:prog.bytesOf 67=16:=by kernel_rfl
theorem T.N1:bM prog 67=some true:=by kernel_rfl
theorem T.h67:fm prog 67=true:=by kernel_rfl
theorem T.Rt:b6 prog 67 0=some (0,3):=by kernel_rfl
theorem T.Ru:b6 prog 67 1=some (1,29):=by kernel_rfl
theorem T.z67:bo prog 67=some [.v (.int .i64 0),.v (.int .u64 0)]:=by kernel_rfl
theorem T.c74:prog.cellsOf 74=1:=by kernel_rfl
theorem T.b74:prog.bytesOf 74=24:=by kernel_rfl
theorem T.g74:bM prog 74=some false:=by kernel_rfl
theorem T.z74:bo prog 74=some [.v (.slice none 0 0)]:=by kernel_rfl
theorem T.s74:dH prog 74=true:=by kernel_rfl
theorem T.c76:prog.cellsOf 76=2:=by kernel_rfl
theorem T.b76:prog.bytesOf 76=32:=by kernel_rfl
theorem T.g76:bM prog 76=some true:=by kernel_rfl
theorem T.S4:fm prog 76=true:=by kernel_rfl
theorem T.Rv:b6 prog 76 0=some (0,29):=by kernel_rfl
theorem T.Rw:b6 prog 76 1=some (1,74):=by kernel_rfl
theorem T.z76:bo prog 76=some [.v (.int .u64 0),.v (.slice none 0 0)]:=by kernel_rfl
theorem T.c78:prog.cellsOf 78=2:=by kernel_rfl
theorem T.b78:prog.bytesOf 78=32:=by kernel_rfl
theorem T.g78:bM prog 78=some true:=by kernel_rfl
theorem T.h78:fm prog 78=true:=by kernel_rfl
theorem T.Rx:b6 prog 78 0=some (0,29):=by kernel_rfl
theorem T.Ry:b6 prog 78 1=some (1,23):=by kernel_rfl
theorem T.z78:bo prog 78=some [.v (.int .u64 0),.v (.slice none 0 0)]:=by kernel_rfl
theorem T.c79:prog.cellsOf 79=1:=by kernel_rfl
theorem T.b79:prog.bytesOf 79=8:=by kernel_rfl
theorem T.g79:bM prog 79=some false:=by kernel_rfl
theorem T.z79:bo prog 79=some [.v (.pointer none)]:=by kernel_rfl
theorem T.p79:lF prog 79=true:=by kernel_rfl
theorem T.c85:prog.cellsOf 85=1:=by kernel_rfl
theorem T.b85:prog.bytesOf 85=8:=by kernel_rfl
theorem T.g85:bM prog 85=some false:=by kernel_rfl
theorem T.z85:bo prog 85=some [.v (.pointer none)]:=by kernel_rfl
theorem T.p85:lF prog 85=true:=by kernel_rfl
theorem T.VK:prog.cellsOf 137=2:=by kernel_rfl
theorem T.VL:prog.bytesOf 137=32:=by kernel_rfl
theorem T.VM:bM prog 137=some true:=by kernel_rfl
theorem T.VN:fm prog 137=true:=by kernel_rfl
theorem T.Lp:b6 prog 137 0=some (0,23):=by kernel_rfl
theorem T.Lq:b6 prog 137 1=some (1,4):=by kernel_rfl
theorem T.VO:bo prog 137=some [.v (.slice none 0 0),.v (.bool false)]:=by kernel_rfl
theorem T.VP:prog.cellsOf 145=2:=by kernel_rfl
theorem T.VQ:prog.bytesOf 145=32:=by kernel_rfl
theorem T.VR:bM prog 145=some true:=by kernel_rfl
theorem T.VS:fm prog 145=true:=by kernel_rfl
theorem T.Lr:b6 prog 145 0=some (0,23):=by kernel_rfl
theorem T.Ls:b6 prog 145 1=some (1,34):=by kernel_rfl
theorem T.z145:bo prog 145=some [.v (.slice none 0 0),.v (.int .i64 0)]:=by kernel_rfl
theorem T.VT:prog.cellsOf 185=1:=by kernel_rfl
theorem T.VU:prog.bytesOf 185=8:=by kernel_rfl
theorem T.VV:bM prog 185=some false:=by kernel_rfl
theorem T.VW:bo prog 185=some [.v (.int .u64 0)]:=by kernel_rfl
theorem T.Cu:prog.cellsOf 214=1:=by kernel_rfl
theorem T.VX:prog.bytesOf 214=4:=by kernel_rfl
theorem T.VY:bM prog 214=some false:=by kernel_rfl
theorem T.S5:bo prog 214=some [.v (.int .u32 0)]:=by kernel_rfl
theorem T.S6:prog.cellsOf 215=8:=by kernel_rfl
theorem T.VZ:prog.bytesOf 215=32:=by kernel_rfl
theorem T.V0:bM prog 215=some true:=by kernel_rfl
theorem T.V1:bo prog 215=some [.v (.int .u32 0),.v (.int .u32 0),.v (.int .u32 0),.v (.int .u32 0),.v (.int .u32 0),.v (.int .u32 0),.v (.int .u32 0),.v (.int .u32 0)]:=by kernel_rfl
theorem T.V2:prog.cellsOf 227=1:=by kernel_rfl
theorem T.V3:prog.bytesOf 227=24:=by kernel_rfl
theorem T.V4:bM prog 227=some false:=by kernel_rfl
theorem T.z227:bo prog 227=some [.v (.slice none 0 0)]:=by kernel_rfl
theorem T.V5:dH prog 227=true:=by kernel_rfl
theorem T.V6:prog.cellsOf 232=64:=by kernel_rfl
theorem T.V7:prog.bytesOf 232=64:=by kernel_rfl
theorem T.V8:bM prog 232=some true:=by kernel_rfl
theorem T.Lt:prog.cellsOf 236=16:=by kernel_rfl
theorem T.V9:prog.bytesOf 236=16:=by kernel_rfl
theorem T.Wb:bM prog 236=some true:=by kernel_rfl
theorem T.z236:bo prog 236=some [.v (.int .u8 0),.v (.int .u8 0),.v (.int .u8 0),.v (.int .u8 0),.v (.int .u8 0),.v (.int .u8 0),.v (.int .u8 0),.v (.int .u8 0),.v (.int .u8 0),.v (.int .u8 0),.v (.int .u8 0),.v (.int .u8 0),.v (.int .u8 0),.v (.int .u8 0),.v (.int .u8 0),.v (.int .u8 0)]:=by kernel_rfl
theorem T.Wc:prog.cellsOf 239=1:=by kernel_rfl
theorem T.Wd:prog.bytesOf 239=8:=by kernel_rfl
theorem T.We:bM prog 239=some false:=by kernel_rfl
theorem T.Wf:bo prog 239=some [.v (.int .i64 0)]:=by kernel_rfl
theorem T.S7:prog.cellsOf 246=64:=by kernel_rfl
theorem T.Wg:prog.bytesOf 246=256:=by kernel_rfl
theorem T.Wh:bM prog 246=some true:=by kernel_rfl
theorem T.S8:prog.cellsOf 252=256:=by kernel_rfl
theorem T.Wi:prog.bytesOf 252=256:=by kernel_rfl
theorem T.Wj:bM prog 252=some true:=by kernel_rfl
theorem T.S9:prog.cellsOf 254=176:=by kernel_rfl
theorem T.Wk:prog.bytesOf 254=176:=by kernel_rfl
theorem T.Wl:bM prog 254=some true:=by kernel_rfl
theorem T.Ta:prog.cellsOf 264=4:=by kernel_rfl
theorem T.Wm:prog.bytesOf 264=4:=by kernel_rfl
theorem T.Wn:bM prog 264=some true:=by kernel_rfl
theorem T.Wo:bo prog 264=some [.v (.int .u8 0),.v (.int .u8 0),.v (.int .u8 0),.v (.int .u8 0)]:=by kernel_rfl
theorem T.k8:ai prog 8=true:=by kernel_rfl
theorem T.k9:ai prog 9=true:=by kernel_rfl
theorem T.Ib:ai prog 10=true:=by kernel_rfl
theorem T.Km:ai prog 14=true:=by kernel_rfl
theorem T.GI:ai prog 15=true:=by kernel_rfl
theorem T.k16:ai prog 16=true:=by kernel_rfl
theorem T.UL:ai prog 18=true:=by kernel_rfl
theorem T.k19:ai prog 19=true:=by kernel_rfl
theorem T.k20:ai prog 20=true:=by kernel_rfl
theorem T.k21:ai prog 21=true:=by kernel_rfl
theorem T.k22:ai prog 22=true:=by kernel_rfl
theorem T.k23:ai prog 23=true:=by kernel_rfl
theorem T.k24:ai prog 24=true:=by kernel_rfl
theorem T.k25:ai prog 25=true:=by kernel_rfl
theorem T.k26:ai prog 26=true:=by kernel_rfl
theorem T.k27:ai prog 27=true:=by kernel_rfl
theorem T.k28:ai prog 28=true:=by kernel_rfl
theorem T.k29:ai prog 29=true:=by kernel_rfl
theorem T.k31:ai prog 31=true:=by kernel_rfl
theorem T.k33:ai prog 33=true:=by kernel_rfl
theorem T.k35:ai prog 35=true:=by kernel_rfl
theorem T.k40:ai prog 40=true:=by kernel_rfl
theorem T.k41:ai prog 41=true:=by kernel_rfl
theorem T.k42:ai prog 42=true:=by kernel_rfl
theorem T.k43:ai prog 43=true:=by kernel_rfl
theorem T.k44:ai prog 44=true:=by kernel_rfl
theorem T.k45:ai prog 45=true:=by kernel_rfl
theorem T.k46:ai prog 46=true:=by kernel_rfl
theorem T.k47:ai prog 47=true:=by kernel_rfl
theorem T.k48:ai prog 48=true:=by kernel_rfl
theorem T.k49:ai prog 49=true:=by kernel_rfl
theorem T.k50:ai prog 50=true:=by kernel_rfl
theorem T.k51:ai prog 51=true:=by kernel_rfl
theorem T.k53:ai prog 53=true:=by kernel_rfl
theorem T.k54:ai prog 54=true:=by kernel_rfl
theorem T.k57:ai prog 57=true:=by kernel_rfl
theorem T.k60:ai prog 60=true:=by kernel_rfl
theorem T.k61:ai prog 61=true:=by kernel_rfl
theorem T.k62:ai prog 62=true:=by kernel_rfl
theorem T.k63:ai prog 63=true:=by kernel_rfl
theorem T.k64:ai prog 64=true:=by kernel_rfl
theorem T.k65:ai prog 65=true:=by kernel_rfl
theorem T.k66:ai prog 66=true:=by kernel_rfl
theorem T.k67:ai prog 67=true:=by kernel_rfl
theorem T.k68:ai prog 68=true:=by kernel_rfl
theorem T.k69:ai prog 69=true:=by kernel_rfl
theorem T.k70:ai prog 70=true:=by kernel_rfl
theorem T.k71:ai prog 71=true:=by kernel_rfl
theorem T.k73:ai prog 73=true:=by kernel_rfl
theorem T.k74:ai prog 74=true:=by kernel_rfl
theorem T.k76:ai prog 76=true:=by kernel_rfl
theorem T.k77:ai prog 77=true:=by kernel_rfl
theorem T.k79:ai prog 79=true:=by kernel_rfl
theorem T.k81:ai prog 81=true:=by kernel_rfl
theorem T.k82:ai prog 82=true:=by kernel_rfl
theorem T.k86:ai prog 86=true:=by kernel_rfl
theorem T.k87:ai prog 87=true:=by kernel_rfl
theorem T.k88:ai prog 88=true:=by kernel_rfl
theorem T.k90:ai prog 90=true:=by kernel_rfl
theorem T.k91:ai prog 91=true:=by kernel_rfl
theorem T.k92:ai prog 92=true:=by kernel_rfl
theorem T.k94:ai prog 94=true:=by kernel_rfl
theorem T.Wp:ai prog 101=true:=by kernel_rfl
theorem T.OU:ai prog 102=true:=by kernel_rfl
theorem T.Wq:ai prog 103=true:=by kernel_rfl
theorem T.Wr:ai prog 104=true:=by kernel_rfl
theorem T.OV:ai prog 105=true:=by kernel_rfl
theorem T.Ws:ai prog 106=true:=by kernel_rfl
theorem T.OW:ai prog 107=true:=by kernel_rfl
theorem T.Wt:ai prog 108=true:=by kernel_rfl
theorem T.Wu:ai prog 109=true:=by kernel_rfl
theorem T.Wv:ai prog 110=true:=by kernel_rfl
theorem T.Ww:ai prog 111=true:=by kernel_rfl
theorem T.Wx:ai prog 112=true:=by kernel_rfl
theorem T.Wy:ai prog 113=true:=by kernel_rfl
theorem T.Wz:ai prog 114=true:=by kernel_rfl
theorem T.WA:ai prog 115=true:=by kernel_rfl
theorem T.WB:ai prog 116=true:=by kernel_rfl
theorem T.WC:ai prog 117=true:=by kernel_rfl
theorem T.WD:ai prog 123=true:=by kernel_rfl
theorem T.WE:ai prog 124=true:=by kernel_rfl
theorem T.WG:ai prog 125=true:=by kernel_rfl
theorem T.WH:ai prog 126=true:=by kernel_rfl
theorem T.WI:ai prog 127=true:=by kernel_rfl
theorem T.WJ:ai prog 128=true:=by kernel_rfl
theorem T.WK:ai prog 129=true:=by kernel_rfl
theorem T.WM:ai prog 130=true:=by kernel_rfl
theorem T.WN:ai prog 132=true:=by kernel_rfl
theorem T.WO:ai prog 133=true:=by kernel_rfl
theorem T.WQ:ai prog 134=true:=by kernel_rfl
theorem T.WR:ai prog 135=true:=by kernel_rfl
theorem T.WS:ai prog 136=true:=by kernel_rfl
theorem T.WT:ai prog 137=true:=by kernel_rfl
theorem T.WU:ai prog 141=true:=by kernel_rfl
theorem T.WV:ai prog 142=true:=by kernel_rfl
theorem T.WW:ai prog 143=true:=by kernel_rfl
theorem T.WX:ai prog 144=true:=by kernel_rfl
theorem T.WY:ai prog 145=true:=by kernel_rfl
theorem T.WZ:ai prog 146=true:=by kernel_rfl
theorem T.W0:ai prog 147=true:=by kernel_rfl
theorem T.W4:ai prog 148=true:=by kernel_rfl
theorem T.W5:ai prog 149=true:=by kernel_rfl
theorem T.W6:ai prog 150=true:=by kernel_rfl
theorem T.W7:ai prog 151=true:=by kernel_rfl
theorem T.W8:ai prog 152=true:=by kernel_rfl
theorem T.W9:ai prog 153=true:=by kernel_rfl
theorem T.Xa:ai prog 154=true:=by kernel_rfl
theorem T.Xb:ai prog 155=true:=by kernel_rfl
theorem T.Xc:ai prog 156=true:=by kernel_rfl
theorem T.Xd:ai prog 158=true:=by kernel_rfl
theorem T.Xe:ai prog 159=true:=by kernel_rfl
theorem T.Xf:ai prog 161=true:=by kernel_rfl
theorem T.Xg:ai prog 162=true:=by kernel_rfl
theorem T.Xh:ai prog 164=true:=by kernel_rfl
theorem T.Xi:ai prog 165=true:=by kernel_rfl
theorem T.Xj:ai prog 166=true:=by kernel_rfl
theorem T.Xk:ai prog 170=true:=by kernel_rfl
theorem T.Xl:ai prog 173=true:=by kernel_rfl
theorem T.Xm:ai prog 174=true:=by kernel_rfl
theorem T.Xn:ai prog 175=true:=by kernel_rfl
theorem T.Xo:ai prog 176=true:=by kernel_rfl
theorem T.Xp:ai prog 179=true:=by kernel_rfl
theorem T.Xq:ai prog 180=true:=by kernel_rfl
theorem T.Xr:ai prog 181=true:=by kernel_rfl
theorem T.Xu:ai prog 182=true:=by kernel_rfl
theorem T.Xv:ai prog 183=true:=by kernel_rfl
theorem T.Xw:ai prog 184=true:=by kernel_rfl
theorem T.Xx:ai prog 185=true:=by kernel_rfl
theorem T.Xy:ai prog 186=true:=by kernel_rfl
theorem T.Xz:ai prog 187=true:=by kernel_rfl
theorem T.XC:ai prog 188=true:=by kernel_rfl
theorem T.XD:ai prog 189=true:=by kernel_rfl
theorem T.XE:ai prog 190=true:=by kernel_rfl
theorem T.XF:ai prog 191=true:=by kernel_rfl
theorem T.XG:ai prog 192=true:=by kernel_rfl
theorem T.XH:ai prog 193=true:=by kernel_rfl
theorem T.XI:ai prog 194=true:=by kernel_rfl
theorem T.XJ:ai prog 195=true:=by kernel_rfl
theorem T.XK:ai prog 196=true:=by kernel_rfl
theorem T.XL:ai prog 197=true:=by kernel_rfl
theorem T.XN:ai prog 198=true:=by kernel_rfl
theorem T.XO:ai prog 199=true:=by kernel_rfl
theorem T.XP:ai prog 200=true:=by kernel_rfl
theorem T.XQ:ai prog 201=true:=by kernel_rfl
theorem T.XR:ai prog 202=true:=by kernel_rfl
theorem T.XS:ai prog 203=true:=by kernel_rfl
theorem T.XW:ai prog 208=true:=by kernel_rfl
theorem T.XX:ai prog 209=true:=by kernel_rfl
theorem T.XY:ai prog 210=true:=by kernel_rfl
theorem T.XZ:ai prog 212=true:=by kernel_rfl
theorem T.X1:ai prog 213=true:=by kernel_rfl
theorem T.X3:ai prog 214=true:=by kernel_rfl
theorem T.X4:ai prog 215=true:=by kernel_rfl
theorem T.X5:ai prog 216=true:=by kernel_rfl
theorem T.X6:ai prog 217=true:=by kernel_rfl
theorem T.X7:ai prog 218=true:=by kernel_rfl
theorem T.X8:ai prog 219=true:=by kernel_rfl
theorem T.X9:ai prog 220=true:=by kernel_rfl
theorem T.Ya:ai prog 221=true:=by kernel_rfl
theorem T.Yb:ai prog 222=true:=by kernel_rfl
theorem T.Yc:ai prog 223=true:=by kernel_rfl
theorem T.Yd:ai prog 224=true:=by kernel_rfl
theorem T.Ye:ai prog 225=true:=by kernel_rfl
theorem T.Yf:ai prog 226=true:=by kernel_rfl
theorem T.Yg:ai prog 227=true:=by kernel_rfl
theorem T.Yh:ai prog 228=true:=by kernel_rfl
theorem T.Yi:ai prog 229=true:=by kernel_rfl
theorem T.Yj:ai prog 230=true:=by kernel_rfl
theorem T.Yk:ai prog 231=true:=by kernel_rfl
theorem T.Yl:ai prog 233=true:=by kernel_rfl
theorem T.Ym:ai prog 234=true:=by kernel_rfl
theorem T.Yn:ai prog 236=true:=by kernel_rfl
theorem T.Yo:ai prog 239=true:=by kernel_rfl
theorem T.Yp:ai prog 240=true:=by kernel_rfl
theorem T.Yq:ai prog 241=true:=by kernel_rfl
theorem T.Yr:ai prog 242=true:=by kernel_rfl
theorem T.Ys:ai prog 249=true:=by kernel_rfl
theorem T.Yt:ai prog 250=true:=by kernel_rfl
theorem T.Yu:ai prog 251=true:=by kernel_rfl
theorem T.Yv:ai prog 252=true:=by kernel_rfl
theorem T.Yw:ai prog 253=true:=by kernel_rfl
theorem T.Yx:ai prog 255=true:=by kernel_rfl
theorem T.Yy:ai prog 256=true:=by kernel_rfl
theorem T.Yz:ai prog 257=true:=by kernel_rfl
theorem T.mixed:prog.follows .mixedOrders=true:=by kernel_rfl
end Go.Proofs.YtbiefppedlodiaaGreatDoor
set_option maxRecDepth 100000
namespace Go.Proofs.YtbiefppedlodiaaGreatDoor
open Go Go.AM Go.Proofs Tryz
open And renaming intro→Ai
theorem TT:type_of%(Ai (Ai UP DF) (Ai (Ai (Ai (Ai (Ai (Ai (Ai (Ai (Ai @underlying3 T.c3) (Ai T.g3 T.b3)) (Ai (Ai T.z3 ntmps173) (Ai @underlying5 (Ai T.c5 T.g5)))) (Ai (Ai (Ai T.b5 T.z5) (Ai @underlying29 T.Rf)) (Ai (Ai T.g29 T.b29) (Ai T.z29 (Ai @underlying232 T.V6))))) (Ai (Ai (Ai (Ai T.V8 T.V7) (Ai ntmps215 @underlying185)) (Ai (Ai T.VT T.VV) (Ai T.VU (Ai T.VW @underlying214)))) (Ai (Ai (Ai T.Cu T.VY) (Ai T.VX T.S5)) (Ai (Ai T.X3 T.X4) (Ai ntmps184 (Ai @underlying4 T.c4)))))) (Ai (Ai (Ai (Ai (Ai T.g4 T.b4) (Ai T.z4 T.Xl)) (Ai (Ai T.Xw ntmps152) (Ai T.W8 (Ai ntmps183 T.Xv)))) (Ai (Ai (Ai ntmps151 ntmps150) (Ai ntmps128 ntmps148)) (Ai (Ai T.W4 ntmps149) (Ai T.W5 (Ai ntmps106 @underlying24))))) (Ai (Ai (Ai (Ai T.F1 T.g24) (Ai T.b24 T.z24)) (Ai (Ai T.Lo T.Ws) (Ai ntmps47 (Ai ntmps115 ntmps125)))) (Ai (Ai (Ai T.WG ntmps76) (Ai ntmps116 (Ai T.WA T.WB))) (Ai (Ai ntmps54 T.k76) (Ai ntmps65 (Ai ntmps112 ntmps110))))))) (Ai (Ai (Ai (Ai (Ai (Ai ntmps160 ntmps157) (Ai ntmps192 T.XG)) (Ai (Ai ntmps158 @underlying9) (Ai T.c9 (Ai T.g9 T.b9)))) (Ai (Ai (Ai T.z9 ntmps230) (Ai T.Yj T.Yi)) (Ai (Ai ntmps194 T.Yf) (Ai ntmps220 (Ai @underlying239 T.Wc))))) (Ai (Ai (Ai (Ai T.We T.Wd) (Ai T.Wf T.Yg)) (Ai (Ai T.Yh T.Yc) (Ai T.XH (Ai T.Ye T.Yb)))) (Ai (Ai (Ai T.X9 T.Ya) (Ai T.Yd ntmps193)) (Ai (Ai T.XI ntmps159) (Ai T.Xd (Ai T.Xe ntmps111)))))) (Ai (Ai (Ai (Ai (Ai ntmps127 T.WI) (Ai ntmps69 T.W6)) (Ai (Ai T.W7 ntmps105) (Ai @underlying23 (Ai T.Dz T.g23)))) (Ai (Ai (Ai T.b23 T.z23) (Ai T.s23 ntmps90)) (Ai (Ai @underlying137 T.VK) (Ai T.VM (Ai T.VL T.VO))))) (Ai (Ai (Ai (Ai T.VN T.Lp) (Ai T.Lq ntmps133)) (Ai (Ai ntmps31 @underlying79) (Ai T.c79 (Ai T.g79 T.b79)))) (Ai (Ai (Ai T.z79 T.p79) (Ai T.WO (Ai ntmps135 T.WR))) (Ai (Ai ntmps88 ntmps145) (Ai ntmps219 (Ai ntmps86 ntmps175)))))))) (Ai (Ai (Ai (Ai (Ai (Ai (Ai T.Xn ntmps134) (Ai T.WQ ntmps87)) (Ai (Ai ntmps136 T.k90) (Ai ntmps33 (Ai @underlying34 T.c34)))) (Ai (Ai (Ai T.g34 T.b34) (Ai T.z34 @underlying145)) (Ai (Ai T.VP T.VR) (Ai T.VQ (Ai T.z145 T.VS))))) (Ai (Ai (Ai (Ai T.Lr T.Ls) (Ai ntmps35 ntmps176)) (Ai (Ai @underlying85 T.c85) (Ai T.g85 (Ai T.b85 T.z85)))) (Ai (Ai (Ai T.p85 T.Xo) (Ai ntmps137 T.WT)) (Ai (Ai ntmps217 ntmps94) (Ai ntmps91 (Ai T.k91 ntmps92)))))) (Ai (Ai (Ai (Ai (Ai ntmps67 ntmps44) (Ai ntmps53 ntmps62)) (Ai (Ai ntmps231 ntmps123) (Ai @underlying54 (Ai T.Bl T.g54)))) (Ai (Ai (Ai T.VJ T.z54) (Ai T.Ia T.Ro)) (Ai (Ai T.Rp T.Rq) (Ai T.Rr (Ai T.Rs T.Yk))))) (Ai (Ai (Ai (Ai T.k62 ntmps195) (Ai T.WD ntmps60)) (Ai (Ai ntmps197 T.k44) (Ai ntmps196 (Ai T.XK T.XL)))) (Ai (Ai (Ai T.XJ ntmps161) (Ai T.k53 (Ai T.k60 ntmps63))) (Ai (Ai T.k87 T.k88) (Ai T.Xf (Ai T.k86 ntmps236))))))) (Ai (Ai (Ai (Ai (Ai (Ai @underlying22 T.N0) (Ai T.g22 T.b22)) (Ai (Ai T.z22 T.s22) (Ai ntmps104 (Ai T.Wr ntmps142)))) (Ai (Ai (Ai T.WV ntmps144) (Ai ntmps143 ntmps71)) (Ai (Ai T.k71 ntmps179) (Ai ntmps178 (Ai T.Xp T.WJ))))) (Ai (Ai (Ai (Ai ntmps141 T.WX) (Ai T.WW T.WU)) (Ai (Ai ntmps101 ntmps20) (Ai ntmps21 (Ai T.k21 ntmps66)))) (Ai (Ai (Ai ntmps64 T.k20) (Ai T.k65 T.k66)) (Ai (Ai T.k63 T.k64) (Ai ntmps16 (Ai ntmps51 T.Wp)))))) (Ai (Ai (Ai (Ai (Ai ntmps45 ntmps73) (Ai ntmps70 T.k70)) (Ai (Ai ntmps40 T.k47) (Ai T.OV (Ai ntmps46 ntmps250)))) (Ai (Ai (Ai T.Yt ntmps234) (Ai ntmps249 ntmps210)) (Ai (Ai @underlying227 T.V2) (Ai T.V4 (Ai T.V3 T.z227))))) (Ai (Ai (Ai (Ai T.V5 ntmps208) (Ai @underlying246 T.S7)) (Ai (Ai T.Wh T.Wg) (Ai T.Ys (Ai ntmps233 @underlying215)))) (Ai (Ai (Ai T.S6 T.V0) (Ai T.VZ (Ai T.V1 T.Ym))) (Ai (Ai T.Yl ntmps200) (Ai ntmps216 (Ai @underlying50 T.c50))))))))) (Ai (Ai (Ai (Ai (Ai (Ai (Ai (Ai T.g50 T.b50) (Ai T.z50 T.s50)) (Ai (Ai T.X5 ntmps186) (Ai ntmps199 (Ai ntmps232 ntmps198)))) (Ai (Ai (Ai T.XN T.Xy) (Ai T.XP T.XO)) (Ai (Ai ntmps164 ntmps209) (Ai T.XW (Ai T.XY T.XX))))) (Ai (Ai (Ai (Ai ntmps170 T.X8) (Ai T.Yn ntmps235)) (Ai (Ai ntmps237 ntmps163) (Ai T.k33 (Ai T.k31 ntmps162)))) (Ai (Ai (Ai T.Xh T.Xg) (Ai ntmps201 ntmps202)) (Ai (Ai ntmps113 T.Xi) (Ai T.XQ (Ai T.XR ntmps165)))))) (Ai (Ai (Ai (Ai (Ai ntmps114 ntmps129) (Ai T.WK ntmps77)) (Ai (Ai T.WE T.k77) (Ai ntmps124 (Ai ntmps61 ntmps23)))) (Ai (Ai (Ai T.k23 T.k26) (Ai ntmps26 ntmps191)) (Ai (Ai T.k51 T.XF) (Ai ntmps156 (Ai T.Xc ntmps109))))) (Ai (Ai (Ai (Ai @underlying51 T.c51) (Ai T.g51 T.b51)) (Ai (Ai T.z51 T.s51) (Ai T.Wv (Ai T.k45 T.Ww)))) (Ai (Ai (Ai T.k73 T.Wx) (Ai T.Wy (Ai T.Wu T.k46))) (Ai (Ai T.Wz ntmps50) (Ai @underlying30 (Ai T.c30 T.g30))))))) (Ai (Ai (Ai (Ai (Ai (Ai T.b30 T.z30) (Ai T.s30 @underlying32)) (Ai (Ai T.c32 T.g32) (Ai T.b32 (Ai T.tv T.qH)))) (Ai (Ai (Ai @underlying74 T.c74) (Ai T.g74 T.b74)) (Ai (Ai T.z74 T.s74) (Ai @underlying76 (Ai T.c76 T.g76))))) (Ai (Ai (Ai (Ai T.b76 T.z76) (Ai T.S4 @underlying78)) (Ai (Ai T.c78 T.g78) (Ai T.b78 (Ai T.z78 T.h78)))) (Ai (Ai (Ai T.Rl T.Rm) (Ai T.Rn T.Rv)) (Ai (Ai T.Rw T.k61) (Ai T.k50 (Ai T.k40 ntmps15)))))) (Ai (Ai (Ai (Ai (Ai ntmps213 T.X1) (Ai ntmps180 ntmps203)) (Ai (Ai T.XS T.Xk) (Ai ntmps166 (Ai ntmps212 T.Xq)))) (Ai (Ai (Ai ntmps185 ntmps146) (Ai T.Xj ntmps117)) (Ai (Ai T.WZ T.WS) (Ai T.WY (Ai ntmps102 T.k92))))) (Ai (Ai (Ai (Ai T.WC ntmps57) (Ai T.OU ntmps42)) (Ai (Ai T.k57 ntmps29) (Ai ntmps252 (Ai T.Yv ntmps257)))) (Ai (Ai (Ai T.Yz ntmps255) (Ai ntmps256 (Ai T.Yx T.Yy))) (Ai (Ai ntmps251 @underlying252) (Ai T.S8 (Ai T.Wj T.Wi)))))))) (Ai (Ai (Ai (Ai (Ai (Ai (Ai T.Yu ntmps239) (Ai @underlying236 T.Lt)) (Ai (Ai T.Wb T.V9) (Ai T.z236 (Ai ntmps241 @underlying264)))) (Ai (Ai (Ai T.Ta T.Wn) (Ai T.Wm T.Wo)) (Ai (Ai ntmps253 T.Yw) (Ai ntmps242 (Ai @underlying254 T.S9))))) (Ai (Ai (Ai (Ai T.Wl T.Wk) (Ai ntmps240 T.Yp)) (Ai (Ai T.Yq T.Yr) (Ai T.Yo (Ai ntmps218 T.X6)))) (Ai (Ai (Ai T.k35 T.X7) (Ai ntmps189 ntmps188)) (Ai (Ai ntmps190 T.XC) (Ai T.XE (Ai T.XD ntmps155)))))) (Ai (Ai (Ai (Ai (Ai T.XZ ntmps174) (Ai ntmps182 ntmps181)) (Ai (Ai T.Xr T.Xu) (Ai ntmps147 (Ai T.W0 ntmps103)))) (Ai (Ai (Ai ntmps126 T.WH) (Ai ntmps68 ntmps187)) (Ai (Ai T.k94 ntmps41) (Ai T.k67 (Ai ntmps18 T.Wq))))) (Ai (Ai (Ai (Ai ntmps43 T.k68) (Ai ntmps19 T.Xz)) (Ai (Ai ntmps154 T.Xx) (Ai ntmps153 (Ai T.Rx T.Ry)))) (Ai (Ai (Ai T.W9 T.Xa) (Ai T.k41 (Ai T.k43 T.Xb))) (Ai (Ai ntmps107 T.Xm) (Ai ntmps132 (Ai T.k42 ntmps49))))))) (Ai (Ai (Ai (Ai (Ai (Ai ntmps25 T.k29) (Ai ntmps28 @underlying33)) (Ai (Ai T.c33 T.g33) (Ai T.b33 (Ai T.z33 T.s33)))) (Ai (Ai (Ai @underlying67 T.c67) (Ai T.N1 T.b67)) (Ai (Ai T.z67 T.h67) (Ai ntmps130 (Ai T.WM ntmps81))))) (Ai (Ai (Ai (Ai ntmps82 T.Rt) (Ai ntmps131 ntmps83)) (Ai (Ai ntmps78 ntmps72) (Ai ntmps80 (Ai ntmps75 ntmps108)))) (Ai (Ai (Ai T.Ru T.k49) (Ai ntmps74 (Ai T.WN ntmps79))) (Ai (Ai T.k74 ntmps24) (Ai T.k82 (Ai T.GI T.k81)))))) (Ai (Ai (Ai (Ai (Ai T.k79 ntmps27) (Ai T.OW T.k25)) (Ai (Ai T.Wt ntmps48) (Ai T.k48 (Ai ntmps10 T.Ib)))) (Ai (Ai (Ai T.UL T.k19) (Ai T.k27 ntmps8)) (Ai (Ai @underlying26 T.OO) (Ai T.UK (Ai T.b26 T.z26))))) (Ai (Ai (Ai (Ai T.h26 T.Rg) (Ai T.Ri T.Rj)) (Ai (Ai T.Rk ntmps9) (Ai ntmps14 (Ai T.k69 T.k54)))) (Ai (Ai (Ai ntmps22 T.Rh) (Ai T.k28 (Ai T.k22 T.Km))) (Ai (Ai T.k24 T.k8) (Ai T.k9 (Ai T.k16 ntmps5))))))))))):=
  (Ai (Ai UP DF) (Ai (Ai (Ai (Ai (Ai (Ai (Ai (Ai (Ai @underlying3 T.c3) (Ai T.g3 T.b3)) (Ai (Ai T.z3 ntmps173) (Ai @underlying5 (Ai T.c5 T.g5)))) (Ai (Ai (Ai T.b5 T.z5) (Ai @underlying29 T.Rf)) (Ai (Ai T.g29 T.b29) (Ai T.z29 (Ai @underlying232 T.V6))))) (Ai (Ai (Ai (Ai T.V8 T.V7) (Ai ntmps215 @underlying185)) (Ai (Ai T.VT T.VV) (Ai T.VU (Ai T.VW @underlying214)))) (Ai (Ai (Ai T.Cu T.VY) (Ai T.VX T.S5)) (Ai (Ai T.X3 T.X4) (Ai ntmps184 (Ai @underlying4 T.c4)))))) (Ai (Ai (Ai (Ai (Ai T.g4 T.b4) (Ai T.z4 T.Xl)) (Ai (Ai T.Xw ntmps152) (Ai T.W8 (Ai ntmps183 T.Xv)))) (Ai (Ai (Ai ntmps151 ntmps150) (Ai ntmps128 ntmps148)) (Ai (Ai T.W4 ntmps149) (Ai T.W5 (Ai ntmps106 @underlying24))))) (Ai (Ai (Ai (Ai T.F1 T.g24) (Ai T.b24 T.z24)) (Ai (Ai T.Lo T.Ws) (Ai ntmps47 (Ai ntmps115 ntmps125)))) (Ai (Ai (Ai T.WG ntmps76) (Ai ntmps116 (Ai T.WA T.WB))) (Ai (Ai ntmps54 T.k76) (Ai ntmps65 (Ai ntmps112 ntmps110))))))) (Ai (Ai (Ai (Ai (Ai (Ai ntmps160 ntmps157) (Ai ntmps192 T.XG)) (Ai (Ai ntmps158 @underlying9) (Ai T.c9 (Ai T.g9 T.b9)))) (Ai (Ai (Ai T.z9 ntmps230) (Ai T.Yj T.Yi)) (Ai (Ai ntmps194 T.Yf) (Ai ntmps220 (Ai @underlying239 T.Wc))))) (Ai (Ai (Ai (Ai T.We T.Wd) (Ai T.Wf T.Yg)) (Ai (Ai T.Yh T.Yc) (Ai T.XH (Ai T.Ye T.Yb)))) (Ai (Ai (Ai T.X9 T.Ya) (Ai T.Yd ntmps193)) (Ai (Ai T.XI ntmps159) (Ai T.Xd (Ai T.Xe ntmps111)))))) (Ai (Ai (Ai (Ai (Ai ntmps127 T.WI) (Ai ntmps69 T.W6)) (Ai (Ai T.W7 ntmps105) (Ai @underlying23 (Ai T.Dz T.g23)))) (Ai (Ai (Ai T.b23 T.z23) (Ai T.s23 ntmps90)) (Ai (Ai @underlying137 T.VK) (Ai T.VM (Ai T.VL T.VO))))) (Ai (Ai (Ai (Ai T.VN T.Lp) (Ai T.Lq ntmps133)) (Ai (Ai ntmps31 @underlying79) (Ai T.c79 (Ai T.g79 T.b79)))) (Ai (Ai (Ai T.z79 T.p79) (Ai T.WO (Ai ntmps135 T.WR))) (Ai (Ai ntmps88 ntmps145) (Ai ntmps219 (Ai ntmps86 ntmps175)))))))) (Ai (Ai (Ai (Ai (Ai (Ai (Ai T.Xn ntmps134) (Ai T.WQ ntmps87)) (Ai (Ai ntmps136 T.k90) (Ai ntmps33 (Ai @underlying34 T.c34)))) (Ai (Ai (Ai T.g34 T.b34) (Ai T.z34 @underlying145)) (Ai (Ai T.VP T.VR) (Ai T.VQ (Ai T.z145 T.VS))))) (Ai (Ai (Ai (Ai T.Lr T.Ls) (Ai ntmps35 ntmps176)) (Ai (Ai @underlying85 T.c85) (Ai T.g85 (Ai T.b85 T.z85)))) (Ai (Ai (Ai T.p85 T.Xo) (Ai ntmps137 T.WT)) (Ai (Ai ntmps217 ntmps94) (Ai ntmps91 (Ai T.k91 ntmps92)))))) (Ai (Ai (Ai (Ai (Ai ntmps67 ntmps44) (Ai ntmps53 ntmps62)) (Ai (Ai ntmps231 ntmps123) (Ai @underlying54 (Ai T.Bl T.g54)))) (Ai (Ai (Ai T.VJ T.z54) (Ai T.Ia T.Ro)) (Ai (Ai T.Rp T.Rq) (Ai T.Rr (Ai T.Rs T.Yk))))) (Ai (Ai (Ai (Ai T.k62 ntmps195) (Ai T.WD ntmps60)) (Ai (Ai ntmps197 T.k44) (Ai ntmps196 (Ai T.XK T.XL)))) (Ai (Ai (Ai T.XJ ntmps161) (Ai T.k53 (Ai T.k60 ntmps63))) (Ai (Ai T.k87 T.k88) (Ai T.Xf (Ai T.k86 ntmps236))))))) (Ai (Ai (Ai (Ai (Ai (Ai @underlying22 T.N0) (Ai T.g22 T.b22)) (Ai (Ai T.z22 T.s22) (Ai ntmps104 (Ai T.Wr ntmps142)))) (Ai (Ai (Ai T.WV ntmps144) (Ai ntmps143 ntmps71)) (Ai (Ai T.k71 ntmps179) (Ai ntmps178 (Ai T.Xp T.WJ))))) (Ai (Ai (Ai (Ai ntmps141 T.WX) (Ai T.WW T.WU)) (Ai (Ai ntmps101 ntmps20) (Ai ntmps21 (Ai T.k21 ntmps66)))) (Ai (Ai (Ai ntmps64 T.k20) (Ai T.k65 T.k66)) (Ai (Ai T.k63 T.k64) (Ai ntmps16 (Ai ntmps51 T.Wp)))))) (Ai (Ai (Ai (Ai (Ai ntmps45 ntmps73) (Ai ntmps70 T.k70)) (Ai (Ai ntmps40 T.k47) (Ai T.OV (Ai ntmps46 ntmps250)))) (Ai (Ai (Ai T.Yt ntmps234) (Ai ntmps249 ntmps210)) (Ai (Ai @underlying227 T.V2) (Ai T.V4 (Ai T.V3 T.z227))))) (Ai (Ai (Ai (Ai T.V5 ntmps208) (Ai @underlying246 T.S7)) (Ai (Ai T.Wh T.Wg) (Ai T.Ys (Ai ntmps233 @underlying215)))) (Ai (Ai (Ai T.S6 T.V0) (Ai T.VZ (Ai T.V1 T.Ym))) (Ai (Ai T.Yl ntmps200) (Ai ntmps216 (Ai @underlying50 T.c50))))))))) (Ai (Ai (Ai (Ai (Ai (Ai (Ai (Ai T.g50 T.b50) (Ai T.z50 T.s50)) (Ai (Ai T.X5 ntmps186) (Ai ntmps199 (Ai ntmps232 ntmps198)))) (Ai (Ai (Ai T.XN T.Xy) (Ai T.XP T.XO)) (Ai (Ai ntmps164 ntmps209) (Ai T.XW (Ai T.XY T.XX))))) (Ai (Ai (Ai (Ai ntmps170 T.X8) (Ai T.Yn ntmps235)) (Ai (Ai ntmps237 ntmps163) (Ai T.k33 (Ai T.k31 ntmps162)))) (Ai (Ai (Ai T.Xh T.Xg) (Ai ntmps201 ntmps202)) (Ai (Ai ntmps113 T.Xi) (Ai T.XQ (Ai T.XR ntmps165)))))) (Ai (Ai (Ai (Ai (Ai ntmps114 ntmps129) (Ai T.WK ntmps77)) (Ai (Ai T.WE T.k77) (Ai ntmps124 (Ai ntmps61 ntmps23)))) (Ai (Ai (Ai T.k23 T.k26) (Ai ntmps26 ntmps191)) (Ai (Ai T.k51 T.XF) (Ai ntmps156 (Ai T.Xc ntmps109))))) (Ai (Ai (Ai (Ai @underlying51 T.c51) (Ai T.g51 T.b51)) (Ai (Ai T.z51 T.s51) (Ai T.Wv (Ai T.k45 T.Ww)))) (Ai (Ai (Ai T.k73 T.Wx) (Ai T.Wy (Ai T.Wu T.k46))) (Ai (Ai T.Wz ntmps50) (Ai @underlying30 (Ai T.c30 T.g30))))))) (Ai (Ai (Ai (Ai (Ai (Ai T.b30 T.z30) (Ai T.s30 @underlying32)) (Ai (Ai T.c32 T.g32) (Ai T.b32 (Ai T.tv T.qH)))) (Ai (Ai (Ai @underlying74 T.c74) (Ai T.g74 T.b74)) (Ai (Ai T.z74 T.s74) (Ai @underlying76 (Ai T.c76 T.g76))))) (Ai (Ai (Ai (Ai T.b76 T.z76) (Ai T.S4 @underlying78)) (Ai (Ai T.c78 T.g78) (Ai T.b78 (Ai T.z78 T.h78)))) (Ai (Ai (Ai T.Rl T.Rm) (Ai T.Rn T.Rv)) (Ai (Ai T.Rw T.k61) (Ai T.k50 (Ai T.k40 ntmps15)))))) (Ai (Ai (Ai (Ai (Ai ntmps213 T.X1) (Ai ntmps180 ntmps203)) (Ai (Ai T.XS T.Xk) (Ai ntmps166 (Ai ntmps212 T.Xq)))) (Ai (Ai (Ai ntmps185 ntmps146) (Ai T.Xj ntmps117)) (Ai (Ai T.WZ T.WS) (Ai T.WY (Ai ntmps102 T.k92))))) (Ai (Ai (Ai (Ai T.WC ntmps57) (Ai T.OU ntmps42)) (Ai (Ai T.k57 ntmps29) (Ai ntmps252 (Ai T.Yv ntmps257)))) (Ai (Ai (Ai T.Yz ntmps255) (Ai ntmps256 (Ai T.Yx T.Yy))) (Ai (Ai ntmps251 @underlying252) (Ai T.S8 (Ai T.Wj T.Wi)))))))) (Ai (Ai (Ai (Ai (Ai (Ai (Ai T.Yu ntmps239) (Ai @underlying236 T.Lt)) (Ai (Ai T.Wb T.V9) (Ai T.z236 (Ai ntmps241 @underlying264)))) (Ai (Ai (Ai T.Ta T.Wn) (Ai T.Wm T.Wo)) (Ai (Ai ntmps253 T.Yw) (Ai ntmps242 (Ai @underlying254 T.S9))))) (Ai (Ai (Ai (Ai T.Wl T.Wk) (Ai ntmps240 T.Yp)) (Ai (Ai T.Yq T.Yr) (Ai T.Yo (Ai ntmps218 T.X6)))) (Ai (Ai (Ai T.k35 T.X7) (Ai ntmps189 ntmps188)) (Ai (Ai ntmps190 T.XC) (Ai T.XE (Ai T.XD ntmps155)))))) (Ai (Ai (Ai (Ai (Ai T.XZ ntmps174) (Ai ntmps182 ntmps181)) (Ai (Ai T.Xr T.Xu) (Ai ntmps147 (Ai T.W0 ntmps103)))) (Ai (Ai (Ai ntmps126 T.WH) (Ai ntmps68 ntmps187)) (Ai (Ai T.k94 ntmps41) (Ai T.k67 (Ai ntmps18 T.Wq))))) (Ai (Ai (Ai (Ai ntmps43 T.k68) (Ai ntmps19 T.Xz)) (Ai (Ai ntmps154 T.Xx) (Ai ntmps153 (Ai T.Rx T.Ry)))) (Ai (Ai (Ai T.W9 T.Xa) (Ai T.k41 (Ai T.k43 T.Xb))) (Ai (Ai ntmps107 T.Xm) (Ai ntmps132 (Ai T.k42 ntmps49))))))) (Ai (Ai (Ai (Ai (Ai (Ai ntmps25 T.k29) (Ai ntmps28 @underlying33)) (Ai (Ai T.c33 T.g33) (Ai T.b33 (Ai T.z33 T.s33)))) (Ai (Ai (Ai @underlying67 T.c67) (Ai T.N1 T.b67)) (Ai (Ai T.z67 T.h67) (Ai ntmps130 (Ai T.WM ntmps81))))) (Ai (Ai (Ai (Ai ntmps82 T.Rt) (Ai ntmps131 ntmps83)) (Ai (Ai ntmps78 ntmps72) (Ai ntmps80 (Ai ntmps75 ntmps108)))) (Ai (Ai (Ai T.Ru T.k49) (Ai ntmps74 (Ai T.WN ntmps79))) (Ai (Ai T.k74 ntmps24) (Ai T.k82 (Ai T.GI T.k81)))))) (Ai (Ai (Ai (Ai (Ai T.k79 ntmps27) (Ai T.OW T.k25)) (Ai (Ai T.Wt ntmps48) (Ai T.k48 (Ai ntmps10 T.Ib)))) (Ai (Ai (Ai T.UL T.k19) (Ai T.k27 ntmps8)) (Ai (Ai @underlying26 T.OO) (Ai T.UK (Ai T.b26 T.z26))))) (Ai (Ai (Ai (Ai T.h26 T.Rg) (Ai T.Ri T.Rj)) (Ai (Ai T.Rk ntmps9) (Ai ntmps14 (Ai T.k69 T.k54)))) (Ai (Ai (Ai ntmps22 T.Rh) (Ai T.k28 (Ai T.k22 T.Km))) (Ai (Ai T.k24 T.k8) (Ai T.k9 (Ai T.k16 ntmps5)))))))))))
theorem DM:type_of%(Ai @cx @bW):=
  (Ai @cx @bW)
section
variable{P:Program}{Γ:Nat→List AV}{N:Nat}{Q:Exit→Env→AS→Prop}{E E':Env}{s s':AS}{id:Nat}{L:List Oper}{x y:Code}{c:Operand}{H Z:Prop}{O:Array Oper}{W:Env→AS→Prop}{M:(Env→AS→Prop)→Prop}{f:FuncId}{ags:List AV}{v:AV}{s0 s2:AS}{E2:AS→Env}{s3:AS→AS}
theorem jA(k:ct P Γ N y Q E' s')(h:∀K:Env→AS→Prop,K E' s'→AY P Γ N L.toArray L K E s:=by(intro K hK;simp only[↓DN,Qa,Qb,Qc,Qd,Qe,Qf,Qg,Qh,reduceCtorEq,↓reduceIte,Na,Nb,Nc,Nk,Nf,Ng,Nh,Za,Zb,Zc,TT];exact hK)):ct P Γ N (.seq (.region id L.toArray false) y) Q E s:=wS fun K hK=>h K (hK _ _ k)
theorem jB(a:H)(k:ct P Γ N y Q E' s')(h:H→∀K:Env→AS→Prop,K E' s'→AY P Γ N L.toArray L K E s:=by(intro a K hK;simp only[↓DN,Qa,Qb,Qc,Qd,Qe,Qf,Qg,Qh,reduceCtorEq,↓reduceIte,Na,Nb,Nc,Nk,Nf,Ng,Nh,Za,Zb,Zc,TT,a];exact hK)):ct P Γ N (.seq (.region id L.toArray false) y) Q E s:=wS fun K hK=>h a K (hK _ _ k)
theorem jC(k:Q .normal E' s')(h:∀K:Env→AS→Prop,K E' s'→AY P Γ N L.toArray L K E s:=by(intro K hK;simp only[↓DN,Qa,Qb,Qc,Qd,Qe,Qf,Qg,Qh,reduceCtorEq,↓reduceIte,Na,Nb,Nc,Nk,Nf,Ng,Nh,Za,Zb,Zc,TT];exact hK)):ct P Γ N (.region id L.toArray false) Q E s:=wE fun K hK=>h K (hK _ _ k)
theorem jD(a:H)(k:Q .normal E' s')(h:H→∀K:Env→AS→Prop,K E' s'→AY P Γ N L.toArray L K E s:=by(intro a K hK;simp only[↓DN,Qa,Qb,Qc,Qd,Qe,Qf,Qg,Qh,reduceCtorEq,↓reduceIte,Na,Nb,Nc,Nk,Nf,Ng,Nh,Za,Zb,Zc,TT,a];exact hK)):ct P Γ N (.region id L.toArray false) Q E s:=wE fun K hK=>h a K (hK _ _ k)
theorem jE(k:ct P Γ N x Q E s)(h:∀X Y:Prop,X→match aN Γ E c with |.v (.bool t)=>(t=true→X)∧(t=false→Y)|_=>False:=by(intro X Y hX;simp only[UP,DF,Nc,↓reduceIte,DB];exact hX)):ct P Γ N (.cond c x y) Q E s:=wC fun X Y hX hY=>h X Y (hX k)
theorem jF(k:ct P Γ N y Q E s)(h:∀X Y:Prop,Y→match aN Γ E c with |.v (.bool t)=>(t=true→X)∧(t=false→Y)|_=>False:=by(intro X Y hX;simp only[UP,DF,Nc,↓reduceIte,DB];exact hX)):ct P Γ N (.cond c x y) Q E s:=wC fun X Y hX hY=>h X Y (hY k)
theorem jG(a:H)(k:ct P Γ N x Q E s)(h:H→∀X Y:Prop,X→match aN Γ E c with |.v (.bool t)=>(t=true→X)∧(t=false→Y)|_=>False:=by(intro a X Y hX;simp only[UP,DF,Nc,↓reduceIte,DB,a];exact hX)):ct P Γ N (.cond c x y) Q E s:=wC fun X Y hX hY=>h a X Y (hX k)
theorem jH(a:H)(k:ct P Γ N y Q E s)(h:H→∀X Y:Prop,Y→match aN Γ E c with |.v (.bool t)=>(t=true→X)∧(t=false→Y)|_=>False:=by(intro a X Y hX;simp only[UP,DF,Nc,↓reduceIte,DB,a];exact hX)):ct P Γ N (.cond c x y) Q E s:=wC fun X Y hX hY=>h a X Y (hY k)
theorem jI(k:Z)(h:Z→Q .ret E s:=by(intro hz;(try simp only[aA,aq]);simp only[ck,bz,bF,dm,List.toList_toArray,↓bg];(try simp only[UP,DF,Nc,↓reduceIte,DT]);exact hz)):ct P Γ N .ret Q E s:=a7 (h k)
theorem jJ(h:Q .ret E s:=by((try simp only[aA,aq]);simp only[ck,bz,bF,dm,List.toList_toArray,↓bg];(try simp only[UP,DF,Nc,↓reduceIte,DT]);exact⟨_,_,AV.aE.refl _,AS.le.refl _,rfl,rfl⟩)):ct P Γ N .ret Q E s:=a7 h
theorem jK(a:aj P Γ f ags s0 fun r s'=>r=v∧s'=s2)(k:∀s1,s1=s2→ct P Γ N y Q (E2 s1) (s3 s1))(h:(aj P Γ f ags s0 fun r s'=>r=v∧s'=s2)→∀K:Env→AS→Prop,(∀s1,s1=s2→K (E2 s1) (s3 s1))→AY P Γ N L.toArray L K E s:=by(intro a K hK;simp only[↓DN,Qa,Qb,Qc,Qd,Qe,Qf,Qg,Qh,reduceCtorEq,↓reduceIte,Na,Nb,Nc,Nk,Nf,Ng,Nh,Za,Zb,Zc,TT];refine ad a ?_;rintro _ s1 ⟨rfl,e⟩;simp only[↓DM,bE,DX,Nz,↓DN,Qa,Qb,Qc,Qd,Qe,Qf,Qg,Qh,reduceCtorEq,↓reduceIte,Na,Nb,Nc,Nk,Nf,Ng,Nh,Za,Zb,Zc,TT];exact hK s1 e)):ct P Γ N (.seq (.region id L.toArray false) y) Q E s:=wS fun K hK=>h a K fun s1 e=>hK _ _ (k s1 e)
theorem jL(a:aj P Γ f ags s0 fun r s'=>r=v∧s'=s2)(k:∀s1,s1=s2→Q .normal (E2 s1) (s3 s1))(h:(aj P Γ f ags s0 fun r s'=>r=v∧s'=s2)→∀K:Env→AS→Prop,(∀s1,s1=s2→K (E2 s1) (s3 s1))→AY P Γ N L.toArray L K E s:=by(intro a K hK;simp only[↓DN,Qa,Qb,Qc,Qd,Qe,Qf,Qg,Qh,reduceCtorEq,↓reduceIte,Na,Nb,Nc,Nk,Nf,Ng,Nh,Za,Zb,Zc,TT];refine ad a ?_;rintro _ s1 ⟨rfl,e⟩;simp only[↓DM,bE,DX,Nz,↓DN,Qa,Qb,Qc,Qd,Qe,Qf,Qg,Qh,reduceCtorEq,↓reduceIte,Na,Nb,Nc,Nk,Nf,Ng,Nh,Za,Zb,Zc,TT];exact hK s1 e)):ct P Γ N (.region id L.toArray false) Q E s:=wE fun K hK=>h a K fun s1 e=>hK _ _ (k s1 e)
theorem jQ(k:∀K:Env→AS→Prop,(∀E s,ct P Γ N y Q E s→K E s)→M K)(h:∀K:Env→AS→Prop,M K→AY P Γ N L.toArray L K E s:=by(intro K hz;simp only[↓DN,Qa,Qb,Qc,Qd,Qe,Qf,Qg,Qh,reduceCtorEq,↓reduceIte,Na,Nb,Nc,Nk,Nf,Ng,Nh,Za,Zb,Zc,TT];exact hz)):ct P Γ N (.seq (.region id L.toArray false) y) Q E s:=wS fun K hK=>h K (k K hK)
theorem jS(a:H)(k:∀K:Env→AS→Prop,(∀E s,ct P Γ N y Q E s→K E s)→M K)(h:H→∀K:Env→AS→Prop,M K→AY P Γ N L.toArray L K E s:=by(intro a K hz;simp only[↓DN,Qa,Qb,Qc,Qd,Qe,Qf,Qg,Qh,reduceCtorEq,↓reduceIte,Na,Nb,Nc,Nk,Nf,Ng,Nh,Za,Zb,Zc,TT,a];exact hz)):ct P Γ N (.seq (.region id L.toArray false) y) Q E s:=wS fun K hK=>h a K (k K hK)
theorem jT(k:∀K:Env→AS→Prop,(∀E s,Q .normal E s→K E s)→M K)(h:∀K:Env→AS→Prop,M K→AY P Γ N L.toArray L K E s:=by(intro K hz;simp only[↓DN,Qa,Qb,Qc,Qd,Qe,Qf,Qg,Qh,reduceCtorEq,↓reduceIte,Na,Nb,Nc,Nk,Nf,Ng,Nh,Za,Zb,Zc,TT];exact hz)):ct P Γ N (.region id L.toArray false) Q E s:=wE fun K hK=>h K (k K hK)
theorem jU(a:H)(k:∀K:Env→AS→Prop,(∀E s,Q .normal E s→K E s)→M K)(h:H→∀K:Env→AS→Prop,M K→AY P Γ N L.toArray L K E s:=by(intro a K hz;simp only[↓DN,Qa,Qb,Qc,Qd,Qe,Qf,Qg,Qh,reduceCtorEq,↓reduceIte,Na,Nb,Nc,Nk,Nf,Ng,Nh,Za,Zb,Zc,TT,a];exact hz)):ct P Γ N (.region id L.toArray false) Q E s:=wE fun K hK=>h a K (k K hK)
theorem jR{K:Env→AS→Prop}(hK:∀E s,W E s→K E s)(k:W E' s')(h:K E' s'→Z:=by(intro hK;simp only[↓DM,bE,DX,Nz,↓DN,Qa,Qb,Qc,Qd,Qe,Qf,Qg,Qh,reduceCtorEq,↓reduceIte,Na,Nb,Nc,Nk,Nf,Ng,Nh,Za,Zb,Zc,TT];exact hK)):Z:=h (hK _ _ k)
theorem jV{K:Env→AS→Prop}(a:H)(hK:∀E s,W E s→K E s)(k:W E' s')(h:H→K E' s'→Z:=by(intro a hK;simp only[↓DM,bE,DX,Nz,↓DN,Qa,Qb,Qc,Qd,Qe,Qf,Qg,Qh,reduceCtorEq,↓reduceIte,Na,Nb,Nc,Nk,Nf,Ng,Nh,Za,Zb,Zc,TT,a];exact hK)):Z:=h a (hK _ _ k)
end
theorem jM{A Z:Prop}(k:A)(h:A→Z:=by(intro hA;simp only[↓DM,bE,DX,Nz,↓DN,Qa,Qb,Qc,Qd,Qe,Qf,Qg,Qh,reduceCtorEq,↓reduceIte,Na,Nb,Nc,Nk,Nf,Ng,Nh,Za,Zb,Zc,TT];exact hA)):Z:=h k
theorem jN{A Z H:Prop}(a:H)(k:A)(h:H→A→Z:=by(intro a hA;simp only[↓DM,bE,DX,Nz,↓DN,Qa,Qb,Qc,Qd,Qe,Qf,Qg,Qh,reduceCtorEq,↓reduceIte,Na,Nb,Nc,Nk,Nf,Ng,Nh,Za,Zb,Zc,TT,a];exact hA)):Z:=h a k
theorem jO{A Z:Prop}(k:A)(h:A→Z:=by(intro hA;simp only[↓DN,Qa,Qb,Qc,Qd,Qe,Qf,Qg,Qh,reduceCtorEq,↓reduceIte,Na,Nb,Nc,Nk,Nf,Ng,Nh,Za,Zb,Zc,TT];exact hA)):Z:=h k
theorem jP{A Z H:Prop}(a:H)(k:A)(h:H→A→Z:=by(intro a hA;simp only[↓DN,Qa,Qb,Qc,Qd,Qe,Qf,Qg,Qh,reduceCtorEq,↓reduceIte,Na,Nb,Nc,Nk,Nf,Ng,Nh,Za,Zb,Zc,TT,a];exact hA)):Z:=h a k
theorem jW{v:AV}{s:AS}{R:AV→AS→Prop}(h:R v s):∃r s',v.aE r∧s'.le s∧R r s':=⟨_,_,AV.aE.refl _,AS.le.refl _,h⟩
end Go.Proofs.YtbiefppedlodiaaGreatDoor
namespace Go.AM
open Go
def aJ(n:Int):AV:=.v (.int .i64 n)
def aG(l:List Int)(sp:Sp):AV:=.sl 1 l.length (l.map aJ) sp
theorem eB{l:List Int}{i:Nat}(h:i<l.length):List.take 1 (List.drop i (l.map aJ))=[.v (.int .i64 l[i])]:=by
  rw[List.drop_eq_getElem_cons (by simpa using h)];simp[aJ]
theorem ed.ints{gD:List AV}(h:ed (.slice 1 Cg) gD):∃l:List Int,gD=[aG l .any]:=by
  obtain⟨els,rfl,_,bS⟩:=ed.rows h;have key:∀els:List (List AV),(∀el∈els,el.length=1∧ed Cg el)→∃l:List Int,l.length=els.length∧els.flatten=l.map aJ:=by
    intro els;induction els with
    |nil=>intro _;exact⟨[],rfl,rfl⟩
    |cons e els ih=>
      intro h;obtain⟨l,h1,h2⟩:=ih (fun el sD=>h el (by simp[sD]));obtain⟨_,t⟩:=h e (by simp);obtain⟨n,rfl,_⟩:=pF t;exact⟨n::l,by simp[h1],by simp[h2,aJ]⟩
  obtain⟨l,h1,h2⟩:=key els bS;exact⟨l,by rw[←h1,h2];rfl⟩
theorem tw{α:Type}{a b:List α}{i:Nat}(ha:i<a.length)(hb:i<b.length)(h:a.take i=b.take i)(e:a[i]=b[i]):a.take (i+1)=b.take (i+1):=by
  rw[List.take_succ_eq_append_getElem ha,List.take_succ_eq_append_getElem hb,h,e]
structure ah where
  kind:Int
  name:List UInt8
  key:Nat
  parent:List UInt8
  iA:List Int
  deriving DecidableEq
def ah.cells(n:ah):List AV:=[.v (.int .i64 n.kind),al n.name .any,.v (.int .u64 n.key),al n.parent .any,aG n.iA .any]
def ah.gT:ah:=⟨0,[],0,[],[]⟩
theorem tB(k k':Int)(m m' p p':List UInt8)(y y':Nat)(u u':List Int):
    decide ((⟨k,m,y,p,u⟩:ah)=⟨k',m',y',p',u'⟩)=((k==k')&&(((y:Int)==(y':Int))&&(decide (m=m')&&(decide (p=p')&&decide (u=u'))))):=by
  rw[Bool.eq_iff_iff,decide_eq_true_iff];simp only[ah.mk.injEq,Bool.and_eq_true,beq_iff_eq,decide_eq_true_eq,Int.natCast_inj];constructor
  · rintro⟨h1,h2,h3,h4,h5⟩;exact⟨h1,h3,h2,h4,h5⟩
  · rintro⟨h1,h3,h2,h4,h5⟩;exact⟨h1,h2,h3,h4,h5⟩
theorem ed.node{gD:List AV}(h:ed (.struct (.cons Cg (.cons Bb (.cons (.int .u64) (.cons Bb (.cons (.slice 1 Cg) .nil)))))) gD):∃N:ah,gD=N.cells∧N.key<2^64:=by
  obtain⟨x1,y1,rfl,t1,h⟩:=fy (vO h);obtain⟨x2,y2,rfl,t2,h⟩:=fy h;obtain⟨x3,y3,rfl,t3,h⟩:=fy h;obtain⟨x4,y4,rfl,t4,h⟩:=fy h;obtain⟨x5,y5,rfl,t5,h⟩:=fy h;obtain rfl:=HZ h;obtain⟨n1,rfl,_⟩:=pF t1;obtain⟨l2,rfl,_⟩:=t2.bytes;obtain⟨n3,rfl,w3⟩:=pF t3;obtain⟨m3,rfl,h3⟩:=OB w3;obtain⟨l4,rfl,_⟩:=t4.bytes;obtain⟨l5,rfl⟩:=t5.ints;exact⟨⟨n1,l2,m3,l4,l5⟩,rfl,h3⟩
def uW(l:List Int)(i:Nat):Prop:=0≤l.getD i 0∧l.getD i 0<32∧(0<i→l.getD (i-1) 0<l.getD i 0)
instance xa0(l:List Int)(i:Nat):Decidable (uW l i):=by unfold uW;infer_instance
def jq(l:List Int):Prop:=∀i,i<l.length→uW l i
instance UM(l:List Int):Decidable (jq l):=by unfold jq;infer_instance
theorem tC{l:List Int}{i:Nat}(h:i<l.length)(h1:0≤l[i])(h2:l[i]<32)(h3:∀k:0<i,l[i-1]<l[i]):uW l i:=by
  unfold uW;have e:l.getD i 0=l[i]:=(by simp[List.getD,h]);refine⟨by rw[e];exact h1,by rw[e];exact h2,fun k=>?_⟩;have e2:l.getD (i-1) 0=l[i-1]:=(by simp[List.getD,show i-1<l.length by omega]);rw[e,e2];exact h3 k
theorem lT{l:List Int}{i:Nat}(h:i<l.length)(k:uW l i):0≤l[i]∧l[i]<32∧(∀q:0<i,l[i-1]<l[i]):=by
  unfold uW at k;have e:l.getD i 0=l[i]:=(by simp[List.getD,h]);rw[e] at k;refine⟨k.1,k.2.1,fun q=>?_⟩;have e2:l.getD (i-1) 0=l[i-1]:=(by simp[List.getD,show i-1<l.length by omega]);have:=k.2.2 q;rwa [e2] at this
def ah.held(N:ah):Prop:=2≤N.key∧N.key≤2305843009213693949∧(N.parent.length=0∨N.parent.length=32)
instance Rz(N:ah):Decidable N.held:=by unfold ah.held;infer_instance
def ah.right(N:ah):Prop:=
  if N.kind=0 then N=ah.gT
  else if N.kind=1 then(1≤N.name.length∧N.name.length≤16∧N.held∧N.iA.length=0)
  else if N.kind=2 then(N.name.length=0∧N.held∧jq N.iA)
  else False
instance OX(N:ah):Decidable N.right:=by unfold ah.right;infer_instance
theorem jr{N:ah}(h:N.kind=0):N.right↔N=ah.gT:=by unfold ah.right;rw[if_pos h]
theorem fg{N:ah}(h:N.kind=1):N.right↔(1≤N.name.length∧N.name.length≤16∧N.held∧N.iA.length=0):=by unfold ah.right;rw[if_neg (by omega),if_pos h]
theorem fT{N:ah}(h:N.kind=2):N.right↔(N.name.length=0∧N.held∧jq N.iA):=by unfold ah.right;rw[if_neg (by omega),if_neg (by omega),if_pos h]
theorem yl{N:ah}(h0:N.kind≠0)(h1:N.kind≠1)(h2:N.kind≠2):¬N.right:=by unfold ah.right;rw[if_neg h0,if_neg h1,if_neg h2];exact id
structure Rec where
  kind:Int
  group:List UInt8
  iB:Int
  time:Int
  bucket:Int
  body:List UInt8
  tree:List UInt8
  script:List UInt8
  wrapped:List UInt8
  deriving DecidableEq
def Rec.cells(r:Rec):List AV:=[.v (.int .i64 r.kind),al r.group .any,.v (.int .i64 r.iB),.v (.int .i64 r.time),.v (.int .i64 r.bucket),al r.body .any,al r.tree .any,al r.script .any,al r.wrapped .any]
def Rec.gT:Rec:=⟨0,[],0,0,0,[],[],[],[]⟩
def Rec.right(r:Rec):Prop:=
  1≤r.kind∧r.kind≤3∧1≤r.group.length∧r.group.length≤16∧0≤r.iB∧r.iB≤1048576∧0≤r.time∧r.time≤1099511627776∧0≤r.bucket∧r.bucket≤1099511627776∧r.body.length≤60000∧
    r.tree.length=(if r.kind=3 then 0 else 32)∧r.script.length=(if r.kind=3 then 0 else 32)∧r.wrapped.length=(if r.kind=3 then 0 else 48)
instance(r:Rec):Decidable r.right:=by unfold Rec.right;infer_instance
def Rec.text(r:Rec):List UInt8:=
  be 1 r.kind.toNat++(be 1 r.group.length++r.group++(be 8 r.iB.toNat++(be 8 r.time.toNat++(be 8 r.bucket.toNat++
    (be 2 r.body.length++r.body++(be 1 r.tree.length++r.tree++(be 1 r.script.length++r.script++(be 1 r.wrapped.length++r.wrapped++[]))))))))
theorem rS(k n:Nat)(st:List UInt8×Bool):ei k n st=ej (be k n) st:=rfl
theorem fU{k n:Nat}(h:n<256^k)(st:List UInt8×Bool):bm k (n:Int) st=ej (be k n) st:=by
  have e:(256:Nat)^k=2^(8*k):=(by rw[Nat.pow_mul]);have hh:(n:Int)<2^(8*k):=by
    rw[e] at h;exact_mod_cast h
  unfold bm;rw[if_pos ⟨by omega,hh⟩];simp only[Int.toNat_natCast,rS]
theorem fB(a b:List UInt8)(st:List UInt8×Bool):ej a (ej b st)=ej (b++a) st:=by
  unfold ej;by_cases h:st.2=true
  · simp[h]
  · simp[h]
theorem pP{k:Nat}{m:List UInt8}(h:m.length<256^k)(st:List UInt8×Bool):dz k m st=ej (be k m.length++m) st:=by
  unfold dz;rw[fU h,fB]
def iC(l:List Int):List UInt8:=(l.map fun x=>be 1 x.toNat).flatten
def ah.text(N:ah):List UInt8:=
  if N.kind=0 then be 1 0
  else if N.kind=1 then be 1 1++(be 1 N.name.length++N.name)++be 8 N.key++(be 1 N.parent.length++N.parent)
  else be 1 2++be 8 N.key++(be 1 N.parent.length++N.parent)++be 1 N.iA.length++iC N.iA
theorem Bm{l:List Int}(h:jq l):∀i,i<l.length→(i:Int)≤l.getD i 0
  |0,k=>(h 0 k).1
  |i+1,k=>by
    have:=Bm h i (by omega);have h3:=(h (i+1) k).2.2 (by omega);simp only[Nat.add_sub_cancel] at h3;omega
theorem rT{l:List Int}(h:jq l):l.length≤32:=by
  by_cases k:l.length=0
  · omega
  · have h1:=Bm h (l.length-1) (by omega);have h2:=(h (l.length-1) (by omega)).2.1;omega
theorem ym{l:List Int}(h:jq l){x:Int}(hx:x∈l):0≤x∧x<32:=by
  obtain⟨i,hi,rfl⟩:=List.getElem_of_mem hx;have:=lT hi (h i hi);exact⟨this.1,this.2.1⟩
theorem n6:∀(l:List Int),(iC l).length=l.length
  |[]=>rfl
  |x::l=>by
    have:=n6 l;simp only[iC,List.map_cons,List.flatten_cons,List.length_append,jm,List.length_cons] at *
    omega
theorem zY(l:List Int)(x:Int):iC (l++[x])=iC l++be 1 x.toNat:=by
  simp[iC]
theorem Cv:ah.gT.right:=by decide
theorem js{N:ah}(h:N.right):N.kind=0∨N.kind=1∨N.kind=2:=by
  unfold ah.right at h;split at h
  · left;assumption
  · split at h
    · right;left;assumption
    · split at h
      · right;right;assumption
      · exact h.elim
theorem ah.nj{N:ah}(h:N.right):N.text.length≤100:=by
  obtain⟨k,m,y,p,u⟩:=N;rcases js h with hk|hk|hk
  · simp only at hk;simp[ah.text,hk]
  · obtain⟨h1,h2,⟨h3,h4,h5⟩,h6⟩:=(fg hk).1 h;simp only at hk h1 h2 h3 h4 h5 h6;simp[ah.text,hk];omega
  · obtain⟨h1,⟨h3,h4,h5⟩,h6⟩:=(fT hk).1 h;simp only at hk h1 h3 h4 h5 h6;have hu:=rT h6;simp[ah.text,hk,n6];omega
structure RdS(s s1:AS)(p o2 o3:Nat)(ce z cs:List AV):Prop where
  le:(s.drop p).le s1
  eye:s1.aw p=some ce
  res:s1.aw o2=some z
  var:s1.aw o3=some cs
  n2:s.aw o2=none
  n3:s.aw o3=none
  p2:p≠o2
  p3:p≠o3
  d:o2≠o3
def xhQ(s0 s:AS)(x:AV)(l:List Int):Prop:=(x=bU∧l=[])∨∃t e,x=aG l (.own t e)∧s.own t=some e∧s0.own t=none
structure Rd4(s s1:AS)(p o2 o3 o4:Nat)(ce z cs ds:List AV):Prop where
  rd:RdS s s1 p o2 o3 ce z cs
  obj:s1.aw o4=some ds
  n4:s.aw o4=none
  p4:p≠o4
  d2:o2≠o4
  d3:o3≠o4
theorem aZ{a b:AS}(h:a.le b){t:Nat}(k:b.own t=none):a.own t=none:=by
  cases e:a.own t with
  |none=>rfl
  |some x=>rw[h.own t x e] at k;cases k
def lvT:List Nat:=[0,1,0,2,0,1,0,3,0,1,0,2,0,1,0,4,0,1,0,2,0,1,0,3,0,1,0,2,0,1,0,5,0,1,0,2,0,1,0,3,0,1,0,2,0,1,0,4,0,1,0,2,0,1,0,3,0,1,0,2,0,1,0]
def lv(n:Nat):Nat:=lvT.getD n 0
def qx(x:Int):Nat:=if 0≤x∧x<63 then lv x.toNat else 0
def hf(n:Nat):Nat:=2^lv n/2
def lo(n:Nat):Nat:=(n-(2^lv n-1))/2
def hi(n:Nat):Nat:=(n+(2^lv n-1))/2
def Fit(n:Nat):Prop:=n=1∨n=2∨n=4∨n=8∨n=16∨n=32
instance(n:Nat):Decidable (Fit n):=by unfold Fit;infer_instance
theorem Fit.le{n:Nat}(h:Fit n):1≤n∧n≤32:=by rcases h with h|h|h|h|h|h<;>omega
theorem nn(n:Nat):lv n≤5:=by
  by_cases h:n<63
  · exact(by decide:∀n<63,lv n≤5) n h
  · have :lv n=0:=(by simp[lv,List.getD,lvT,show 63≤n by omega]);omega
def oI(n:Nat):Nat:=if n/2^(lv n+1)%2=0 then n+2^lv n else n-2^lv n
def dT:Nat→Nat→Nat→List Nat
  |0,_,_=>[]
  |k+1,n,leaves=>if n=leaves-1 then[] else oI n::dT k (oI n) leaves
def az(leaf leaves:Nat):List Nat:=dT 6 (2*leaf) leaves
def fi:List Nat:=[0,1,56,2,57,49,28,3,61,58,42,50,38,29,17,4,62,47,59,36,45,43,51,22,53,39,33,30,24,18,12,5,63,55,48,27,60,41,37,16,46,35,44,21,52,32,23,11,54,26,40,15,34,20,31,10,25,14,19,9,13,8,7,6]
def oJ(n:Nat):AV:=.v (.int .u8 n)
def rU(x:Int):Prop:=0≤x∧Fit x.toNat
instance(x:Int):Decidable (rU x):=by unfold rU;infer_instance
theorem Tb:∀n<63,∃k<64,eU .u64 (ia .u64 (mr .u64 ((n+1:Nat):Int) (DQ .u64 ((n+1:Nat):Int))) 285870213051353865) 58=((k:Nat):Int)∧(List.drop k (fi.map oJ))[0]? =some (oJ (lv n)):=by
  have key:∀n<63,∃k<64,eU .u64 (ia .u64 (mr .u64 ((n+1:Nat):Int) (DQ .u64 ((n+1:Nat):Int))) 285870213051353865) 58=((k:Nat):Int)∧fi[k]? =some (lv n):=(by decide+kernel);intro n hn;obtain⟨k,h1,h2,h3⟩:=key n hn;refine⟨k,h1,h2,?_⟩;rw[List.getElem?_drop,Nat.add_zero,List.getElem?_map,h3];rfl
theorem eS{n:Nat}(h:n<63):qx (n:Int)=lv n:=by
  unfold qx;rw[if_pos (by omega),Int.toNat_natCast]
theorem Cw(x:Int):qx x≤5:=by unfold qx;split;exact nn _;omega
theorem OY{l:Nat}(h:l≤5):eU .i64 (kC .i64 1 (l:Int)) 1=((2^l/2:Nat):Int):=(by decide:∀l≤5,eU .i64 (kC .i64 1 ((l:Nat):Int)) 1=((2^l/2:Nat):Int)) l h
theorem Lu{l:Nat}(h:l≤5):kC .i64 1 (l:Int)=((2^l:Nat):Int):=(by decide:∀l≤5,kC .i64 1 ((l:Nat):Int)=((2^l:Nat):Int)) l h
theorem mG{l:Nat}(h:l≤5):1≤2^l∧2^l≤32:=(by decide:∀l≤5,1≤2^l∧2^l≤32) l h
def gi(x:Int):Option (Int×Int):=if qx x=0 then none else some (x-((2^qx x/2:Nat):Int),x+((2^qx x/2:Nat):Int))
def iD(x:Int):Int×Int:=if 0≤x∧x<63 then((lo x.toNat:Int),(hi x.toNat:Int)) else(0,-1)
theorem qy(x:Int):2^qx x/2=0↔qx x=0:=by
  have:=Cw x;generalize qx x=l at *
  exact(by decide:∀l≤5,2^l/2=0↔l=0) l this
theorem Tc:∀n:Nat,n<63→kX .i64 (dr .i64 (n:Int) (dr .i64 ((2^lv n:Nat):Int) 1)) 2=(lo n:Int)∧kX .i64 (dQ .i64 (n:Int) (dr .i64 ((2^lv n:Nat):Int) 1)) 2=(hi n:Int):=by decide+kernel
end Go.AM
namespace Go.Proofs.YtbiefppedlodiaaGreatDoor
open Go Go.AM Go.Proofs Tryz
variable{Γ:Nat→List AV}
theorem yn(x:Int)(s:AS):aj prog Γ 173 [.v (.int .i64 x)] s (fun r s'=>r=.v (.bool (decide (0≤x∧x<63)))∧s'=s):=by
 refine aa func173 rfl ntmps173 results173 (by simp) ?_;refine jA ?_;by_cases h:0≤x
 ·refine jB (decide_eq_true h) ?_;refine jI ?_;exact jW ⟨by simp[h],rfl⟩
 ·refine jB (decide_eq_false h) ?_;refine jI ?_;exact jW ⟨by simp[h],rfl⟩
theorem GJ(hG:Γ 3=fi.map oJ)(n:Nat)(hn:n<63)(s:AS):aj prog Γ 215 [.v (.int .u64 ((n+1:Nat):Int))] s (fun r s'=>r=.v (.int .i64 (lv n))∧s'=s):=by
 refine aa func215 rfl ntmps215 results215 (by simp) ?_;have h0:(((n+1:Nat):Int)==0)=false:=(by simp;omega);refine jA ?_;refine wK fun K hK=>?_;refine jB @h0 ?_;refine jF ?_;refine ab ?_;refine hK _ _ ?_;clear hK K;obtain⟨k,hk,qI,fA⟩:=Tb n hn;have hl:=nn n;have N2:((0:Int)≤(k:Int))=True:=eq_true (by omega);have Dy:((k:Int)<((64:Nat):Int))=True:=eq_true (by omega);refine wS fun K hK=>?_;simp only[↓DN,Qa,Qb,Qc,Qd,Qe,Qf,Qg,Qh,reduceCtorEq,↓reduceIte,Na,Nb,Nc,Nk,Nf,Ng,Nh,Za,Zb,Zc,TT,hG,qI,N2,Dy,fA,oJ,KO (show lv n<2^62 by omega)];refine hK _ _ ?_;clear hK K;exact jJ
theorem Lv(hG:Γ 3=fi.map oJ)(n:Nat)(hn:n<63)(s:AS):aj prog Γ 184 [.v (.int .u64 ((n+1:Nat):Int))] s (fun r s'=>r=.v (.int .i64 (lv n))∧s'=s):=by
 refine aa func184 rfl ntmps184 results184 (by simp) ?_;refine jA ?_;refine wK fun K hK=>?_;refine jF ?_;refine ab ?_;refine hK _ _ ?_;clear hK K;refine jK (GJ hG n hn _) ?_;rintro s1 rfl;exact jJ
theorem pQ(hG:Γ 3=fi.map oJ)(x:Int)(s:AS):aj prog Γ 152 [.v (.int .i64 x)] s (fun r s'=>r=.v (.int .i64 (qx x))∧s'=s):=by
 refine aa func152 rfl ntmps152 results152 (by simp) ?_;refine jA ?_;refine wK fun K hK=>?_;refine jQ fun K hK=>?_;refine ad (yn x _) ?_;rintro r s1 ⟨rfl,rfl⟩;by_cases h:0≤x∧x<63
 ·obtain⟨n,rfl⟩:=Int.eq_ofNat_of_zero_le h.1;have hn:n<63:=(by omega);rw[decide_eq_true h];refine jR hK ?_;clear hK K;refine jF ?_;refine ab ?_;refine hK _ _ ?_;clear hK K;have e1:cE .u64 (dQ .i64 (n:Int) 1)=((n+1:Nat):Int):=(by rw[eG n (by omega),Eo (by omega)]);refine jS @e1 fun K hK=>?_;refine ad (Lv hG n hn _) ?_;rintro r s2 ⟨rfl,rfl⟩;refine jR hK ?_;clear hK K;refine jI ?_;rw[eS hn];exact jW ⟨rfl,rfl⟩
 ·rw[decide_eq_false h];refine jR hK ?_;clear hK K;refine jE ?_;refine jA ?_;refine jI ?_;rw[show qx x=0 from if_neg h];exact jW ⟨rfl,rfl⟩
theorem n8(hG:Γ 3=fi.map oJ)(x:Int)(s:AS):aj prog Γ 183 [.v (.int .i64 x)] s (fun r s'=>r=.v (.int .i64 ((2^qx x/2:Nat):Int))∧s'=s):=by
 refine aa func183 rfl ntmps183 results183 (by simp) ?_;have hl:qx x≤5:=(by unfold qx;split;exact nn _;omega);refine jA ?_;refine jK (pQ hG x _) ?_;rintro s1 rfl;refine jI ?_;rw[OY hl];exact jW ⟨rfl,rfl⟩
theorem iE(hG:Γ 3=fi.map oJ)(x:Int)(hx: -9000000000000000000≤x∧x≤9000000000000000000)(s:AS):aj prog Γ 151 [.v (.int .i64 x)] s (fun r s'=>r=(match gi x with |some k=>.eu [.v (.int .i64 k.1),.v (.bool true)]|none=>.eu [.v (.int .i64 0),.v (.bool false)])∧s'=s):=by
 refine aa func151 rfl ntmps151 results151 (by simp) ?_;have hl:=Cw x;have hp:=mG hl;refine jA ?_;refine wK fun K hK=>?_;refine jQ fun K hK=>?_;refine ad (n8 hG x _) ?_;rintro r s1 ⟨rfl,rfl⟩;by_cases h:qx x=0
 ·have h0:(((2^qx x/2:Nat):Int)==0)=true:=(by rw[beq_iff_eq];have:=(qy x).2 h;omega);refine jV @h0 hK ?_;clear hK K;refine jE ?_;refine jA ?_;refine jI ?_;rw[show gi x=none from if_pos h];exact jW ⟨rfl,rfl⟩
 ·have h0:(((2^qx x/2:Nat):Int)==0)=false:=by
   rw[beq_eq_false_iff_ne];intro e;exact h ((qy x).1 (by omega))
  refine jV @h0 hK ?_;clear hK K;refine jF ?_;refine ab ?_;refine hK _ _ ?_;clear hK K;refine jQ fun K hK=>?_;refine ad (n8 hG x _) ?_;rintro r s2 ⟨rfl,rfl⟩;refine jV (bO (a:=x) (b:=((2^qx x/2:Nat):Int)) (by omega)) hK ?_;clear hK K;refine jI ?_;rw[show gi x=some (_,_) from if_neg h];exact jW ⟨rfl,rfl⟩
theorem mT(hG:Γ 3=fi.map oJ)(x:Int)(hx: -9000000000000000000≤x∧x≤9000000000000000000)(s:AS):aj prog Γ 150 [.v (.int .i64 x)] s (fun r s'=>r=(match gi x with |some k=>.eu [.v (.int .i64 k.2),.v (.bool true)]|none=>.eu [.v (.int .i64 0),.v (.bool false)])∧s'=s):=by
 refine aa func150 rfl ntmps150 results150 (by simp) ?_;have hl:=Cw x;have hp:=mG hl;refine jA ?_;refine wK fun K hK=>?_;refine jQ fun K hK=>?_;refine ad (n8 hG x _) ?_;rintro r s1 ⟨rfl,rfl⟩;by_cases h:qx x=0
 ·have h0:(((2^qx x/2:Nat):Int)==0)=true:=(by rw[beq_iff_eq];have:=(qy x).2 h;omega);refine jV @h0 hK ?_;clear hK K;refine jE ?_;refine jA ?_;refine jI ?_;rw[show gi x=none from if_pos h];exact jW ⟨rfl,rfl⟩
 ·have h0:(((2^qx x/2:Nat):Int)==0)=false:=by
   rw[beq_eq_false_iff_ne];intro e;exact h ((qy x).1 (by omega))
  refine jV @h0 hK ?_;clear hK K;refine jF ?_;refine ab ?_;refine hK _ _ ?_;clear hK K;refine jQ fun K hK=>?_;refine ad (n8 hG x _) ?_;rintro r s2 ⟨rfl,rfl⟩;refine jV (ec (a:=x) (b:=((2^qx x/2:Nat):Int)) (by omega)) hK ?_;clear hK K;refine jI ?_;rw[show gi x=some (_,_) from if_neg h];exact jW ⟨rfl,rfl⟩
theorem rj(hG:Γ 3=fi.map oJ)(x:Int)(s:AS):aj prog Γ 128 [.v (.int .i64 x)] s (fun r s'=>r=.eu [.v (.int .i64 (iD x).1),.v (.int .i64 (iD x).2)]∧s'=s):=by
 refine aa func128 rfl ntmps128 results128 (by simp) ?_;refine jA ?_;refine wK fun K hK=>?_;refine jQ fun K hK=>?_;refine ad (yn x _) ?_;rintro r s1 ⟨rfl,rfl⟩;by_cases h:0≤x∧x<63
 ·obtain⟨n,rfl⟩:=Int.eq_ofNat_of_zero_le h.1;have hn:n<63:=(by omega);have hl:=nn n;have hp:=mG hl;obtain⟨u1,u2⟩:=Tc n hn;rw[decide_eq_true h];refine jR hK ?_;clear hK K;refine jF ?_;refine ab ?_;refine hK _ _ ?_;clear hK K;refine jQ fun K hK=>?_;refine ad (pQ hG n _) ?_;rintro r s2 ⟨rfl,rfl⟩;refine jV (Ai (eS hn) (Lu hl)) hK ?_;clear hK K;refine jB (Ai @u1 @u2) ?_;refine jI ?_;rw[show iD (n:Int)=((lo n:Int),(hi n:Int)) from if_pos h];exact jW ⟨rfl,rfl⟩
 ·rw[decide_eq_false h];refine jR hK ?_;clear hK K;refine jE ?_;refine jA ?_;refine jI ?_;rw[show iD x=(0,-1) from if_neg h];exact jW ⟨rfl,rfl⟩
end Go.Proofs.YtbiefppedlodiaaGreatDoor
namespace Go.AM
open Go
theorem lU{a b:Int}(h:a=b):(a==b)=true:=by simpa using h
theorem ko{a b:Int}(h:a≠b):(a==b)=false:=by simpa using h
theorem UN{a b:Int}(h:a≠b):(a != b)=true:=by simpa using h
theorem eqI{a b:Int}(h:a=b):(a != b)=false:=by simpa using h
theorem lV:((2:Int)=0)=False:=by decide
theorem OZ{a:Nat}(h:a=0):((a:Int)==0)=true:=by subst h;rfl
theorem Ic{a:Nat}(h:a≠0):((a:Int)==0)=false:=by simpa using h
theorem YB{a k:Nat}(h:a=k):((a:Int)==(k:Int))=true:=by subst h;simp
theorem xci{a k:Nat}(h:a≠k):((a:Int)==(k:Int))=false:=by simp only[beq_eq_false_iff_ne,ne_eq];omega
theorem RA{a b:Nat}(h:a≠b):((a:Int) != (b:Int))=true:=by simp only[bne_iff_ne,ne_eq];omega
theorem RB{a b:Nat}(h:a=b):((a:Int) != (b:Int))=false:=by subst h;simp
theorem bd(i:Nat)(h:i<9223372036854775807):dQ .i64 (i:Int) 1=((i+1:Nat):Int):=by
  rw[ec (by omega)];omega
theorem dL(m:Nat)(h:m<9223372036854775807):kX .i64 (m:Int) 2=((m/2:Nat):Int):=by
  have e:(m:Int).tdiv 2=((m/2:Nat):Int):=(Int.ofNat_tdiv m 2).symm;unfold kX;rw[e];exact IntWalk.i64_in _ (by omega)
theorem bZ(m:Nat)(h:m<4611686018427387904):ia .i64 2 (m:Int)=((2*m:Nat):Int):=by
  rw[dJ (by omega)];omega
theorem YC(a:Nat):decide ((a:Int)<0)=false:=decide_eq_false (by omega)
theorem O0:∀n:Nat,n≤32→1≤n→(mr .i64 (n:Int) (dr .i64 (n:Int) 1)==0)=decide (Fit n):=by decide+kernel
theorem np{n:Nat}:rU (n:Int)↔Fit n:=by unfold rU;rw[Int.toNat_natCast];exact⟨fun h=>h.2,fun h=>⟨by omega,h⟩⟩
theorem pR{x:Int}(h:rU x):1≤x∧x≤32:=by have:=h.2.le;have:=h.1;omega
def Lw(x:Int):Int:=if rU x then 2*x-1 else 0
def rV(n l:Nat):Option Nat:=if n=l-1 then none else some (oI n)
theorem Jz:∀n:Nat,n<63→(mr .i64 (n:Int) (ia .i64 2 ((2^lv n:Nat):Int))==0)=decide (n/2^(lv n+1)%2=0)∧dQ .i64 (n:Int) ((2^lv n:Nat):Int)=((n+2^lv n:Nat):Int)∧
    (¬n/2^(lv n+1)%2=0→dr .i64 (n:Int) ((2^lv n:Nat):Int)=((n-2^lv n:Nat):Int)):=by decide+kernel
def nodeAt(leaf l:Nat):Nat→Nat
  |0=>2*leaf
  |i+1=>(az leaf l).getD i 0
theorem Fit.pow{n:Nat}(h:Fit n):∃m,m≤5∧n=2^m:=by
  rcases h with rfl|rfl|rfl|rfl|rfl|rfl
  · exact⟨0,by decide,rfl⟩
  · exact⟨1,by decide,rfl⟩
  · exact⟨2,by decide,rfl⟩
  · exact⟨3,by decide,rfl⟩
  · exact⟨4,by decide,rfl⟩
  · exact⟨5,by decide,rfl⟩
theorem GK{leaf l:Nat}(hl:Fit l)(h:leaf<l){i:Nat}(hi:i≤(az leaf l).length):nodeAt leaf l i<2*l-1∧rV (nodeAt leaf l i) l=(az leaf l)[i]?:=by
  obtain⟨m,hm,rfl⟩:=hl.pow;exact(by decide+kernel:∀m≤5,∀leaf<2^m,∀i≤(az leaf (2^m)).length,nodeAt leaf (2^m) i<2*2^m-1∧rV (nodeAt leaf (2^m) i) (2^m)=(az leaf (2^m))[i]?) m hm leaf h i hi
theorem fC{leaf l:Nat}(hl:Fit l)(h:leaf<l):(az leaf l).length≤5:=by
  obtain⟨m,hm,rfl⟩:=hl.pow;exact(by decide+kernel:∀m≤5,∀leaf<2^m,(az leaf (2^m)).length≤5) m hm leaf h
theorem tD{leaf l:Nat}(hl:Fit l)(h:leaf<l):∀x∈az leaf l,x<2*l-1∧x%2=1∧lo x≤leaf∧leaf≤hi x:=by
  obtain⟨m,hm,rfl⟩:=hl.pow;exact(by decide+kernel:∀m≤5,∀leaf<2^m,∀x∈az leaf (2^m),x<2*2^m-1∧x%2=1∧lo x≤leaf∧leaf≤hi x) m hm leaf h
def oX(leaf l:Nat):List Nat:=(az leaf l).reverse++[2*leaf]
def xh(leaf l:Nat):Nat→Nat×Nat
  |0=>(0,2*l-2)
  |j+1=>let s:=xh leaf l j;let oY:=(s.1+s.2)/2;if 2*leaf<oY then(s.1,oY-1) else(oY+1,s.2)
theorem JA{leaf l:Nat}(hl:Fit l)(h:leaf<l){j:Nat}(hj:j<(oX leaf l).length):
    (oX leaf l)[j]? =some (((xh leaf l j).1+(xh leaf l j).2)/2)∧(j+1=(oX leaf l).length↔2*leaf=((xh leaf l j).1+(xh leaf l j).2)/2)∧(xh leaf l j).1+(xh leaf l j).2≤200:=by
  obtain⟨m,hm,rfl⟩:=hl.pow;exact(by decide+kernel:∀m≤5,∀leaf<2^m,∀j<(oX leaf (2^m)).length,(oX leaf (2^m))[j]? =some (((xh leaf (2^m) j).1+(xh leaf (2^m) j).2)/2)∧(j+1=(oX leaf (2^m)).length↔2*leaf=((xh leaf (2^m) j).1+(xh leaf (2^m) j).2)/2)∧(xh leaf (2^m) j).1+(xh leaf (2^m) j).2≤200) m hm leaf h j hj
theorem O1:∀n<63,(n%2=1→lv n=lv (n/2)+1)∧(n%2=0→lv n=0):=by decide+kernel
theorem O2:∀n<63,lv n≠0→lo (n-hf n)=lo n∧lv (n-hf n)+1=lv n∧n-hf n<63∧hf n≤n:=by decide+kernel
theorem O3:∀n<63,lv n≠0→hi (n+hf n)=hi n∧lv (n+hf n)+1=lv n∧n+hf n<63:=by decide+kernel
theorem Ie:∀n<63,lv n=0→lo n=n/2∧hi n=n/2:=by decide+kernel
def aP(l:List Nat):List Int:=l.map fun(n:Nat)=>(n:Int)
theorem br(l:List Nat):(aP l).length=l.length:=by simp[aP]
end Go.AM
namespace Go.Proofs.YtbiefppedlodiaaGreatDoor
open Go Go.AM Go.Proofs Tryz
variable{Γ:Nat→List AV}
theorem tE(x:Int)(s:AS):aj prog Γ 148 [.v (.int .i64 x)] s (fun r s'=>r=.v (.bool (decide (rU x)))∧s'=s):=by
 refine aa func148 rfl ntmps148 results148 (by simp) ?_;refine jA ?_;by_cases h1:1≤x
 ·by_cases h2:x≤32
  ·obtain⟨n,rfl⟩:=Int.eq_ofNat_of_zero_le (show 0≤x by omega);refine jB (Ai (decide_eq_true h1) (Ai (decide_eq_true h2) (O0 n (by omega) (by omega)))) ?_;refine jI ?_;exact jW ⟨by simp only[np],rfl⟩
  ·have hn:decide (rU x)=false:=(decide_eq_false fun h=>by have:=pR h;omega);refine jB (Ai (decide_eq_true h1) (decide_eq_false h2)) ?_;refine jI ?_;rw[hn];exact jW ⟨rfl,rfl⟩
 ·have hn:decide (rU x)=false:=(decide_eq_false fun h=>by have:=pR h;omega);refine jB (decide_eq_false h1) ?_;refine jI ?_;rw[hn];exact jW ⟨rfl,rfl⟩
theorem rk(x:Int)(s:AS):aj prog Γ 149 [.v (.int .i64 x)] s (fun r s'=>r=.v (.int .i64 (Lw x))∧s'=s):=by
 refine aa func149 rfl ntmps149 results149 (by simp) ?_;refine jA ?_;refine wK fun K hK=>?_;refine jQ fun K hK=>?_;refine ad (tE x _) ?_;rintro r s1 ⟨rfl,rfl⟩;by_cases h:rU x
 ·have hb:=pR h;rw[decide_eq_true h];refine jR hK ?_;clear hK K;refine jF ?_;refine ab ?_;refine hK _ _ ?_;clear hK K;refine jA ?_;refine jI ?_;rw[dJ (a:=2) (b:=x) (by omega),bO (a:=2*x) (b:=1) (by omega),show Lw x=2*x-1 from if_pos h];exact jW ⟨rfl,rfl⟩
 ·rw[decide_eq_false h];refine jR hK ?_;clear hK K;refine jE ?_;refine jA ?_;refine jI ?_;rw[show Lw x=0 from if_neg h];exact jW ⟨rfl,rfl⟩
theorem ED{l:Nat}(h:Fit l):Lw (l:Int)=((2*l-1:Nat):Int):=by
 have:=h.le;unfold Lw;rw[if_pos (np.2 h)];omega
theorem mU(hG:Γ 3=fi.map oJ)(n l:Nat)(hl:Fit l)(hn:n<2*l-1)(s:AS):aj prog Γ 106 [.v (.int .i64 n),.v (.int .i64 l)] s
  (fun r s'=>r=.eu [.v (.int .i64 ((rV n l).getD 0)),.v (.bool (rV n l).isSome)]∧s'=s):=by
 refine aa func106 rfl ntmps106 results106 (by simp) ?_;have F2:=hl.le;have Je:n<63:=(by omega);have h0:decide ((n:Int)<0)=false:=decide_eq_false (by omega);have h1:decide (((2*l-1:Nat):Int)≤(n:Int))=false:=decide_eq_false (by omega);have hw:=ED hl;have hp:=mG (nn n);obtain⟨a1,a2,a3⟩:=Jz n Je;refine jA ?_;refine wK fun K hK=>?_;refine jS @h0 fun K hK=>?_;refine ad (rk l _) ?_;rintro r s1 ⟨rfl,rfl⟩;by_cases he:n=l-1
 ·have h2:(((n:Nat):Int)==dr .i64 (l:Int) 1)=true:=(by rw[bO (by omega),beq_iff_eq];omega);refine jV (Ai @hw (Ai @h1 @h2)) hK ?_;clear hK K;refine jE ?_;refine jA ?_;refine jI ?_;rw[show rV n l=none from if_pos he];exact jW ⟨rfl,rfl⟩
 ·have h2:(((n:Nat):Int)==dr .i64 (l:Int) 1)=false:=(by rw[bO (by omega),beq_eq_false_iff_ne];omega);have ha:rV n l=some (oI n):=if_neg he;refine jV (Ai @hw (Ai @h1 @h2)) hK ?_;clear hK K;refine jF ?_;refine ab ?_;refine hK _ _ ?_;clear hK K;refine jQ fun K hK=>?_;refine ad (pQ hG n _) ?_;rintro r s2 ⟨rfl,rfl⟩;refine jV (Ai (eS Je) (Lu (nn n))) hK ?_;clear hK K;refine wK fun K hK=>?_;by_cases hb:n/2^(lv n+1)%2=0
  ·rw[decide_eq_true hb] at a1;refine jB @a1 ?_;refine jE ?_;refine jB @a2 ?_;refine jI ?_;rw[ha,show oI n=n+2^lv n from if_pos hb];exact jW ⟨rfl,rfl⟩
  ·rw[decide_eq_false hb] at a1;refine jB @a1 ?_;refine jF ?_;refine ab ?_;refine hK _ _ ?_;clear hK K;refine jB (a3 hb) ?_;refine jI ?_;rw[ha,show oI n=n-2^lv n from if_neg hb];exact jW ⟨rfl,rfl⟩
def lW:AV→Nat
 |.sl _ n _ _=>n
 |_=>0
theorem iF(hG:Γ 3=fi.map oJ)(leaf l:Nat)(hl:Fit l)(hn:leaf<l)(s:AS):aj prog Γ 47 [.v (.int .i64 leaf),.v (.int .i64 l)] s
  (fun r s'=>r=aG (aP (az leaf l)) .any∧s'=s):=by
 refine aa func47 rfl ntmps47 results47 (by simp) ?_;have F2:=hl.le;have xz:=fC hl hn;have h0:decide ((leaf:Int)<0)=false:=decide_eq_false (by omega);have h1:decide ((l:Int)≤(leaf:Int))=false:=decide_eq_false (by omega);have gS:=fun(i:Nat)(h:i≤(az leaf l).length)=>GK hl hn h;have RC:∀i,i<(az leaf l).length→nodeAt leaf l (i+1)=(az leaf l).getD i 0:=fun i _=>rfl;have Td:nodeAt leaf l 0=2*leaf:=rfl;generalize az leaf l=P at *
 refine jA ?_;refine wK fun K hK=>?_;refine jB (Ai @h0 @h1) ?_;refine jF ?_;refine ab ?_;refine hK _ _ ?_;clear hK K;refine jA ?_;refine wK fun K hK=>?_;refine jQ fun K hK=>?_;obtain⟨w0,w1⟩:=gS 0 (Nat.zero_le _);rw[Td] at w0 w1;have e0:ia .i64 2 (leaf:Int)=((2*leaf:Nat):Int):=(by rw[dJ (by omega)];omega);rw[e0];refine ad (mU hG (2*leaf) l hl w0 _) ?_;rintro r s1 ⟨rfl,rfl⟩;rw[w1];refine jR hK ?_;clear hK K;refine ag ?_;refine aD (fun E s2=>∃(i:Nat)(x:AV),i≤P.length∧E 6=.v (.int .i64 (((P[i]?).getD 0:Nat):Int))∧E 7=.v (.bool (P[i]?).isSome)∧E 1=.v (.int .i64 l)∧E 5=x∧cZ 1 s1 s2 x i ((aP (P.take i)).map aJ)∧s1.le s2)
  (fun E _=>P.length+1-lW (E 5)) ?_ ?_
 ·exact⟨0,bU,Nat.zero_le _,rfl,rfl,rfl,rfl,cZ.nil _ _ _,AS.le.refl _⟩
 ·rintro E1 s2 ⟨i,x,hi,g6,g7,g1,g5,hx,hle⟩ -
  refine wK fun K2 aU=>?_;by_cases aY:i<P.length
  ·have hp:P[i]? =some P[i]:=List.getElem?_eq_getElem aY;rw[hp] at g6 g7;simp only[Option.getD_some,Option.isSome_some] at g6 g7;refine jB @g7 ?_;refine jE ?_;refine ab ?_;refine aU _ _ ?_;clear aU K2;refine wK fun K3 bq=>?_;refine ag ?_;have EE:nodeAt leaf l (i+1)=P[i]:=(by rw[RC i aY,List.getD,hp];rfl);obtain⟨w2,w3⟩:=gS (i+1) aY;rw[EE] at w2 w3;have eo:aP (P.take (i+1))=aP (P.take i)++[((P[i]:Nat):Int)]:=(by unfold aP;rw[List.take_succ_eq_append_getElem aY,List.map_append];rfl);have bX:∀(E:Env)(s3:AS)(x3:AV),E 6=.v (.int .i64 (P[i]:Nat))→E 1=.v (.int .i64 l)→E 5=x3→cZ 1 s1 s3 x3 (i+1) ((aP (P.take (i+1))).map aJ)→s1.le s3→K3 E s3:=by
    intro E s3 x3 f6 f1 f5 fx zZ;refine bq _ _ ?_;clear bq K3;refine jU (Ai @f6 @f1) fun K hK=>?_;refine ad (mU hG (P[i]) l hl w2 _) ?_;rintro r s4 ⟨rfl,rfl⟩;rw[w3];refine jM ?_;refine hK _ _ ⟨⟨i+1,x3,aY,rfl,rfl,f1,f5,fx,zZ⟩,?_⟩;have m1:lW (E1 5)=i:=by
     rw[g5];rcases hx with⟨rfl,rfl,_⟩|⟨t,e,rfl,_⟩<;>rfl
    have m2:lW (E 5)=i+1:=by
     rw[f5];rcases fx with⟨rfl,h,_⟩|⟨t,e,rfl,_⟩
     ·omega
     ·rfl
    simp only[aB,Nc,↓reduceIte,m1,m2];omega
   clear bq;rcases hx with⟨rfl,fD,sF⟩|⟨t,e,rfl,ht,iG⟩
   ·refine wE fun K hK=>?_;simp only[↓DN,Qa,Qb,Qc,Qd,Qe,Qf,Qg,Qh,reduceCtorEq,↓reduceIte,Na,Nb,Nc,Nk,Nf,Ng,Nh,Za,Zb,Zc,TT,g5,g6,bU,List.replicate_succ];intro t ht;refine hK _ _ (bX _ _ (.sl 1 1 [.v (.int .i64 ((P[i]:Nat):Int))] (.own t 0)) g6 g1 rfl ?_ ?_)
    ·refine .inr ⟨t,0,?_,by simp[AS.bA],aZ hle ht⟩;rw[eo,List.map_append,sF];subst fD;rfl
    ·exact AS.bn hle (aZ hle ht) 0
   ·refine wE fun K hK=>?_;simp only[↓DN,Qa,Qb,Qc,Qd,Qe,Qf,Qg,Qh,reduceCtorEq,↓reduceIte,Na,Nb,Nc,Nk,Nf,Ng,Nh,Za,Zb,Zc,TT,g5,g6,ht,List.replicate_succ];have F3:(aP (P.take i)).length=i:=(by rw[br,List.length_take];omega);refine⟨by omega,by omega,hK _ _ (bX _ _ (.sl 1 (i+1) ((aP (P.take i)).map aJ++[.v (.int .i64 ((P[i]:Nat):Int))]) (.own t (e+1))) g6 g1 rfl ?_ ?_)⟩
    ·exact .inr ⟨t,e+1,by rw[eo,List.map_append];rfl,by simp[AS.bA],iG⟩
    ·exact AS.bn hle iG (e+1)
  ·have hp:P[i]? =none:=List.getElem?_eq_none (by omega);rw[hp] at g7;simp only[Option.isSome_none] at g7;refine jB @g7 ?_;refine jF ?_;refine aC ?_;simp only[aA,aq,if_true];refine hK _ _ ?_;clear hK aU K2 K;obtain rfl:i=P.length:=(by omega);rw[List.take_of_length_le (Nat.le_refl _)] at hx;have hw:=hx.aE;refine jB @g5 ?_;refine jI ?_;refine⟨_,_,?_,hle,rfl,rfl⟩;have F3:=br P;unfold aG;rw[F3];exact hw
theorem Lx(x:Int):rU x↔x=1∨x=2∨x=4∨x=8∨x=16∨x=32:=by unfold rU Fit;omega
theorem oK(x:Int)(s:AS):aj prog Γ 115 [.v (.int .i64 x)] s (fun r s'=>r=.v (.bool (decide (rU x)))∧s'=s):=by
 refine aa func115 rfl ntmps115 results115 (by simp) ?_;refine jA ?_;rcases tt6 (x==1) (x==2) (x==4) (x==8) (x==16) (x==32) with hd|hd|hd|hd|hd|hd|hd;all_goals
  refine jB @hd ?_;refine jI ?_;simp only[beq_iff_eq,beq_eq_false_iff_ne,ne_eq] at hd;have hf:=Lx x
 case inr.inr.inr.inr.inr.inr=>
  rw[decide_eq_false (by rw[hf];omega)];exact jW ⟨rfl,rfl⟩
 all_goals
  rw[decide_eq_true (by rw[hf];omega)];exact jW ⟨rfl,rfl⟩
theorem fV(x:Int)(s:AS):aj prog Γ 125 [.v (.int .i64 x)] s (fun r s'=>r=.v (.int .i64 (qx x))∧s'=s):=by
 refine aa func125 rfl ntmps125 results125 (by simp) ?_;refine jA ?_;refine wK fun K hK=>?_;by_cases h:0≤x∧x<63
 ·obtain⟨n,rfl⟩:=Int.eq_ofNat_of_zero_le h.1;have hn:n<63:=(by omega);have h0:decide ((n:Int)<0)=false:=decide_eq_false (by omega);have h1:decide ((62:Int)<(n:Int))=false:=decide_eq_false (by omega);refine jB (Ai @h0 @h1) ?_;refine jF ?_;refine ab ?_;refine hK _ _ ?_;clear hK K;refine jA ?_;refine wK fun K hK=>?_;refine jA ?_;refine ag ?_;refine aD (fun E s2=>∃(k m:Nat),m<63∧k+lv m=lv n∧E 3=.v (.int .i64 k)∧E 4=.v (.int .i64 m)∧s2=s)
   (fun E _=>match E 4 with |.v (.int _ i)=>i.toNat|_=>0) ?_ ?_
  ·exact⟨0,n,hn,by omega,rfl,rfl,rfl⟩
  ·rintro E1 s2 ⟨k,m,hm,hk,g3,g4,rfl⟩ -
   refine wK fun K2 aU=>?_;have YD:=O1 m hm;have hr:iW (m:Int) 2=((m%2:Nat):Int):=lP m 2;have hq:kX .i64 (m:Int) 2=((m/2:Nat):Int):=dL m (by omega);by_cases yo:m%2=1
   ·have DS:=YD.1 yo;have hle:=nn n;have hy:((iW (m:Int) 2)==1)=true:=(by rw[hr];exact lU (by omega));refine jB (Ai @g4 @hy) ?_;refine wC fun X Y hX hY=>?_;refine jP (Ai @DB @hy) ?_;refine hX ?_;clear hX hY X Y;refine ab ?_;refine aU _ _ ?_;clear aU K2;refine wK fun K3 bq=>?_;refine ag ?_;refine jD @g3 ?_;simp only[aq,aA,if_true,if_false];refine bq _ _ ?_;clear bq K3;refine jD (Ai @g4 (Ai @hq (eG k (by omega)))) ?_;refine⟨⟨k+1,m/2,by omega,by omega,rfl,rfl,rfl⟩,?_⟩;simp only[g4,aB,↓reduceIte];omega
   ·have DS:=YD.2 (by omega);have hy:((iW (m:Int) 2)==1)=false:=(by rw[hr];exact ko (by omega));refine jB (Ai @g4 @hy) ?_;refine wC fun X Y hX hY=>?_;refine jP (Ai @DB @hy) ?_;refine hY ?_;clear hX hY X Y;refine aC ?_;simp only[aA,aq,if_true];refine hK _ _ ?_;clear hK aU K2 K;refine jB @g3 ?_;refine jI ?_;exact jW ⟨by rw[eS hn,show k=lv n by omega],rfl⟩
 ·rw[show qx x=0 from if_neg h];by_cases h0:x<0
  ·refine jB (decide_eq_true h0) ?_;refine jE ?_;refine jA ?_;exact jJ
  ·have h1:(62:Int)<x:=(by omega);refine jB (Ai (decide_eq_false h0) (decide_eq_true h1)) ?_;refine jE ?_;refine jA ?_;exact jJ
theorem dY(x:Int)(hx: -9000000000000000000≤x∧x≤9000000000000000000)(s:AS):aj prog Γ 76 [.v (.int .i64 x)] s
  (fun r s'=>r=(match gi x with |some k=>.eu [.v (.int .i64 k.1),.v (.int .i64 k.2),.v (.bool true)]|none=>.eu [.v (.int .i64 0),.v (.int .i64 0),.v (.bool false)])∧s'=s):=by
 refine aa func76 rfl ntmps76 results76 (by simp) ?_;have hl:=Cw x;have hp:=mG hl;refine jA ?_;refine wK fun K hK=>?_;refine jQ fun K hK=>?_;refine ad (fV x _) ?_;rintro r s1 ⟨rfl,rfl⟩;by_cases h:qx x=0
 ·refine jV (OZ h) hK ?_;clear hK K;refine jE ?_;refine jA ?_;refine jI ?_;rw[show gi x=none from if_pos h];exact jW ⟨rfl,rfl⟩
 ·refine jV (Ic h) hK ?_;clear hK K;refine jF ?_;refine ab ?_;refine hK _ _ ?_;clear hK K;refine jA ?_;refine wK fun K hK=>?_;refine jA ?_;refine ag ?_;refine aD (fun E s2=>∃(i:Nat),i<qx x∧E 6=.v (.int .i64 ((i+1:Nat):Int))∧E 5=.v (.int .i64 ((2^i:Nat):Int))∧E 0=.v (.int .i64 x)∧s2=s1)
   (fun E _=>match E 6 with |.v (.int _ i)=>7-i.toNat|_=>0) ?_ ?_
  ·exact⟨0,by omega,rfl,rfl,rfl,rfl⟩
  ·rintro E1 s2 ⟨i,hi,g6,g5,g0,rfl⟩ -
   refine wK fun K2 aU=>?_;refine jS (Ai @g6 @g0) fun K hK=>?_;refine ad (fV x _) ?_;rintro r s3 ⟨rfl,rfl⟩;by_cases aY:i+1<qx x
   ·refine jV (Ai @au (decide_eq_true aY)) hK ?_;clear hK K;refine jE ?_;refine ab ?_;refine aU _ _ ?_;clear aU K2;refine wK fun K3 bq=>?_;refine ag ?_;have F0:=mG (show i≤5 by omega);have hm:ia .i64 ((2^i:Nat):Int) 2=((2^(i+1):Nat):Int):=(by rw[dJ (by omega),Nat.pow_succ];omega);refine jD (Ai @g5 @hm) ?_;simp only[aq,aA,if_true,if_false];refine bq _ _ ?_;clear bq K3;refine jD (Ai @g6 (eG (i+1) (by omega))) ?_;refine⟨⟨i+1,aY,rfl,rfl,g0,rfl⟩,?_⟩;simp only[g6,aB,↓reduceIte];omega
   ·refine jV (Ai @au (decide_eq_false aY)) hK ?_;clear hK K;refine jF ?_;refine aC ?_;simp only[aA,aq,if_true];refine hK _ _ ?_;clear hK aU K2 K;have he:2^i=2^qx x/2:=by
     rw[show qx x=i+1 by omega,Nat.pow_succ];omega
    rw[he] at g5;refine jB (Ai @g5 (Ai @g0 (Ai (bO (a:=x) (b:=((2^qx x/2:Nat):Int)) (by omega)) (ec (a:=x) (b:=((2^qx x/2:Nat):Int)) (by omega))))) ?_;refine jI ?_;rw[show gi x=some (_,_) from if_neg h];exact jW ⟨rfl,rfl⟩
theorem EF(leaf l:Nat)(hl:Fit l)(hn:leaf<l)(s:AS):aj prog Γ 116 [.v (.int .i64 ((2*leaf:Nat):Int)),.v (.int .i64 l)] s
  (fun r s'=>r=aG (aP (oX leaf l)) .any∧s'=s):=by
 refine aa func116 rfl ntmps116 results116 (by simp) ?_;have F2:=hl.le;have xz:=fC hl hn;have uX:(oX leaf l).length≤6:=(by simp[oX];omega);have KB:0<(oX leaf l).length:=(by simp[oX]);have gS:=fun(i:Nat)(h:i<(oX leaf l).length)=>JA hl hn h;have mu:xh leaf l 0=(0,2*l-2):=rfl;have gV:∀j,xh leaf l (j+1)=(if 2*leaf<((xh leaf l j).1+(xh leaf l j).2)/2 then((xh leaf l j).1,((xh leaf l j).1+(xh leaf l j).2)/2-1) else(((xh leaf l j).1+(xh leaf l j).2)/2+1,(xh leaf l j).2)):=fun j=>rfl;generalize oX leaf l=P at *
 generalize xh leaf l=S at *
 refine jA ?_;refine jA ?_;have e0:dr .i64 (ia .i64 2 (l:Int)) 2=((2*l-2:Nat):Int):=(by rw[bZ l (by omega),bO (by omega)];omega);refine jB @e0 ?_;refine ag ?_;refine aD (fun E s2=>∃(i:Nat)(x:AV),i<P.length∧E 6=.v (.int .i64 ((S i).1:Nat))∧E 7=.v (.int .i64 ((S i).2:Nat))∧E 0=.v (.int .i64 ((2*leaf:Nat):Int))∧E 5=x∧cZ 1 s s2 x i ((aP (P.take i)).map aJ)∧s.le s2)
  (fun E _=>P.length+1-lW (E 5)) ?_ ?_
 ·refine⟨0,_,KB,?_,?_,rfl,rfl,cZ.nil _ _ _,AS.le.refl _⟩
  ·rw[mu];simp only[aB,Nc,↓reduceIte];rfl
  ·rw[mu];simp only[aB,Nc,↓reduceIte]
 ·rintro E1 s2 ⟨i,x,hi,g6,g7,g0,g5,hx,hle⟩ -
  refine ag ?_;obtain⟨w1,w2,w3⟩:=gS i hi;obtain⟨oY,Ly⟩:∃m,m=((S i).1+(S i).2)/2:=⟨_,rfl⟩;have rW:=gV i;rw[←Ly] at w1 w2 rW;have e1:kX .i64 (dQ .i64 (((S i).1:Nat):Int) (((S i).2:Nat):Int)) 2=(oY:Int):=by
   rw[ec (by omega),show(((S i).1:Nat):Int)+(((S i).2:Nat):Int)=(((S i).1+(S i).2:Nat):Int) by omega,dL _ (by omega),Ly]
  refine jB (Ai @g6 (Ai @g7 @e1)) ?_;have eo:aP (P.take (i+1))=aP (P.take i)++[(oY:Int)]:=by
   unfold aP;rw[List.take_succ_eq_append_getElem hi,List.map_append];rw[List.getElem?_eq_getElem hi] at w1;rw[Option.some.inj w1];rfl
  refine wK fun K3 bq=>?_;have bX:∀(E:Env)(s3:AS)(x3:AV),E 0=.v (.int .i64 ((2*leaf:Nat):Int))→E 6=.v (.int .i64 ((S i).1:Nat))→E 7=.v (.int .i64 ((S i).2:Nat))→E 8=.v (.int .i64 oY)→E 5=x3→cZ 1 s s3 x3 (i+1) ((aP (P.take (i+1))).map aJ)→s.le s3→K3 E s3:=by
   intro E s3 x3 f0 f6 f7 f8 f5 fx zZ;refine bq _ _ ?_;clear bq K3;refine wK fun K4 dM=>?_;by_cases he:2*leaf=oY
   ·have N3:=w2.2 he;refine jB (Ai @f0 @f8) ?_;refine wC fun X Y hX hY=>?_;refine jP (Ai @DB (lU (show((2*leaf:Nat):Int)=(oY:Int) by omega))) ?_;refine hX ?_;clear hX hY X Y;rw[N3,List.take_of_length_le (Nat.le_refl _)] at fx;have hw:=fx.aE;refine jB @f5 ?_;refine jI ?_;refine⟨_,_,?_,zZ,rfl,rfl⟩;have F3:=br P;unfold aG;rw[F3];exact hw
   ·have N3:i+1<P.length:=by
     have:=mt w2.1 he;omega
    refine jB (Ai @f0 @f8) ?_;refine wC fun X Y hX hY=>?_;refine jP (Ai @DB (ko (show ¬((2*leaf:Nat):Int)=(oY:Int) by omega))) ?_;refine hY ?_;clear hX hY X Y;refine ab ?_;refine dM _ _ ?_;clear dM K4;have m1:lW (E1 5)=i:=by
     rw[g5];rcases hx with⟨rfl,rfl,_⟩|⟨t,e,rfl,_⟩<;>rfl
    have m2:lW (E 5)=i+1:=by
     rw[f5];rcases fx with⟨rfl,h,_⟩|⟨t,e,rfl,_⟩
     ·omega
     ·rfl
    by_cases bJ:2*leaf<oY
    ·rw[if_pos bJ] at rW;have e2:dr .i64 (oY:Int) 1=((oY-1:Nat):Int):=(by rw[bO (by omega)];omega);refine jB (Ai @f0 @f8) ?_;refine wC fun X Y hX hY=>?_;refine jP (Ai @DB (Ai (eq_true (show((2*leaf:Nat):Int)<(oY:Int) by omega)) @not_true_eq_false)) ?_;refine hX ?_;clear hX hY X Y;refine jD (Ai @f8 @e2) ?_;refine⟨⟨i+1,x3,N3,?_,?_,f0,f5,fx,zZ⟩,?_⟩
     ·rw[rW];simp only[aB,f6,Nc,↓reduceIte]
     ·rw[rW];simp only[aB,Nc,↓reduceIte]
     ·simp only[aB,Nc,↓reduceIte,m1,m2];omega
    ·rw[if_neg bJ] at rW;refine jB (Ai @f0 @f8) ?_;refine wC fun X Y hX hY=>?_;refine jP (Ai @DB (Ai (eq_false (show ¬((2*leaf:Nat):Int)<(oY:Int) by omega)) @not_false_eq_true)) ?_;refine hY ?_;clear hX hY X Y;refine jD (Ai @f8 (eG oY (by omega))) ?_;refine⟨⟨i+1,x3,N3,?_,?_,f0,f5,fx,zZ⟩,?_⟩
     ·rw[rW];simp only[aB,Nc,↓reduceIte]
     ·rw[rW];simp only[aB,f7,Nc,↓reduceIte]
     ·simp only[aB,Nc,↓reduceIte,m1,m2];omega
  clear bq;rcases hx with⟨rfl,fD,sF⟩|⟨t,e,rfl,ht,iG⟩
  ·refine wE fun K hK=>?_;simp only[↓DN,Qa,Qb,Qc,Qd,Qe,Qf,Qg,Qh,reduceCtorEq,↓reduceIte,Na,Nb,Nc,Nk,Nf,Ng,Nh,Za,Zb,Zc,TT,g5,bU,List.replicate_succ];intro t ht;refine hK _ _ (bX _ _ (.sl 1 1 [.v (.int .i64 (oY:Int))] (.own t 0)) g0 g6 g7 rfl rfl ?_ ?_)
   ·refine .inr ⟨t,0,?_,by simp[AS.bA],aZ hle ht⟩;rw[eo,List.map_append,sF];subst fD;rfl
   ·exact AS.bn hle (aZ hle ht) 0
  ·refine wE fun K hK=>?_;simp only[↓DN,Qa,Qb,Qc,Qd,Qe,Qf,Qg,Qh,reduceCtorEq,↓reduceIte,Na,Nb,Nc,Nk,Nf,Ng,Nh,Za,Zb,Zc,TT,g5,ht,List.replicate_succ];have F3:(aP (P.take i)).length=i:=(by rw[br,List.length_take];omega);refine⟨by omega,by omega,hK _ _ (bX _ _ (.sl 1 (i+1) ((aP (P.take i)).map aJ++[.v (.int .i64 (oY:Int))]) (.own t (e+1))) g0 g6 g7 rfl rfl ?_ ?_)⟩
   ·exact .inr ⟨t,e+1,by rw[eo,List.map_append];rfl,by simp[AS.bA],iG⟩
   ·exact AS.bn hle iG (e+1)
theorem O4{leaf l i:Nat}(h:i<(az leaf l).length):(aP (oX leaf l))[(az leaf l).length-1-i]? =some ((((az leaf l)[i]'h:Nat)):Int):=by
 unfold aP oX;rw[List.getElem?_map,List.getElem?_append_left (by simp;omega),List.getElem?_reverse (by omega)];rw[show(az leaf l).length-1-((az leaf l).length-1-i)=i by omega,List.getElem?_eq_getElem h];rfl
theorem wI(leaf l:Nat)(hl:Fit l)(hn:leaf<l)(s:AS):aj prog Γ 54 [.v (.int .i64 leaf),.v (.int .i64 l)] s
  (fun r s'=>r=aG (aP (az leaf l)) .any∧s'=s):=by
 refine aa func54 rfl ntmps54 results54 (by simp) ?_;have F2:=hl.le;have xz:=fC hl hn;have hg:=fun(i:Nat)(h:i<(az leaf l).length)=>O4 h;have LA:(aP (oX leaf l)).length=(az leaf l).length+1:=(by rw[br];simp[oX]);have Te:=fun s=>EF (Γ:=Γ) leaf l hl hn s;generalize aP (oX leaf l)=W at *
 generalize az leaf l=P at *
 have hf:decide (rU (l:Int))=true:=decide_eq_true (np.2 hl);have h1:decide ((l:Int)≤(leaf:Int))=false:=decide_eq_false (by omega);refine jA ?_;refine wK fun K hK=>?_;refine jQ fun K hK=>?_;refine ad (oK l _) ?_;rintro r s1 ⟨rfl,rfl⟩;rw[hf];refine jV (Ai @YC @h1) hK ?_;clear hK K;refine jF ?_;refine ab ?_;refine hK _ _ ?_;clear hK K;refine jS (bZ leaf (by omega)) fun K hK=>?_;refine ad (Te _) ?_;rintro r s2 ⟨rfl,rfl⟩;refine jR hK ?_;clear hK K;refine jA ?_;refine wK fun K hK=>?_;have e0:dr .i64 (W.length:Int) 2=((P.length:Nat):Int)-1:=(by rw[bO (by omega)];omega);refine jB (Ai @aG.eq_1 @e0) ?_;refine ag ?_;refine aD (fun E s3=>∃(i:Nat)(x:AV),i≤P.length∧E 7=.v (.int .i64 (((P.length:Nat):Int)-1-(i:Int)))∧E 5=.sl 1 W.length (W.map aJ) .any∧E 6=x∧cZ 1 s2 s3 x i ((aP (P.take i)).map aJ)∧s2.le s3)
  (fun E _=>P.length+1-lW (E 6)) ?_ ?_
 ·refine⟨0,_,Nat.zero_le _,?_,rfl,rfl,cZ.nil _ _ _,AS.le.refl _⟩;simp only[aB,Nc,↓reduceIte];congr 2;omega
 ·rintro E1 s3 ⟨i,x,hi,g7,g5,g6,hx,hle⟩ -
  refine wK fun K2 aU=>?_;by_cases aY:i<P.length
  ·have cA:decide ((0:Int)≤(((P.length:Nat):Int)-1-(i:Int)))=true:=decide_eq_true (by omega);refine jB (Ai @g7 @cA) ?_;refine jE ?_;refine ab ?_;refine aU _ _ ?_;clear aU K2;refine wK fun K3 bq=>?_;refine ag ?_;have eo:aP (P.take (i+1))=aP (P.take i)++[((P[i]:Nat):Int)]:=(by unfold aP;rw[List.take_succ_eq_append_getElem aY,List.map_append];rfl);have bX:∀(E:Env)(s4:AS)(x3:AV),E 7=.v (.int .i64 (((P.length:Nat):Int)-1-(i:Int)))→E 5=.sl 1 W.length (W.map aJ) .any→E 6=x3→cZ 1 s2 s4 x3 (i+1) ((aP (P.take (i+1))).map aJ)→s2.le s4→K3 E s4:=by
    intro E s4 x3 f7 f5 f6 fx zZ;refine bq _ _ ?_;clear bq K3;refine jD @f7 ?_;refine⟨⟨i+1,x3,aY,?_,f5,f6,fx,zZ⟩,?_⟩
    ·simp only[aB,Nc,↓reduceIte];rw[bO (by omega)];congr 2;omega
    ·have m1:lW (E1 6)=i:=by
      rw[g6];rcases hx with⟨rfl,rfl,_⟩|⟨t,e,rfl,_⟩<;>rfl
     have m2:lW (E 6)=i+1:=by
      rw[f6];rcases fx with⟨rfl,h,_⟩|⟨t,e,rfl,_⟩
      ·omega
      ·rfl
     simp only[aB,Nc,↓reduceIte,m1,m2];omega
   clear bq;have YE:=hg i aY;obtain⟨j,hj⟩:∃j,j=P.length-1-i:=⟨_,rfl⟩;have FY:((P.length:Nat):Int)-1-(i:Int)=(j:Int):=(by omega);have hjW:j<W.length:=(by omega);rw[←hj] at YE;have cT:List.take 1 (List.drop j (W.map aJ))=[.v (.int .i64 ((P[i]:Nat):Int))]:=by
    rw[eB hjW];rw[List.getElem?_eq_getElem hjW] at YE;rw[Option.some.inj YE]
   have cA:(0:Int)≤(j:Int):=(by omega);rw[FY] at g7 bX;rcases hx with⟨rfl,fD,sF⟩|⟨t,e,rfl,ht,iG⟩
   ·refine wE fun K hK=>?_;simp only[↓DN,Qa,Qb,Qc,Qd,Qe,Qf,Qg,Qh,reduceCtorEq,↓reduceIte,Na,Nb,Nc,Nk,Nf,Ng,Nh,Za,Zb,Zc,TT,g5,g6,g7,bU,List.replicate_succ,au,hjW,cA,cT];intro t ht;refine hK _ _ (bX _ _ (.sl 1 1 [.v (.int .i64 ((P[i]:Nat):Int))] (.own t 0)) g7 g5 rfl ?_ ?_)
    ·refine .inr ⟨t,0,?_,by simp[AS.bA],aZ hle ht⟩;rw[eo,List.map_append,sF];subst fD;rfl
    ·exact AS.bn hle (aZ hle ht) 0
   ·refine wE fun K hK=>?_;simp only[↓DN,Qa,Qb,Qc,Qd,Qe,Qf,Qg,Qh,reduceCtorEq,↓reduceIte,Na,Nb,Nc,Nk,Nf,Ng,Nh,Za,Zb,Zc,TT,g5,g6,g7,ht,List.replicate_succ,au,hjW,cA,cT];have F3:(aP (P.take i)).length=i:=(by rw[br,List.length_take];omega);refine⟨by omega,by omega,hK _ _ (bX _ _ (.sl 1 (i+1) ((aP (P.take i)).map aJ++[.v (.int .i64 ((P[i]:Nat):Int))]) (.own t (e+1))) g7 g5 rfl ?_ ?_)⟩
    ·exact .inr ⟨t,e+1,by rw[eo,List.map_append];rfl,by simp[AS.bA],iG⟩
    ·exact AS.bn hle iG (e+1)
  ·have cA:decide ((0:Int)≤(((P.length:Nat):Int)-1-(i:Int)))=false:=decide_eq_false (by omega);refine jB (Ai @g7 @cA) ?_;refine jF ?_;refine aC ?_;simp only[aA,aq,if_true];refine hK _ _ ?_;clear hK aU K2 K;obtain rfl:i=P.length:=(by omega);rw[List.take_of_length_le (Nat.le_refl _)] at hx;have hw:=hx.aE;refine jB @g6 ?_;refine jI ?_;refine⟨_,_,?_,hle,rfl,rfl⟩;have F3:=br P;unfold aG;rw[F3];exact hw
theorem nq(x:Int)(s:AS):aj prog Γ 65 [.v (.int .i64 x)] s (fun r s'=>r=.eu [.v (.int .i64 (iD x).1),.v (.int .i64 (iD x).2)]∧s'=s):=by
 refine aa func65 rfl ntmps65 results65 (by simp) ?_;refine jA ?_;refine wK fun K hK=>?_;by_cases h:0≤x∧x<63
 ·obtain⟨n,rfl⟩:=Int.eq_ofNat_of_zero_le h.1;have hn:n<63:=(by omega);have h1:decide ((62:Int)<(n:Int))=false:=decide_eq_false (by omega);have Cx:iD (n:Int)=((lo n:Int),(hi n:Int)):=if_pos h;refine jB (Ai @YC @h1) ?_;refine jF ?_;refine ab ?_;refine hK _ _ ?_;clear hK K;refine jA ?_;refine wK fun K hK=>?_;refine ag ?_;refine aD (fun E s2=>∃(m:Nat),m<63∧lo m=lo n∧E 4=.v (.int .i64 m)∧E 5=.v (.int .i64 n)∧s2=s)
   (fun E _=>match E 4 with |.v (.int _ i)=>qx i|_=>0) ?_ ?_
  ·exact⟨n,hn,rfl,rfl,rfl,rfl⟩
  ·rintro E1 s2 ⟨m,hm,B2,g4,g5,rfl⟩ -
   refine wK fun K2 aU=>?_;refine jS @g4 fun K hK=>?_;refine ad (fV m _) ?_;rintro r s3 ⟨rfl,rfl⟩;rw[eS hm];by_cases hz:lv m=0
   ·refine jR hK ?_;clear hK K;refine wC fun X Y hX hY=>?_;refine jP (Ai @DB (Ai (eq_false (show ¬(0:Int)<((lv m:Nat):Int) by omega)) @not_false_eq_true)) ?_;refine hY ?_;clear hX hY X Y;refine aC ?_;simp only[aA,aq,if_true];refine hK _ _ ?_;clear hK aU K2 K;have hL:=(Ie m hm hz).1;refine wK fun K hK=>?_;refine ag ?_;refine aD (fun E s4=>∃(m':Nat),m'<63∧hi m'=hi n∧E 5=.v (.int .i64 m')∧E 4=.v (.int .i64 m)∧s4=s3)
     (fun E _=>match E 5 with |.v (.int _ i)=>qx i|_=>0) ?_ ?_
    ·exact⟨n,hn,rfl,g5,g4,rfl⟩
    ·clear g4 g5;rintro E2 s4 ⟨m',Jk,Dv,g5,g4,rfl⟩ -
     refine wK fun K2 aU=>?_;refine jS @g5 fun K hK=>?_;refine ad (fV m' _) ?_;rintro r s5 ⟨rfl,rfl⟩;rw[eS Jk];by_cases hz':lv m'=0
     ·refine jR hK ?_;clear hK K;refine wC fun X Y hX hY=>?_;refine jP (Ai @DB (Ai (eq_false (show ¬(0:Int)<((lv m':Nat):Int) by omega)) @not_false_eq_true)) ?_;refine hY ?_;clear hX hY X Y;refine aC ?_;simp only[aA,aq,if_true];refine hK _ _ ?_;clear hK aU K2 K;have hH:=(Ie m' Jk hz').2;refine jB (Ai @g4 (Ai @g5 (Ai (dL m (by omega)) (dL m' (by omega))))) ?_;refine jI ?_;rw[←hL,←hH,B2,Dv,Cx];exact jW ⟨rfl,rfl⟩
     ·obtain⟨w1,w2,w3⟩:=O3 m' Jk hz';refine jR hK ?_;clear hK K;refine wC fun X Y hX hY=>?_;refine jP (Ai @DB (Ai (eq_true (show(0:Int)<((lv m':Nat):Int) by omega)) @not_true_eq_false)) ?_;refine hX ?_;clear hX hY X Y;refine ab ?_;refine aU _ _ ?_;clear aU K2;refine ag ?_;have JB:gi (m':Int)=some (((m':Int)-(hf m':Int)),((m'+hf m':Nat):Int)):=by
       unfold gi;rw[eS Jk,if_neg hz'];unfold hf;congr 2
      refine jU @g5 fun K hK=>?_;refine ad (dY m' (by omega) _) ?_;rintro r s6 ⟨rfl,rfl⟩;rw[JB];refine jM ?_;refine hK _ _ ⟨⟨m'+hf m',w3,by rw[w1,Dv],rfl,g4,rfl⟩,?_⟩;simp only[g5,aB,↓reduceIte];rw[eS Jk,eS w3];omega
   ·obtain⟨w1,w2,w3,w4⟩:=O2 m hm hz;refine jR hK ?_;clear hK K;refine wC fun X Y hX hY=>?_;refine jP (Ai @DB (Ai (eq_true (show(0:Int)<((lv m:Nat):Int) by omega)) @not_true_eq_false)) ?_;refine hX ?_;clear hX hY X Y;refine ab ?_;refine aU _ _ ?_;clear aU K2;refine ag ?_;have JB:gi (m:Int)=some (((m-hf m:Nat):Int),((m:Int)+(hf m:Int))):=by
     unfold gi;rw[eS hm,if_neg hz];unfold hf at w4⊢;congr 2;omega
    refine jU @g4 fun K hK=>?_;refine ad (dY m (by omega) _) ?_;rintro r s6 ⟨rfl,rfl⟩;rw[JB];refine jM ?_;refine hK _ _ ⟨⟨m-hf m,w3,by rw[w1,B2],rfl,g5,rfl⟩,?_⟩;simp only[g4,aB,↓reduceIte];rw[eS hm,eS w3];omega
 ·have Cx:iD x=(0,-1):=if_neg h;by_cases h0:x<0
  ·refine jB (decide_eq_true h0) ?_;refine jE ?_;refine jA ?_;refine jI ?_;rw[Cx];exact jW ⟨rfl,rfl⟩
  ·have h1:(62:Int)<x:=(by omega);refine jB (Ai (decide_eq_false h0) (decide_eq_true h1)) ?_;refine jE ?_;refine jA ?_;refine jI ?_;rw[Cx];exact jW ⟨rfl,rfl⟩
theorem Ig{k:Int}(h1: -4611686018427387904≤k)(h2:k≤4611686018427387904):dr .i64 k 1=k-1:=IntWalk.i64_in _ (by omega)
theorem Cy(n:Nat)(cs:List AV)(s:AS):
  aj prog Γ 112 [.sl 1 n cs .any] s (fun r s'=>r=.qE 160 [.cN [.sl 1 n cs .any]]∧s'=s):=by
 refine aa func112 rfl ntmps112 results112 (by simp) ?_;refine aX 1 (by decide) ?_;intro K hK;refine jM ?_;intro o1 h1;refine hK _ _ o1 _ rfl h1 ?_;clear hK K;refine jA ?_;exact jJ
theorem yp(n:Nat)(cs:List AV)(s:AS):
  aj prog Γ 110 [.sl 1 n cs .any] s (fun r s'=>r=.qE 157 [.cN [.sl 1 n cs .any]]∧s'=s):=by
 refine aa func110 rfl ntmps110 results110 (by simp) ?_;refine aX 1 (by decide) ?_;intro K hK;refine jM ?_;intro o1 h1;refine hK _ _ o1 _ rfl h1 ?_;clear hK K;refine jA ?_;exact jJ
theorem Cz(cs:List AV)(n:Nat)(hl:cs.length=n)(hn:n≤2^40):
  vT prog Γ 160 [.cN [.sl 1 n cs .any]] (cs.map fun c=>[c]):=by
 refine Ey func160 rfl ntmps160 results160 (by simp) ?_;intro I l s G h0 hy;refine eR (ct.y ?_);refine jC ?_;refine qw ?_;refine Ex (fun E s'=>∃i:Nat,i≤n∧E 0=.v (.func (.yield l) #[] #[])∧E 5=.sl 1 n cs .any∧E 6=.v (.int .i64 n)∧E 7=.v (.int .i64 i)∧I i s')
  (fun E _=>match E 7 with |.v (.int _ i)=>n-i.toNat|_=>0) ?_ ?_
 ·exact⟨0,Nat.zero_le _,rfl,rfl,rfl,rfl,h0⟩
 rintro E s' ⟨i,hi,e0,e5,e6,e7,hI⟩ -
 by_cases aY:i<n
 ·have bJ:((i:Nat):Int)<((n:Nat):Int):=(by omega);have h0i:(0:Int)≤((i:Nat):Int):=(by omega);obtain⟨c,hc⟩:∃c,cs[i]? =some c:=⟨cs[i]'(by omega),by simp[hl,aY]⟩;have fA:(List.take 1 (List.drop i cs))[0]? =some c:=(by simp[List.getElem?_take,hc]);refine eR (ct.y ?_);refine jD (Ai @e6 (Ai @e7 (decide_eq_true bJ))) ?_;refine eR (ct.y (qR (by simp only[aN,aB,↓reduceIte]) (ab ?_)));refine eR (qw ?_);refine eR (ct.y ?_);refine jD (Ai @e5 (Ai @e7 (Ai @bJ (Ai @h0i @fA)))) ?_;refine GC (l:=l) (xs:=[_]) rfl rfl (by decide) ?_;intro K hK ops;refine jN @e0 ?_;refine⟨_,hy i [c] _ (by simp[hc]) hI,?_⟩;intro s2 nU;refine hK _ _ ?_;clear hK K;refine ct.y (fq (by simp only[aN,aB,↓reduceIte]) (ab ?_));simp only[aq,aA];refine ct.y ?_;refine jD (Ai @e7 (bd i (by omega))) ?_;refine⟨⟨i+1,by omega,e0,e5,e6,rfl,nU⟩,?_⟩;simp only[aB,e7,↓reduceIte,Int.toNat_natCast];omega
 ·have bJ:¬((i:Nat):Int)<((n:Nat):Int):=(by omega);obtain rfl:i=n:=(by omega);refine eR (ct.y ?_);refine jD (Ai @e6 (Ai @e7 (decide_eq_false bJ))) ?_;refine eR (ct.y (fq (by simp only[aN,aB,↓reduceIte]) (aC ?_)));simp only[aq,aA,↓reduceIte];exact⟨by simp,by simpa[hl] using hI⟩
theorem yq(l0:List Int)(n:Nat)(hl:l0.length=n)(hn:n≤2^40):
  vT prog Γ 157 [.cN [.sl 1 n (l0.map aJ) .any]] ((List.range n).map fun i=>[aJ ((n-1-i:Nat):Int),aJ (l0.getD (n-1-i) 0)]):=by
 refine Ey func157 rfl ntmps157 results157 (by simp) ?_;intro I l s G h0 hy;refine eR (ct.y ?_);refine jC ?_;refine qw ?_;refine Ex (fun E s'=>∃i:Nat,i≤n∧E 0=.v (.func (.yield l) #[] #[])∧E 1=.cN [.sl 1 n (l0.map aJ) .any]∧E 3=.v (.int .i64 ((n:Int)-1-i))∧I i s')
  (fun E _=>match E 3 with |.v (.int _ i)=>(i+1).toNat|_=>0) ?_ ?_
 ·refine⟨0,Nat.zero_le _,rfl,rfl,?_,h0⟩;simp only[aB,↓reduceIte,Nc];rw[Ig (by omega) (by omega)];simp
 rintro E s' ⟨i,hi,e0,e1,e3,hI⟩ -
 by_cases aY:i<n
 ·have cA:(n:Int)-1-i≥0:=(by omega);have YF:(0:Int)≤(n:Int)-1-i:=(by omega);have bJ:(n:Int)-1-i<(n:Int):=(by omega);obtain⟨k,hk⟩:∃k:Nat,(n:Int)-1-i=(k:Int):=⟨n-1-i,by omega⟩;have RD:n-1-i=k:=(by omega);rw[hk] at e3 cA YF bJ;have fA:(List.take 1 (List.drop k (l0.map aJ)))[0]? =some (aJ (l0.getD k 0)):=by
   have tF:k<l0.length:=(by omega);simp[List.getElem?_take,List.getD,tF]
  refine eR (eR (ct.y ?_));refine jD (Ai @e3 (decide_eq_true cA)) ?_;refine ct.y (qR (by simp only[aN,aB,↓reduceIte]) (ab ?_));simp only[aA];refine eR (qw ?_);refine GD (l:=l) (xs:=[_,_]) rfl rfl (by decide) ?_;intro K hK ops;refine jN (Ai @e0 (Ai @e1 (Ai @e3 (Ai @YF (Ai @bJ @fA))))) ?_;refine⟨_,hy i [aJ (k:Int),aJ (l0.getD k 0)] _ (by simp[aY,RD]) hI,?_⟩;intro s2 nU;refine hK _ _ ?_;clear hK K;refine ct.y (fq (by simp only[aN,aB,↓reduceIte]) (ab ?_));simp only[aq,aA];refine ct.y ?_;refine jD (Ai @e3 (Ig (k:=(k:Int)) (by omega) (by omega))) ?_;refine⟨⟨i+1,by omega,e0,e1,?_,nU⟩,?_⟩
  ·simp only[aB,↓reduceIte,Nc];rw[show((k:Nat):Int)-1=(n:Int)-1-((i+1:Nat):Int) by omega]
  ·simp only[aB,e3,↓reduceIte,Nc];omega
 ·obtain rfl:i=n:=(by omega);have cA:¬(((i:Nat):Int)-1-i≥0):=(by omega);refine eR (eR (ct.y ?_));refine jD (Ai @e3 (decide_eq_false cA)) ?_;refine ct.y (fq (by simp only[aN,aB,↓reduceIte]) (aC ?_));simp only[aq,aA,↓reduceIte];exact⟨by simp,by simpa using hI⟩
end Go.Proofs.YtbiefppedlodiaaGreatDoor
namespace Go.AM
open Go Go.RowKit Go.Shelf Go.Proofs
variable{P:Program}{Γ:Nat→List AV}{G:Gh}{s:AS}{w:World}{N:Nat}
def GL(i:Int):Value:=.int .i64 i
theorem ar.ints{G:Gh}(l:List Int):ar G (l.map aJ) (l.map GL):=by
  induction l with
  |nil=>simp[ar]
  |cons i l ih=>simp only[List.map_cons,ar];exact⟨GL i,_,rfl,by simp[aJ,GL,av],ih⟩
theorem ar.Ih{G:Gh}:∀{l:List Int}{vs:List Value},ar G (l.map aJ) vs→vs=l.map GL
  |[],vs,h=>by simpa[ar] using h
  |i::l,vs,h=>by
    simp only[List.map_cons,ar] at h;obtain⟨u,us,rfl,h1,h2⟩:=h;rw[ar.Ih h2];simp only[aJ,av] at h1;rw[h1];rfl
open Go
structure Ii where
  kind:Int
  n:Int
  b:List UInt8
def Ii.cells(p:Ii):List AV:=[.v (.int .i64 p.kind),.v (.int .i64 p.n),al p.b .any]
def xck(ps:List Ii):List AV:=(ps.map Ii.cells).flatten
end Go.AM
