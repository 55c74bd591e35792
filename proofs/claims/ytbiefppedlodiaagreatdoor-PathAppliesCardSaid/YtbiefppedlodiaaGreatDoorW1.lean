/- Contracts of functions, each walked once; each theorem states its conditions. -/
import Derived.Test.YtbiefppedlodiaaGreatDoorProg
import Derived.Test.YtbiefppedlodiaaGreatDoorAMp4
import Derived.Test.YtbiefppedlodiaaGreatDoorAMp6
import Derived.Test.YtbiefppedlodiaaGreatDoorAMp5
import Derived.Test.YtbiefppedlodiaaGreatDoorAMp7
import Derived.Shelf.Spec.SlicesInsertGrow
set_option linter.unusedSimpArgs false
set_option linter.unusedVariables false
open Nat renaming reduceLT → Na, reduceLeDiff → Nb, reduceEqDiff → Nc, reduceAdd → Nk, reduceMul → Nf, reducePow → Ng, reduceSub → Nh, reduceBEq → Nz
open Int renaming reduceLT → Za, reduceLE → Zb, reduceToNat → Zc
open And renaming intro → Ai
open Go.AM renaming ashift → Qa, aconv → Qb, aindexAddr → Qc, aindex → Qd, aslice → Qe, abuiltin → Qf, awp_reg_seq → wS, awp_reg_end → wE, awp_seq_k → wK, awp_cond_k → wC
open Go.AM.AV renaming cells → Qg, one → Qh
set_option maxRecDepth 100000
set_option maxHeartbeats 8000000
namespace Go.Proofs.YtbiefppedlodiaaGreatDoor
open Go Go.AM Go.Proofs Tryz
theorem T.c3:prog.cellsOf 3=1:=by kernel_rfl
theorem T.b3:prog.bytesOf 3=8:=by kernel_rfl
theorem T.g3:bO prog 3=some false:=by kernel_rfl
theorem T.z3:bq prog 3=some [.v (.int .i64 0)]:=by kernel_rfl
theorem T.c4:prog.cellsOf 4=1:=by kernel_rfl
theorem T.b4:prog.bytesOf 4=1:=by kernel_rfl
theorem T.g4:bO prog 4=some false:=by kernel_rfl
theorem T.z4:bq prog 4=some [.v (.bool false)]:=by kernel_rfl
theorem T.c5:prog.cellsOf 5=1:=by kernel_rfl
theorem T.b5:prog.bytesOf 5=1:=by kernel_rfl
theorem T.g5:bO prog 5=some false:=by kernel_rfl
theorem T.z5:bq prog 5=some [.v (.int .u8 0)]:=by kernel_rfl
theorem T.c9:prog.cellsOf 9=1:=by kernel_rfl
theorem T.b9:prog.bytesOf 9=16:=by kernel_rfl
theorem T.g9:bO prog 9=some false:=by kernel_rfl
theorem T.z9:bq prog 9=some [.v (.string ByteArray.empty)]:=by kernel_rfl
theorem T.Nv:prog.cellsOf 22=1:=by kernel_rfl
theorem T.b22:prog.bytesOf 22=24:=by kernel_rfl
theorem T.g22:bO prog 22=some false:=by kernel_rfl
theorem T.z22:bq prog 22=some [.v (.slice none 0 0)]:=by kernel_rfl
theorem T.s22:dG prog 22=true:=by kernel_rfl
theorem T.wu:prog.cellsOf 23=1:=by kernel_rfl
theorem T.b23:prog.bytesOf 23=24:=by kernel_rfl
theorem T.g23:bO prog 23=some false:=by kernel_rfl
theorem T.z23:bq prog 23=some [.v (.slice none 0 0)]:=by kernel_rfl
theorem T.s23:dG prog 23=true:=by kernel_rfl
theorem T.FB:prog.cellsOf 24=1:=by kernel_rfl
theorem T.b24:prog.bytesOf 24=24:=by kernel_rfl
theorem T.g24:bO prog 24=some false:=by kernel_rfl
theorem T.z24:bq prog 24=some [.v (.slice none 0 0)]:=by kernel_rfl
theorem T.KN:dG prog 24=true:=by kernel_rfl
theorem T.Oi:prog.cellsOf 26=6:=by kernel_rfl
theorem T.b26:prog.bytesOf 26=112:=by kernel_rfl
theorem T.T6:bO prog 26=some true:=by kernel_rfl
theorem T.h26:fh prog 26=true:=by kernel_rfl
theorem T.QG:bX prog 26 0=some (0,22):=by kernel_rfl
theorem T.QH:bX prog 26 1=some (1,3):=by kernel_rfl
theorem T.QI:bX prog 26 3=some (3,23):=by kernel_rfl
theorem T.QJ:bX prog 26 4=some (4,23):=by kernel_rfl
theorem T.QK:bX prog 26 5=some (5,24):=by kernel_rfl
theorem T.z26:bq prog 26=some [.v (.slice none 0 0),.v (.int .i64 0),.v (.int .i64 0),.v (.slice none 0 0),.v (.slice none 0 0),.v (.slice none 0 0)]:=by kernel_rfl
theorem T.De:prog.cellsOf 29=1:=by kernel_rfl
theorem T.b29:prog.bytesOf 29=8:=by kernel_rfl
theorem T.g29:bO prog 29=some false:=by kernel_rfl
theorem T.z29:bq prog 29=some [.v (.int .u64 0)]:=by kernel_rfl
theorem T.Sf:prog.cellsOf 30=1:=by kernel_rfl
theorem T.b30:prog.bytesOf 30=24:=by kernel_rfl
theorem T.g30:bO prog 30=some false:=by kernel_rfl
theorem T.z30:bq prog 30=some [.v (.slice none 0 0)]:=by kernel_rfl
theorem T.s30:dG prog 30=true:=by kernel_rfl
theorem T.QE:prog.cellsOf 32=3:=by kernel_rfl
theorem T.b32:prog.bytesOf 32=56:=by kernel_rfl
theorem T.g32:bO prog 32=some true:=by kernel_rfl
theorem T.tc:fh prog 32=true:=by kernel_rfl
theorem T.QL:bX prog 32 0=some (0,29):=by kernel_rfl
theorem T.QM:bX prog 32 1=some (1,23):=by kernel_rfl
theorem T.QN:bX prog 32 2=some (2,30):=by kernel_rfl
theorem T.td:bq prog 32=some [.v (.int .u64 0),.v (.slice none 0 0),.v (.slice none 0 0)]:=by kernel_rfl
theorem T.c33:prog.cellsOf 33=1:=by kernel_rfl
theorem T.b33:prog.bytesOf 33=24:=by kernel_rfl
theorem T.g33:bO prog 33=some false:=by kernel_rfl
theorem T.z33:bq prog 33=some [.v (.slice none 0 0)]:=by kernel_rfl
theorem T.s33:dG prog 33=true:=by kernel_rfl
theorem T.c34:prog.cellsOf 34=1:=by kernel_rfl
theorem T.b34:prog.bytesOf 34=8:=by kernel_rfl
theorem T.g34:bO prog 34=some false:=by kernel_rfl
theorem T.z34:bq prog 34=some [.v (.int .i64 0)]:=by kernel_rfl
theorem T.c50:prog.cellsOf 50=1:=by kernel_rfl
theorem T.b50:prog.bytesOf 50=24:=by kernel_rfl
theorem T.g50:bO prog 50=some false:=by kernel_rfl
theorem T.z50:bq prog 50=some [.v (.slice none 0 0)]:=by kernel_rfl
theorem T.s50:dG prog 50=true:=by kernel_rfl
theorem T.c51:prog.cellsOf 51=1:=by kernel_rfl
theorem T.b51:prog.bytesOf 51=24:=by kernel_rfl
theorem T.g51:bO prog 51=some false:=by kernel_rfl
theorem T.z51:bq prog 51=some [.v (.slice none 0 0)]:=by kernel_rfl
theorem T.s51:dG prog 51=true:=by kernel_rfl
theorem T.Be:prog.cellsOf 54=5:=by kernel_rfl
theorem T.U8:prog.bytesOf 54=88:=by kernel_rfl
theorem T.g54:bO prog 54=some true:=by kernel_rfl
theorem T.HI:fh prog 54=true:=by kernel_rfl
theorem T.QO:bX prog 54 0=some (0,3):=by kernel_rfl
theorem T.QP:bX prog 54 1=some (1,23):=by kernel_rfl
theorem T.QQ:bX prog 54 2=some (2,29):=by kernel_rfl
theorem T.QR:bX prog 54 3=some (3,23):=by kernel_rfl
theorem T.QS:bX prog 54 4=some (4,24):=by kernel_rfl
theorem T.z54:bq prog 54=some [.v (.int .i64 0),.v (.slice none 0 0),.v (.int .u64 0),.v (.slice none 0 0),.v (.slice none 0 0)]:=by kernel_rfl
theorem T.c67:prog.cellsOf 67=2:=by kernel_rfl
theorem T.b67:prog.bytesOf 67=16:=by kernel_rfl
theorem T.Nw:bO prog 67=some true:=by kernel_rfl
theorem T.h67:fh prog 67=true:=by kernel_rfl
theorem T.QT:bX prog 67 0=some (0,3):=by kernel_rfl
theorem T.QU:bX prog 67 1=some (1,29):=by kernel_rfl
theorem T.z67:bq prog 67=some [.v (.int .i64 0),.v (.int .u64 0)]:=by kernel_rfl
theorem T.UZ:prog.cellsOf 74=1:=by kernel_rfl
theorem T.b74:prog.bytesOf 74=24:=by kernel_rfl
theorem T.g74:bO prog 74=some false:=by kernel_rfl
theorem T.z74:bq prog 74=some [.v (.slice none 0 0)]:=by kernel_rfl
theorem T.s74:dG prog 74=true:=by kernel_rfl
theorem T.QF:prog.cellsOf 76=2:=by kernel_rfl
theorem T.b76:prog.bytesOf 76=32:=by kernel_rfl
theorem T.g76:bO prog 76=some true:=by kernel_rfl
theorem T.Sh:fh prog 76=true:=by kernel_rfl
theorem T.QV:bX prog 76 0=some (0,29):=by kernel_rfl
theorem T.QW:bX prog 76 1=some (1,74):=by kernel_rfl
theorem T.z76:bq prog 76=some [.v (.int .u64 0),.v (.slice none 0 0)]:=by kernel_rfl
theorem T.Sg:prog.cellsOf 78=2:=by kernel_rfl
theorem T.b78:prog.bytesOf 78=32:=by kernel_rfl
theorem T.g78:bO prog 78=some true:=by kernel_rfl
theorem T.h78:fh prog 78=true:=by kernel_rfl
theorem T.QX:bX prog 78 0=some (0,29):=by kernel_rfl
theorem T.QY:bX prog 78 1=some (1,23):=by kernel_rfl
theorem T.z78:bq prog 78=some [.v (.int .u64 0),.v (.slice none 0 0)]:=by kernel_rfl
theorem T.c79:prog.cellsOf 79=1:=by kernel_rfl
theorem T.b79:prog.bytesOf 79=8:=by kernel_rfl
theorem T.g79:bO prog 79=some false:=by kernel_rfl
theorem T.z79:bq prog 79=some [.v (.pointer none)]:=by kernel_rfl
theorem T.p79:ly prog 79=true:=by kernel_rfl
theorem T.c85:prog.cellsOf 85=1:=by kernel_rfl
theorem T.b85:prog.bytesOf 85=8:=by kernel_rfl
theorem T.g85:bO prog 85=some false:=by kernel_rfl
theorem T.z85:bq prog 85=some [.v (.pointer none)]:=by kernel_rfl
theorem T.p85:ly prog 85=true:=by kernel_rfl
theorem T.U9:prog.cellsOf 137=2:=by kernel_rfl
theorem T.Va:prog.bytesOf 137=32:=by kernel_rfl
theorem T.Vb:bO prog 137=some true:=by kernel_rfl
theorem T.Vc:fh prog 137=true:=by kernel_rfl
theorem T.KO:bX prog 137 0=some (0,23):=by kernel_rfl
theorem T.KP:bX prog 137 1=some (1,4):=by kernel_rfl
theorem T.Vd:bq prog 137=some [.v (.slice none 0 0),.v (.bool false)]:=by kernel_rfl
theorem T.Ve:prog.cellsOf 145=2:=by kernel_rfl
theorem T.Vf:prog.bytesOf 145=32:=by kernel_rfl
theorem T.Vg:bO prog 145=some true:=by kernel_rfl
theorem T.Vh:fh prog 145=true:=by kernel_rfl
theorem T.KR:bX prog 145 0=some (0,23):=by kernel_rfl
theorem T.KT:bX prog 145 1=some (1,34):=by kernel_rfl
theorem T.z145:bq prog 145=some [.v (.slice none 0 0),.v (.int .i64 0)]:=by kernel_rfl
theorem T.Vi:prog.cellsOf 185=1:=by kernel_rfl
theorem T.Vj:prog.bytesOf 185=8:=by kernel_rfl
theorem T.Vk:bO prog 185=some false:=by kernel_rfl
theorem T.Vl:bq prog 185=some [.v (.int .u64 0)]:=by kernel_rfl
theorem T.Cg:prog.cellsOf 214=1:=by kernel_rfl
theorem T.Vm:prog.bytesOf 214=4:=by kernel_rfl
theorem T.Vn:bO prog 214=some false:=by kernel_rfl
theorem T.Si:bq prog 214=some [.v (.int .u32 0)]:=by kernel_rfl
theorem T.Sj:prog.cellsOf 215=8:=by kernel_rfl
theorem T.Vo:prog.bytesOf 215=32:=by kernel_rfl
theorem T.Vp:bO prog 215=some true:=by kernel_rfl
theorem T.Vq:bq prog 215=some [.v (.int .u32 0),.v (.int .u32 0),.v (.int .u32 0),.v (.int .u32 0),.v (.int .u32 0),.v (.int .u32 0),.v (.int .u32 0),.v (.int .u32 0)]:=by kernel_rfl
theorem T.Vr:prog.cellsOf 227=1:=by kernel_rfl
theorem T.Vs:prog.bytesOf 227=24:=by kernel_rfl
theorem T.Vt:bO prog 227=some false:=by kernel_rfl
theorem T.z227:bq prog 227=some [.v (.slice none 0 0)]:=by kernel_rfl
theorem T.Vu:dG prog 227=true:=by kernel_rfl
theorem T.Vv:prog.cellsOf 232=64:=by kernel_rfl
theorem T.Vw:prog.bytesOf 232=64:=by kernel_rfl
theorem T.Vx:bO prog 232=some true:=by kernel_rfl
theorem T.KU:prog.cellsOf 236=16:=by kernel_rfl
theorem T.Vy:prog.bytesOf 236=16:=by kernel_rfl
theorem T.Vz:bO prog 236=some true:=by kernel_rfl
theorem T.z236:bq prog 236=some [.v (.int .u8 0),.v (.int .u8 0),.v (.int .u8 0),.v (.int .u8 0),.v (.int .u8 0),.v (.int .u8 0),.v (.int .u8 0),.v (.int .u8 0),.v (.int .u8 0),.v (.int .u8 0),.v (.int .u8 0),.v (.int .u8 0),.v (.int .u8 0),.v (.int .u8 0),.v (.int .u8 0),.v (.int .u8 0)]:=by kernel_rfl
theorem T.VA:prog.cellsOf 239=1:=by kernel_rfl
theorem T.VB:prog.bytesOf 239=8:=by kernel_rfl
theorem T.VC:bO prog 239=some false:=by kernel_rfl
theorem T.VD:bq prog 239=some [.v (.int .i64 0)]:=by kernel_rfl
theorem T.Sk:prog.cellsOf 246=64:=by kernel_rfl
theorem T.VE:prog.bytesOf 246=256:=by kernel_rfl
theorem T.VF:bO prog 246=some true:=by kernel_rfl
theorem T.Sl:prog.cellsOf 252=256:=by kernel_rfl
theorem T.VG:prog.bytesOf 252=256:=by kernel_rfl
theorem T.VH:bO prog 252=some true:=by kernel_rfl
theorem T.Sm:prog.cellsOf 254=176:=by kernel_rfl
theorem T.VI:prog.bytesOf 254=176:=by kernel_rfl
theorem T.VJ:bO prog 254=some true:=by kernel_rfl
theorem T.Sn:prog.cellsOf 264=4:=by kernel_rfl
theorem T.VK:prog.bytesOf 264=4:=by kernel_rfl
theorem T.VL:bO prog 264=some true:=by kernel_rfl
theorem T.VM:bq prog 264=some [.v (.int .u8 0),.v (.int .u8 0),.v (.int .u8 0),.v (.int .u8 0)]:=by kernel_rfl
theorem T.k8:ag prog 8=true:=by kernel_rfl
theorem T.k9:ag prog 9=true:=by kernel_rfl
theorem T.HJ:ag prog 10=true:=by kernel_rfl
theorem T.zR:ag prog 13=true:=by kernel_rfl
theorem T.wv:ag prog 15=true:=by kernel_rfl
theorem T.JT:ag prog 16=true:=by kernel_rfl
theorem T.Ch:ag prog 17=true:=by kernel_rfl
theorem T.T7:ag prog 18=true:=by kernel_rfl
theorem T.k19:ag prog 19=true:=by kernel_rfl
theorem T.k20:ag prog 20=true:=by kernel_rfl
theorem T.k21:ag prog 21=true:=by kernel_rfl
theorem T.k23:ag prog 23=true:=by kernel_rfl
theorem T.k25:ag prog 25=true:=by kernel_rfl
theorem T.k26:ag prog 26=true:=by kernel_rfl
theorem T.k27:ag prog 27=true:=by kernel_rfl
theorem T.k31:ag prog 31=true:=by kernel_rfl
theorem T.k33:ag prog 33=true:=by kernel_rfl
theorem T.k35:ag prog 35=true:=by kernel_rfl
theorem T.k40:ag prog 40=true:=by kernel_rfl
theorem T.k41:ag prog 41=true:=by kernel_rfl
theorem T.k42:ag prog 42=true:=by kernel_rfl
theorem T.k43:ag prog 43=true:=by kernel_rfl
theorem T.k44:ag prog 44=true:=by kernel_rfl
theorem T.k45:ag prog 45=true:=by kernel_rfl
theorem T.k46:ag prog 46=true:=by kernel_rfl
theorem T.k47:ag prog 47=true:=by kernel_rfl
theorem T.k48:ag prog 48=true:=by kernel_rfl
theorem T.k49:ag prog 49=true:=by kernel_rfl
theorem T.k50:ag prog 50=true:=by kernel_rfl
theorem T.k51:ag prog 51=true:=by kernel_rfl
theorem T.k52:ag prog 52=true:=by kernel_rfl
theorem T.k53:ag prog 53=true:=by kernel_rfl
theorem T.k54:ag prog 54=true:=by kernel_rfl
theorem T.k56:ag prog 56=true:=by kernel_rfl
theorem T.k57:ag prog 57=true:=by kernel_rfl
theorem T.k59:ag prog 59=true:=by kernel_rfl
theorem T.k60:ag prog 60=true:=by kernel_rfl
theorem T.k61:ag prog 61=true:=by kernel_rfl
theorem T.k62:ag prog 62=true:=by kernel_rfl
theorem T.k63:ag prog 63=true:=by kernel_rfl
theorem T.k64:ag prog 64=true:=by kernel_rfl
theorem T.k65:ag prog 65=true:=by kernel_rfl
theorem T.k66:ag prog 66=true:=by kernel_rfl
theorem T.k67:ag prog 67=true:=by kernel_rfl
theorem T.k68:ag prog 68=true:=by kernel_rfl
theorem T.k69:ag prog 69=true:=by kernel_rfl
theorem T.k70:ag prog 70=true:=by kernel_rfl
theorem T.k71:ag prog 71=true:=by kernel_rfl
theorem T.k73:ag prog 73=true:=by kernel_rfl
theorem T.k74:ag prog 74=true:=by kernel_rfl
theorem T.k76:ag prog 76=true:=by kernel_rfl
theorem T.k77:ag prog 77=true:=by kernel_rfl
theorem T.k79:ag prog 79=true:=by kernel_rfl
theorem T.k81:ag prog 81=true:=by kernel_rfl
theorem T.k82:ag prog 82=true:=by kernel_rfl
theorem T.k84:ag prog 84=true:=by kernel_rfl
theorem T.k86:ag prog 86=true:=by kernel_rfl
theorem T.k87:ag prog 87=true:=by kernel_rfl
theorem T.k88:ag prog 88=true:=by kernel_rfl
theorem T.k90:ag prog 90=true:=by kernel_rfl
theorem T.k91:ag prog 91=true:=by kernel_rfl
theorem T.k92:ag prog 92=true:=by kernel_rfl
theorem T.k94:ag prog 94=true:=by kernel_rfl
theorem T.VN:ag prog 101=true:=by kernel_rfl
theorem T.Oq:ag prog 102=true:=by kernel_rfl
theorem T.VO:ag prog 103=true:=by kernel_rfl
theorem T.VP:ag prog 104=true:=by kernel_rfl
theorem T.Ot:ag prog 105=true:=by kernel_rfl
theorem T.VQ:ag prog 106=true:=by kernel_rfl
theorem T.Ou:ag prog 107=true:=by kernel_rfl
theorem T.VR:ag prog 108=true:=by kernel_rfl
theorem T.VS:ag prog 109=true:=by kernel_rfl
theorem T.VT:ag prog 110=true:=by kernel_rfl
theorem T.VU:ag prog 111=true:=by kernel_rfl
theorem T.VV:ag prog 112=true:=by kernel_rfl
theorem T.VW:ag prog 113=true:=by kernel_rfl
theorem T.VX:ag prog 114=true:=by kernel_rfl
theorem T.VY:ag prog 115=true:=by kernel_rfl
theorem T.VZ:ag prog 116=true:=by kernel_rfl
theorem T.V0:ag prog 117=true:=by kernel_rfl
theorem T.V1:ag prog 121=true:=by kernel_rfl
theorem T.V2:ag prog 122=true:=by kernel_rfl
theorem T.V3:ag prog 123=true:=by kernel_rfl
theorem T.V4:ag prog 124=true:=by kernel_rfl
theorem T.V5:ag prog 125=true:=by kernel_rfl
theorem T.V6:ag prog 126=true:=by kernel_rfl
theorem T.V7:ag prog 127=true:=by kernel_rfl
theorem T.V8:ag prog 128=true:=by kernel_rfl
theorem T.V9:ag prog 129=true:=by kernel_rfl
theorem T.Wb:ag prog 130=true:=by kernel_rfl
theorem T.Wc:ag prog 132=true:=by kernel_rfl
theorem T.Wd:ag prog 133=true:=by kernel_rfl
theorem T.We:ag prog 134=true:=by kernel_rfl
theorem T.Wf:ag prog 135=true:=by kernel_rfl
theorem T.Wg:ag prog 136=true:=by kernel_rfl
theorem T.Wh:ag prog 137=true:=by kernel_rfl
theorem T.Wi:ag prog 141=true:=by kernel_rfl
theorem T.Wj:ag prog 142=true:=by kernel_rfl
theorem T.Wk:ag prog 143=true:=by kernel_rfl
theorem T.Wl:ag prog 144=true:=by kernel_rfl
theorem T.Wm:ag prog 145=true:=by kernel_rfl
theorem T.Wn:ag prog 146=true:=by kernel_rfl
theorem T.Wo:ag prog 147=true:=by kernel_rfl
theorem T.Wp:ag prog 148=true:=by kernel_rfl
theorem T.Wq:ag prog 149=true:=by kernel_rfl
theorem T.Wr:ag prog 150=true:=by kernel_rfl
theorem T.Ws:ag prog 151=true:=by kernel_rfl
theorem T.Wt:ag prog 152=true:=by kernel_rfl
theorem T.Wu:ag prog 153=true:=by kernel_rfl
theorem T.Wv:ag prog 154=true:=by kernel_rfl
theorem T.Ww:ag prog 155=true:=by kernel_rfl
theorem T.Wx:ag prog 156=true:=by kernel_rfl
theorem T.Wy:ag prog 158=true:=by kernel_rfl
theorem T.Wz:ag prog 159=true:=by kernel_rfl
theorem T.WA:ag prog 161=true:=by kernel_rfl
theorem T.WB:ag prog 162=true:=by kernel_rfl
theorem T.WC:ag prog 164=true:=by kernel_rfl
theorem T.WD:ag prog 165=true:=by kernel_rfl
theorem T.WE:ag prog 166=true:=by kernel_rfl
theorem T.WG:ag prog 170=true:=by kernel_rfl
theorem T.WH:ag prog 171=true:=by kernel_rfl
theorem T.WI:ag prog 172=true:=by kernel_rfl
theorem T.WJ:ag prog 173=true:=by kernel_rfl
theorem T.WK:ag prog 174=true:=by kernel_rfl
theorem T.WM:ag prog 175=true:=by kernel_rfl
theorem T.WN:ag prog 176=true:=by kernel_rfl
theorem T.WO:ag prog 179=true:=by kernel_rfl
theorem T.WQ:ag prog 180=true:=by kernel_rfl
theorem T.WR:ag prog 181=true:=by kernel_rfl
theorem T.WS:ag prog 182=true:=by kernel_rfl
theorem T.WT:ag prog 183=true:=by kernel_rfl
theorem T.WU:ag prog 184=true:=by kernel_rfl
theorem T.WV:ag prog 185=true:=by kernel_rfl
theorem T.WW:ag prog 186=true:=by kernel_rfl
theorem T.WX:ag prog 187=true:=by kernel_rfl
theorem T.WY:ag prog 188=true:=by kernel_rfl
theorem T.WZ:ag prog 189=true:=by kernel_rfl
theorem T.W0:ag prog 190=true:=by kernel_rfl
theorem T.W4:ag prog 191=true:=by kernel_rfl
theorem T.W5:ag prog 192=true:=by kernel_rfl
theorem T.W6:ag prog 193=true:=by kernel_rfl
theorem T.W7:ag prog 194=true:=by kernel_rfl
theorem T.W8:ag prog 195=true:=by kernel_rfl
theorem T.W9:ag prog 196=true:=by kernel_rfl
theorem T.Xa:ag prog 197=true:=by kernel_rfl
theorem T.Xb:ag prog 198=true:=by kernel_rfl
theorem T.Xc:ag prog 199=true:=by kernel_rfl
theorem T.Xd:ag prog 200=true:=by kernel_rfl
theorem T.Xe:ag prog 201=true:=by kernel_rfl
theorem T.Xf:ag prog 202=true:=by kernel_rfl
theorem T.Xg:ag prog 203=true:=by kernel_rfl
theorem T.Xh:ag prog 208=true:=by kernel_rfl
theorem T.Xi:ag prog 209=true:=by kernel_rfl
theorem T.Xj:ag prog 210=true:=by kernel_rfl
theorem T.Xk:ag prog 211=true:=by kernel_rfl
theorem T.Xl:ag prog 212=true:=by kernel_rfl
theorem T.Xm:ag prog 213=true:=by kernel_rfl
theorem T.Xn:ag prog 214=true:=by kernel_rfl
theorem T.Xo:ag prog 215=true:=by kernel_rfl
theorem T.Xp:ag prog 216=true:=by kernel_rfl
theorem T.Xq:ag prog 217=true:=by kernel_rfl
theorem T.Xr:ag prog 218=true:=by kernel_rfl
theorem T.Xt:ag prog 219=true:=by kernel_rfl
theorem T.Xu:ag prog 220=true:=by kernel_rfl
theorem T.Xv:ag prog 221=true:=by kernel_rfl
theorem T.Xw:ag prog 222=true:=by kernel_rfl
theorem T.Xx:ag prog 223=true:=by kernel_rfl
theorem T.Xy:ag prog 224=true:=by kernel_rfl
theorem T.Xz:ag prog 225=true:=by kernel_rfl
theorem T.XC:ag prog 226=true:=by kernel_rfl
theorem T.XD:ag prog 227=true:=by kernel_rfl
theorem T.XE:ag prog 228=true:=by kernel_rfl
theorem T.XF:ag prog 229=true:=by kernel_rfl
theorem T.XG:ag prog 230=true:=by kernel_rfl
theorem T.XH:ag prog 231=true:=by kernel_rfl
theorem T.XI:ag prog 233=true:=by kernel_rfl
theorem T.XJ:ag prog 234=true:=by kernel_rfl
theorem T.XK:ag prog 236=true:=by kernel_rfl
theorem T.XL:ag prog 239=true:=by kernel_rfl
theorem T.XM:ag prog 240=true:=by kernel_rfl
theorem T.XN:ag prog 241=true:=by kernel_rfl
theorem T.XO:ag prog 242=true:=by kernel_rfl
theorem T.XP:ag prog 249=true:=by kernel_rfl
theorem T.XQ:ag prog 250=true:=by kernel_rfl
theorem T.XR:ag prog 251=true:=by kernel_rfl
theorem T.XS:ag prog 252=true:=by kernel_rfl
theorem T.XW:ag prog 253=true:=by kernel_rfl
theorem T.XX:ag prog 255=true:=by kernel_rfl
theorem T.XY:ag prog 256=true:=by kernel_rfl
theorem T.XZ:ag prog 257=true:=by kernel_rfl
theorem T.mixed:prog.follows .mixedOrders=true:=by kernel_rfl
end Go.Proofs.YtbiefppedlodiaaGreatDoor
set_option maxRecDepth 100000
namespace Go.Proofs.YtbiefppedlodiaaGreatDoor
open Go Go.AM Go.Proofs Tryz
open And renaming intro→Ai
theorem TT:type_of%(Ai (Ai UP DF) (Ai (Ai (Ai (Ai (Ai (Ai (Ai (Ai (Ai @underlying3 T.c3) (Ai T.g3 T.b3)) (Ai (Ai T.z3 ntmps173) (Ai @underlying5 (Ai T.c5 T.g5)))) (Ai (Ai (Ai T.b5 T.z5) (Ai @underlying29 T.De)) (Ai (Ai T.g29 T.b29) (Ai T.z29 (Ai @underlying232 T.Vv))))) (Ai (Ai (Ai (Ai T.Vx T.Vw) (Ai ntmps215 @underlying185)) (Ai (Ai T.Vi T.Vk) (Ai T.Vj (Ai T.Vl @underlying214)))) (Ai (Ai (Ai T.Cg T.Vn) (Ai T.Vm (Ai T.Si T.Xn))) (Ai (Ai T.Xo ntmps184) (Ai @underlying4 (Ai T.c4 T.g4)))))) (Ai (Ai (Ai (Ai (Ai T.b4 T.z4) (Ai T.WJ T.WU)) (Ai (Ai ntmps152 T.Wt) (Ai ntmps183 (Ai T.WT ntmps151)))) (Ai (Ai (Ai ntmps150 ntmps128) (Ai ntmps148 T.Wp)) (Ai (Ai ntmps149 T.Wq) (Ai ntmps106 (Ai @underlying24 T.FB))))) (Ai (Ai (Ai (Ai T.g24 T.b24) (Ai T.z24 T.KN)) (Ai (Ai T.VQ ntmps47) (Ai ntmps115 (Ai ntmps125 T.V5)))) (Ai (Ai (Ai ntmps76 ntmps116) (Ai T.VY (Ai T.VZ ntmps54))) (Ai (Ai T.k76 ntmps65) (Ai ntmps112 (Ai ntmps110 ntmps160))))))) (Ai (Ai (Ai (Ai (Ai (Ai ntmps157 ntmps192) (Ai T.W5 ntmps158)) (Ai (Ai @underlying9 T.c9) (Ai T.g9 (Ai T.b9 T.z9)))) (Ai (Ai (Ai ntmps230 T.XG) (Ai T.XF ntmps194)) (Ai (Ai T.XC ntmps220) (Ai @underlying239 (Ai T.VA T.VC))))) (Ai (Ai (Ai (Ai T.VB T.VD) (Ai T.XD T.XE)) (Ai (Ai T.Xx T.W6) (Ai T.Xz (Ai T.Xw T.Xu)))) (Ai (Ai (Ai T.Xv T.Xy) (Ai ntmps193 (Ai T.W7 ntmps159))) (Ai (Ai T.Wy T.Wz) (Ai ntmps111 (Ai ntmps127 T.V7)))))) (Ai (Ai (Ai (Ai (Ai ntmps69 T.Wr) (Ai T.Ws ntmps105)) (Ai (Ai @underlying23 T.wu) (Ai T.g23 (Ai T.b23 T.z23)))) (Ai (Ai (Ai T.s23 ntmps90) (Ai @underlying137 T.U9)) (Ai (Ai T.Vb T.Va) (Ai T.Vd (Ai T.Vc T.KO))))) (Ai (Ai (Ai (Ai T.KP ntmps133) (Ai ntmps31 @underlying79)) (Ai (Ai T.c79 T.g79) (Ai T.b79 (Ai T.z79 T.p79)))) (Ai (Ai (Ai T.Wd ntmps135) (Ai T.Wf (Ai ntmps88 ntmps145))) (Ai (Ai ntmps219 ntmps86) (Ai ntmps175 (Ai T.WM ntmps134)))))))) (Ai (Ai (Ai (Ai (Ai (Ai (Ai T.We ntmps87) (Ai ntmps136 T.k90)) (Ai (Ai ntmps33 @underlying34) (Ai T.c34 (Ai T.g34 T.b34)))) (Ai (Ai (Ai T.z34 @underlying145) (Ai T.Ve T.Vg)) (Ai (Ai T.Vf T.z145) (Ai T.Vh (Ai T.KR T.KT))))) (Ai (Ai (Ai (Ai ntmps35 ntmps176) (Ai @underlying85 T.c85)) (Ai (Ai T.g85 T.b85) (Ai T.z85 (Ai T.p85 T.WN)))) (Ai (Ai (Ai ntmps137 T.Wh) (Ai ntmps217 (Ai ntmps94 ntmps91))) (Ai (Ai T.k91 ntmps92) (Ai ntmps67 (Ai ntmps44 ntmps53)))))) (Ai (Ai (Ai (Ai (Ai ntmps62 ntmps231) (Ai ntmps123 @underlying54)) (Ai (Ai T.Be T.g54) (Ai T.U8 (Ai T.z54 T.HI)))) (Ai (Ai (Ai T.QO T.QP) (Ai T.QQ T.QR)) (Ai (Ai T.QS T.XH) (Ai T.k62 (Ai ntmps195 T.V3))))) (Ai (Ai (Ai (Ai ntmps60 ntmps197) (Ai T.k44 ntmps196)) (Ai (Ai T.W9 T.Xa) (Ai T.W8 (Ai ntmps161 T.k53)))) (Ai (Ai (Ai T.k60 ntmps63) (Ai T.k87 (Ai T.k88 T.WA))) (Ai (Ai T.k86 ntmps236) (Ai T.k92 (Ai ntmps211 @underlying22))))))) (Ai (Ai (Ai (Ai (Ai (Ai T.Nv T.g22) (Ai T.b22 T.z22)) (Ai (Ai T.s22 ntmps104) (Ai T.VP (Ai ntmps142 T.Wj)))) (Ai (Ai (Ai ntmps144 ntmps143) (Ai ntmps71 T.k71)) (Ai (Ai ntmps179 ntmps178) (Ai T.WO (Ai T.V8 ntmps141))))) (Ai (Ai (Ai (Ai T.Wl T.Wk) (Ai T.Wi ntmps101)) (Ai (Ai ntmps20 ntmps21) (Ai T.k21 (Ai ntmps66 ntmps64)))) (Ai (Ai (Ai T.k20 T.k65) (Ai T.k66 (Ai T.k63 T.k64))) (Ai (Ai ntmps16 ntmps51) (Ai T.VN (Ai ntmps45 ntmps73)))))) (Ai (Ai (Ai (Ai (Ai ntmps84 ntmps70) (Ai T.k70 ntmps40)) (Ai (Ai T.JT ntmps52) (Ai T.k47 (Ai T.Ot ntmps46)))) (Ai (Ai (Ai T.k54 T.k69) (Ai ntmps56 (Ai ntmps13 ntmps250))) (Ai (Ai T.XQ ntmps234) (Ai ntmps249 (Ai ntmps210 @underlying227))))) (Ai (Ai (Ai (Ai T.Vr T.Vt) (Ai T.Vs T.z227)) (Ai (Ai T.Vu ntmps208) (Ai @underlying246 (Ai T.Sk T.VF)))) (Ai (Ai (Ai T.VE T.XP) (Ai ntmps233 (Ai @underlying215 T.Sj))) (Ai (Ai T.Vp T.Vo) (Ai T.Vq (Ai T.XJ T.XI))))))))) (Ai (Ai (Ai (Ai (Ai (Ai (Ai (Ai ntmps200 ntmps216) (Ai @underlying50 T.c50)) (Ai (Ai T.g50 T.b50) (Ai T.z50 (Ai T.s50 T.Xp)))) (Ai (Ai (Ai ntmps186 ntmps199) (Ai ntmps232 ntmps198)) (Ai (Ai T.Xb T.WW) (Ai T.Xd (Ai T.Xc ntmps164))))) (Ai (Ai (Ai (Ai ntmps209 T.Xh) (Ai T.Xj T.Xi)) (Ai (Ai ntmps170 T.Xt) (Ai T.XK (Ai ntmps235 ntmps237)))) (Ai (Ai (Ai ntmps163 T.k33) (Ai T.k31 (Ai ntmps162 T.WC))) (Ai (Ai T.WB ntmps201) (Ai ntmps202 (Ai ntmps113 T.WG)))))) (Ai (Ai (Ai (Ai (Ai T.Xk ntmps171) (Ai ntmps172 ntmps121)) (Ai (Ai T.WD T.Xe) (Ai T.Xf (Ai ntmps165 T.WI)))) (Ai (Ai (Ai T.WH T.V2) (Ai ntmps122 ntmps114)) (Ai (Ai ntmps129 T.V9) (Ai ntmps77 (Ai T.V4 T.k77))))) (Ai (Ai (Ai (Ai ntmps124 ntmps61) (Ai ntmps23 T.k23)) (Ai (Ai T.k26 ntmps26) (Ai ntmps191 (Ai T.k51 T.W4)))) (Ai (Ai (Ai ntmps156 T.Wx) (Ai ntmps109 (Ai @underlying51 T.c51))) (Ai (Ai T.g51 T.b51) (Ai T.z51 (Ai T.s51 T.VT))))))) (Ai (Ai (Ai (Ai (Ai (Ai T.k45 T.VU) (Ai T.k73 T.VV)) (Ai (Ai T.VW T.VS) (Ai T.k46 (Ai T.VX ntmps50)))) (Ai (Ai (Ai @underlying30 T.Sf) (Ai T.g30 T.b30)) (Ai (Ai T.z30 T.s30) (Ai @underlying32 (Ai T.QE T.g32))))) (Ai (Ai (Ai (Ai T.b32 T.td) (Ai T.tc @underlying74)) (Ai (Ai T.UZ T.g74) (Ai T.b74 (Ai T.z74 T.s74)))) (Ai (Ai (Ai @underlying76 T.QF) (Ai T.g76 (Ai T.b76 T.z76))) (Ai (Ai T.Sh @underlying78) (Ai T.Sg (Ai T.g78 T.b78)))))) (Ai (Ai (Ai (Ai (Ai T.z78 T.h78) (Ai T.QL T.QM)) (Ai (Ai T.QN T.QV) (Ai T.QW (Ai T.k61 T.k50)))) (Ai (Ai (Ai T.k40 ntmps15) (Ai T.V1 (Ai T.k56 T.k84))) (Ai (Ai ntmps59 T.k59) (Ai T.k52 (Ai ntmps17 ntmps213))))) (Ai (Ai (Ai (Ai T.Xm ntmps180) (Ai ntmps203 T.Xg)) (Ai (Ai ntmps166 ntmps212) (Ai T.WQ (Ai ntmps185 ntmps146)))) (Ai (Ai (Ai T.WE ntmps117) (Ai T.Wn (Ai T.Wg T.Wm))) (Ai (Ai ntmps102 T.V0) (Ai ntmps57 (Ai T.Oq ntmps42)))))))) (Ai (Ai (Ai (Ai (Ai (Ai (Ai ntmps252 T.XS) (Ai ntmps257 T.XZ)) (Ai (Ai ntmps255 ntmps256) (Ai T.XX (Ai T.XY ntmps251)))) (Ai (Ai (Ai @underlying252 T.Sl) (Ai T.VH T.VG)) (Ai (Ai T.XR ntmps239) (Ai @underlying236 (Ai T.KU T.Vz))))) (Ai (Ai (Ai (Ai T.Vy T.z236) (Ai ntmps241 @underlying264)) (Ai (Ai T.Sn T.VL) (Ai T.VK (Ai T.VM ntmps253)))) (Ai (Ai (Ai T.XW ntmps242) (Ai @underlying254 (Ai T.Sm T.VJ))) (Ai (Ai T.VI ntmps240) (Ai T.XM (Ai T.XN T.XO)))))) (Ai (Ai (Ai (Ai (Ai T.XL ntmps218) (Ai T.Xq T.k35)) (Ai (Ai T.Xr ntmps189) (Ai ntmps188 (Ai ntmps190 T.WY)))) (Ai (Ai (Ai T.W0 T.WZ) (Ai ntmps155 T.Xl)) (Ai (Ai ntmps174 ntmps182) (Ai ntmps181 (Ai T.WR T.WS))))) (Ai (Ai (Ai (Ai ntmps147 T.Wo) (Ai ntmps103 ntmps126)) (Ai (Ai T.V6 ntmps68) (Ai ntmps187 (Ai T.k94 ntmps41)))) (Ai (Ai (Ai T.k57 T.k67) (Ai ntmps18 (Ai T.VO ntmps43))) (Ai (Ai T.k68 ntmps19) (Ai T.WX (Ai ntmps154 T.WV))))))) (Ai (Ai (Ai (Ai (Ai (Ai ntmps153 T.QX) (Ai T.QY T.Wu)) (Ai (Ai T.Wv T.k41) (Ai T.k43 (Ai T.Ww ntmps107)))) (Ai (Ai (Ai T.WK ntmps132) (Ai T.k42 ntmps49)) (Ai (Ai ntmps25 @underlying33) (Ai T.c33 (Ai T.g33 T.b33))))) (Ai (Ai (Ai (Ai T.z33 T.s33) (Ai @underlying67 T.c67)) (Ai (Ai T.Nw T.b67) (Ai T.z67 (Ai T.h67 ntmps130)))) (Ai (Ai (Ai T.Wb ntmps81) (Ai ntmps82 (Ai T.QT ntmps131))) (Ai (Ai ntmps83 ntmps78) (Ai ntmps80 (Ai ntmps108 T.QU)))))) (Ai (Ai (Ai (Ai (Ai T.k49 ntmps74) (Ai T.Wc ntmps79)) (Ai (Ai T.k74 T.k82) (Ai T.wv (Ai T.k81 T.k79)))) (Ai (Ai (Ai ntmps27 T.Ou) (Ai T.k25 (Ai T.VR ntmps48))) (Ai (Ai T.k48 ntmps10) (Ai T.HJ (Ai T.T7 T.k19))))) (Ai (Ai (Ai (Ai T.k27 ntmps8) (Ai @underlying26 T.Oi)) (Ai (Ai T.T6 T.b26) (Ai T.z26 (Ai T.h26 T.QG)))) (Ai (Ai (Ai T.QI T.QJ) (Ai T.QK (Ai ntmps9 T.QH))) (Ai (Ai T.k9 T.Ch) (Ai T.k8 (Ai T.zR ntmps4))))))))))):=
  (Ai (Ai UP DF) (Ai (Ai (Ai (Ai (Ai (Ai (Ai (Ai (Ai @underlying3 T.c3) (Ai T.g3 T.b3)) (Ai (Ai T.z3 ntmps173) (Ai @underlying5 (Ai T.c5 T.g5)))) (Ai (Ai (Ai T.b5 T.z5) (Ai @underlying29 T.De)) (Ai (Ai T.g29 T.b29) (Ai T.z29 (Ai @underlying232 T.Vv))))) (Ai (Ai (Ai (Ai T.Vx T.Vw) (Ai ntmps215 @underlying185)) (Ai (Ai T.Vi T.Vk) (Ai T.Vj (Ai T.Vl @underlying214)))) (Ai (Ai (Ai T.Cg T.Vn) (Ai T.Vm (Ai T.Si T.Xn))) (Ai (Ai T.Xo ntmps184) (Ai @underlying4 (Ai T.c4 T.g4)))))) (Ai (Ai (Ai (Ai (Ai T.b4 T.z4) (Ai T.WJ T.WU)) (Ai (Ai ntmps152 T.Wt) (Ai ntmps183 (Ai T.WT ntmps151)))) (Ai (Ai (Ai ntmps150 ntmps128) (Ai ntmps148 T.Wp)) (Ai (Ai ntmps149 T.Wq) (Ai ntmps106 (Ai @underlying24 T.FB))))) (Ai (Ai (Ai (Ai T.g24 T.b24) (Ai T.z24 T.KN)) (Ai (Ai T.VQ ntmps47) (Ai ntmps115 (Ai ntmps125 T.V5)))) (Ai (Ai (Ai ntmps76 ntmps116) (Ai T.VY (Ai T.VZ ntmps54))) (Ai (Ai T.k76 ntmps65) (Ai ntmps112 (Ai ntmps110 ntmps160))))))) (Ai (Ai (Ai (Ai (Ai (Ai ntmps157 ntmps192) (Ai T.W5 ntmps158)) (Ai (Ai @underlying9 T.c9) (Ai T.g9 (Ai T.b9 T.z9)))) (Ai (Ai (Ai ntmps230 T.XG) (Ai T.XF ntmps194)) (Ai (Ai T.XC ntmps220) (Ai @underlying239 (Ai T.VA T.VC))))) (Ai (Ai (Ai (Ai T.VB T.VD) (Ai T.XD T.XE)) (Ai (Ai T.Xx T.W6) (Ai T.Xz (Ai T.Xw T.Xu)))) (Ai (Ai (Ai T.Xv T.Xy) (Ai ntmps193 (Ai T.W7 ntmps159))) (Ai (Ai T.Wy T.Wz) (Ai ntmps111 (Ai ntmps127 T.V7)))))) (Ai (Ai (Ai (Ai (Ai ntmps69 T.Wr) (Ai T.Ws ntmps105)) (Ai (Ai @underlying23 T.wu) (Ai T.g23 (Ai T.b23 T.z23)))) (Ai (Ai (Ai T.s23 ntmps90) (Ai @underlying137 T.U9)) (Ai (Ai T.Vb T.Va) (Ai T.Vd (Ai T.Vc T.KO))))) (Ai (Ai (Ai (Ai T.KP ntmps133) (Ai ntmps31 @underlying79)) (Ai (Ai T.c79 T.g79) (Ai T.b79 (Ai T.z79 T.p79)))) (Ai (Ai (Ai T.Wd ntmps135) (Ai T.Wf (Ai ntmps88 ntmps145))) (Ai (Ai ntmps219 ntmps86) (Ai ntmps175 (Ai T.WM ntmps134)))))))) (Ai (Ai (Ai (Ai (Ai (Ai (Ai T.We ntmps87) (Ai ntmps136 T.k90)) (Ai (Ai ntmps33 @underlying34) (Ai T.c34 (Ai T.g34 T.b34)))) (Ai (Ai (Ai T.z34 @underlying145) (Ai T.Ve T.Vg)) (Ai (Ai T.Vf T.z145) (Ai T.Vh (Ai T.KR T.KT))))) (Ai (Ai (Ai (Ai ntmps35 ntmps176) (Ai @underlying85 T.c85)) (Ai (Ai T.g85 T.b85) (Ai T.z85 (Ai T.p85 T.WN)))) (Ai (Ai (Ai ntmps137 T.Wh) (Ai ntmps217 (Ai ntmps94 ntmps91))) (Ai (Ai T.k91 ntmps92) (Ai ntmps67 (Ai ntmps44 ntmps53)))))) (Ai (Ai (Ai (Ai (Ai ntmps62 ntmps231) (Ai ntmps123 @underlying54)) (Ai (Ai T.Be T.g54) (Ai T.U8 (Ai T.z54 T.HI)))) (Ai (Ai (Ai T.QO T.QP) (Ai T.QQ T.QR)) (Ai (Ai T.QS T.XH) (Ai T.k62 (Ai ntmps195 T.V3))))) (Ai (Ai (Ai (Ai ntmps60 ntmps197) (Ai T.k44 ntmps196)) (Ai (Ai T.W9 T.Xa) (Ai T.W8 (Ai ntmps161 T.k53)))) (Ai (Ai (Ai T.k60 ntmps63) (Ai T.k87 (Ai T.k88 T.WA))) (Ai (Ai T.k86 ntmps236) (Ai T.k92 (Ai ntmps211 @underlying22))))))) (Ai (Ai (Ai (Ai (Ai (Ai T.Nv T.g22) (Ai T.b22 T.z22)) (Ai (Ai T.s22 ntmps104) (Ai T.VP (Ai ntmps142 T.Wj)))) (Ai (Ai (Ai ntmps144 ntmps143) (Ai ntmps71 T.k71)) (Ai (Ai ntmps179 ntmps178) (Ai T.WO (Ai T.V8 ntmps141))))) (Ai (Ai (Ai (Ai T.Wl T.Wk) (Ai T.Wi ntmps101)) (Ai (Ai ntmps20 ntmps21) (Ai T.k21 (Ai ntmps66 ntmps64)))) (Ai (Ai (Ai T.k20 T.k65) (Ai T.k66 (Ai T.k63 T.k64))) (Ai (Ai ntmps16 ntmps51) (Ai T.VN (Ai ntmps45 ntmps73)))))) (Ai (Ai (Ai (Ai (Ai ntmps84 ntmps70) (Ai T.k70 ntmps40)) (Ai (Ai T.JT ntmps52) (Ai T.k47 (Ai T.Ot ntmps46)))) (Ai (Ai (Ai T.k54 T.k69) (Ai ntmps56 (Ai ntmps13 ntmps250))) (Ai (Ai T.XQ ntmps234) (Ai ntmps249 (Ai ntmps210 @underlying227))))) (Ai (Ai (Ai (Ai T.Vr T.Vt) (Ai T.Vs T.z227)) (Ai (Ai T.Vu ntmps208) (Ai @underlying246 (Ai T.Sk T.VF)))) (Ai (Ai (Ai T.VE T.XP) (Ai ntmps233 (Ai @underlying215 T.Sj))) (Ai (Ai T.Vp T.Vo) (Ai T.Vq (Ai T.XJ T.XI))))))))) (Ai (Ai (Ai (Ai (Ai (Ai (Ai (Ai ntmps200 ntmps216) (Ai @underlying50 T.c50)) (Ai (Ai T.g50 T.b50) (Ai T.z50 (Ai T.s50 T.Xp)))) (Ai (Ai (Ai ntmps186 ntmps199) (Ai ntmps232 ntmps198)) (Ai (Ai T.Xb T.WW) (Ai T.Xd (Ai T.Xc ntmps164))))) (Ai (Ai (Ai (Ai ntmps209 T.Xh) (Ai T.Xj T.Xi)) (Ai (Ai ntmps170 T.Xt) (Ai T.XK (Ai ntmps235 ntmps237)))) (Ai (Ai (Ai ntmps163 T.k33) (Ai T.k31 (Ai ntmps162 T.WC))) (Ai (Ai T.WB ntmps201) (Ai ntmps202 (Ai ntmps113 T.WG)))))) (Ai (Ai (Ai (Ai (Ai T.Xk ntmps171) (Ai ntmps172 ntmps121)) (Ai (Ai T.WD T.Xe) (Ai T.Xf (Ai ntmps165 T.WI)))) (Ai (Ai (Ai T.WH T.V2) (Ai ntmps122 ntmps114)) (Ai (Ai ntmps129 T.V9) (Ai ntmps77 (Ai T.V4 T.k77))))) (Ai (Ai (Ai (Ai ntmps124 ntmps61) (Ai ntmps23 T.k23)) (Ai (Ai T.k26 ntmps26) (Ai ntmps191 (Ai T.k51 T.W4)))) (Ai (Ai (Ai ntmps156 T.Wx) (Ai ntmps109 (Ai @underlying51 T.c51))) (Ai (Ai T.g51 T.b51) (Ai T.z51 (Ai T.s51 T.VT))))))) (Ai (Ai (Ai (Ai (Ai (Ai T.k45 T.VU) (Ai T.k73 T.VV)) (Ai (Ai T.VW T.VS) (Ai T.k46 (Ai T.VX ntmps50)))) (Ai (Ai (Ai @underlying30 T.Sf) (Ai T.g30 T.b30)) (Ai (Ai T.z30 T.s30) (Ai @underlying32 (Ai T.QE T.g32))))) (Ai (Ai (Ai (Ai T.b32 T.td) (Ai T.tc @underlying74)) (Ai (Ai T.UZ T.g74) (Ai T.b74 (Ai T.z74 T.s74)))) (Ai (Ai (Ai @underlying76 T.QF) (Ai T.g76 (Ai T.b76 T.z76))) (Ai (Ai T.Sh @underlying78) (Ai T.Sg (Ai T.g78 T.b78)))))) (Ai (Ai (Ai (Ai (Ai T.z78 T.h78) (Ai T.QL T.QM)) (Ai (Ai T.QN T.QV) (Ai T.QW (Ai T.k61 T.k50)))) (Ai (Ai (Ai T.k40 ntmps15) (Ai T.V1 (Ai T.k56 T.k84))) (Ai (Ai ntmps59 T.k59) (Ai T.k52 (Ai ntmps17 ntmps213))))) (Ai (Ai (Ai (Ai T.Xm ntmps180) (Ai ntmps203 T.Xg)) (Ai (Ai ntmps166 ntmps212) (Ai T.WQ (Ai ntmps185 ntmps146)))) (Ai (Ai (Ai T.WE ntmps117) (Ai T.Wn (Ai T.Wg T.Wm))) (Ai (Ai ntmps102 T.V0) (Ai ntmps57 (Ai T.Oq ntmps42)))))))) (Ai (Ai (Ai (Ai (Ai (Ai (Ai ntmps252 T.XS) (Ai ntmps257 T.XZ)) (Ai (Ai ntmps255 ntmps256) (Ai T.XX (Ai T.XY ntmps251)))) (Ai (Ai (Ai @underlying252 T.Sl) (Ai T.VH T.VG)) (Ai (Ai T.XR ntmps239) (Ai @underlying236 (Ai T.KU T.Vz))))) (Ai (Ai (Ai (Ai T.Vy T.z236) (Ai ntmps241 @underlying264)) (Ai (Ai T.Sn T.VL) (Ai T.VK (Ai T.VM ntmps253)))) (Ai (Ai (Ai T.XW ntmps242) (Ai @underlying254 (Ai T.Sm T.VJ))) (Ai (Ai T.VI ntmps240) (Ai T.XM (Ai T.XN T.XO)))))) (Ai (Ai (Ai (Ai (Ai T.XL ntmps218) (Ai T.Xq T.k35)) (Ai (Ai T.Xr ntmps189) (Ai ntmps188 (Ai ntmps190 T.WY)))) (Ai (Ai (Ai T.W0 T.WZ) (Ai ntmps155 T.Xl)) (Ai (Ai ntmps174 ntmps182) (Ai ntmps181 (Ai T.WR T.WS))))) (Ai (Ai (Ai (Ai ntmps147 T.Wo) (Ai ntmps103 ntmps126)) (Ai (Ai T.V6 ntmps68) (Ai ntmps187 (Ai T.k94 ntmps41)))) (Ai (Ai (Ai T.k57 T.k67) (Ai ntmps18 (Ai T.VO ntmps43))) (Ai (Ai T.k68 ntmps19) (Ai T.WX (Ai ntmps154 T.WV))))))) (Ai (Ai (Ai (Ai (Ai (Ai ntmps153 T.QX) (Ai T.QY T.Wu)) (Ai (Ai T.Wv T.k41) (Ai T.k43 (Ai T.Ww ntmps107)))) (Ai (Ai (Ai T.WK ntmps132) (Ai T.k42 ntmps49)) (Ai (Ai ntmps25 @underlying33) (Ai T.c33 (Ai T.g33 T.b33))))) (Ai (Ai (Ai (Ai T.z33 T.s33) (Ai @underlying67 T.c67)) (Ai (Ai T.Nw T.b67) (Ai T.z67 (Ai T.h67 ntmps130)))) (Ai (Ai (Ai T.Wb ntmps81) (Ai ntmps82 (Ai T.QT ntmps131))) (Ai (Ai ntmps83 ntmps78) (Ai ntmps80 (Ai ntmps108 T.QU)))))) (Ai (Ai (Ai (Ai (Ai T.k49 ntmps74) (Ai T.Wc ntmps79)) (Ai (Ai T.k74 T.k82) (Ai T.wv (Ai T.k81 T.k79)))) (Ai (Ai (Ai ntmps27 T.Ou) (Ai T.k25 (Ai T.VR ntmps48))) (Ai (Ai T.k48 ntmps10) (Ai T.HJ (Ai T.T7 T.k19))))) (Ai (Ai (Ai (Ai T.k27 ntmps8) (Ai @underlying26 T.Oi)) (Ai (Ai T.T6 T.b26) (Ai T.z26 (Ai T.h26 T.QG)))) (Ai (Ai (Ai T.QI T.QJ) (Ai T.QK (Ai ntmps9 T.QH))) (Ai (Ai T.k9 T.Ch) (Ai T.k8 (Ai T.zR ntmps4)))))))))))
theorem DM:type_of%(Ai @ca @bI):=
  (Ai @ca @bI)
section
variable{P:Program}{Γ:Nat→List AV}{N:Nat}{Q:Exit→Env→AS→Prop}{E E':Env}{s s':AS}{id:Nat}{L:List Oper}{x y:Code}{c:Operand}{H Z:Prop}{O:Array Oper}{W:Env→AS→Prop}{M:(Env→AS→Prop)→Prop}{f:FuncId}{ags:List AV}{v:AV}{s0 s2:AS}{E2:AS→Env}{s3:AS→AS}
theorem jA(k:cp P Γ N y Q E' s')(h:∀K:Env→AS→Prop,K E' s'→AY P Γ N L.toArray L K E s:=by(intro K hK;simp only[↓DN,Qa,Qb,Qc,Qd,Qe,Qf,Qg,Qh,reduceCtorEq,↓reduceIte,Na,Nb,Nc,Nk,Nf,Ng,Nh,Za,Zb,Zc,TT];exact hK)):cp P Γ N (.seq (.region id L.toArray false) y) Q E s:=wS fun K hK=>h K (hK _ _ k)
theorem jB(a:H)(k:cp P Γ N y Q E' s')(h:H→∀K:Env→AS→Prop,K E' s'→AY P Γ N L.toArray L K E s:=by(intro a K hK;simp only[↓DN,Qa,Qb,Qc,Qd,Qe,Qf,Qg,Qh,reduceCtorEq,↓reduceIte,Na,Nb,Nc,Nk,Nf,Ng,Nh,Za,Zb,Zc,TT,a];exact hK)):cp P Γ N (.seq (.region id L.toArray false) y) Q E s:=wS fun K hK=>h a K (hK _ _ k)
theorem jC(k:Q .normal E' s')(h:∀K:Env→AS→Prop,K E' s'→AY P Γ N L.toArray L K E s:=by(intro K hK;simp only[↓DN,Qa,Qb,Qc,Qd,Qe,Qf,Qg,Qh,reduceCtorEq,↓reduceIte,Na,Nb,Nc,Nk,Nf,Ng,Nh,Za,Zb,Zc,TT];exact hK)):cp P Γ N (.region id L.toArray false) Q E s:=wE fun K hK=>h K (hK _ _ k)
theorem jD(a:H)(k:Q .normal E' s')(h:H→∀K:Env→AS→Prop,K E' s'→AY P Γ N L.toArray L K E s:=by(intro a K hK;simp only[↓DN,Qa,Qb,Qc,Qd,Qe,Qf,Qg,Qh,reduceCtorEq,↓reduceIte,Na,Nb,Nc,Nk,Nf,Ng,Nh,Za,Zb,Zc,TT,a];exact hK)):cp P Γ N (.region id L.toArray false) Q E s:=wE fun K hK=>h a K (hK _ _ k)
theorem jE(k:cp P Γ N x Q E s)(h:∀X Y:Prop,X→match aO Γ E c with |.v (.bool t)=>(t=true→X)∧(t=false→Y)|_=>False:=by(intro X Y hX;simp only[UP,DF,Nc,↓reduceIte,DB];exact hX)):cp P Γ N (.cond c x y) Q E s:=wC fun X Y hX hY=>h X Y (hX k)
theorem jF(k:cp P Γ N y Q E s)(h:∀X Y:Prop,Y→match aO Γ E c with |.v (.bool t)=>(t=true→X)∧(t=false→Y)|_=>False:=by(intro X Y hX;simp only[UP,DF,Nc,↓reduceIte,DB];exact hX)):cp P Γ N (.cond c x y) Q E s:=wC fun X Y hX hY=>h X Y (hY k)
theorem jG(a:H)(k:cp P Γ N x Q E s)(h:H→∀X Y:Prop,X→match aO Γ E c with |.v (.bool t)=>(t=true→X)∧(t=false→Y)|_=>False:=by(intro a X Y hX;simp only[UP,DF,Nc,↓reduceIte,DB,a];exact hX)):cp P Γ N (.cond c x y) Q E s:=wC fun X Y hX hY=>h a X Y (hX k)
theorem jH(a:H)(k:cp P Γ N y Q E s)(h:H→∀X Y:Prop,Y→match aO Γ E c with |.v (.bool t)=>(t=true→X)∧(t=false→Y)|_=>False:=by(intro a X Y hX;simp only[UP,DF,Nc,↓reduceIte,DB,a];exact hX)):cp P Γ N (.cond c x y) Q E s:=wC fun X Y hX hY=>h a X Y (hY k)
theorem jI(k:Z)(h:Z→Q .ret E s:=by(intro hz;(try simp only[az,ar]);simp only[cf,bt,bD,c7,List.toList_toArray,↓bf];(try simp only[UP,DF,Nc,↓reduceIte,DT]);exact hz)):cp P Γ N .ret Q E s:=a8 (h k)
theorem jJ(h:Q .ret E s:=by((try simp only[az,ar]);simp only[cf,bt,bD,c7,List.toList_toArray,↓bf];(try simp only[UP,DF,Nc,↓reduceIte,DT]);exact⟨_,_,AV.aB.refl _,AS.le.refl _,rfl,rfl⟩)):cp P Γ N .ret Q E s:=a8 h
theorem jK(a:aj P Γ f ags s0 fun r s'=>r=v∧s'=s2)(k:∀s1,s1=s2→cp P Γ N y Q (E2 s1) (s3 s1))(h:(aj P Γ f ags s0 fun r s'=>r=v∧s'=s2)→∀K:Env→AS→Prop,(∀s1,s1=s2→K (E2 s1) (s3 s1))→AY P Γ N L.toArray L K E s:=by(intro a K hK;simp only[↓DN,Qa,Qb,Qc,Qd,Qe,Qf,Qg,Qh,reduceCtorEq,↓reduceIte,Na,Nb,Nc,Nk,Nf,Ng,Nh,Za,Zb,Zc,TT];refine ad a ?_;rintro _ s1 ⟨rfl,e⟩;simp only[↓DM,bN,DX,Nz,↓DN,Qa,Qb,Qc,Qd,Qe,Qf,Qg,Qh,reduceCtorEq,↓reduceIte,Na,Nb,Nc,Nk,Nf,Ng,Nh,Za,Zb,Zc,TT];exact hK s1 e)):cp P Γ N (.seq (.region id L.toArray false) y) Q E s:=wS fun K hK=>h a K fun s1 e=>hK _ _ (k s1 e)
theorem jL(a:aj P Γ f ags s0 fun r s'=>r=v∧s'=s2)(k:∀s1,s1=s2→Q .normal (E2 s1) (s3 s1))(h:(aj P Γ f ags s0 fun r s'=>r=v∧s'=s2)→∀K:Env→AS→Prop,(∀s1,s1=s2→K (E2 s1) (s3 s1))→AY P Γ N L.toArray L K E s:=by(intro a K hK;simp only[↓DN,Qa,Qb,Qc,Qd,Qe,Qf,Qg,Qh,reduceCtorEq,↓reduceIte,Na,Nb,Nc,Nk,Nf,Ng,Nh,Za,Zb,Zc,TT];refine ad a ?_;rintro _ s1 ⟨rfl,e⟩;simp only[↓DM,bN,DX,Nz,↓DN,Qa,Qb,Qc,Qd,Qe,Qf,Qg,Qh,reduceCtorEq,↓reduceIte,Na,Nb,Nc,Nk,Nf,Ng,Nh,Za,Zb,Zc,TT];exact hK s1 e)):cp P Γ N (.region id L.toArray false) Q E s:=wE fun K hK=>h a K fun s1 e=>hK _ _ (k s1 e)
theorem jQ(k:∀K:Env→AS→Prop,(∀E s,cp P Γ N y Q E s→K E s)→M K)(h:∀K:Env→AS→Prop,M K→AY P Γ N L.toArray L K E s:=by(intro K hz;simp only[↓DN,Qa,Qb,Qc,Qd,Qe,Qf,Qg,Qh,reduceCtorEq,↓reduceIte,Na,Nb,Nc,Nk,Nf,Ng,Nh,Za,Zb,Zc,TT];exact hz)):cp P Γ N (.seq (.region id L.toArray false) y) Q E s:=wS fun K hK=>h K (k K hK)
theorem jS(a:H)(k:∀K:Env→AS→Prop,(∀E s,cp P Γ N y Q E s→K E s)→M K)(h:H→∀K:Env→AS→Prop,M K→AY P Γ N L.toArray L K E s:=by(intro a K hz;simp only[↓DN,Qa,Qb,Qc,Qd,Qe,Qf,Qg,Qh,reduceCtorEq,↓reduceIte,Na,Nb,Nc,Nk,Nf,Ng,Nh,Za,Zb,Zc,TT,a];exact hz)):cp P Γ N (.seq (.region id L.toArray false) y) Q E s:=wS fun K hK=>h a K (k K hK)
theorem jT(k:∀K:Env→AS→Prop,(∀E s,Q .normal E s→K E s)→M K)(h:∀K:Env→AS→Prop,M K→AY P Γ N L.toArray L K E s:=by(intro K hz;simp only[↓DN,Qa,Qb,Qc,Qd,Qe,Qf,Qg,Qh,reduceCtorEq,↓reduceIte,Na,Nb,Nc,Nk,Nf,Ng,Nh,Za,Zb,Zc,TT];exact hz)):cp P Γ N (.region id L.toArray false) Q E s:=wE fun K hK=>h K (k K hK)
theorem jU(a:H)(k:∀K:Env→AS→Prop,(∀E s,Q .normal E s→K E s)→M K)(h:H→∀K:Env→AS→Prop,M K→AY P Γ N L.toArray L K E s:=by(intro a K hz;simp only[↓DN,Qa,Qb,Qc,Qd,Qe,Qf,Qg,Qh,reduceCtorEq,↓reduceIte,Na,Nb,Nc,Nk,Nf,Ng,Nh,Za,Zb,Zc,TT,a];exact hz)):cp P Γ N (.region id L.toArray false) Q E s:=wE fun K hK=>h a K (k K hK)
theorem jR{K:Env→AS→Prop}(hK:∀E s,W E s→K E s)(k:W E' s')(h:K E' s'→Z:=by(intro hK;simp only[↓DM,bN,DX,Nz,↓DN,Qa,Qb,Qc,Qd,Qe,Qf,Qg,Qh,reduceCtorEq,↓reduceIte,Na,Nb,Nc,Nk,Nf,Ng,Nh,Za,Zb,Zc,TT];exact hK)):Z:=h (hK _ _ k)
theorem jV{K:Env→AS→Prop}(a:H)(hK:∀E s,W E s→K E s)(k:W E' s')(h:H→K E' s'→Z:=by(intro a hK;simp only[↓DM,bN,DX,Nz,↓DN,Qa,Qb,Qc,Qd,Qe,Qf,Qg,Qh,reduceCtorEq,↓reduceIte,Na,Nb,Nc,Nk,Nf,Ng,Nh,Za,Zb,Zc,TT,a];exact hK)):Z:=h a (hK _ _ k)
end
theorem jM{A Z:Prop}(k:A)(h:A→Z:=by(intro hA;simp only[↓DM,bN,DX,Nz,↓DN,Qa,Qb,Qc,Qd,Qe,Qf,Qg,Qh,reduceCtorEq,↓reduceIte,Na,Nb,Nc,Nk,Nf,Ng,Nh,Za,Zb,Zc,TT];exact hA)):Z:=h k
theorem jN{A Z H:Prop}(a:H)(k:A)(h:H→A→Z:=by(intro a hA;simp only[↓DM,bN,DX,Nz,↓DN,Qa,Qb,Qc,Qd,Qe,Qf,Qg,Qh,reduceCtorEq,↓reduceIte,Na,Nb,Nc,Nk,Nf,Ng,Nh,Za,Zb,Zc,TT,a];exact hA)):Z:=h a k
theorem jO{A Z:Prop}(k:A)(h:A→Z:=by(intro hA;simp only[↓DN,Qa,Qb,Qc,Qd,Qe,Qf,Qg,Qh,reduceCtorEq,↓reduceIte,Na,Nb,Nc,Nk,Nf,Ng,Nh,Za,Zb,Zc,TT];exact hA)):Z:=h k
theorem jP{A Z H:Prop}(a:H)(k:A)(h:H→A→Z:=by(intro a hA;simp only[↓DN,Qa,Qb,Qc,Qd,Qe,Qf,Qg,Qh,reduceCtorEq,↓reduceIte,Na,Nb,Nc,Nk,Nf,Ng,Nh,Za,Zb,Zc,TT,a];exact hA)):Z:=h a k
theorem jW{v:AV}{s:AS}{R:AV→AS→Prop}(h:R v s):∃r s',v.aB r∧s'.le s∧R r s':=⟨_,_,AV.aB.refl _,AS.le.refl _,h⟩
end Go.Proofs.YtbiefppedlodiaaGreatDoor
namespace Go.AM
open Go
def aI(n:Int):AV:=.v (.int .i64 n)
def aF(l:List Int)(sp:Sp):AV:=.sl 1 l.length (l.map aI) sp
theorem ea{l:List Int}{i:Nat}(h:i<l.length):List.take 1 (List.drop i (l.map aI))=[.v (.int .i64 l[i])]:=by
  rw[List.drop_eq_getElem_cons (by simpa using h)];simp[aI]
theorem cO.ints{gw:List AV}(h:cO (.slice 1 B2) gw):∃l:List Int,gw=[aF l .any]:=by
  obtain⟨els,rfl,_,bT⟩:=cO.rows h;have key:∀els:List (List AV),(∀el∈els,el.length=1∧cO B2 el)→∃l:List Int,l.length=els.length∧els.flatten=l.map aI:=by
    intro els;induction els with
    |nil=>intro _;exact⟨[],rfl,rfl⟩
    |cons e els ih=>
      intro h;obtain⟨l,h1,h2⟩:=ih (fun el vq=>h el (by simp[vq]));obtain⟨_,t⟩:=h e (by simp);obtain⟨n,rfl,_⟩:=nf t;exact⟨n::l,by simp[h1],by simp[h2,aI]⟩
  obtain⟨l,h1,h2⟩:=key els bT;exact⟨l,by rw[←h1,h2];rfl⟩
theorem te{α:Type}{a b:List α}{i:Nat}(ha:i<a.length)(hb:i<b.length)(h:a.take i=b.take i)(e:a[i]=b[i]):a.take (i+1)=b.take (i+1):=by
  rw[List.take_succ_eq_append_getElem ha,List.take_succ_eq_append_getElem hb,h,e]
structure af where
  kind:Int
  name:List UInt8
  key:Nat
  parent:List UInt8
  ig:List Int
  deriving DecidableEq
def af.cells(n:af):List AV:=[.v (.int .i64 n.kind),al n.name .any,.v (.int .u64 n.key),al n.parent .any,aF n.ig .any]
def af.gH:af:=⟨0,[],0,[],[]⟩
theorem tf(k k':Int)(m m' p p':List UInt8)(y y':Nat)(u u':List Int):
    decide ((⟨k,m,y,p,u⟩:af)=⟨k',m',y',p',u'⟩)=((k==k')&&(((y:Int)==(y':Int))&&(decide (m=m')&&(decide (p=p')&&decide (u=u'))))):=by
  rw[Bool.eq_iff_iff,decide_eq_true_iff];simp only[af.mk.injEq,Bool.and_eq_true,beq_iff_eq,decide_eq_true_eq,Int.natCast_inj];constructor
  · rintro⟨h1,h2,h3,h4,h5⟩;exact⟨h1,h3,h2,h4,h5⟩
  · rintro⟨h1,h3,h2,h4,h5⟩;exact⟨h1,h2,h3,h4,h5⟩
theorem cO.node{gw:List AV}(h:cO (.struct (.cons B2 (.cons Dc (.cons (.int .u64) (.cons Dc (.cons (.slice 1 B2) .nil)))))) gw):∃N:af,gw=N.cells∧N.key<2^64:=by
  obtain⟨x1,y1,rfl,t1,h⟩:=cW (js h);obtain⟨x2,y2,rfl,t2,h⟩:=cW h;obtain⟨x3,y3,rfl,t3,h⟩:=cW h;obtain⟨x4,y4,rfl,t4,h⟩:=cW h;obtain⟨x5,y5,rfl,t5,h⟩:=cW h;obtain rfl:=sU h;obtain⟨n1,rfl,_⟩:=nf t1;obtain⟨l2,rfl,_⟩:=t2.bytes;obtain⟨n3,rfl,w3⟩:=nf t3;obtain⟨m3,rfl,h3⟩:=HA w3;obtain⟨l4,rfl,_⟩:=t4.bytes;obtain⟨l5,rfl⟩:=t5.ints;exact⟨⟨n1,l2,m3,l4,l5⟩,rfl,h3⟩
def uI(l:List Int)(i:Nat):Prop:=0≤l.getD i 0∧l.getD i 0<32∧(0<i→l.getD (i-1) 0<l.getD i 0)
instance xau(l:List Int)(i:Nat):Decidable (uI l i):=by unfold uI;infer_instance
def iW(l:List Int):Prop:=∀i,i<l.length→uI l i
instance T8(l:List Int):Decidable (iW l):=by unfold iW;infer_instance
theorem tg{l:List Int}{i:Nat}(h:i<l.length)(h1:0≤l[i])(h2:l[i]<32)(h3:∀k:0<i,l[i-1]<l[i]):uI l i:=by
  unfold uI;have e:l.getD i 0=l[i]:=(by simp[List.getD,h]);refine⟨by rw[e];exact h1,by rw[e];exact h2,fun k=>?_⟩;have e2:l.getD (i-1) 0=l[i-1]:=(by simp[List.getD,show i-1<l.length by omega]);rw[e,e2];exact h3 k
theorem lL{l:List Int}{i:Nat}(h:i<l.length)(k:uI l i):0≤l[i]∧l[i]<32∧(∀q:0<i,l[i-1]<l[i]):=by
  unfold uI at k;have e:l.getD i 0=l[i]:=(by simp[List.getD,h]);rw[e] at k;refine⟨k.1,k.2.1,fun q=>?_⟩;have e2:l.getD (i-1) 0=l[i-1]:=(by simp[List.getD,show i-1<l.length by omega]);have:=k.2.2 q;rwa [e2] at this
def af.held(N:af):Prop:=2≤N.key∧N.key≤2305843009213693949∧(N.parent.length=0∨N.parent.length=32)
instance QZ(N:af):Decidable N.held:=by unfold af.held;infer_instance
def af.right(N:af):Prop:=
  if N.kind=0 then N=af.gH
  else if N.kind=1 then(1≤N.name.length∧N.name.length≤16∧N.held∧N.ig.length=0)
  else if N.kind=2 then(N.name.length=0∧N.held∧iW N.ig)
  else False
instance Ov(N:af):Decidable N.right:=by unfold af.right;infer_instance
theorem lM{N:af}(h:N.kind=0):N.right↔N=af.gH:=by unfold af.right;rw[if_pos h]
theorem eY{N:af}(h:N.kind=1):N.right↔(1≤N.name.length∧N.name.length≤16∧N.held∧N.ig.length=0):=by unfold af.right;rw[if_neg (by omega),if_pos h]
theorem fJ{N:af}(h:N.kind=2):N.right↔(N.name.length=0∧N.held∧iW N.ig):=by unfold af.right;rw[if_neg (by omega),if_neg (by omega),if_pos h]
theorem yd{N:af}(h0:N.kind≠0)(h1:N.kind≠1)(h2:N.kind≠2):¬N.right:=by unfold af.right;rw[if_neg h0,if_neg h1,if_neg h2];exact id
structure Rec where
  kind:Int
  group:List UInt8
  ij:Int
  time:Int
  bucket:Int
  body:List UInt8
  tree:List UInt8
  script:List UInt8
  wrapped:List UInt8
  deriving DecidableEq
def Rec.cells(r:Rec):List AV:=[.v (.int .i64 r.kind),al r.group .any,.v (.int .i64 r.ij),.v (.int .i64 r.time),.v (.int .i64 r.bucket),al r.body .any,al r.tree .any,al r.script .any,al r.wrapped .any]
def Rec.gH:Rec:=⟨0,[],0,0,0,[],[],[],[]⟩
def Rec.right(r:Rec):Prop:=
  1≤r.kind∧r.kind≤3∧1≤r.group.length∧r.group.length≤16∧0≤r.ij∧r.ij≤1048576∧0≤r.time∧r.time≤1099511627776∧0≤r.bucket∧r.bucket≤1099511627776∧r.body.length≤60000∧
    r.tree.length=(if r.kind=3 then 0 else 32)∧r.script.length=(if r.kind=3 then 0 else 32)∧r.wrapped.length=(if r.kind=3 then 0 else 48)
instance(r:Rec):Decidable r.right:=by unfold Rec.right;infer_instance
def Rec.text(r:Rec):List UInt8:=
  be 1 r.kind.toNat++(be 1 r.group.length++r.group++(be 8 r.ij.toNat++(be 8 r.time.toNat++(be 8 r.bucket.toNat++
    (be 2 r.body.length++r.body++(be 1 r.tree.length++r.tree++(be 1 r.script.length++r.script++(be 1 r.wrapped.length++r.wrapped++[]))))))))
theorem rG(k n:Nat)(st:List UInt8×Bool):ed k n st=ee (be k n) st:=rfl
theorem fL{k n:Nat}(h:n<256^k)(st:List UInt8×Bool):bm k (n:Int) st=ee (be k n) st:=by
  have e:(256:Nat)^k=2^(8*k):=(by rw[Nat.pow_mul]);have hh:(n:Int)<2^(8*k):=by
    rw[e] at h;exact_mod_cast h
  unfold bm;rw[if_pos ⟨by omega,hh⟩];simp only[Int.toNat_natCast,rG]
theorem ft(a b:List UInt8)(st:List UInt8×Bool):ee a (ee b st)=ee (b++a) st:=by
  unfold ee;by_cases h:st.2=true
  · simp[h]
  · simp[h]
theorem pO{k:Nat}{m:List UInt8}(h:m.length<256^k)(st:List UInt8×Bool):dx k m st=ee (be k m.length++m) st:=by
  unfold dx;rw[fL h,ft]
def eu(l:List Int):List UInt8:=(l.map fun x=>be 1 x.toNat).flatten
def af.text(N:af):List UInt8:=
  if N.kind=0 then be 1 0
  else if N.kind=1 then be 1 1++(be 1 N.name.length++N.name)++be 8 N.key++(be 1 N.parent.length++N.parent)
  else be 1 2++be 8 N.key++(be 1 N.parent.length++N.parent)++be 1 N.ig.length++eu N.ig
theorem Bf{l:List Int}(h:iW l):∀i,i<l.length→(i:Int)≤l.getD i 0
  |0,k=>(h 0 k).1
  |i+1,k=>by
    have:=Bf h i (by omega);have h3:=(h (i+1) k).2.2 (by omega);simp only[Nat.add_sub_cancel] at h3;omega
theorem nZ{l:List Int}(h:iW l):l.length≤32:=by
  by_cases k:l.length=0
  · omega
  · have h1:=Bf h (l.length-1) (by omega);have h2:=(h (l.length-1) (by omega)).2.1;omega
theorem rH{l:List Int}(h:iW l){x:Int}(hx:x∈l):0≤x∧x<32:=by
  obtain⟨i,hi,rfl⟩:=List.getElem_of_mem hx;have:=lL hi (h i hi);exact⟨this.1,this.2.1⟩
theorem kR:∀(l:List Int),(eu l).length=l.length
  |[]=>rfl
  |x::l=>by
    have:=kR l;simp only[eu,List.map_cons,List.flatten_cons,List.length_append,cC,List.length_cons] at *
    omega
theorem qV(l:List Int)(x:Int):eu (l++[x])=eu l++be 1 x.toNat:=by
  simp[eu]
theorem Ci:af.gH.right:=by decide
theorem iX{N:af}(h:N.right):N.kind=0∨N.kind=1∨N.kind=2:=by
  unfold af.right at h;split at h
  · left;assumption
  · split at h
    · right;left;assumption
    · split at h
      · right;right;assumption
      · exact h.elim
theorem af.jt{N:af}(h:N.right):N.text.length≤100:=by
  obtain⟨k,m,y,p,u⟩:=N;rcases iX h with hk|hk|hk
  · simp only at hk;simp[af.text,hk]
  · obtain⟨h1,h2,⟨h3,h4,h5⟩,h6⟩:=(eY hk).1 h;simp only at hk h1 h2 h3 h4 h5 h6;simp[af.text,hk];omega
  · obtain⟨h1,⟨h3,h4,h5⟩,h6⟩:=(fJ hk).1 h;simp only at hk h1 h3 h4 h5 h6;have hu:=nZ h6;simp[af.text,hk,kR];omega
structure RdS(s s1:AS)(p o2 o3:Nat)(ce z cs:List AV):Prop where
  le:(s.drop p).le s1
  eye:s1.aw p=some ce
  res:s1.aw o2=some z
  var:s1.aw o3=some cs
  n2:s.aw o2=none
  n3:s.aw o3=none
  p2:p≠o2
  p3:p≠o3
  d:o2≠o3
def xgY(s0 s:AS)(x:AV)(l:List Int):Prop:=(x=bL∧l=[])∨∃t e,x=aF l (.own t e)∧s.own t=some e∧s0.own t=none
structure Rd4(s s1:AS)(p o2 o3 o4:Nat)(ce z cs ds:List AV):Prop where
  rd:RdS s s1 p o2 o3 ce z cs
  obj:s1.aw o4=some ds
  n4:s.aw o4=none
  p4:p≠o4
  d2:o2≠o4
  d3:o3≠o4
theorem aZ{a b:AS}(h:a.le b){t:Nat}(k:b.own t=none):a.own t=none:=by
  cases e:a.own t with
  |none=>rfl
  |some x=>rw[h.own t x e] at k;cases k
def lvT:List Nat:=[0,1,0,2,0,1,0,3,0,1,0,2,0,1,0,4,0,1,0,2,0,1,0,3,0,1,0,2,0,1,0,5,0,1,0,2,0,1,0,3,0,1,0,2,0,1,0,4,0,1,0,2,0,1,0,3,0,1,0,2,0,1,0]
def lv(n:Nat):Nat:=lvT.getD n 0
def qo(x:Int):Nat:=if 0≤x∧x<63 then lv x.toNat else 0
def hf(n:Nat):Nat:=2^lv n/2
def lo(n:Nat):Nat:=(n-(2^lv n-1))/2
def hi(n:Nat):Nat:=(n+(2^lv n-1))/2
def Fit(n:Nat):Prop:=n=1∨n=2∨n=4∨n=8∨n=16∨n=32
instance(n:Nat):Decidable (Fit n):=by unfold Fit;infer_instance
theorem Fit.le{n:Nat}(h:Fit n):1≤n∧n≤32:=by rcases h with h|h|h|h|h|h<;>omega
theorem oF(n:Nat):lv n≤5:=by
  by_cases h:n<63
  · exact(by decide:∀n<63,lv n≤5) n h
  · have :lv n=0:=(by simp[lv,List.getD,lvT,show 63≤n by omega]);omega
def oG(n:Nat):Nat:=if n/2^(lv n+1)%2=0 then n+2^lv n else n-2^lv n
def dT:Nat→Nat→Nat→List Nat
  |0,_,_=>[]
  |k+1,n,leaves=>if n=leaves-1 then[] else oG n::dT k (oG n) leaves
def aA(leaf leaves:Nat):List Nat:=dT 6 (2*leaf) leaves
def fu:List Nat:=[0,1,56,2,57,49,28,3,61,58,42,50,38,29,17,4,62,47,59,36,45,43,51,22,53,39,33,30,24,18,12,5,63,55,48,27,60,41,37,16,46,35,44,21,52,32,23,11,54,26,40,15,34,20,31,10,25,14,19,9,13,8,7,6]
def pn(n:Nat):AV:=.v (.int .u8 n)
def rI(x:Int):Prop:=0≤x∧Fit x.toNat
instance(x:Int):Decidable (rI x):=by unfold rI;infer_instance
theorem Sq:∀n<63,∃k<64,eJ .u64 (gO .u64 (mg .u64 ((n+1:Nat):Int) (Dn .u64 ((n+1:Nat):Int))) 285870213051353865) 58=((k:Nat):Int)∧(List.drop k (fu.map pn))[0]? =some (pn (lv n)):=by
  have key:∀n<63,∃k<64,eJ .u64 (gO .u64 (mg .u64 ((n+1:Nat):Int) (Dn .u64 ((n+1:Nat):Int))) 285870213051353865) 58=((k:Nat):Int)∧fu[k]? =some (lv n):=(by decide+kernel);intro n hn;obtain⟨k,h1,h2,h3⟩:=key n hn;refine⟨k,h1,h2,?_⟩;rw[List.getElem?_drop,Nat.add_zero,List.getElem?_map,h3];rfl
theorem eH{n:Nat}(h:n<63):qo (n:Int)=lv n:=by
  unfold qo;rw[if_pos (by omega),Int.toNat_natCast]
theorem Cj(x:Int):qo x≤5:=by unfold qo;split;exact oF _;omega
theorem Ow{l:Nat}(h:l≤5):eJ .i64 (kj .i64 1 (l:Int)) 1=((2^l/2:Nat):Int):=(by decide:∀l≤5,eJ .i64 (kj .i64 1 ((l:Nat):Int)) 1=((2^l/2:Nat):Int)) l h
theorem KV{l:Nat}(h:l≤5):kj .i64 1 (l:Int)=((2^l:Nat):Int):=(by decide:∀l≤5,kj .i64 1 ((l:Nat):Int)=((2^l:Nat):Int)) l h
theorem mE{l:Nat}(h:l≤5):1≤2^l∧2^l≤32:=(by decide:∀l≤5,1≤2^l∧2^l≤32) l h
def fX(x:Int):Option (Int×Int):=if qo x=0 then none else some (x-((2^qo x/2:Nat):Int),x+((2^qo x/2:Nat):Int))
def ju(x:Int):Int×Int:=if 0≤x∧x<63 then((lo x.toNat:Int),(hi x.toNat:Int)) else(0,-1)
theorem qp(x:Int):2^qo x/2=0↔qo x=0:=by
  have:=Cj x;generalize qo x=l at *
  exact(by decide:∀l≤5,2^l/2=0↔l=0) l this
theorem Sr:∀n:Nat,n<63→kK .i64 (di .i64 (n:Int) (di .i64 ((2^lv n:Nat):Int) 1)) 2=(lo n:Int)∧kK .i64 (ec .i64 (n:Int) (di .i64 ((2^lv n:Nat):Int) 1)) 2=(hi n:Int):=by decide+kernel
end Go.AM
namespace Go.Proofs.YtbiefppedlodiaaGreatDoor
open Go Go.AM Go.Proofs Tryz
variable{Γ:Nat→List AV}
theorem ye(x:Int)(s:AS):aj prog Γ 173 [.v (.int .i64 x)] s (fun r s'=>r=.v (.bool (decide (0≤x∧x<63)))∧s'=s):=by
 refine aa func173 rfl ntmps173 results173 (by simp) ?_;refine jA ?_;by_cases h:0≤x
 ·refine jB (decide_eq_true h) ?_;refine jI ?_;exact jW ⟨by simp[h],rfl⟩
 ·refine jB (decide_eq_false h) ?_;refine jI ?_;exact jW ⟨by simp[h],rfl⟩
theorem Ge(hG:Γ 3=fu.map pn)(n:Nat)(hn:n<63)(s:AS):aj prog Γ 215 [.v (.int .u64 ((n+1:Nat):Int))] s (fun r s'=>r=.v (.int .i64 (lv n))∧s'=s):=by
 refine aa func215 rfl ntmps215 results215 (by simp) ?_;have h0:(((n+1:Nat):Int)==0)=false:=(by simp;omega);refine jA ?_;refine wK fun K hK=>?_;refine jB @h0 ?_;refine jF ?_;refine ab ?_;refine hK _ _ ?_;clear hK K;obtain⟨k,hk,yf,fb⟩:=Sq n hn;have hl:=oF n;have X1:((0:Int)≤(k:Int))=True:=eq_true (by omega);have Fy:((k:Int)<((64:Nat):Int))=True:=eq_true (by omega);refine wS fun K hK=>?_;simp only[↓DN,Qa,Qb,Qc,Qd,Qe,Qf,Qg,Qh,reduceCtorEq,↓reduceIte,Na,Nb,Nc,Nk,Nf,Ng,Nh,Za,Zb,Zc,TT,hG,yf,X1,Fy,fb,pn,Kj (show lv n<2^62 by omega)];refine hK _ _ ?_;clear hK K;exact jJ
theorem KW(hG:Γ 3=fu.map pn)(n:Nat)(hn:n<63)(s:AS):aj prog Γ 184 [.v (.int .u64 ((n+1:Nat):Int))] s (fun r s'=>r=.v (.int .i64 (lv n))∧s'=s):=by
 refine aa func184 rfl ntmps184 results184 (by simp) ?_;refine jA ?_;refine wK fun K hK=>?_;refine jF ?_;refine ab ?_;refine hK _ _ ?_;clear hK K;refine jK (Ge hG n hn _) ?_;rintro s1 rfl;exact jJ
theorem pP(hG:Γ 3=fu.map pn)(x:Int)(s:AS):aj prog Γ 152 [.v (.int .i64 x)] s (fun r s'=>r=.v (.int .i64 (qo x))∧s'=s):=by
 refine aa func152 rfl ntmps152 results152 (by simp) ?_;refine jA ?_;refine wK fun K hK=>?_;refine jQ fun K hK=>?_;refine ad (ye x _) ?_;rintro r s1 ⟨rfl,rfl⟩;by_cases h:0≤x∧x<63
 ·obtain⟨n,rfl⟩:=Int.eq_ofNat_of_zero_le h.1;have hn:n<63:=(by omega);rw[decide_eq_true h];refine jR hK ?_;clear hK K;refine jF ?_;refine ab ?_;refine hK _ _ ?_;clear hK K;have e1:cG .u64 (ec .i64 (n:Int) 1)=((n+1:Nat):Int):=(by rw[dZ n (by omega),sT (by omega)]);refine jS @e1 fun K hK=>?_;refine ad (KW hG n hn _) ?_;rintro r s2 ⟨rfl,rfl⟩;refine jR hK ?_;clear hK K;refine jI ?_;rw[eH hn];exact jW ⟨rfl,rfl⟩
 ·rw[decide_eq_false h];refine jR hK ?_;clear hK K;refine jE ?_;refine jA ?_;refine jI ?_;rw[show qo x=0 from if_neg h];exact jW ⟨rfl,rfl⟩
theorem n6(hG:Γ 3=fu.map pn)(x:Int)(s:AS):aj prog Γ 183 [.v (.int .i64 x)] s (fun r s'=>r=.v (.int .i64 ((2^qo x/2:Nat):Int))∧s'=s):=by
 refine aa func183 rfl ntmps183 results183 (by simp) ?_;have hl:qo x≤5:=(by unfold qo;split;exact oF _;omega);refine jA ?_;refine jK (pP hG x _) ?_;rintro s1 rfl;refine jI ?_;rw[Ow hl];exact jW ⟨rfl,rfl⟩
theorem ik(hG:Γ 3=fu.map pn)(x:Int)(hx: -9000000000000000000≤x∧x≤9000000000000000000)(s:AS):aj prog Γ 151 [.v (.int .i64 x)] s (fun r s'=>r=(match fX x with |some k=>.eo [.v (.int .i64 k.1),.v (.bool true)]|none=>.eo [.v (.int .i64 0),.v (.bool false)])∧s'=s):=by
 refine aa func151 rfl ntmps151 results151 (by simp) ?_;have hl:=Cj x;have hp:=mE hl;refine jA ?_;refine wK fun K hK=>?_;refine jQ fun K hK=>?_;refine ad (n6 hG x _) ?_;rintro r s1 ⟨rfl,rfl⟩;by_cases h:qo x=0
 ·have h0:(((2^qo x/2:Nat):Int)==0)=true:=(by rw[beq_iff_eq];have:=(qp x).2 h;omega);refine jV @h0 hK ?_;clear hK K;refine jE ?_;refine jA ?_;refine jI ?_;rw[show fX x=none from if_pos h];exact jW ⟨rfl,rfl⟩
 ·have h0:(((2^qo x/2:Nat):Int)==0)=false:=by
   rw[beq_eq_false_iff_ne];intro e;exact h ((qp x).1 (by omega))
  refine jV @h0 hK ?_;clear hK K;refine jF ?_;refine ab ?_;refine hK _ _ ?_;clear hK K;refine jQ fun K hK=>?_;refine ad (n6 hG x _) ?_;rintro r s2 ⟨rfl,rfl⟩;refine jV (bR (a:=x) (b:=((2^qo x/2:Nat):Int)) (by omega)) hK ?_;clear hK K;refine jI ?_;rw[show fX x=some (_,_) from if_neg h];exact jW ⟨rfl,rfl⟩
theorem mR(hG:Γ 3=fu.map pn)(x:Int)(hx: -9000000000000000000≤x∧x≤9000000000000000000)(s:AS):aj prog Γ 150 [.v (.int .i64 x)] s (fun r s'=>r=(match fX x with |some k=>.eo [.v (.int .i64 k.2),.v (.bool true)]|none=>.eo [.v (.int .i64 0),.v (.bool false)])∧s'=s):=by
 refine aa func150 rfl ntmps150 results150 (by simp) ?_;have hl:=Cj x;have hp:=mE hl;refine jA ?_;refine wK fun K hK=>?_;refine jQ fun K hK=>?_;refine ad (n6 hG x _) ?_;rintro r s1 ⟨rfl,rfl⟩;by_cases h:qo x=0
 ·have h0:(((2^qo x/2:Nat):Int)==0)=true:=(by rw[beq_iff_eq];have:=(qp x).2 h;omega);refine jV @h0 hK ?_;clear hK K;refine jE ?_;refine jA ?_;refine jI ?_;rw[show fX x=none from if_pos h];exact jW ⟨rfl,rfl⟩
 ·have h0:(((2^qo x/2:Nat):Int)==0)=false:=by
   rw[beq_eq_false_iff_ne];intro e;exact h ((qp x).1 (by omega))
  refine jV @h0 hK ?_;clear hK K;refine jF ?_;refine ab ?_;refine hK _ _ ?_;clear hK K;refine jQ fun K hK=>?_;refine ad (n6 hG x _) ?_;rintro r s2 ⟨rfl,rfl⟩;refine jV (eL (a:=x) (b:=((2^qo x/2:Nat):Int)) (by omega)) hK ?_;clear hK K;refine jI ?_;rw[show fX x=some (_,_) from if_neg h];exact jW ⟨rfl,rfl⟩
theorem qW(hG:Γ 3=fu.map pn)(x:Int)(s:AS):aj prog Γ 128 [.v (.int .i64 x)] s (fun r s'=>r=.eo [.v (.int .i64 (ju x).1),.v (.int .i64 (ju x).2)]∧s'=s):=by
 refine aa func128 rfl ntmps128 results128 (by simp) ?_;refine jA ?_;refine wK fun K hK=>?_;refine jQ fun K hK=>?_;refine ad (ye x _) ?_;rintro r s1 ⟨rfl,rfl⟩;by_cases h:0≤x∧x<63
 ·obtain⟨n,rfl⟩:=Int.eq_ofNat_of_zero_le h.1;have hn:n<63:=(by omega);have hl:=oF n;have hp:=mE hl;obtain⟨u1,u2⟩:=Sr n hn;rw[decide_eq_true h];refine jR hK ?_;clear hK K;refine jF ?_;refine ab ?_;refine hK _ _ ?_;clear hK K;refine jQ fun K hK=>?_;refine ad (pP hG n _) ?_;rintro r s2 ⟨rfl,rfl⟩;refine jV (Ai (eH hn) (KV hl)) hK ?_;clear hK K;refine jB (Ai @u1 @u2) ?_;refine jI ?_;rw[show ju (n:Int)=((lo n:Int),(hi n:Int)) from if_pos h];exact jW ⟨rfl,rfl⟩
 ·rw[decide_eq_false h];refine jR hK ?_;clear hK K;refine jE ?_;refine jA ?_;refine jI ?_;rw[show ju x=(0,-1) from if_neg h];exact jW ⟨rfl,rfl⟩
end Go.Proofs.YtbiefppedlodiaaGreatDoor
namespace Go.AM
open Go
theorem lN{a b:Int}(h:a=b):(a==b)=true:=by simpa using h
theorem jv{a b:Int}(h:a≠b):(a==b)=false:=by simpa using h
theorem T9{a b:Int}(h:a≠b):(a != b)=true:=by simpa using h
theorem eqI{a b:Int}(h:a=b):(a != b)=false:=by simpa using h
theorem kS:((2:Int)=0)=False:=by decide
theorem Ox{a:Nat}(h:a=0):((a:Int)==0)=true:=by subst h;rfl
theorem HK{a:Nat}(h:a≠0):((a:Int)==0)=false:=by simpa using h
theorem X2{a k:Nat}(h:a=k):((a:Int)==(k:Int))=true:=by subst h;simp
theorem xbF{a k:Nat}(h:a≠k):((a:Int)==(k:Int))=false:=by simp only[beq_eq_false_iff_ne,ne_eq];omega
theorem KX{a b:Nat}(h:a≠b):((a:Int) != (b:Int))=true:=by simp only[bne_iff_ne,ne_eq];omega
theorem KY{a b:Nat}(h:a=b):((a:Int) != (b:Int))=false:=by subst h;simp
theorem KZ{a b:List UInt8}(h:a≠b):(a != b)=true∧(!a==b)=true:=⟨by simpa using h,by simpa using h⟩
theorem K9{a b:List UInt8}(h:a=b):(a != b)=false∧(!a==b)=false:=by subst h;simp
theorem bp(i:Nat)(h:i<9223372036854775807):ec .i64 (i:Int) 1=((i+1:Nat):Int):=by
  rw[eL (by omega)];omega
theorem dv(m:Nat)(h:m<9223372036854775807):kK .i64 (m:Int) 2=((m/2:Nat):Int):=by
  have e:(m:Int).tdiv 2=((m/2:Nat):Int):=(Int.ofNat_tdiv m 2).symm;unfold kK;rw[e];exact IntWalk.i64_in _ (by omega)
theorem bE(m:Nat)(h:m<4611686018427387904):gO .i64 2 (m:Int)=((2*m:Nat):Int):=by
  rw[dI (by omega)];omega
theorem X3(a:Nat):decide ((a:Int)<0)=false:=decide_eq_false (by omega)
theorem Oy:∀n:Nat,n≤32→1≤n→(mg .i64 (n:Int) (di .i64 (n:Int) 1)==0)=decide (Fit n):=by decide+kernel
theorem nj{n:Nat}:rI (n:Int)↔Fit n:=by unfold rI;rw[Int.toNat_natCast];exact⟨fun h=>h.2,fun h=>⟨by omega,h⟩⟩
theorem pQ{x:Int}(h:rI x):1≤x∧x≤32:=by have:=h.2.le;have:=h.1;omega
def La(x:Int):Int:=if rI x then 2*x-1 else 0
def rJ(n l:Nat):Option Nat:=if n=l-1 then none else some (oG n)
theorem I4:∀n:Nat,n<63→(mg .i64 (n:Int) (gO .i64 2 ((2^lv n:Nat):Int))==0)=decide (n/2^(lv n+1)%2=0)∧ec .i64 (n:Int) ((2^lv n:Nat):Int)=((n+2^lv n:Nat):Int)∧
    (¬n/2^(lv n+1)%2=0→di .i64 (n:Int) ((2^lv n:Nat):Int)=((n-2^lv n:Nat):Int)):=by decide+kernel
def nodeAt(leaf l:Nat):Nat→Nat
  |0=>2*leaf
  |i+1=>(aA leaf l).getD i 0
theorem Fit.pow{n:Nat}(h:Fit n):∃m,m≤5∧n=2^m:=by
  rcases h with rfl|rfl|rfl|rfl|rfl|rfl
  · exact⟨0,by decide,rfl⟩
  · exact⟨1,by decide,rfl⟩
  · exact⟨2,by decide,rfl⟩
  · exact⟨3,by decide,rfl⟩
  · exact⟨4,by decide,rfl⟩
  · exact⟨5,by decide,rfl⟩
theorem Gf{leaf l:Nat}(hl:Fit l)(h:leaf<l){i:Nat}(hi:i≤(aA leaf l).length):nodeAt leaf l i<2*l-1∧rJ (nodeAt leaf l i) l=(aA leaf l)[i]?:=by
  obtain⟨m,hm,rfl⟩:=hl.pow;exact(by decide+kernel:∀m≤5,∀leaf<2^m,∀i≤(aA leaf (2^m)).length,nodeAt leaf (2^m) i<2*2^m-1∧rJ (nodeAt leaf (2^m) i) (2^m)=(aA leaf (2^m))[i]?) m hm leaf h i hi
theorem fw{leaf l:Nat}(hl:Fit l)(h:leaf<l):(aA leaf l).length≤5:=by
  obtain⟨m,hm,rfl⟩:=hl.pow;exact(by decide+kernel:∀m≤5,∀leaf<2^m,(aA leaf (2^m)).length≤5) m hm leaf h
theorem yg{leaf l:Nat}(hl:Fit l)(h:leaf<l):∀x∈aA leaf l,x<2*l-1∧x%2=1∧lo x≤leaf∧leaf≤hi x:=by
  obtain⟨m,hm,rfl⟩:=hl.pow;exact(by decide+kernel:∀m≤5,∀leaf<2^m,∀x∈aA leaf (2^m),x<2*2^m-1∧x%2=1∧lo x≤leaf∧leaf≤hi x) m hm leaf h
def oW(leaf l:Nat):List Nat:=(aA leaf l).reverse++[2*leaf]
def xb(leaf l:Nat):Nat→Nat×Nat
  |0=>(0,2*l-2)
  |j+1=>let s:=xb leaf l j;let oX:=(s.1+s.2)/2;if 2*leaf<oX then(s.1,oX-1) else(oX+1,s.2)
theorem I5{leaf l:Nat}(hl:Fit l)(h:leaf<l){j:Nat}(hj:j<(oW leaf l).length):
    (oW leaf l)[j]? =some (((xb leaf l j).1+(xb leaf l j).2)/2)∧(j+1=(oW leaf l).length↔2*leaf=((xb leaf l j).1+(xb leaf l j).2)/2)∧(xb leaf l j).1+(xb leaf l j).2≤200:=by
  obtain⟨m,hm,rfl⟩:=hl.pow;exact(by decide+kernel:∀m≤5,∀leaf<2^m,∀j<(oW leaf (2^m)).length,(oW leaf (2^m))[j]? =some (((xb leaf (2^m) j).1+(xb leaf (2^m) j).2)/2)∧(j+1=(oW leaf (2^m)).length↔2*leaf=((xb leaf (2^m) j).1+(xb leaf (2^m) j).2)/2)∧(xb leaf (2^m) j).1+(xb leaf (2^m) j).2≤200) m hm leaf h j hj
theorem Oz:∀n<63,(n%2=1→lv n=lv (n/2)+1)∧(n%2=0→lv n=0):=by decide+kernel
theorem OA:∀n<63,lv n≠0→lo (n-hf n)=lo n∧lv (n-hf n)+1=lv n∧n-hf n<63∧hf n≤n:=by decide+kernel
theorem OB:∀n<63,lv n≠0→hi (n+hf n)=hi n∧lv (n+hf n)+1=lv n∧n+hf n<63:=by decide+kernel
theorem HL:∀n<63,lv n=0→lo n=n/2∧hi n=n/2:=by decide+kernel
def aV(l:List Nat):List Int:=l.map fun(n:Nat)=>(n:Int)
theorem bz(l:List Nat):(aV l).length=l.length:=by simp[aV]
end Go.AM
namespace Go.Proofs.YtbiefppedlodiaaGreatDoor
open Go Go.AM Go.Proofs Tryz
variable{Γ:Nat→List AV}
theorem th(x:Int)(s:AS):aj prog Γ 148 [.v (.int .i64 x)] s (fun r s'=>r=.v (.bool (decide (rI x)))∧s'=s):=by
 refine aa func148 rfl ntmps148 results148 (by simp) ?_;refine jA ?_;by_cases h1:1≤x
 ·by_cases h2:x≤32
  ·obtain⟨n,rfl⟩:=Int.eq_ofNat_of_zero_le (show 0≤x by omega);refine jB (Ai (decide_eq_true h1) (Ai (decide_eq_true h2) (Oy n (by omega) (by omega)))) ?_;refine jI ?_;exact jW ⟨by simp only[nj],rfl⟩
  ·have hn:decide (rI x)=false:=(decide_eq_false fun h=>by have:=pQ h;omega);refine jB (Ai (decide_eq_true h1) (decide_eq_false h2)) ?_;refine jI ?_;rw[hn];exact jW ⟨rfl,rfl⟩
 ·have hn:decide (rI x)=false:=(decide_eq_false fun h=>by have:=pQ h;omega);refine jB (decide_eq_false h1) ?_;refine jI ?_;rw[hn];exact jW ⟨rfl,rfl⟩
theorem qX(x:Int)(s:AS):aj prog Γ 149 [.v (.int .i64 x)] s (fun r s'=>r=.v (.int .i64 (La x))∧s'=s):=by
 refine aa func149 rfl ntmps149 results149 (by simp) ?_;refine jA ?_;refine wK fun K hK=>?_;refine jQ fun K hK=>?_;refine ad (th x _) ?_;rintro r s1 ⟨rfl,rfl⟩;by_cases h:rI x
 ·have hb:=pQ h;rw[decide_eq_true h];refine jR hK ?_;clear hK K;refine jF ?_;refine ab ?_;refine hK _ _ ?_;clear hK K;refine jA ?_;refine jI ?_;rw[dI (a:=2) (b:=x) (by omega),bR (a:=2*x) (b:=1) (by omega),show La x=2*x-1 from if_pos h];exact jW ⟨rfl,rfl⟩
 ·rw[decide_eq_false h];refine jR hK ?_;clear hK K;refine jE ?_;refine jA ?_;refine jI ?_;rw[show La x=0 from if_neg h];exact jW ⟨rfl,rfl⟩
theorem Ee{l:Nat}(h:Fit l):La (l:Int)=((2*l-1:Nat):Int):=by
 have:=h.le;unfold La;rw[if_pos (nj.2 h)];omega
theorem mS(hG:Γ 3=fu.map pn)(n l:Nat)(hl:Fit l)(hn:n<2*l-1)(s:AS):aj prog Γ 106 [.v (.int .i64 n),.v (.int .i64 l)] s
  (fun r s'=>r=.eo [.v (.int .i64 ((rJ n l).getD 0)),.v (.bool (rJ n l).isSome)]∧s'=s):=by
 refine aa func106 rfl ntmps106 results106 (by simp) ?_;have Gg:=hl.le;have IE:n<63:=(by omega);have h0:decide ((n:Int)<0)=false:=decide_eq_false (by omega);have h1:decide (((2*l-1:Nat):Int)≤(n:Int))=false:=decide_eq_false (by omega);have hw:=Ee hl;have hp:=mE (oF n);obtain⟨a1,a2,a3⟩:=I4 n IE;refine jA ?_;refine wK fun K hK=>?_;refine jS @h0 fun K hK=>?_;refine ad (qX l _) ?_;rintro r s1 ⟨rfl,rfl⟩;by_cases he:n=l-1
 ·have h2:(((n:Nat):Int)==di .i64 (l:Int) 1)=true:=(by rw[bR (by omega),beq_iff_eq];omega);refine jV (Ai @hw (Ai @h1 @h2)) hK ?_;clear hK K;refine jE ?_;refine jA ?_;refine jI ?_;rw[show rJ n l=none from if_pos he];exact jW ⟨rfl,rfl⟩
 ·have h2:(((n:Nat):Int)==di .i64 (l:Int) 1)=false:=(by rw[bR (by omega),beq_eq_false_iff_ne];omega);have ha:rJ n l=some (oG n):=if_neg he;refine jV (Ai @hw (Ai @h1 @h2)) hK ?_;clear hK K;refine jF ?_;refine ab ?_;refine hK _ _ ?_;clear hK K;refine jQ fun K hK=>?_;refine ad (pP hG n _) ?_;rintro r s2 ⟨rfl,rfl⟩;refine jV (Ai (eH IE) (KV (oF n))) hK ?_;clear hK K;refine wK fun K hK=>?_;by_cases hb:n/2^(lv n+1)%2=0
  ·rw[decide_eq_true hb] at a1;refine jB @a1 ?_;refine jE ?_;refine jB @a2 ?_;refine jI ?_;rw[ha,show oG n=n+2^lv n from if_pos hb];exact jW ⟨rfl,rfl⟩
  ·rw[decide_eq_false hb] at a1;refine jB @a1 ?_;refine jF ?_;refine ab ?_;refine hK _ _ ?_;clear hK K;refine jB (a3 hb) ?_;refine jI ?_;rw[ha,show oG n=n-2^lv n from if_neg hb];exact jW ⟨rfl,rfl⟩
def lO:AV→Nat
 |.sl _ n _ _=>n
 |_=>0
theorem kT(hG:Γ 3=fu.map pn)(leaf l:Nat)(hl:Fit l)(hn:leaf<l)(s:AS):aj prog Γ 47 [.v (.int .i64 leaf),.v (.int .i64 l)] s
  (fun r s'=>r=aF (aV (aA leaf l)) .any∧s'=s):=by
 refine aa func47 rfl ntmps47 results47 (by simp) ?_;have Gg:=hl.le;have AF:=fw hl hn;have h0:decide ((leaf:Int)<0)=false:=decide_eq_false (by omega);have h1:decide ((l:Int)≤(leaf:Int))=false:=decide_eq_false (by omega);have iH:=fun(i:Nat)(h:i≤(aA leaf l).length)=>Gf hl hn h;have Q0:∀i,i<(aA leaf l).length→nodeAt leaf l (i+1)=(aA leaf l).getD i 0:=fun i _=>rfl;have Ss:nodeAt leaf l 0=2*leaf:=rfl;generalize aA leaf l=P at *
 refine jA ?_;refine wK fun K hK=>?_;refine jB (Ai @h0 @h1) ?_;refine jF ?_;refine ab ?_;refine hK _ _ ?_;clear hK K;refine jA ?_;refine wK fun K hK=>?_;refine jQ fun K hK=>?_;obtain⟨w0,w1⟩:=iH 0 (Nat.zero_le _);rw[Ss] at w0 w1;have e0:gO .i64 2 (leaf:Int)=((2*leaf:Nat):Int):=(by rw[dI (by omega)];omega);rw[e0];refine ad (mS hG (2*leaf) l hl w0 _) ?_;rintro r s1 ⟨rfl,rfl⟩;rw[w1];refine jR hK ?_;clear hK K;refine ah ?_;refine aD (fun E s2=>∃(i:Nat)(x:AV),i≤P.length∧E 6=.v (.int .i64 (((P[i]?).getD 0:Nat):Int))∧E 7=.v (.bool (P[i]?).isSome)∧E 1=.v (.int .i64 l)∧E 5=x∧cP 1 s1 s2 x i ((aV (P.take i)).map aI)∧s1.le s2)
  (fun E _=>P.length+1-lO (E 5)) ?_ ?_
 ·exact⟨0,bL,Nat.zero_le _,rfl,rfl,rfl,rfl,cP.nil _ _ _,AS.le.refl _⟩
 ·rintro E1 s2 ⟨i,x,hi,g6,g7,g1,g5,hx,hle⟩ -
  refine wK fun K2 aX=>?_;by_cases aY:i<P.length
  ·have hp:P[i]? =some P[i]:=List.getElem?_eq_getElem aY;rw[hp] at g6 g7;simp only[Option.getD_some,Option.isSome_some] at g6 g7;refine jB @g7 ?_;refine jE ?_;refine ab ?_;refine aX _ _ ?_;clear aX K2;refine wK fun K3 br=>?_;refine ah ?_;have Ef:nodeAt leaf l (i+1)=P[i]:=(by rw[Q0 i aY,List.getD,hp];rfl);obtain⟨w2,w3⟩:=iH (i+1) aY;rw[Ef] at w2 w3;have dM:aV (P.take (i+1))=aV (P.take i)++[((P[i]:Nat):Int)]:=(by unfold aV;rw[List.take_succ_eq_append_getElem aY,List.map_append];rfl);have bG:∀(E:Env)(s3:AS)(x3:AV),E 6=.v (.int .i64 (P[i]:Nat))→E 1=.v (.int .i64 l)→E 5=x3→cP 1 s1 s3 x3 (i+1) ((aV (P.take (i+1))).map aI)→s1.le s3→K3 E s3:=by
    intro E s3 x3 f6 f1 f5 fx yh;refine br _ _ ?_;clear br K3;refine jU (Ai @f6 @f1) fun K hK=>?_;refine ad (mS hG (P[i]) l hl w2 _) ?_;rintro r s4 ⟨rfl,rfl⟩;rw[w3];refine jM ?_;refine hK _ _ ⟨⟨i+1,x3,aY,rfl,rfl,f1,f5,fx,yh⟩,?_⟩;have m1:lO (E1 5)=i:=by
     rw[g5];rcases hx with⟨rfl,rfl,_⟩|⟨t,e,rfl,_⟩<;>rfl
    have m2:lO (E 5)=i+1:=by
     rw[f5];rcases fx with⟨rfl,h,_⟩|⟨t,e,rfl,_⟩
     ·omega
     ·rfl
    simp only[aH,Nc,↓reduceIte,m1,m2];omega
   clear br;rcases hx with⟨rfl,fg,rK⟩|⟨t,e,rfl,ht,iJ⟩
   ·refine wE fun K hK=>?_;simp only[↓DN,Qa,Qb,Qc,Qd,Qe,Qf,Qg,Qh,reduceCtorEq,↓reduceIte,Na,Nb,Nc,Nk,Nf,Ng,Nh,Za,Zb,Zc,TT,g5,g6,bL,List.replicate_succ];intro t ht;refine hK _ _ (bG _ _ (.sl 1 1 [.v (.int .i64 ((P[i]:Nat):Int))] (.own t 0)) g6 g1 rfl ?_ ?_)
    ·refine .inr ⟨t,0,?_,by simp[AS.bw],aZ hle ht⟩;rw[dM,List.map_append,rK];subst fg;rfl
    ·exact AS.bj hle (aZ hle ht) 0
   ·refine wE fun K hK=>?_;simp only[↓DN,Qa,Qb,Qc,Qd,Qe,Qf,Qg,Qh,reduceCtorEq,↓reduceIte,Na,Nb,Nc,Nk,Nf,Ng,Nh,Za,Zb,Zc,TT,g5,g6,ht,List.replicate_succ];have Bg:(aV (P.take i)).length=i:=(by rw[bz,List.length_take];omega);refine⟨by omega,by omega,hK _ _ (bG _ _ (.sl 1 (i+1) ((aV (P.take i)).map aI++[.v (.int .i64 ((P[i]:Nat):Int))]) (.own t (e+1))) g6 g1 rfl ?_ ?_)⟩
    ·exact .inr ⟨t,e+1,by rw[dM,List.map_append];rfl,by simp[AS.bw],iJ⟩
    ·exact AS.bj hle iJ (e+1)
  ·have hp:P[i]? =none:=List.getElem?_eq_none (by omega);rw[hp] at g7;simp only[Option.isSome_none] at g7;refine jB @g7 ?_;refine jF ?_;refine aC ?_;simp only[az,ar,if_true];refine hK _ _ ?_;clear hK aX K2 K;obtain rfl:i=P.length:=(by omega);rw[List.take_of_length_le (Nat.le_refl _)] at hx;have hw:=hx.aB;refine jB @g5 ?_;refine jI ?_;refine⟨_,_,?_,hle,rfl,rfl⟩;have Bg:=bz P;unfold aF;rw[Bg];exact hw
theorem Lb(x:Int):rI x↔x=1∨x=2∨x=4∨x=8∨x=16∨x=32:=by unfold rI Fit;omega
theorem oH(x:Int)(s:AS):aj prog Γ 115 [.v (.int .i64 x)] s (fun r s'=>r=.v (.bool (decide (rI x)))∧s'=s):=by
 refine aa func115 rfl ntmps115 results115 (by simp) ?_;refine jA ?_;rcases tt6 (x==1) (x==2) (x==4) (x==8) (x==16) (x==32) with hd|hd|hd|hd|hd|hd|hd;all_goals
  refine jB @hd ?_;refine jI ?_;simp only[beq_iff_eq,beq_eq_false_iff_ne,ne_eq] at hd;have hf:=Lb x
 case inr.inr.inr.inr.inr.inr=>
  rw[decide_eq_false (by rw[hf];omega)];exact jW ⟨rfl,rfl⟩
 all_goals
  rw[decide_eq_true (by rw[hf];omega)];exact jW ⟨rfl,rfl⟩
theorem fM(x:Int)(s:AS):aj prog Γ 125 [.v (.int .i64 x)] s (fun r s'=>r=.v (.int .i64 (qo x))∧s'=s):=by
 refine aa func125 rfl ntmps125 results125 (by simp) ?_;refine jA ?_;refine wK fun K hK=>?_;by_cases h:0≤x∧x<63
 ·obtain⟨n,rfl⟩:=Int.eq_ofNat_of_zero_le h.1;have hn:n<63:=(by omega);have h0:decide ((n:Int)<0)=false:=decide_eq_false (by omega);have h1:decide ((62:Int)<(n:Int))=false:=decide_eq_false (by omega);refine jB (Ai @h0 @h1) ?_;refine jF ?_;refine ab ?_;refine hK _ _ ?_;clear hK K;refine jA ?_;refine wK fun K hK=>?_;refine jA ?_;refine ah ?_;refine aD (fun E s2=>∃(k m:Nat),m<63∧k+lv m=lv n∧E 3=.v (.int .i64 k)∧E 4=.v (.int .i64 m)∧s2=s)
   (fun E _=>match E 4 with |.v (.int _ i)=>i.toNat|_=>0) ?_ ?_
  ·exact⟨0,n,hn,by omega,rfl,rfl,rfl⟩
  ·rintro E1 s2 ⟨k,m,hm,hk,g3,g4,rfl⟩ -
   refine wK fun K2 aX=>?_;have X4:=Oz m hm;have hr:iG (m:Int) 2=((m%2:Nat):Int):=lH m 2;have hq:kK .i64 (m:Int) 2=((m/2:Nat):Int):=dv m (by omega);by_cases yi:m%2=1
   ·have BM:=X4.1 yi;have hle:=oF n;have hy:((iG (m:Int) 2)==1)=true:=(by rw[hr];exact lN (by omega));refine jB (Ai @g4 @hy) ?_;refine wC fun X Y hX hY=>?_;refine jP (Ai @DB @hy) ?_;refine hX ?_;clear hX hY X Y;refine ab ?_;refine aX _ _ ?_;clear aX K2;refine wK fun K3 br=>?_;refine ah ?_;refine jD @g3 ?_;simp only[ar,az,if_true,if_false];refine br _ _ ?_;clear br K3;refine jD (Ai @g4 (Ai @hq (dZ k (by omega)))) ?_;refine⟨⟨k+1,m/2,by omega,by omega,rfl,rfl,rfl⟩,?_⟩;simp only[g4,aH,↓reduceIte];omega
   ·have BM:=X4.2 (by omega);have hy:((iG (m:Int) 2)==1)=false:=(by rw[hr];exact jv (by omega));refine jB (Ai @g4 @hy) ?_;refine wC fun X Y hX hY=>?_;refine jP (Ai @DB @hy) ?_;refine hY ?_;clear hX hY X Y;refine aC ?_;simp only[az,ar,if_true];refine hK _ _ ?_;clear hK aX K2 K;refine jB @g3 ?_;refine jI ?_;exact jW ⟨by rw[eH hn,show k=lv n by omega],rfl⟩
 ·rw[show qo x=0 from if_neg h];by_cases h0:x<0
  ·refine jB (decide_eq_true h0) ?_;refine jE ?_;refine jA ?_;exact jJ
  ·have h1:(62:Int)<x:=(by omega);refine jB (Ai (decide_eq_false h0) (decide_eq_true h1)) ?_;refine jE ?_;refine jA ?_;exact jJ
theorem cR(x:Int)(hx: -9000000000000000000≤x∧x≤9000000000000000000)(s:AS):aj prog Γ 76 [.v (.int .i64 x)] s
  (fun r s'=>r=(match fX x with |some k=>.eo [.v (.int .i64 k.1),.v (.int .i64 k.2),.v (.bool true)]|none=>.eo [.v (.int .i64 0),.v (.int .i64 0),.v (.bool false)])∧s'=s):=by
 refine aa func76 rfl ntmps76 results76 (by simp) ?_;have hl:=Cj x;have hp:=mE hl;refine jA ?_;refine wK fun K hK=>?_;refine jQ fun K hK=>?_;refine ad (fM x _) ?_;rintro r s1 ⟨rfl,rfl⟩;by_cases h:qo x=0
 ·refine jV (Ox h) hK ?_;clear hK K;refine jE ?_;refine jA ?_;refine jI ?_;rw[show fX x=none from if_pos h];exact jW ⟨rfl,rfl⟩
 ·refine jV (HK h) hK ?_;clear hK K;refine jF ?_;refine ab ?_;refine hK _ _ ?_;clear hK K;refine jA ?_;refine wK fun K hK=>?_;refine jA ?_;refine ah ?_;refine aD (fun E s2=>∃(i:Nat),i<qo x∧E 6=.v (.int .i64 ((i+1:Nat):Int))∧E 5=.v (.int .i64 ((2^i:Nat):Int))∧E 0=.v (.int .i64 x)∧s2=s1)
   (fun E _=>match E 6 with |.v (.int _ i)=>7-i.toNat|_=>0) ?_ ?_
  ·exact⟨0,by omega,rfl,rfl,rfl,rfl⟩
  ·rintro E1 s2 ⟨i,hi,g6,g5,g0,rfl⟩ -
   refine wK fun K2 aX=>?_;refine jS (Ai @g6 @g0) fun K hK=>?_;refine ad (fM x _) ?_;rintro r s3 ⟨rfl,rfl⟩;by_cases aY:i+1<qo x
   ·refine jV (Ai @aq (decide_eq_true aY)) hK ?_;clear hK K;refine jE ?_;refine ab ?_;refine aX _ _ ?_;clear aX K2;refine wK fun K3 br=>?_;refine ah ?_;have FA:=mE (show i≤5 by omega);have hm:gO .i64 ((2^i:Nat):Int) 2=((2^(i+1):Nat):Int):=(by rw[dI (by omega),Nat.pow_succ];omega);refine jD (Ai @g5 @hm) ?_;simp only[ar,az,if_true,if_false];refine br _ _ ?_;clear br K3;refine jD (Ai @g6 (dZ (i+1) (by omega))) ?_;refine⟨⟨i+1,aY,rfl,rfl,g0,rfl⟩,?_⟩;simp only[g6,aH,↓reduceIte];omega
   ·refine jV (Ai @aq (decide_eq_false aY)) hK ?_;clear hK K;refine jF ?_;refine aC ?_;simp only[az,ar,if_true];refine hK _ _ ?_;clear hK aX K2 K;have he:2^i=2^qo x/2:=by
     rw[show qo x=i+1 by omega,Nat.pow_succ];omega
    rw[he] at g5;refine jB (Ai @g5 (Ai @g0 (Ai (bR (a:=x) (b:=((2^qo x/2:Nat):Int)) (by omega)) (eL (a:=x) (b:=((2^qo x/2:Nat):Int)) (by omega))))) ?_;refine jI ?_;rw[show fX x=some (_,_) from if_neg h];exact jW ⟨rfl,rfl⟩
theorem Eg(leaf l:Nat)(hl:Fit l)(hn:leaf<l)(s:AS):aj prog Γ 116 [.v (.int .i64 ((2*leaf:Nat):Int)),.v (.int .i64 l)] s
  (fun r s'=>r=aF (aV (oW leaf l)) .any∧s'=s):=by
 refine aa func116 rfl ntmps116 results116 (by simp) ?_;have Gg:=hl.le;have AF:=fw hl hn;have wx:(oW leaf l).length≤6:=(by simp[oW];omega);have J8:0<(oW leaf l).length:=(by simp[oW]);have iH:=fun(i:Nat)(h:i<(oW leaf l).length)=>I5 hl hn h;have mh:xb leaf l 0=(0,2*l-2):=rfl;have gC:∀j,xb leaf l (j+1)=(if 2*leaf<((xb leaf l j).1+(xb leaf l j).2)/2 then((xb leaf l j).1,((xb leaf l j).1+(xb leaf l j).2)/2-1) else(((xb leaf l j).1+(xb leaf l j).2)/2+1,(xb leaf l j).2)):=fun j=>rfl;generalize oW leaf l=P at *
 generalize xb leaf l=S at *
 refine jA ?_;refine jA ?_;have e0:di .i64 (gO .i64 2 (l:Int)) 2=((2*l-2:Nat):Int):=(by rw[bE l (by omega),bR (by omega)];omega);refine jB @e0 ?_;refine ah ?_;refine aD (fun E s2=>∃(i:Nat)(x:AV),i<P.length∧E 6=.v (.int .i64 ((S i).1:Nat))∧E 7=.v (.int .i64 ((S i).2:Nat))∧E 0=.v (.int .i64 ((2*leaf:Nat):Int))∧E 5=x∧cP 1 s s2 x i ((aV (P.take i)).map aI)∧s.le s2)
  (fun E _=>P.length+1-lO (E 5)) ?_ ?_
 ·refine⟨0,_,J8,?_,?_,rfl,rfl,cP.nil _ _ _,AS.le.refl _⟩
  ·rw[mh];simp only[aH,Nc,↓reduceIte];rfl
  ·rw[mh];simp only[aH,Nc,↓reduceIte]
 ·rintro E1 s2 ⟨i,x,hi,g6,g7,g0,g5,hx,hle⟩ -
  refine ah ?_;obtain⟨w1,w2,w3⟩:=iH i hi;obtain⟨oX,Lc⟩:∃m,m=((S i).1+(S i).2)/2:=⟨_,rfl⟩;have rL:=gC i;rw[←Lc] at w1 w2 rL;have e1:kK .i64 (ec .i64 (((S i).1:Nat):Int) (((S i).2:Nat):Int)) 2=(oX:Int):=by
   rw[eL (by omega),show(((S i).1:Nat):Int)+(((S i).2:Nat):Int)=(((S i).1+(S i).2:Nat):Int) by omega,dv _ (by omega),Lc]
  refine jB (Ai @g6 (Ai @g7 @e1)) ?_;have dM:aV (P.take (i+1))=aV (P.take i)++[(oX:Int)]:=by
   unfold aV;rw[List.take_succ_eq_append_getElem hi,List.map_append];rw[List.getElem?_eq_getElem hi] at w1;rw[Option.some.inj w1];rfl
  refine wK fun K3 br=>?_;have bG:∀(E:Env)(s3:AS)(x3:AV),E 0=.v (.int .i64 ((2*leaf:Nat):Int))→E 6=.v (.int .i64 ((S i).1:Nat))→E 7=.v (.int .i64 ((S i).2:Nat))→E 8=.v (.int .i64 oX)→E 5=x3→cP 1 s s3 x3 (i+1) ((aV (P.take (i+1))).map aI)→s.le s3→K3 E s3:=by
   intro E s3 x3 f0 f6 f7 f8 f5 fx yh;refine br _ _ ?_;clear br K3;refine wK fun K4 eb=>?_;by_cases he:2*leaf=oX
   ·have Nx:=w2.2 he;refine jB (Ai @f0 @f8) ?_;refine wC fun X Y hX hY=>?_;refine jP (Ai @DB (lN (show((2*leaf:Nat):Int)=(oX:Int) by omega))) ?_;refine hX ?_;clear hX hY X Y;rw[Nx,List.take_of_length_le (Nat.le_refl _)] at fx;have hw:=fx.aB;refine jB @f5 ?_;refine jI ?_;refine⟨_,_,?_,yh,rfl,rfl⟩;have Bg:=bz P;unfold aF;rw[Bg];exact hw
   ·have Nx:i+1<P.length:=by
     have:=mt w2.1 he;omega
    refine jB (Ai @f0 @f8) ?_;refine wC fun X Y hX hY=>?_;refine jP (Ai @DB (jv (show ¬((2*leaf:Nat):Int)=(oX:Int) by omega))) ?_;refine hY ?_;clear hX hY X Y;refine ab ?_;refine eb _ _ ?_;clear eb K4;have m1:lO (E1 5)=i:=by
     rw[g5];rcases hx with⟨rfl,rfl,_⟩|⟨t,e,rfl,_⟩<;>rfl
    have m2:lO (E 5)=i+1:=by
     rw[f5];rcases fx with⟨rfl,h,_⟩|⟨t,e,rfl,_⟩
     ·omega
     ·rfl
    by_cases bJ:2*leaf<oX
    ·rw[if_pos bJ] at rL;have e2:di .i64 (oX:Int) 1=((oX-1:Nat):Int):=(by rw[bR (by omega)];omega);refine jB (Ai @f0 @f8) ?_;refine wC fun X Y hX hY=>?_;refine jP (Ai @DB (Ai (eq_true (show((2*leaf:Nat):Int)<(oX:Int) by omega)) @not_true_eq_false)) ?_;refine hX ?_;clear hX hY X Y;refine jD (Ai @f8 @e2) ?_;refine⟨⟨i+1,x3,Nx,?_,?_,f0,f5,fx,yh⟩,?_⟩
     ·rw[rL];simp only[aH,f6,Nc,↓reduceIte]
     ·rw[rL];simp only[aH,Nc,↓reduceIte]
     ·simp only[aH,Nc,↓reduceIte,m1,m2];omega
    ·rw[if_neg bJ] at rL;refine jB (Ai @f0 @f8) ?_;refine wC fun X Y hX hY=>?_;refine jP (Ai @DB (Ai (eq_false (show ¬((2*leaf:Nat):Int)<(oX:Int) by omega)) @not_false_eq_true)) ?_;refine hY ?_;clear hX hY X Y;refine jD (Ai @f8 (dZ oX (by omega))) ?_;refine⟨⟨i+1,x3,Nx,?_,?_,f0,f5,fx,yh⟩,?_⟩
     ·rw[rL];simp only[aH,Nc,↓reduceIte]
     ·rw[rL];simp only[aH,f7,Nc,↓reduceIte]
     ·simp only[aH,Nc,↓reduceIte,m1,m2];omega
  clear br;rcases hx with⟨rfl,fg,rK⟩|⟨t,e,rfl,ht,iJ⟩
  ·refine wE fun K hK=>?_;simp only[↓DN,Qa,Qb,Qc,Qd,Qe,Qf,Qg,Qh,reduceCtorEq,↓reduceIte,Na,Nb,Nc,Nk,Nf,Ng,Nh,Za,Zb,Zc,TT,g5,bL,List.replicate_succ];intro t ht;refine hK _ _ (bG _ _ (.sl 1 1 [.v (.int .i64 (oX:Int))] (.own t 0)) g0 g6 g7 rfl rfl ?_ ?_)
   ·refine .inr ⟨t,0,?_,by simp[AS.bw],aZ hle ht⟩;rw[dM,List.map_append,rK];subst fg;rfl
   ·exact AS.bj hle (aZ hle ht) 0
  ·refine wE fun K hK=>?_;simp only[↓DN,Qa,Qb,Qc,Qd,Qe,Qf,Qg,Qh,reduceCtorEq,↓reduceIte,Na,Nb,Nc,Nk,Nf,Ng,Nh,Za,Zb,Zc,TT,g5,ht,List.replicate_succ];have Bg:(aV (P.take i)).length=i:=(by rw[bz,List.length_take];omega);refine⟨by omega,by omega,hK _ _ (bG _ _ (.sl 1 (i+1) ((aV (P.take i)).map aI++[.v (.int .i64 (oX:Int))]) (.own t (e+1))) g0 g6 g7 rfl rfl ?_ ?_)⟩
   ·exact .inr ⟨t,e+1,by rw[dM,List.map_append];rfl,by simp[AS.bw],iJ⟩
   ·exact AS.bj hle iJ (e+1)
theorem OC{leaf l i:Nat}(h:i<(aA leaf l).length):(aV (oW leaf l))[(aA leaf l).length-1-i]? =some ((((aA leaf l)[i]'h:Nat)):Int):=by
 unfold aV oW;rw[List.getElem?_map,List.getElem?_append_left (by simp;omega),List.getElem?_reverse (by omega)];rw[show(aA leaf l).length-1-((aA leaf l).length-1-i)=i by omega,List.getElem?_eq_getElem h];rfl
theorem kv(leaf l:Nat)(hl:Fit l)(hn:leaf<l)(s:AS):aj prog Γ 54 [.v (.int .i64 leaf),.v (.int .i64 l)] s
  (fun r s'=>r=aF (aV (aA leaf l)) .any∧s'=s):=by
 refine aa func54 rfl ntmps54 results54 (by simp) ?_;have Gg:=hl.le;have AF:=fw hl hn;have hg:=fun(i:Nat)(h:i<(aA leaf l).length)=>OC h;have HM:(aV (oW leaf l)).length=(aA leaf l).length+1:=(by rw[bz];simp[oW]);have Su:=fun s=>Eg (Γ:=Γ) leaf l hl hn s;generalize aV (oW leaf l)=W at *
 generalize aA leaf l=P at *
 have hf:decide (rI (l:Int))=true:=decide_eq_true (nj.2 hl);have h1:decide ((l:Int)≤(leaf:Int))=false:=decide_eq_false (by omega);refine jA ?_;refine wK fun K hK=>?_;refine jQ fun K hK=>?_;refine ad (oH l _) ?_;rintro r s1 ⟨rfl,rfl⟩;rw[hf];refine jV (Ai @X3 @h1) hK ?_;clear hK K;refine jF ?_;refine ab ?_;refine hK _ _ ?_;clear hK K;refine jS (bE leaf (by omega)) fun K hK=>?_;refine ad (Su _) ?_;rintro r s2 ⟨rfl,rfl⟩;refine jR hK ?_;clear hK K;refine jA ?_;refine wK fun K hK=>?_;have e0:di .i64 (W.length:Int) 2=((P.length:Nat):Int)-1:=(by rw[bR (by omega)];omega);refine jB (Ai @aF.eq_1 @e0) ?_;refine ah ?_;refine aD (fun E s3=>∃(i:Nat)(x:AV),i≤P.length∧E 7=.v (.int .i64 (((P.length:Nat):Int)-1-(i:Int)))∧E 5=.sl 1 W.length (W.map aI) .any∧E 6=x∧cP 1 s2 s3 x i ((aV (P.take i)).map aI)∧s2.le s3)
  (fun E _=>P.length+1-lO (E 6)) ?_ ?_
 ·refine⟨0,_,Nat.zero_le _,?_,rfl,rfl,cP.nil _ _ _,AS.le.refl _⟩;simp only[aH,Nc,↓reduceIte];congr 2;omega
 ·rintro E1 s3 ⟨i,x,hi,g7,g5,g6,hx,hle⟩ -
  refine wK fun K2 aX=>?_;by_cases aY:i<P.length
  ·have cl:decide ((0:Int)≤(((P.length:Nat):Int)-1-(i:Int)))=true:=decide_eq_true (by omega);refine jB (Ai @g7 @cl) ?_;refine jE ?_;refine ab ?_;refine aX _ _ ?_;clear aX K2;refine wK fun K3 br=>?_;refine ah ?_;have dM:aV (P.take (i+1))=aV (P.take i)++[((P[i]:Nat):Int)]:=(by unfold aV;rw[List.take_succ_eq_append_getElem aY,List.map_append];rfl);have bG:∀(E:Env)(s4:AS)(x3:AV),E 7=.v (.int .i64 (((P.length:Nat):Int)-1-(i:Int)))→E 5=.sl 1 W.length (W.map aI) .any→E 6=x3→cP 1 s2 s4 x3 (i+1) ((aV (P.take (i+1))).map aI)→s2.le s4→K3 E s4:=by
    intro E s4 x3 f7 f5 f6 fx yh;refine br _ _ ?_;clear br K3;refine jD @f7 ?_;refine⟨⟨i+1,x3,aY,?_,f5,f6,fx,yh⟩,?_⟩
    ·simp only[aH,Nc,↓reduceIte];rw[bR (by omega)];congr 2;omega
    ·have m1:lO (E1 6)=i:=by
      rw[g6];rcases hx with⟨rfl,rfl,_⟩|⟨t,e,rfl,_⟩<;>rfl
     have m2:lO (E 6)=i+1:=by
      rw[f6];rcases fx with⟨rfl,h,_⟩|⟨t,e,rfl,_⟩
      ·omega
      ·rfl
     simp only[aH,Nc,↓reduceIte,m1,m2];omega
   clear br;have X5:=hg i aY;obtain⟨j,hj⟩:∃j,j=P.length-1-i:=⟨_,rfl⟩;have DA:((P.length:Nat):Int)-1-(i:Int)=(j:Int):=(by omega);have hjW:j<W.length:=(by omega);rw[←hj] at X5;have cx:List.take 1 (List.drop j (W.map aI))=[.v (.int .i64 ((P[i]:Nat):Int))]:=by
    rw[ea hjW];rw[List.getElem?_eq_getElem hjW] at X5;rw[Option.some.inj X5]
   have cl:(0:Int)≤(j:Int):=(by omega);rw[DA] at g7 bG;rcases hx with⟨rfl,fg,rK⟩|⟨t,e,rfl,ht,iJ⟩
   ·refine wE fun K hK=>?_;simp only[↓DN,Qa,Qb,Qc,Qd,Qe,Qf,Qg,Qh,reduceCtorEq,↓reduceIte,Na,Nb,Nc,Nk,Nf,Ng,Nh,Za,Zb,Zc,TT,g5,g6,g7,bL,List.replicate_succ,aq,hjW,cl,cx];intro t ht;refine hK _ _ (bG _ _ (.sl 1 1 [.v (.int .i64 ((P[i]:Nat):Int))] (.own t 0)) g7 g5 rfl ?_ ?_)
    ·refine .inr ⟨t,0,?_,by simp[AS.bw],aZ hle ht⟩;rw[dM,List.map_append,rK];subst fg;rfl
    ·exact AS.bj hle (aZ hle ht) 0
   ·refine wE fun K hK=>?_;simp only[↓DN,Qa,Qb,Qc,Qd,Qe,Qf,Qg,Qh,reduceCtorEq,↓reduceIte,Na,Nb,Nc,Nk,Nf,Ng,Nh,Za,Zb,Zc,TT,g5,g6,g7,ht,List.replicate_succ,aq,hjW,cl,cx];have Bg:(aV (P.take i)).length=i:=(by rw[bz,List.length_take];omega);refine⟨by omega,by omega,hK _ _ (bG _ _ (.sl 1 (i+1) ((aV (P.take i)).map aI++[.v (.int .i64 ((P[i]:Nat):Int))]) (.own t (e+1))) g7 g5 rfl ?_ ?_)⟩
    ·exact .inr ⟨t,e+1,by rw[dM,List.map_append];rfl,by simp[AS.bw],iJ⟩
    ·exact AS.bj hle iJ (e+1)
  ·have cl:decide ((0:Int)≤(((P.length:Nat):Int)-1-(i:Int)))=false:=decide_eq_false (by omega);refine jB (Ai @g7 @cl) ?_;refine jF ?_;refine aC ?_;simp only[az,ar,if_true];refine hK _ _ ?_;clear hK aX K2 K;obtain rfl:i=P.length:=(by omega);rw[List.take_of_length_le (Nat.le_refl _)] at hx;have hw:=hx.aB;refine jB @g6 ?_;refine jI ?_;refine⟨_,_,?_,hle,rfl,rfl⟩;have Bg:=bz P;unfold aF;rw[Bg];exact hw
theorem nn(x:Int)(s:AS):aj prog Γ 65 [.v (.int .i64 x)] s (fun r s'=>r=.eo [.v (.int .i64 (ju x).1),.v (.int .i64 (ju x).2)]∧s'=s):=by
 refine aa func65 rfl ntmps65 results65 (by simp) ?_;refine jA ?_;refine wK fun K hK=>?_;by_cases h:0≤x∧x<63
 ·obtain⟨n,rfl⟩:=Int.eq_ofNat_of_zero_le h.1;have hn:n<63:=(by omega);have h1:decide ((62:Int)<(n:Int))=false:=decide_eq_false (by omega);have Gi:ju (n:Int)=((lo n:Int),(hi n:Int)):=if_pos h;refine jB (Ai @X3 @h1) ?_;refine jF ?_;refine ab ?_;refine hK _ _ ?_;clear hK K;refine jA ?_;refine wK fun K hK=>?_;refine ah ?_;refine aD (fun E s2=>∃(m:Nat),m<63∧lo m=lo n∧E 4=.v (.int .i64 m)∧E 5=.v (.int .i64 n)∧s2=s)
   (fun E _=>match E 4 with |.v (.int _ i)=>qo i|_=>0) ?_ ?_
  ·exact⟨n,hn,rfl,rfl,rfl,rfl⟩
  ·rintro E1 s2 ⟨m,hm,BP,g4,g5,rfl⟩ -
   refine wK fun K2 aX=>?_;refine jS @g4 fun K hK=>?_;refine ad (fM m _) ?_;rintro r s3 ⟨rfl,rfl⟩;rw[eH hm];by_cases hz:lv m=0
   ·refine jR hK ?_;clear hK K;refine wC fun X Y hX hY=>?_;refine jP (Ai @DB (Ai (eq_false (show ¬(0:Int)<((lv m:Nat):Int) by omega)) @not_false_eq_true)) ?_;refine hY ?_;clear hX hY X Y;refine aC ?_;simp only[az,ar,if_true];refine hK _ _ ?_;clear hK aX K2 K;have hL:=(HL m hm hz).1;refine wK fun K hK=>?_;refine ah ?_;refine aD (fun E s4=>∃(m':Nat),m'<63∧hi m'=hi n∧E 5=.v (.int .i64 m')∧E 4=.v (.int .i64 m)∧s4=s3)
     (fun E _=>match E 5 with |.v (.int _ i)=>qo i|_=>0) ?_ ?_
    ·exact⟨n,hn,rfl,g5,g4,rfl⟩
    ·clear g4 g5;rintro E2 s4 ⟨m',Hs,C9,g5,g4,rfl⟩ -
     refine wK fun K2 aX=>?_;refine jS @g5 fun K hK=>?_;refine ad (fM m' _) ?_;rintro r s5 ⟨rfl,rfl⟩;rw[eH Hs];by_cases hz':lv m'=0
     ·refine jR hK ?_;clear hK K;refine wC fun X Y hX hY=>?_;refine jP (Ai @DB (Ai (eq_false (show ¬(0:Int)<((lv m':Nat):Int) by omega)) @not_false_eq_true)) ?_;refine hY ?_;clear hX hY X Y;refine aC ?_;simp only[az,ar,if_true];refine hK _ _ ?_;clear hK aX K2 K;have hH:=(HL m' Hs hz').2;refine jB (Ai @g4 (Ai @g5 (Ai (dv m (by omega)) (dv m' (by omega))))) ?_;refine jI ?_;rw[←hL,←hH,BP,C9,Gi];exact jW ⟨rfl,rfl⟩
     ·obtain⟨w1,w2,w3⟩:=OB m' Hs hz';refine jR hK ?_;clear hK K;refine wC fun X Y hX hY=>?_;refine jP (Ai @DB (Ai (eq_true (show(0:Int)<((lv m':Nat):Int) by omega)) @not_true_eq_false)) ?_;refine hX ?_;clear hX hY X Y;refine ab ?_;refine aX _ _ ?_;clear aX K2;refine ah ?_;have I6:fX (m':Int)=some (((m':Int)-(hf m':Int)),((m'+hf m':Nat):Int)):=by
       unfold fX;rw[eH Hs,if_neg hz'];unfold hf;congr 2
      refine jU @g5 fun K hK=>?_;refine ad (cR m' (by omega) _) ?_;rintro r s6 ⟨rfl,rfl⟩;rw[I6];refine jM ?_;refine hK _ _ ⟨⟨m'+hf m',w3,by rw[w1,C9],rfl,g4,rfl⟩,?_⟩;simp only[g5,aH,↓reduceIte];rw[eH Hs,eH w3];omega
   ·obtain⟨w1,w2,w3,w4⟩:=OA m hm hz;refine jR hK ?_;clear hK K;refine wC fun X Y hX hY=>?_;refine jP (Ai @DB (Ai (eq_true (show(0:Int)<((lv m:Nat):Int) by omega)) @not_true_eq_false)) ?_;refine hX ?_;clear hX hY X Y;refine ab ?_;refine aX _ _ ?_;clear aX K2;refine ah ?_;have I6:fX (m:Int)=some (((m-hf m:Nat):Int),((m:Int)+(hf m:Int))):=by
     unfold fX;rw[eH hm,if_neg hz];unfold hf at w4⊢;congr 2;omega
    refine jU @g4 fun K hK=>?_;refine ad (cR m (by omega) _) ?_;rintro r s6 ⟨rfl,rfl⟩;rw[I6];refine jM ?_;refine hK _ _ ⟨⟨m-hf m,w3,by rw[w1,BP],rfl,g5,rfl⟩,?_⟩;simp only[g4,aH,↓reduceIte];rw[eH hm,eH w3];omega
 ·have Gi:ju x=(0,-1):=if_neg h;by_cases h0:x<0
  ·refine jB (decide_eq_true h0) ?_;refine jE ?_;refine jA ?_;refine jI ?_;rw[Gi];exact jW ⟨rfl,rfl⟩
  ·have h1:(62:Int)<x:=(by omega);refine jB (Ai (decide_eq_false h0) (decide_eq_true h1)) ?_;refine jE ?_;refine jA ?_;refine jI ?_;rw[Gi];exact jW ⟨rfl,rfl⟩
theorem ti{k:Int}(h1: -4611686018427387904≤k)(h2:k≤4611686018427387904):di .i64 k 1=k-1:=IntWalk.i64_in _ (by omega)
theorem Ck(n:Nat)(cs:List AV)(s:AS):
  aj prog Γ 112 [.sl 1 n cs .any] s (fun r s'=>r=.qx 160 [.dr [.sl 1 n cs .any]]∧s'=s):=by
 refine aa func112 rfl ntmps112 results112 (by simp) ?_;refine aU 1 (by decide) ?_;intro K hK;refine jM ?_;intro o1 h1;refine hK _ _ o1 _ rfl h1 ?_;clear hK K;refine jA ?_;exact jJ
theorem yj(n:Nat)(cs:List AV)(s:AS):
  aj prog Γ 110 [.sl 1 n cs .any] s (fun r s'=>r=.qx 157 [.dr [.sl 1 n cs .any]]∧s'=s):=by
 refine aa func110 rfl ntmps110 results110 (by simp) ?_;refine aU 1 (by decide) ?_;intro K hK;refine jM ?_;intro o1 h1;refine hK _ _ o1 _ rfl h1 ?_;clear hK K;refine jA ?_;exact jJ
theorem Cl(cs:List AV)(n:Nat)(hl:cs.length=n)(hn:n≤2^40):
  vG prog Γ 160 [.dr [.sl 1 n cs .any]] (cs.map fun c=>[c]):=by
 refine D9 func160 rfl ntmps160 results160 (by simp) ?_;intro I l s G h0 hy;refine eG (cp.y ?_);refine jC ?_;refine qn ?_;refine D8 (fun E s'=>∃i:Nat,i≤n∧E 0=.v (.func (.yield l) #[] #[])∧E 5=.sl 1 n cs .any∧E 6=.v (.int .i64 n)∧E 7=.v (.int .i64 i)∧I i s')
  (fun E _=>match E 7 with |.v (.int _ i)=>n-i.toNat|_=>0) ?_ ?_
 ·exact⟨0,Nat.zero_le _,rfl,rfl,rfl,rfl,h0⟩
 rintro E s' ⟨i,hi,e0,e5,e6,e7,hI⟩ -
 by_cases aY:i<n
 ·have bJ:((i:Nat):Int)<((n:Nat):Int):=(by omega);have h0i:(0:Int)≤((i:Nat):Int):=(by omega);obtain⟨c,hc⟩:∃c,cs[i]? =some c:=⟨cs[i]'(by omega),by simp[hl,aY]⟩;have fb:(List.take 1 (List.drop i cs))[0]? =some c:=(by simp[List.getElem?_take,hc]);refine eG (cp.y ?_);refine jD (Ai @e6 (Ai @e7 (decide_eq_true bJ))) ?_;refine eG (cp.y (qH (by simp only[aO,aH,↓reduceIte]) (ab ?_)));refine eG (qn ?_);refine eG (cp.y ?_);refine jD (Ai @e5 (Ai @e7 (Ai @bJ (Ai @h0i @fb)))) ?_;refine F8 (l:=l) (xs:=[_]) rfl rfl (by decide) ?_;intro K hK ops;refine jN @e0 ?_;refine⟨_,hy i [c] _ (by simp[hc]) hI,?_⟩;intro s2 ng;refine hK _ _ ?_;clear hK K;refine cp.y (fm (by simp only[aO,aH,↓reduceIte]) (ab ?_));simp only[ar,az];refine cp.y ?_;refine jD (Ai @e7 (bp i (by omega))) ?_;refine⟨⟨i+1,by omega,e0,e5,e6,rfl,ng⟩,?_⟩;simp only[aH,e7,↓reduceIte,Int.toNat_natCast];omega
 ·have bJ:¬((i:Nat):Int)<((n:Nat):Int):=(by omega);obtain rfl:i=n:=(by omega);refine eG (cp.y ?_);refine jD (Ai @e6 (Ai @e7 (decide_eq_false bJ))) ?_;refine eG (cp.y (fm (by simp only[aO,aH,↓reduceIte]) (aC ?_)));simp only[ar,az,↓reduceIte];exact⟨by simp,by simpa[hl] using hI⟩
theorem yk(l0:List Int)(n:Nat)(hl:l0.length=n)(hn:n≤2^40):
  vG prog Γ 157 [.dr [.sl 1 n (l0.map aI) .any]] ((List.range n).map fun i=>[aI ((n-1-i:Nat):Int),aI (l0.getD (n-1-i) 0)]):=by
 refine D9 func157 rfl ntmps157 results157 (by simp) ?_;intro I l s G h0 hy;refine eG (cp.y ?_);refine jC ?_;refine qn ?_;refine D8 (fun E s'=>∃i:Nat,i≤n∧E 0=.v (.func (.yield l) #[] #[])∧E 1=.dr [.sl 1 n (l0.map aI) .any]∧E 3=.v (.int .i64 ((n:Int)-1-i))∧I i s')
  (fun E _=>match E 3 with |.v (.int _ i)=>(i+1).toNat|_=>0) ?_ ?_
 ·refine⟨0,Nat.zero_le _,rfl,rfl,?_,h0⟩;simp only[aH,↓reduceIte,Nc];rw[ti (by omega) (by omega)];simp
 rintro E s' ⟨i,hi,e0,e1,e3,hI⟩ -
 by_cases aY:i<n
 ·have cl:(n:Int)-1-i≥0:=(by omega);have X6:(0:Int)≤(n:Int)-1-i:=(by omega);have bJ:(n:Int)-1-i<(n:Int):=(by omega);obtain⟨k,hk⟩:∃k:Nat,(n:Int)-1-i=(k:Int):=⟨n-1-i,by omega⟩;have Q1:n-1-i=k:=(by omega);rw[hk] at e3 cl X6 bJ;have fb:(List.take 1 (List.drop k (l0.map aI)))[0]? =some (aI (l0.getD k 0)):=by
   have tj:k<l0.length:=(by omega);simp[List.getElem?_take,List.getD,tj]
  refine eG (eG (cp.y ?_));refine jD (Ai @e3 (decide_eq_true cl)) ?_;refine cp.y (qH (by simp only[aO,aH,↓reduceIte]) (ab ?_));simp only[az];refine eG (qn ?_);refine F9 (l:=l) (xs:=[_,_]) rfl rfl (by decide) ?_;intro K hK ops;refine jN (Ai @e0 (Ai @e1 (Ai @e3 (Ai @X6 (Ai @bJ @fb))))) ?_;refine⟨_,hy i [aI (k:Int),aI (l0.getD k 0)] _ (by simp[aY,Q1]) hI,?_⟩;intro s2 ng;refine hK _ _ ?_;clear hK K;refine cp.y (fm (by simp only[aO,aH,↓reduceIte]) (ab ?_));simp only[ar,az];refine cp.y ?_;refine jD (Ai @e3 (ti (k:=(k:Int)) (by omega) (by omega))) ?_;refine⟨⟨i+1,by omega,e0,e1,?_,ng⟩,?_⟩
  ·simp only[aH,↓reduceIte,Nc];rw[show((k:Nat):Int)-1=(n:Int)-1-((i+1:Nat):Int) by omega]
  ·simp only[aH,e3,↓reduceIte,Nc];omega
 ·obtain rfl:i=n:=(by omega);have cl:¬(((i:Nat):Int)-1-i≥0):=(by omega);refine eG (eG (cp.y ?_));refine jD (Ai @e3 (decide_eq_false cl)) ?_;refine cp.y (fm (by simp only[aO,aH,↓reduceIte]) (aC ?_));simp only[ar,az,↓reduceIte];exact⟨by simp,by simpa using hI⟩
end Go.Proofs.YtbiefppedlodiaaGreatDoor
namespace Go.AM
open Go Go.RowKit Go.Shelf Go.Proofs
variable{P:Program}{Γ:Nat→List AV}{G:Gh}{s:AS}{w:World}{N:Nat}
def Gj(i:Int):Value:=.int .i64 i
theorem au.ints{G:Gh}(l:List Int):au G (l.map aI) (l.map Gj):=by
  induction l with
  |nil=>simp[au]
  |cons i l ih=>simp only[List.map_cons,au];exact⟨Gj i,_,rfl,by simp[aI,Gj,av],ih⟩
theorem au.HN{G:Gh}:∀{l:List Int}{vs:List Value},au G (l.map aI) vs→vs=l.map Gj
  |[],vs,h=>by simpa[au] using h
  |i::l,vs,h=>by
    simp only[List.map_cons,au] at h;obtain⟨u,us,rfl,h1,h2⟩:=h;rw[au.HN h2];simp only[aI,av] at h1;rw[h1];rfl
end Go.AM
