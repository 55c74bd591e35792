/- Closed facts of the loaded program: sizes, types, fields and functions; no condition. -/
import Derived.Test.YtpakgjmcaefnmaaDoorProg
import Derived.Test.YtpakgjmcaefnmaaDoorAMp4
set_option linter.unusedSimpArgs false
set_option linter.unusedVariables false
set_option autoImplicit false
namespace Go.Proofs.YtpakgjmcaefnmaaDoor
open Go Go.AM Go.Proofs
theorem T.c2 : Tryd.prog.cellsOf 2 = 1 := by kernel_rfl
theorem T.b2 : Tryd.prog.bytesOf 2 = 8 := by kernel_rfl
theorem T.g2 : isAggT Tryd.prog 2 = some false := by kernel_rfl
theorem T.z2 : zcells Tryd.prog 2 = some [.v (.int .i64 0)] := by kernel_rfl
theorem T.c3 : Tryd.prog.cellsOf 3 = 1 := by kernel_rfl
theorem T.b3 : Tryd.prog.bytesOf 3 = 8 := by kernel_rfl
theorem T.g3 : isAggT Tryd.prog 3 = some false := by kernel_rfl
theorem T.z3 : zcells Tryd.prog 3 = some [.v (.int .i64 0)] := by kernel_rfl
theorem T.c4 : Tryd.prog.cellsOf 4 = 1 := by kernel_rfl
theorem T.b4 : Tryd.prog.bytesOf 4 = 1 := by kernel_rfl
theorem T.g4 : isAggT Tryd.prog 4 = some false := by kernel_rfl
theorem T.z4 : zcells Tryd.prog 4 = some [.v (.bool false)] := by kernel_rfl
theorem T.c5 : Tryd.prog.cellsOf 5 = 1 := by kernel_rfl
theorem T.b5 : Tryd.prog.bytesOf 5 = 1 := by kernel_rfl
theorem T.g5 : isAggT Tryd.prog 5 = some false := by kernel_rfl
theorem T.z5 : zcells Tryd.prog 5 = some [.v (.int .u8 0)] := by kernel_rfl
theorem T.c6 : Tryd.prog.cellsOf 6 = 1 := by kernel_rfl
theorem T.g6 : isAggT Tryd.prog 6 = some false := by kernel_rfl
theorem T.g7 : isAggT Tryd.prog 7 = some true := by kernel_rfl
theorem T.h7 : fieldsOk Tryd.prog 7 = true := by kernel_rfl
theorem T.c8 : Tryd.prog.cellsOf 8 = 4 := by kernel_rfl
theorem T.g8 : isAggT Tryd.prog 8 = some true := by kernel_rfl
theorem T.h8 : fieldsOk Tryd.prog 8 = true := by kernel_rfl
theorem T.c9 : Tryd.prog.cellsOf 9 = 1 := by kernel_rfl
theorem T.b9 : Tryd.prog.bytesOf 9 = 16 := by kernel_rfl
theorem T.g9 : isAggT Tryd.prog 9 = some false := by kernel_rfl
theorem T.z9 : zcells Tryd.prog 9 = some [.v (.string ByteArray.empty)] := by kernel_rfl
theorem T.g10 : isAggT Tryd.prog 10 = some false := by kernel_rfl
theorem T.g11 : isAggT Tryd.prog 11 = some false := by kernel_rfl
theorem T.g12 : isAggT Tryd.prog 12 = some false := by kernel_rfl
theorem T.g13 : isAggT Tryd.prog 13 = some true := by kernel_rfl
theorem T.h13 : fieldsOk Tryd.prog 13 = true := by kernel_rfl
theorem T.p17 : isPtrT Tryd.prog 17 = true := by kernel_rfl
theorem T.g21 : isAggT Tryd.prog 21 = some false := by kernel_rfl
theorem T.c22 : Tryd.prog.cellsOf 22 = 1 := by kernel_rfl
theorem T.b22 : Tryd.prog.bytesOf 22 = 24 := by kernel_rfl
theorem T.g22 : isAggT Tryd.prog 22 = some false := by kernel_rfl
theorem T.z22 : zcells Tryd.prog 22 = some [.v (.slice none 0 0)] := by kernel_rfl
theorem T.s22 : isSliceT Tryd.prog 22 = true := by kernel_rfl
theorem T.c52 : Tryd.prog.cellsOf 52 = 6 := by kernel_rfl
theorem T.b52 : Tryd.prog.bytesOf 52 = 144 := by kernel_rfl
theorem T.g52 : isAggT Tryd.prog 52 = some true := by kernel_rfl
theorem T.h52 : fieldsOk Tryd.prog 52 = true := by kernel_rfl
theorem T.f52_0 : fieldOf Tryd.prog 52 0 = some (0, 22) := by kernel_rfl
theorem T.f52_1 : fieldOf Tryd.prog 52 1 = some (1, 22) := by kernel_rfl
theorem T.f52_2 : fieldOf Tryd.prog 52 2 = some (2, 22) := by kernel_rfl
theorem T.f52_3 : fieldOf Tryd.prog 52 3 = some (3, 22) := by kernel_rfl
theorem T.f52_4 : fieldOf Tryd.prog 52 4 = some (4, 22) := by kernel_rfl
theorem T.f52_5 : fieldOf Tryd.prog 52 5 = some (5, 22) := by kernel_rfl
theorem T.z52 : zcells Tryd.prog 52 = some [.v (.slice none 0 0), .v (.slice none 0 0), .v (.slice none 0 0), .v (.slice none 0 0), .v (.slice none 0 0), .v (.slice none 0 0)] := by kernel_rfl
theorem T.h54 : fieldsOk Tryd.prog 54 = true := by kernel_rfl
theorem T.c57 : Tryd.prog.cellsOf 57 = 6 := by kernel_rfl
theorem T.b57 : Tryd.prog.bytesOf 57 = 144 := by kernel_rfl
theorem T.g57 : isAggT Tryd.prog 57 = some true := by kernel_rfl
theorem T.z57 : zcells Tryd.prog 57 = some [.v (.slice none 0 0), .v (.slice none 0 0), .v (.slice none 0 0), .v (.slice none 0 0), .v (.slice none 0 0), .v (.slice none 0 0)] := by kernel_rfl
theorem T.c63 : Tryd.prog.cellsOf 63 = 1 := by kernel_rfl
theorem T.b63 : Tryd.prog.bytesOf 63 = 8 := by kernel_rfl
theorem T.g63 : isAggT Tryd.prog 63 = some false := by kernel_rfl
theorem T.z63 : zcells Tryd.prog 63 = some [.v (.int .u64 0)] := by kernel_rfl
theorem T.h65 : fieldsOk Tryd.prog 65 = true := by kernel_rfl
theorem T.c98 : Tryd.prog.cellsOf 98 = 1 := by kernel_rfl
theorem T.b98 : Tryd.prog.bytesOf 98 = 24 := by kernel_rfl
theorem T.g98 : isAggT Tryd.prog 98 = some false := by kernel_rfl
theorem T.z98 : zcells Tryd.prog 98 = some [.v (.slice none 0 0)] := by kernel_rfl
theorem T.s98 : isSliceT Tryd.prog 98 = true := by kernel_rfl
theorem T.c99 : Tryd.prog.cellsOf 99 = 1 := by kernel_rfl
theorem T.b99 : Tryd.prog.bytesOf 99 = 4 := by kernel_rfl
theorem T.g99 : isAggT Tryd.prog 99 = some false := by kernel_rfl
theorem T.z99 : zcells Tryd.prog 99 = some [.v (.int .u32 0)] := by kernel_rfl
theorem T.c100 : Tryd.prog.cellsOf 100 = 8 := by kernel_rfl
theorem T.b100 : Tryd.prog.bytesOf 100 = 32 := by kernel_rfl
theorem T.g100 : isAggT Tryd.prog 100 = some true := by kernel_rfl
theorem T.z100 : zcells Tryd.prog 100 = some [.v (.int .u32 0), .v (.int .u32 0), .v (.int .u32 0), .v (.int .u32 0), .v (.int .u32 0), .v (.int .u32 0), .v (.int .u32 0), .v (.int .u32 0)] := by kernel_rfl
theorem T.c106 : Tryd.prog.cellsOf 106 = 1 := by kernel_rfl
theorem T.b106 : Tryd.prog.bytesOf 106 = 8 := by kernel_rfl
theorem T.g106 : isAggT Tryd.prog 106 = some false := by kernel_rfl
theorem T.z106 : zcells Tryd.prog 106 = some [.v (.int .u64 0)] := by kernel_rfl
theorem T.c111 : Tryd.prog.cellsOf 111 = 64 := by kernel_rfl
theorem T.b111 : Tryd.prog.bytesOf 111 = 64 := by kernel_rfl
theorem T.g111 : isAggT Tryd.prog 111 = some true := by kernel_rfl
theorem T.z111 : zcells Tryd.prog 111 = some [.v (.int .u8 0), .v (.int .u8 0), .v (.int .u8 0), .v (.int .u8 0), .v (.int .u8 0), .v (.int .u8 0), .v (.int .u8 0), .v (.int .u8 0), .v (.int .u8 0), .v (.int .u8 0), .v (.int .u8 0), .v (.int .u8 0), .v (.int .u8 0), .v (.int .u8 0), .v (.int .u8 0), .v (.int .u8 0), .v (.int .u8 0), .v (.int .u8 0), .v (.int .u8 0), .v (.int .u8 0), .v (.int .u8 0), .v (.int .u8 0), .v (.int .u8 0), .v (.int .u8 0), .v (.int .u8 0), .v (.int .u8 0), .v (.int .u8 0), .v (.int .u8 0), .v (.int .u8 0), .v (.int .u8 0), .v (.int .u8 0), .v (.int .u8 0), .v (.int .u8 0), .v (.int .u8 0), .v (.int .u8 0), .v (.int .u8 0), .v (.int .u8 0), .v (.int .u8 0), .v (.int .u8 0), .v (.int .u8 0), .v (.int .u8 0), .v (.int .u8 0), .v (.int .u8 0), .v (.int .u8 0), .v (.int .u8 0), .v (.int .u8 0), .v (.int .u8 0), .v (.int .u8 0), .v (.int .u8 0), .v (.int .u8 0), .v (.int .u8 0), .v (.int .u8 0), .v (.int .u8 0), .v (.int .u8 0), .v (.int .u8 0), .v (.int .u8 0), .v (.int .u8 0), .v (.int .u8 0), .v (.int .u8 0), .v (.int .u8 0), .v (.int .u8 0), .v (.int .u8 0), .v (.int .u8 0), .v (.int .u8 0)] := by kernel_rfl
theorem T.c114 : Tryd.prog.cellsOf 114 = 1 := by kernel_rfl
theorem T.b114 : Tryd.prog.bytesOf 114 = 8 := by kernel_rfl
theorem T.g114 : isAggT Tryd.prog 114 = some false := by kernel_rfl
theorem T.z114 : zcells Tryd.prog 114 = some [.v (.pointer none)] := by kernel_rfl
theorem T.p114 : isPtrT Tryd.prog 114 = true := by kernel_rfl
theorem T.c138 : Tryd.prog.cellsOf 138 = 64 := by kernel_rfl
theorem T.b138 : Tryd.prog.bytesOf 138 = 256 := by kernel_rfl
theorem T.g138 : isAggT Tryd.prog 138 = some true := by kernel_rfl
theorem T.z138 : zcells Tryd.prog 138 = some [.v (.int .u32 0), .v (.int .u32 0), .v (.int .u32 0), .v (.int .u32 0), .v (.int .u32 0), .v (.int .u32 0), .v (.int .u32 0), .v (.int .u32 0), .v (.int .u32 0), .v (.int .u32 0), .v (.int .u32 0), .v (.int .u32 0), .v (.int .u32 0), .v (.int .u32 0), .v (.int .u32 0), .v (.int .u32 0), .v (.int .u32 0), .v (.int .u32 0), .v (.int .u32 0), .v (.int .u32 0), .v (.int .u32 0), .v (.int .u32 0), .v (.int .u32 0), .v (.int .u32 0), .v (.int .u32 0), .v (.int .u32 0), .v (.int .u32 0), .v (.int .u32 0), .v (.int .u32 0), .v (.int .u32 0), .v (.int .u32 0), .v (.int .u32 0), .v (.int .u32 0), .v (.int .u32 0), .v (.int .u32 0), .v (.int .u32 0), .v (.int .u32 0), .v (.int .u32 0), .v (.int .u32 0), .v (.int .u32 0), .v (.int .u32 0), .v (.int .u32 0), .v (.int .u32 0), .v (.int .u32 0), .v (.int .u32 0), .v (.int .u32 0), .v (.int .u32 0), .v (.int .u32 0), .v (.int .u32 0), .v (.int .u32 0), .v (.int .u32 0), .v (.int .u32 0), .v (.int .u32 0), .v (.int .u32 0), .v (.int .u32 0), .v (.int .u32 0), .v (.int .u32 0), .v (.int .u32 0), .v (.int .u32 0), .v (.int .u32 0), .v (.int .u32 0), .v (.int .u32 0), .v (.int .u32 0), .v (.int .u32 0)] := by kernel_rfl
theorem T.c142 : Tryd.prog.cellsOf 142 = 2 := by kernel_rfl
theorem T.b142 : Tryd.prog.bytesOf 142 = 32 := by kernel_rfl
theorem T.g142 : isAggT Tryd.prog 142 = some true := by kernel_rfl
theorem T.h142 : fieldsOk Tryd.prog 142 = true := by kernel_rfl
theorem T.f142_0 : fieldOf Tryd.prog 142 0 = some (0, 22) := by kernel_rfl
theorem T.f142_1 : fieldOf Tryd.prog 142 1 = some (1, 4) := by kernel_rfl
theorem T.z142 : zcells Tryd.prog 142 = some [.v (.slice none 0 0), .v (.bool false)] := by kernel_rfl
theorem T.k3 : callable Tryd.prog 3 = true := by kernel_rfl
theorem T.k4 : callable Tryd.prog 4 = true := by kernel_rfl
theorem T.k5 : callable Tryd.prog 5 = true := by kernel_rfl
theorem T.k6 : callable Tryd.prog 6 = true := by kernel_rfl
theorem T.k23 : callable Tryd.prog 23 = true := by kernel_rfl
theorem T.k27 : callable Tryd.prog 27 = true := by kernel_rfl
theorem T.k28 : callable Tryd.prog 28 = true := by kernel_rfl
theorem T.k30 : callable Tryd.prog 30 = true := by kernel_rfl
theorem T.k31 : callable Tryd.prog 31 = true := by kernel_rfl
theorem T.k32 : callable Tryd.prog 32 = true := by kernel_rfl
theorem T.k34 : callable Tryd.prog 34 = true := by kernel_rfl
theorem T.k37 : callable Tryd.prog 37 = true := by kernel_rfl
theorem T.k39 : callable Tryd.prog 39 = true := by kernel_rfl
theorem T.k40 : callable Tryd.prog 40 = true := by kernel_rfl
theorem T.k43 : callable Tryd.prog 43 = true := by kernel_rfl
theorem T.k45 : callable Tryd.prog 45 = true := by kernel_rfl
theorem T.k81 : callable Tryd.prog 81 = true := by kernel_rfl
theorem T.k82 : callable Tryd.prog 82 = true := by kernel_rfl
theorem T.k83 : callable Tryd.prog 83 = true := by kernel_rfl
theorem T.k84 : callable Tryd.prog 84 = true := by kernel_rfl
theorem T.k88 : callable Tryd.prog 88 = true := by kernel_rfl
theorem T.k90 : callable Tryd.prog 90 = true := by kernel_rfl
theorem T.k91 : callable Tryd.prog 91 = true := by kernel_rfl
theorem T.k92 : callable Tryd.prog 92 = true := by kernel_rfl
theorem T.k93 : callable Tryd.prog 93 = true := by kernel_rfl
theorem T.k94 : callable Tryd.prog 94 = true := by kernel_rfl
theorem T.k97 : callable Tryd.prog 97 = true := by kernel_rfl
theorem T.k98 : callable Tryd.prog 98 = true := by kernel_rfl
theorem T.k99 : callable Tryd.prog 99 = true := by kernel_rfl
theorem T.k125 : callable Tryd.prog 125 = true := by kernel_rfl
theorem T.k126 : callable Tryd.prog 126 = true := by kernel_rfl
theorem T.k127 : callable Tryd.prog 127 = true := by kernel_rfl
theorem T.k128 : callable Tryd.prog 128 = true := by kernel_rfl
theorem T.k129 : callable Tryd.prog 129 = true := by kernel_rfl
theorem T.k130 : callable Tryd.prog 130 = true := by kernel_rfl
theorem T.k135 : callable Tryd.prog 135 = true := by kernel_rfl
theorem T.k152 : callable Tryd.prog 152 = true := by kernel_rfl
theorem T.k153 : callable Tryd.prog 153 = true := by kernel_rfl
theorem T.k154 : callable Tryd.prog 154 = true := by kernel_rfl
theorem T.mixed : Tryd.prog.follows .mixedOrders = true := by kernel_rfl
end Go.Proofs.YtpakgjmcaefnmaaDoor


