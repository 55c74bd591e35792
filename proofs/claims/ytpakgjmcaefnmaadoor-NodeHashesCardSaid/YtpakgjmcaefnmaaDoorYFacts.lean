/- Closed facts of the loaded program: sizes, types, fields and functions; no condition. -/
import Derived.Test.YtpakgjmcaefnmaaDoorProg
import Derived.Test.YtpakgjmcaefnmaaDoorAMp4
set_option linter.unusedSimpArgs false
set_option linter.unusedVariables false
set_option autoImplicit false
namespace Go.Proofs.YtpakgjmcaefnmaaDoor
open Go Go.AM Go.Proofs
theorem T.c2 : Tryd.prog.cellsOf 2 = 1 := by kernel_rfl
theorem T.b2 : Tryd.prog.bytesOf 2 = 8 := by kernel_rfl
theorem T.g2 : isAggT Tryd.prog 2 = some false := by kernel_rfl
theorem T.z2 : zcells Tryd.prog 2 = some [.v (.int .i64 0)] := by kernel_rfl
theorem T.c3 : Tryd.prog.cellsOf 3 = 1 := by kernel_rfl
theorem T.b3 : Tryd.prog.bytesOf 3 = 8 := by kernel_rfl
theorem T.g3 : isAggT Tryd.prog 3 = some false := by kernel_rfl
theorem T.z3 : zcells Tryd.prog 3 = some [.v (.int .i64 0)] := by kernel_rfl
theorem T.c4 : Tryd.prog.cellsOf 4 = 1 := by kernel_rfl
theorem T.b4 : Tryd.prog.bytesOf 4 = 1 := by kernel_rfl
theorem T.g4 : isAggT Tryd.prog 4 = some false := by kernel_rfl
theorem T.z4 : zcells Tryd.prog 4 = some [.v (.bool false)] := by kernel_rfl
theorem T.c5 : Tryd.prog.cellsOf 5 = 1 := by kernel_rfl
theorem T.b5 : Tryd.prog.bytesOf 5 = 1 := by kernel_rfl
theorem T.g5 : isAggT Tryd.prog 5 = some false := by kernel_rfl
theorem T.z5 : zcells Tryd.prog 5 = some [.v (.int .u8 0)] := by kernel_rfl
theorem T.c6 : Tryd.prog.cellsOf 6 = 1 := by kernel_rfl
theorem T.g6 : isAggT Tryd.prog 6 = some false := by kernel_rfl
theorem T.z6 : zcells Tryd.prog 6 = some [.v (.int .u8 0)] := by kernel_rfl
theorem T.g7 : isAggT Tryd.prog 7 = some true := by kernel_rfl
theorem T.h7 : fieldsOk Tryd.prog 7 = true := by kernel_rfl
theorem T.c8 : Tryd.prog.cellsOf 8 = 4 := by kernel_rfl
theorem T.g8 : isAggT Tryd.prog 8 = some true := by kernel_rfl
theorem T.h8 : fieldsOk Tryd.prog 8 = true := by kernel_rfl
theorem T.c9 : Tryd.prog.cellsOf 9 = 1 := by kernel_rfl
theorem T.b9 : Tryd.prog.bytesOf 9 = 16 := by kernel_rfl
theorem T.g9 : isAggT Tryd.prog 9 = some false := by kernel_rfl
theorem T.z9 : zcells Tryd.prog 9 = some [.v (.string ByteArray.empty)] := by kernel_rfl
theorem T.g10 : isAggT Tryd.prog 10 = some false := by kernel_rfl
theorem T.g11 : isAggT Tryd.prog 11 = some false := by kernel_rfl
theorem T.g12 : isAggT Tryd.prog 12 = some false := by kernel_rfl
theorem T.g13 : isAggT Tryd.prog 13 = some true := by kernel_rfl
theorem T.h13 : fieldsOk Tryd.prog 13 = true := by kernel_rfl
theorem T.g14 : isAggT Tryd.prog 14 = some true := by kernel_rfl
theorem T.g17 : isAggT Tryd.prog 17 = some false := by kernel_rfl
theorem T.p17 : isPtrT Tryd.prog 17 = true := by kernel_rfl
theorem T.g19 : isAggT Tryd.prog 19 = some true := by kernel_rfl
theorem T.g21 : isAggT Tryd.prog 21 = some false := by kernel_rfl
theorem T.c22 : Tryd.prog.cellsOf 22 = 1 := by kernel_rfl
theorem T.b22 : Tryd.prog.bytesOf 22 = 24 := by kernel_rfl
theorem T.g22 : isAggT Tryd.prog 22 = some false := by kernel_rfl
theorem T.z22 : zcells Tryd.prog 22 = some [.v (.slice none 0 0)] := by kernel_rfl
theorem T.s22 : isSliceT Tryd.prog 22 = true := by kernel_rfl
theorem T.g41 : isAggT Tryd.prog 41 = some true := by kernel_rfl
theorem T.h52 : fieldsOk Tryd.prog 52 = true := by kernel_rfl
theorem T.h54 : fieldsOk Tryd.prog 54 = true := by kernel_rfl
theorem T.c60 : Tryd.prog.cellsOf 60 = 2 := by kernel_rfl
theorem T.b60 : Tryd.prog.bytesOf 60 = 48 := by kernel_rfl
theorem T.g60 : isAggT Tryd.prog 60 = some true := by kernel_rfl
theorem T.z60 : zcells Tryd.prog 60 = some [.v (.slice none 0 0), .v (.slice none 0 0)] := by kernel_rfl
theorem T.c63 : Tryd.prog.cellsOf 63 = 1 := by kernel_rfl
theorem T.b63 : Tryd.prog.bytesOf 63 = 8 := by kernel_rfl
theorem T.g63 : isAggT Tryd.prog 63 = some false := by kernel_rfl
theorem T.z63 : zcells Tryd.prog 63 = some [.v (.int .u64 0)] := by kernel_rfl
theorem T.c64 : Tryd.prog.cellsOf 64 = 1 := by kernel_rfl
theorem T.b64 : Tryd.prog.bytesOf 64 = 24 := by kernel_rfl
theorem T.g64 : isAggT Tryd.prog 64 = some false := by kernel_rfl
theorem T.z64 : zcells Tryd.prog 64 = some [.v (.slice none 0 0)] := by kernel_rfl
theorem T.s64 : isSliceT Tryd.prog 64 = true := by kernel_rfl
theorem T.c66 : Tryd.prog.cellsOf 66 = 5 := by kernel_rfl
theorem T.b66 : Tryd.prog.bytesOf 66 = 88 := by kernel_rfl
theorem T.g66 : isAggT Tryd.prog 66 = some true := by kernel_rfl
theorem T.h66 : fieldsOk Tryd.prog 66 = true := by kernel_rfl
theorem T.f66_0 : fieldOf Tryd.prog 66 0 = some (0, 3) := by kernel_rfl
theorem T.f66_1 : fieldOf Tryd.prog 66 1 = some (1, 22) := by kernel_rfl
theorem T.f66_2 : fieldOf Tryd.prog 66 2 = some (2, 63) := by kernel_rfl
theorem T.f66_3 : fieldOf Tryd.prog 66 3 = some (3, 22) := by kernel_rfl
theorem T.f66_4 : fieldOf Tryd.prog 66 4 = some (4, 64) := by kernel_rfl
theorem T.z66 : zcells Tryd.prog 66 = some [.v (.int .i64 0), .v (.slice none 0 0), .v (.int .u64 0), .v (.slice none 0 0), .v (.slice none 0 0)] := by kernel_rfl
theorem T.c98 : Tryd.prog.cellsOf 98 = 1 := by kernel_rfl
theorem T.b98 : Tryd.prog.bytesOf 98 = 24 := by kernel_rfl
theorem T.g98 : isAggT Tryd.prog 98 = some false := by kernel_rfl
theorem T.z98 : zcells Tryd.prog 98 = some [.v (.slice none 0 0)] := by kernel_rfl
theorem T.s98 : isSliceT Tryd.prog 98 = true := by kernel_rfl
theorem T.c99 : Tryd.prog.cellsOf 99 = 1 := by kernel_rfl
theorem T.b99 : Tryd.prog.bytesOf 99 = 4 := by kernel_rfl
theorem T.g99 : isAggT Tryd.prog 99 = some false := by kernel_rfl
theorem T.z99 : zcells Tryd.prog 99 = some [.v (.int .u32 0)] := by kernel_rfl
theorem T.c100 : Tryd.prog.cellsOf 100 = 8 := by kernel_rfl
theorem T.b100 : Tryd.prog.bytesOf 100 = 32 := by kernel_rfl
theorem T.g100 : isAggT Tryd.prog 100 = some true := by kernel_rfl
theorem T.z100 : zcells Tryd.prog 100 = some [.v (.int .u32 0), .v (.int .u32 0), .v (.int .u32 0), .v (.int .u32 0), .v (.int .u32 0), .v (.int .u32 0), .v (.int .u32 0), .v (.int .u32 0)] := by kernel_rfl
theorem T.c106 : Tryd.prog.cellsOf 106 = 1 := by kernel_rfl
theorem T.b106 : Tryd.prog.bytesOf 106 = 8 := by kernel_rfl
theorem T.g106 : isAggT Tryd.prog 106 = some false := by kernel_rfl
theorem T.z106 : zcells Tryd.prog 106 = some [.v (.int .u64 0)] := by kernel_rfl
theorem T.c107 : Tryd.prog.cellsOf 107 = 1 := by kernel_rfl
theorem T.b107 : Tryd.prog.bytesOf 107 = 24 := by kernel_rfl
theorem T.g107 : isAggT Tryd.prog 107 = some false := by kernel_rfl
theorem T.z107 : zcells Tryd.prog 107 = some [.v (.slice none 0 0)] := by kernel_rfl
theorem T.s107 : isSliceT Tryd.prog 107 = true := by kernel_rfl
theorem T.c114 : Tryd.prog.cellsOf 114 = 1 := by kernel_rfl
theorem T.b114 : Tryd.prog.bytesOf 114 = 8 := by kernel_rfl
theorem T.g114 : isAggT Tryd.prog 114 = some false := by kernel_rfl
theorem T.z114 : zcells Tryd.prog 114 = some [.v (.pointer none)] := by kernel_rfl
theorem T.p114 : isPtrT Tryd.prog 114 = true := by kernel_rfl
theorem T.c138 : Tryd.prog.cellsOf 138 = 64 := by kernel_rfl
theorem T.b138 : Tryd.prog.bytesOf 138 = 256 := by kernel_rfl
theorem T.g138 : isAggT Tryd.prog 138 = some true := by kernel_rfl
theorem T.z138 : zcells Tryd.prog 138 = some [.v (.int .u32 0), .v (.int .u32 0), .v (.int .u32 0), .v (.int .u32 0), .v (.int .u32 0), .v (.int .u32 0), .v (.int .u32 0), .v (.int .u32 0), .v (.int .u32 0), .v (.int .u32 0), .v (.int .u32 0), .v (.int .u32 0), .v (.int .u32 0), .v (.int .u32 0), .v (.int .u32 0), .v (.int .u32 0), .v (.int .u32 0), .v (.int .u32 0), .v (.int .u32 0), .v (.int .u32 0), .v (.int .u32 0), .v (.int .u32 0), .v (.int .u32 0), .v (.int .u32 0), .v (.int .u32 0), .v (.int .u32 0), .v (.int .u32 0), .v (.int .u32 0), .v (.int .u32 0), .v (.int .u32 0), .v (.int .u32 0), .v (.int .u32 0), .v (.int .u32 0), .v (.int .u32 0), .v (.int .u32 0), .v (.int .u32 0), .v (.int .u32 0), .v (.int .u32 0), .v (.int .u32 0), .v (.int .u32 0), .v (.int .u32 0), .v (.int .u32 0), .v (.int .u32 0), .v (.int .u32 0), .v (.int .u32 0), .v (.int .u32 0), .v (.int .u32 0), .v (.int .u32 0), .v (.int .u32 0), .v (.int .u32 0), .v (.int .u32 0), .v (.int .u32 0), .v (.int .u32 0), .v (.int .u32 0), .v (.int .u32 0), .v (.int .u32 0), .v (.int .u32 0), .v (.int .u32 0), .v (.int .u32 0), .v (.int .u32 0), .v (.int .u32 0), .v (.int .u32 0), .v (.int .u32 0), .v (.int .u32 0)] := by kernel_rfl
theorem T.c142 : Tryd.prog.cellsOf 142 = 2 := by kernel_rfl
theorem T.b142 : Tryd.prog.bytesOf 142 = 32 := by kernel_rfl
theorem T.g142 : isAggT Tryd.prog 142 = some true := by kernel_rfl
theorem T.h142 : fieldsOk Tryd.prog 142 = true := by kernel_rfl
theorem T.f142_0 : fieldOf Tryd.prog 142 0 = some (0, 22) := by kernel_rfl
theorem T.f142_1 : fieldOf Tryd.prog 142 1 = some (1, 4) := by kernel_rfl
theorem T.z142 : zcells Tryd.prog 142 = some [.v (.slice none 0 0), .v (.bool false)] := by kernel_rfl
theorem T.k3 : callable Tryd.prog 3 = true := by kernel_rfl
theorem T.k4 : callable Tryd.prog 4 = true := by kernel_rfl
theorem T.k5 : callable Tryd.prog 5 = true := by kernel_rfl
theorem T.k6 : callable Tryd.prog 6 = true := by kernel_rfl
theorem T.k23 : callable Tryd.prog 23 = true := by kernel_rfl
theorem T.k24 : callable Tryd.prog 24 = true := by kernel_rfl
theorem T.k28 : callable Tryd.prog 28 = true := by kernel_rfl
theorem T.k30 : callable Tryd.prog 30 = true := by kernel_rfl
theorem T.k48 : callable Tryd.prog 48 = true := by kernel_rfl
theorem T.k49 : callable Tryd.prog 49 = true := by kernel_rfl
theorem T.k50 : callable Tryd.prog 50 = true := by kernel_rfl
theorem T.k51 : callable Tryd.prog 51 = true := by kernel_rfl
theorem T.k52 : callable Tryd.prog 52 = true := by kernel_rfl
theorem T.k53 : callable Tryd.prog 53 = true := by kernel_rfl
theorem T.k54 : callable Tryd.prog 54 = true := by kernel_rfl
theorem T.k55 : callable Tryd.prog 55 = true := by kernel_rfl
theorem T.k56 : callable Tryd.prog 56 = true := by kernel_rfl
theorem T.k68 : callable Tryd.prog 68 = true := by kernel_rfl
theorem T.k69 : callable Tryd.prog 69 = true := by kernel_rfl
theorem T.k81 : callable Tryd.prog 81 = true := by kernel_rfl
theorem T.k82 : callable Tryd.prog 82 = true := by kernel_rfl
theorem T.k83 : callable Tryd.prog 83 = true := by kernel_rfl
theorem T.k84 : callable Tryd.prog 84 = true := by kernel_rfl
theorem T.k85 : callable Tryd.prog 85 = true := by kernel_rfl
theorem T.k86 : callable Tryd.prog 86 = true := by kernel_rfl
theorem T.k87 : callable Tryd.prog 87 = true := by kernel_rfl
theorem T.k90 : callable Tryd.prog 90 = true := by kernel_rfl
theorem T.k92 : callable Tryd.prog 92 = true := by kernel_rfl
theorem T.k94 : callable Tryd.prog 94 = true := by kernel_rfl
theorem T.k95 : callable Tryd.prog 95 = true := by kernel_rfl
theorem T.k96 : callable Tryd.prog 96 = true := by kernel_rfl
theorem T.k99 : callable Tryd.prog 99 = true := by kernel_rfl
theorem T.k100 : callable Tryd.prog 100 = true := by kernel_rfl
theorem T.k101 : callable Tryd.prog 101 = true := by kernel_rfl
theorem T.k102 : callable Tryd.prog 102 = true := by kernel_rfl
theorem T.k103 : callable Tryd.prog 103 = true := by kernel_rfl
theorem T.k104 : callable Tryd.prog 104 = true := by kernel_rfl
theorem T.k105 : callable Tryd.prog 105 = true := by kernel_rfl
theorem T.k106 : callable Tryd.prog 106 = true := by kernel_rfl
theorem T.k107 : callable Tryd.prog 107 = true := by kernel_rfl
theorem T.k108 : callable Tryd.prog 108 = true := by kernel_rfl
theorem T.k109 : callable Tryd.prog 109 = true := by kernel_rfl
theorem T.k110 : callable Tryd.prog 110 = true := by kernel_rfl
theorem T.k125 : callable Tryd.prog 125 = true := by kernel_rfl
theorem T.k126 : callable Tryd.prog 126 = true := by kernel_rfl
theorem T.k127 : callable Tryd.prog 127 = true := by kernel_rfl
theorem T.k128 : callable Tryd.prog 128 = true := by kernel_rfl
theorem T.k129 : callable Tryd.prog 129 = true := by kernel_rfl
theorem T.k130 : callable Tryd.prog 130 = true := by kernel_rfl
theorem T.k131 : callable Tryd.prog 131 = true := by kernel_rfl
theorem T.k132 : callable Tryd.prog 132 = true := by kernel_rfl
theorem T.k133 : callable Tryd.prog 133 = true := by kernel_rfl
theorem T.k134 : callable Tryd.prog 134 = true := by kernel_rfl
theorem T.k135 : callable Tryd.prog 135 = true := by kernel_rfl
theorem T.k136 : callable Tryd.prog 136 = true := by kernel_rfl
theorem T.k152 : callable Tryd.prog 152 = true := by kernel_rfl
theorem T.k153 : callable Tryd.prog 153 = true := by kernel_rfl
theorem T.k154 : callable Tryd.prog 154 = true := by kernel_rfl
theorem T.k155 : callable Tryd.prog 155 = true := by kernel_rfl
theorem T.mixed : Tryd.prog.follows .mixedOrders = true := by kernel_rfl
end Go.Proofs.YtpakgjmcaefnmaaDoor


