/- Closed facts of the loaded program: sizes, types, fields and functions; no condition. -/
import Derived.Test.YtpakgjmcaefnmaaDoorProg
import Derived.Test.YtpakgjmcaefnmaaDoorAMp4
set_option linter.unusedSimpArgs false
set_option linter.unusedVariables false
set_option autoImplicit false
namespace Go.Proofs.YtpakgjmcaefnmaaDoor
open Go Go.AM Go.Proofs
theorem T.c2 : Tryd.prog.cellsOf 2 = 1 := by kernel_rfl
theorem T.b2 : Tryd.prog.bytesOf 2 = 8 := by kernel_rfl
theorem T.g2 : isAggT Tryd.prog 2 = some false := by kernel_rfl
theorem T.z2 : zcells Tryd.prog 2 = some [.v (.int .i64 0)] := by kernel_rfl
theorem T.c3 : Tryd.prog.cellsOf 3 = 1 := by kernel_rfl
theorem T.b3 : Tryd.prog.bytesOf 3 = 8 := by kernel_rfl
theorem T.g3 : isAggT Tryd.prog 3 = some false := by kernel_rfl
theorem T.z3 : zcells Tryd.prog 3 = some [.v (.int .i64 0)] := by kernel_rfl
theorem T.c4 : Tryd.prog.cellsOf 4 = 1 := by kernel_rfl
theorem T.b4 : Tryd.prog.bytesOf 4 = 1 := by kernel_rfl
theorem T.g4 : isAggT Tryd.prog 4 = some false := by kernel_rfl
theorem T.z4 : zcells Tryd.prog 4 = some [.v (.bool false)] := by kernel_rfl
theorem T.c5 : Tryd.prog.cellsOf 5 = 1 := by kernel_rfl
theorem T.b5 : Tryd.prog.bytesOf 5 = 1 := by kernel_rfl
theorem T.g5 : isAggT Tryd.prog 5 = some false := by kernel_rfl
theorem T.z5 : zcells Tryd.prog 5 = some [.v (.int .u8 0)] := by kernel_rfl
theorem T.c6 : Tryd.prog.cellsOf 6 = 1 := by kernel_rfl
theorem T.b6 : Tryd.prog.bytesOf 6 = 1 := by kernel_rfl
theorem T.g6 : isAggT Tryd.prog 6 = some false := by kernel_rfl
theorem T.z6 : zcells Tryd.prog 6 = some [.v (.int .u8 0)] := by kernel_rfl
theorem T.c7 : Tryd.prog.cellsOf 7 = 4 := by kernel_rfl
theorem T.b7 : Tryd.prog.bytesOf 7 = 24 := by kernel_rfl
theorem T.g7 : isAggT Tryd.prog 7 = some true := by kernel_rfl
theorem T.h7 : fieldsOk Tryd.prog 7 = true := by kernel_rfl
theorem T.f7_0 : fieldOf Tryd.prog 7 0 = some (0, 2) := by kernel_rfl
theorem T.f7_1 : fieldOf Tryd.prog 7 1 = some (1, 3) := by kernel_rfl
theorem T.f7_2 : fieldOf Tryd.prog 7 2 = some (2, 4) := by kernel_rfl
theorem T.f7_3 : fieldOf Tryd.prog 7 3 = some (3, 6) := by kernel_rfl
theorem T.z7 : zcells Tryd.prog 7 = some [.v (.int .i64 0), .v (.int .i64 0), .v (.bool false), .v (.int .u8 0)] := by kernel_rfl
theorem T.c8 : Tryd.prog.cellsOf 8 = 4 := by kernel_rfl
theorem T.b8 : Tryd.prog.bytesOf 8 = 24 := by kernel_rfl
theorem T.g8 : isAggT Tryd.prog 8 = some true := by kernel_rfl
theorem T.h8 : fieldsOk Tryd.prog 8 = true := by kernel_rfl
theorem T.f8_0 : fieldOf Tryd.prog 8 0 = some (0, 2) := by kernel_rfl
theorem T.f8_1 : fieldOf Tryd.prog 8 1 = some (1, 3) := by kernel_rfl
theorem T.f8_2 : fieldOf Tryd.prog 8 2 = some (2, 4) := by kernel_rfl
theorem T.f8_3 : fieldOf Tryd.prog 8 3 = some (3, 6) := by kernel_rfl
theorem T.z8 : zcells Tryd.prog 8 = some [.v (.int .i64 0), .v (.int .i64 0), .v (.bool false), .v (.int .u8 0)] := by kernel_rfl
theorem T.c9 : Tryd.prog.cellsOf 9 = 1 := by kernel_rfl
theorem T.b9 : Tryd.prog.bytesOf 9 = 16 := by kernel_rfl
theorem T.g9 : isAggT Tryd.prog 9 = some false := by kernel_rfl
theorem T.z9 : zcells Tryd.prog 9 = some [.v (.string ByteArray.empty)] := by kernel_rfl
theorem T.c10 : Tryd.prog.cellsOf 10 = 1 := by kernel_rfl
theorem T.b10 : Tryd.prog.bytesOf 10 = 16 := by kernel_rfl
theorem T.g10 : isAggT Tryd.prog 10 = some false := by kernel_rfl
theorem T.z10 : zcells Tryd.prog 10 = some [.v (.string ByteArray.empty)] := by kernel_rfl
theorem T.c11 : Tryd.prog.cellsOf 11 = 1 := by kernel_rfl
theorem T.b11 : Tryd.prog.bytesOf 11 = 16 := by kernel_rfl
theorem T.g11 : isAggT Tryd.prog 11 = some false := by kernel_rfl
theorem T.z11 : zcells Tryd.prog 11 = some [.v (.string ByteArray.empty)] := by kernel_rfl
theorem T.c12 : Tryd.prog.cellsOf 12 = 1 := by kernel_rfl
theorem T.b12 : Tryd.prog.bytesOf 12 = 8 := by kernel_rfl
theorem T.g12 : isAggT Tryd.prog 12 = some false := by kernel_rfl
theorem T.z12 : zcells Tryd.prog 12 = some [.v (.int .u64 0)] := by kernel_rfl
theorem T.c13 : Tryd.prog.cellsOf 13 = 2 := by kernel_rfl
theorem T.b13 : Tryd.prog.bytesOf 13 = 24 := by kernel_rfl
theorem T.g13 : isAggT Tryd.prog 13 = some true := by kernel_rfl
theorem T.h13 : fieldsOk Tryd.prog 13 = true := by kernel_rfl
theorem T.f13_0 : fieldOf Tryd.prog 13 0 = some (0, 9) := by kernel_rfl
theorem T.f13_1 : fieldOf Tryd.prog 13 1 = some (1, 12) := by kernel_rfl
theorem T.z13 : zcells Tryd.prog 13 = some [.v (.string ByteArray.empty), .v (.int .u64 0)] := by kernel_rfl
theorem T.c14 : Tryd.prog.cellsOf 14 = 2 := by kernel_rfl
theorem T.b14 : Tryd.prog.bytesOf 14 = 24 := by kernel_rfl
theorem T.g14 : isAggT Tryd.prog 14 = some true := by kernel_rfl
theorem T.h14 : fieldsOk Tryd.prog 14 = true := by kernel_rfl
theorem T.f14_0 : fieldOf Tryd.prog 14 0 = some (0, 9) := by kernel_rfl
theorem T.f14_1 : fieldOf Tryd.prog 14 1 = some (1, 12) := by kernel_rfl
theorem T.z14 : zcells Tryd.prog 14 = some [.v (.string ByteArray.empty), .v (.int .u64 0)] := by kernel_rfl
theorem T.c15 : Tryd.prog.cellsOf 15 = 1 := by kernel_rfl
theorem T.b15 : Tryd.prog.bytesOf 15 = 8 := by kernel_rfl
theorem T.g15 : isAggT Tryd.prog 15 = some false := by kernel_rfl
theorem T.z15 : zcells Tryd.prog 15 = some [.v (.pointer none)] := by kernel_rfl
theorem T.p15 : isPtrT Tryd.prog 15 = true := by kernel_rfl
theorem T.c16 : Tryd.prog.cellsOf 16 = 1 := by kernel_rfl
theorem T.b16 : Tryd.prog.bytesOf 16 = 8 := by kernel_rfl
theorem T.g16 : isAggT Tryd.prog 16 = some false := by kernel_rfl
theorem T.z16 : zcells Tryd.prog 16 = some [.v (.pointer none)] := by kernel_rfl
theorem T.p16 : isPtrT Tryd.prog 16 = true := by kernel_rfl
theorem T.c17 : Tryd.prog.cellsOf 17 = 1 := by kernel_rfl
theorem T.b17 : Tryd.prog.bytesOf 17 = 8 := by kernel_rfl
theorem T.g17 : isAggT Tryd.prog 17 = some false := by kernel_rfl
theorem T.z17 : zcells Tryd.prog 17 = some [.v (.pointer none)] := by kernel_rfl
theorem T.p17 : isPtrT Tryd.prog 17 = true := by kernel_rfl
theorem T.c18 : Tryd.prog.cellsOf 18 = 1 := by kernel_rfl
theorem T.b18 : Tryd.prog.bytesOf 18 = 8 := by kernel_rfl
theorem T.g18 : isAggT Tryd.prog 18 = some true := by kernel_rfl
theorem T.h18 : fieldsOk Tryd.prog 18 = true := by kernel_rfl
theorem T.f18_0 : fieldOf Tryd.prog 18 0 = some (0, 17) := by kernel_rfl
theorem T.z18 : zcells Tryd.prog 18 = some [.v (.pointer none)] := by kernel_rfl
theorem T.c19 : Tryd.prog.cellsOf 19 = 1 := by kernel_rfl
theorem T.b19 : Tryd.prog.bytesOf 19 = 8 := by kernel_rfl
theorem T.g19 : isAggT Tryd.prog 19 = some true := by kernel_rfl
theorem T.h19 : fieldsOk Tryd.prog 19 = true := by kernel_rfl
theorem T.f19_0 : fieldOf Tryd.prog 19 0 = some (0, 17) := by kernel_rfl
theorem T.z19 : zcells Tryd.prog 19 = some [.v (.pointer none)] := by kernel_rfl
theorem T.c20 : Tryd.prog.cellsOf 20 = 1 := by kernel_rfl
theorem T.b20 : Tryd.prog.bytesOf 20 = 16 := by kernel_rfl
theorem T.g20 : isAggT Tryd.prog 20 = some false := by kernel_rfl
theorem T.z20 : zcells Tryd.prog 20 = some [.v (.nilIface)] := by kernel_rfl
theorem T.c21 : Tryd.prog.cellsOf 21 = 1 := by kernel_rfl
theorem T.b21 : Tryd.prog.bytesOf 21 = 4 := by kernel_rfl
theorem T.g21 : isAggT Tryd.prog 21 = some false := by kernel_rfl
theorem T.z21 : zcells Tryd.prog 21 = some [.v (.int .i32 0)] := by kernel_rfl
theorem T.c22 : Tryd.prog.cellsOf 22 = 1 := by kernel_rfl
theorem T.b22 : Tryd.prog.bytesOf 22 = 24 := by kernel_rfl
theorem T.g22 : isAggT Tryd.prog 22 = some false := by kernel_rfl
theorem T.z22 : zcells Tryd.prog 22 = some [.v (.slice none 0 0)] := by kernel_rfl
theorem T.s22 : isSliceT Tryd.prog 22 = true := by kernel_rfl
theorem T.c29 : Tryd.prog.cellsOf 29 = 1 := by kernel_rfl
theorem T.b29 : Tryd.prog.bytesOf 29 = 2 := by kernel_rfl
theorem T.g29 : isAggT Tryd.prog 29 = some false := by kernel_rfl
theorem T.z29 : zcells Tryd.prog 29 = some [.v (.int .u16 0)] := by kernel_rfl
theorem T.c41 : Tryd.prog.cellsOf 41 = 2 := by kernel_rfl
theorem T.b41 : Tryd.prog.bytesOf 41 = 2 := by kernel_rfl
theorem T.g41 : isAggT Tryd.prog 41 = some true := by kernel_rfl
theorem T.z41 : zcells Tryd.prog 41 = some [.v (.int .u8 0), .v (.int .u8 0)] := by kernel_rfl
theorem T.c51 : Tryd.prog.cellsOf 51 = 6 := by kernel_rfl
theorem T.b51 : Tryd.prog.bytesOf 51 = 144 := by kernel_rfl
theorem T.g51 : isAggT Tryd.prog 51 = some true := by kernel_rfl
theorem T.h51 : fieldsOk Tryd.prog 51 = true := by kernel_rfl
theorem T.f51_0 : fieldOf Tryd.prog 51 0 = some (0, 22) := by kernel_rfl
theorem T.f51_1 : fieldOf Tryd.prog 51 1 = some (1, 22) := by kernel_rfl
theorem T.f51_2 : fieldOf Tryd.prog 51 2 = some (2, 22) := by kernel_rfl
theorem T.f51_3 : fieldOf Tryd.prog 51 3 = some (3, 22) := by kernel_rfl
theorem T.f51_4 : fieldOf Tryd.prog 51 4 = some (4, 22) := by kernel_rfl
theorem T.f51_5 : fieldOf Tryd.prog 51 5 = some (5, 22) := by kernel_rfl
theorem T.z51 : zcells Tryd.prog 51 = some [.v (.slice none 0 0), .v (.slice none 0 0), .v (.slice none 0 0), .v (.slice none 0 0), .v (.slice none 0 0), .v (.slice none 0 0)] := by kernel_rfl
theorem T.c52 : Tryd.prog.cellsOf 52 = 6 := by kernel_rfl
theorem T.b52 : Tryd.prog.bytesOf 52 = 144 := by kernel_rfl
theorem T.g52 : isAggT Tryd.prog 52 = some true := by kernel_rfl
theorem T.h52 : fieldsOk Tryd.prog 52 = true := by kernel_rfl
theorem T.f52_0 : fieldOf Tryd.prog 52 0 = some (0, 22) := by kernel_rfl
theorem T.f52_1 : fieldOf Tryd.prog 52 1 = some (1, 22) := by kernel_rfl
theorem T.f52_2 : fieldOf Tryd.prog 52 2 = some (2, 22) := by kernel_rfl
theorem T.f52_3 : fieldOf Tryd.prog 52 3 = some (3, 22) := by kernel_rfl
theorem T.f52_4 : fieldOf Tryd.prog 52 4 = some (4, 22) := by kernel_rfl
theorem T.f52_5 : fieldOf Tryd.prog 52 5 = some (5, 22) := by kernel_rfl
theorem T.z52 : zcells Tryd.prog 52 = some [.v (.slice none 0 0), .v (.slice none 0 0), .v (.slice none 0 0), .v (.slice none 0 0), .v (.slice none 0 0), .v (.slice none 0 0)] := by kernel_rfl
theorem T.c54 : Tryd.prog.cellsOf 54 = 6 := by kernel_rfl
theorem T.b54 : Tryd.prog.bytesOf 54 = 96 := by kernel_rfl
theorem T.g54 : isAggT Tryd.prog 54 = some true := by kernel_rfl
theorem T.h54 : fieldsOk Tryd.prog 54 = true := by kernel_rfl
theorem T.f54_0 : fieldOf Tryd.prog 54 0 = some (0, 9) := by kernel_rfl
theorem T.f54_1 : fieldOf Tryd.prog 54 1 = some (1, 9) := by kernel_rfl
theorem T.f54_2 : fieldOf Tryd.prog 54 2 = some (2, 9) := by kernel_rfl
theorem T.f54_3 : fieldOf Tryd.prog 54 3 = some (3, 9) := by kernel_rfl
theorem T.f54_4 : fieldOf Tryd.prog 54 4 = some (4, 9) := by kernel_rfl
theorem T.f54_5 : fieldOf Tryd.prog 54 5 = some (5, 9) := by kernel_rfl
theorem T.z54 : zcells Tryd.prog 54 = some [.v (.string ByteArray.empty), .v (.string ByteArray.empty), .v (.string ByteArray.empty), .v (.string ByteArray.empty), .v (.string ByteArray.empty), .v (.string ByteArray.empty)] := by kernel_rfl
theorem T.c55 : Tryd.prog.cellsOf 55 = 6 := by kernel_rfl
theorem T.b55 : Tryd.prog.bytesOf 55 = 96 := by kernel_rfl
theorem T.g55 : isAggT Tryd.prog 55 = some true := by kernel_rfl
theorem T.h55 : fieldsOk Tryd.prog 55 = true := by kernel_rfl
theorem T.f55_0 : fieldOf Tryd.prog 55 0 = some (0, 9) := by kernel_rfl
theorem T.f55_1 : fieldOf Tryd.prog 55 1 = some (1, 9) := by kernel_rfl
theorem T.f55_2 : fieldOf Tryd.prog 55 2 = some (2, 9) := by kernel_rfl
theorem T.f55_3 : fieldOf Tryd.prog 55 3 = some (3, 9) := by kernel_rfl
theorem T.f55_4 : fieldOf Tryd.prog 55 4 = some (4, 9) := by kernel_rfl
theorem T.f55_5 : fieldOf Tryd.prog 55 5 = some (5, 9) := by kernel_rfl
theorem T.z55 : zcells Tryd.prog 55 = some [.v (.string ByteArray.empty), .v (.string ByteArray.empty), .v (.string ByteArray.empty), .v (.string ByteArray.empty), .v (.string ByteArray.empty), .v (.string ByteArray.empty)] := by kernel_rfl
theorem T.c57 : Tryd.prog.cellsOf 57 = 6 := by kernel_rfl
theorem T.b57 : Tryd.prog.bytesOf 57 = 144 := by kernel_rfl
theorem T.g57 : isAggT Tryd.prog 57 = some true := by kernel_rfl
theorem T.z57 : zcells Tryd.prog 57 = some [.v (.slice none 0 0), .v (.slice none 0 0), .v (.slice none 0 0), .v (.slice none 0 0), .v (.slice none 0 0), .v (.slice none 0 0)] := by kernel_rfl
theorem T.c60 : Tryd.prog.cellsOf 60 = 2 := by kernel_rfl
theorem T.b60 : Tryd.prog.bytesOf 60 = 48 := by kernel_rfl
theorem T.g60 : isAggT Tryd.prog 60 = some true := by kernel_rfl
theorem T.z60 : zcells Tryd.prog 60 = some [.v (.slice none 0 0), .v (.slice none 0 0)] := by kernel_rfl
theorem T.c63 : Tryd.prog.cellsOf 63 = 1 := by kernel_rfl
theorem T.b63 : Tryd.prog.bytesOf 63 = 8 := by kernel_rfl
theorem T.g63 : isAggT Tryd.prog 63 = some false := by kernel_rfl
theorem T.z63 : zcells Tryd.prog 63 = some [.v (.int .u64 0)] := by kernel_rfl
theorem T.c64 : Tryd.prog.cellsOf 64 = 1 := by kernel_rfl
theorem T.b64 : Tryd.prog.bytesOf 64 = 24 := by kernel_rfl
theorem T.g64 : isAggT Tryd.prog 64 = some false := by kernel_rfl
theorem T.z64 : zcells Tryd.prog 64 = some [.v (.slice none 0 0)] := by kernel_rfl
theorem T.s64 : isSliceT Tryd.prog 64 = true := by kernel_rfl
theorem T.c65 : Tryd.prog.cellsOf 65 = 5 := by kernel_rfl
theorem T.b65 : Tryd.prog.bytesOf 65 = 88 := by kernel_rfl
theorem T.g65 : isAggT Tryd.prog 65 = some true := by kernel_rfl
theorem T.h65 : fieldsOk Tryd.prog 65 = true := by kernel_rfl
theorem T.f65_0 : fieldOf Tryd.prog 65 0 = some (0, 3) := by kernel_rfl
theorem T.f65_1 : fieldOf Tryd.prog 65 1 = some (1, 22) := by kernel_rfl
theorem T.f65_2 : fieldOf Tryd.prog 65 2 = some (2, 63) := by kernel_rfl
theorem T.f65_3 : fieldOf Tryd.prog 65 3 = some (3, 22) := by kernel_rfl
theorem T.f65_4 : fieldOf Tryd.prog 65 4 = some (4, 64) := by kernel_rfl
theorem T.z65 : zcells Tryd.prog 65 = some [.v (.int .i64 0), .v (.slice none 0 0), .v (.int .u64 0), .v (.slice none 0 0), .v (.slice none 0 0)] := by kernel_rfl
theorem T.c66 : Tryd.prog.cellsOf 66 = 5 := by kernel_rfl
theorem T.b66 : Tryd.prog.bytesOf 66 = 88 := by kernel_rfl
theorem T.g66 : isAggT Tryd.prog 66 = some true := by kernel_rfl
theorem T.h66 : fieldsOk Tryd.prog 66 = true := by kernel_rfl
theorem T.f66_0 : fieldOf Tryd.prog 66 0 = some (0, 3) := by kernel_rfl
theorem T.f66_1 : fieldOf Tryd.prog 66 1 = some (1, 22) := by kernel_rfl
theorem T.f66_2 : fieldOf Tryd.prog 66 2 = some (2, 63) := by kernel_rfl
theorem T.f66_3 : fieldOf Tryd.prog 66 3 = some (3, 22) := by kernel_rfl
theorem T.f66_4 : fieldOf Tryd.prog 66 4 = some (4, 64) := by kernel_rfl
theorem T.z66 : zcells Tryd.prog 66 = some [.v (.int .i64 0), .v (.slice none 0 0), .v (.int .u64 0), .v (.slice none 0 0), .v (.slice none 0 0)] := by kernel_rfl
theorem T.c75 : Tryd.prog.cellsOf 75 = 9 := by kernel_rfl
theorem T.b75 : Tryd.prog.bytesOf 75 = 152 := by kernel_rfl
theorem T.g75 : isAggT Tryd.prog 75 = some true := by kernel_rfl
theorem T.h75 : fieldsOk Tryd.prog 75 = true := by kernel_rfl
theorem T.f75_0 : fieldOf Tryd.prog 75 0 = some (0, 3) := by kernel_rfl
theorem T.f75_1 : fieldOf Tryd.prog 75 1 = some (1, 22) := by kernel_rfl
theorem T.f75_2 : fieldOf Tryd.prog 75 2 = some (2, 3) := by kernel_rfl
theorem T.f75_3 : fieldOf Tryd.prog 75 3 = some (3, 3) := by kernel_rfl
theorem T.f75_4 : fieldOf Tryd.prog 75 4 = some (4, 3) := by kernel_rfl
theorem T.f75_5 : fieldOf Tryd.prog 75 5 = some (5, 22) := by kernel_rfl
theorem T.f75_6 : fieldOf Tryd.prog 75 6 = some (6, 22) := by kernel_rfl
theorem T.f75_7 : fieldOf Tryd.prog 75 7 = some (7, 22) := by kernel_rfl
theorem T.f75_8 : fieldOf Tryd.prog 75 8 = some (8, 22) := by kernel_rfl
theorem T.z75 : zcells Tryd.prog 75 = some [.v (.int .i64 0), .v (.slice none 0 0), .v (.int .i64 0), .v (.int .i64 0), .v (.int .i64 0), .v (.slice none 0 0), .v (.slice none 0 0), .v (.slice none 0 0), .v (.slice none 0 0)] := by kernel_rfl
theorem T.c76 : Tryd.prog.cellsOf 76 = 9 := by kernel_rfl
theorem T.b76 : Tryd.prog.bytesOf 76 = 152 := by kernel_rfl
theorem T.g76 : isAggT Tryd.prog 76 = some true := by kernel_rfl
theorem T.h76 : fieldsOk Tryd.prog 76 = true := by kernel_rfl
theorem T.f76_0 : fieldOf Tryd.prog 76 0 = some (0, 3) := by kernel_rfl
theorem T.f76_1 : fieldOf Tryd.prog 76 1 = some (1, 22) := by kernel_rfl
theorem T.f76_2 : fieldOf Tryd.prog 76 2 = some (2, 3) := by kernel_rfl
theorem T.f76_3 : fieldOf Tryd.prog 76 3 = some (3, 3) := by kernel_rfl
theorem T.f76_4 : fieldOf Tryd.prog 76 4 = some (4, 3) := by kernel_rfl
theorem T.f76_5 : fieldOf Tryd.prog 76 5 = some (5, 22) := by kernel_rfl
theorem T.f76_6 : fieldOf Tryd.prog 76 6 = some (6, 22) := by kernel_rfl
theorem T.f76_7 : fieldOf Tryd.prog 76 7 = some (7, 22) := by kernel_rfl
theorem T.f76_8 : fieldOf Tryd.prog 76 8 = some (8, 22) := by kernel_rfl
theorem T.z76 : zcells Tryd.prog 76 = some [.v (.int .i64 0), .v (.slice none 0 0), .v (.int .i64 0), .v (.int .i64 0), .v (.int .i64 0), .v (.slice none 0 0), .v (.slice none 0 0), .v (.slice none 0 0), .v (.slice none 0 0)] := by kernel_rfl
theorem T.c88 : Tryd.prog.cellsOf 88 = 4 := by kernel_rfl
theorem T.b88 : Tryd.prog.bytesOf 88 = 96 := by kernel_rfl
theorem T.g88 : isAggT Tryd.prog 88 = some true := by kernel_rfl
theorem T.h88 : fieldsOk Tryd.prog 88 = true := by kernel_rfl
theorem T.f88_0 : fieldOf Tryd.prog 88 0 = some (0, 22) := by kernel_rfl
theorem T.f88_1 : fieldOf Tryd.prog 88 1 = some (1, 22) := by kernel_rfl
theorem T.f88_2 : fieldOf Tryd.prog 88 2 = some (2, 22) := by kernel_rfl
theorem T.f88_3 : fieldOf Tryd.prog 88 3 = some (3, 22) := by kernel_rfl
theorem T.z88 : zcells Tryd.prog 88 = some [.v (.slice none 0 0), .v (.slice none 0 0), .v (.slice none 0 0), .v (.slice none 0 0)] := by kernel_rfl
theorem T.c89 : Tryd.prog.cellsOf 89 = 4 := by kernel_rfl
theorem T.b89 : Tryd.prog.bytesOf 89 = 96 := by kernel_rfl
theorem T.g89 : isAggT Tryd.prog 89 = some true := by kernel_rfl
theorem T.h89 : fieldsOk Tryd.prog 89 = true := by kernel_rfl
theorem T.f89_0 : fieldOf Tryd.prog 89 0 = some (0, 22) := by kernel_rfl
theorem T.f89_1 : fieldOf Tryd.prog 89 1 = some (1, 22) := by kernel_rfl
theorem T.f89_2 : fieldOf Tryd.prog 89 2 = some (2, 22) := by kernel_rfl
theorem T.f89_3 : fieldOf Tryd.prog 89 3 = some (3, 22) := by kernel_rfl
theorem T.z89 : zcells Tryd.prog 89 = some [.v (.slice none 0 0), .v (.slice none 0 0), .v (.slice none 0 0), .v (.slice none 0 0)] := by kernel_rfl
theorem T.c91 : Tryd.prog.cellsOf 91 = 1 := by kernel_rfl
theorem T.b91 : Tryd.prog.bytesOf 91 = 8 := by kernel_rfl
theorem T.g91 : isAggT Tryd.prog 91 = some false := by kernel_rfl
theorem T.z91 : zcells Tryd.prog 91 = some [.v (.int .i64 0)] := by kernel_rfl
theorem T.c98 : Tryd.prog.cellsOf 98 = 1 := by kernel_rfl
theorem T.b98 : Tryd.prog.bytesOf 98 = 24 := by kernel_rfl
theorem T.g98 : isAggT Tryd.prog 98 = some false := by kernel_rfl
theorem T.z98 : zcells Tryd.prog 98 = some [.v (.slice none 0 0)] := by kernel_rfl
theorem T.s98 : isSliceT Tryd.prog 98 = true := by kernel_rfl
theorem T.c99 : Tryd.prog.cellsOf 99 = 1 := by kernel_rfl
theorem T.b99 : Tryd.prog.bytesOf 99 = 4 := by kernel_rfl
theorem T.g99 : isAggT Tryd.prog 99 = some false := by kernel_rfl
theorem T.z99 : zcells Tryd.prog 99 = some [.v (.int .u32 0)] := by kernel_rfl
theorem T.c100 : Tryd.prog.cellsOf 100 = 8 := by kernel_rfl
theorem T.b100 : Tryd.prog.bytesOf 100 = 32 := by kernel_rfl
theorem T.g100 : isAggT Tryd.prog 100 = some true := by kernel_rfl
theorem T.z100 : zcells Tryd.prog 100 = some [.v (.int .u32 0), .v (.int .u32 0), .v (.int .u32 0), .v (.int .u32 0), .v (.int .u32 0), .v (.int .u32 0), .v (.int .u32 0), .v (.int .u32 0)] := by kernel_rfl
theorem T.c106 : Tryd.prog.cellsOf 106 = 1 := by kernel_rfl
theorem T.b106 : Tryd.prog.bytesOf 106 = 8 := by kernel_rfl
theorem T.g106 : isAggT Tryd.prog 106 = some false := by kernel_rfl
theorem T.z106 : zcells Tryd.prog 106 = some [.v (.int .u64 0)] := by kernel_rfl
theorem T.c107 : Tryd.prog.cellsOf 107 = 1 := by kernel_rfl
theorem T.b107 : Tryd.prog.bytesOf 107 = 24 := by kernel_rfl
theorem T.g107 : isAggT Tryd.prog 107 = some false := by kernel_rfl
theorem T.z107 : zcells Tryd.prog 107 = some [.v (.slice none 0 0)] := by kernel_rfl
theorem T.s107 : isSliceT Tryd.prog 107 = true := by kernel_rfl
theorem T.c111 : Tryd.prog.cellsOf 111 = 64 := by kernel_rfl
theorem T.b111 : Tryd.prog.bytesOf 111 = 64 := by kernel_rfl
theorem T.g111 : isAggT Tryd.prog 111 = some true := by kernel_rfl
theorem T.z111 : zcells Tryd.prog 111 = some [.v (.int .u8 0), .v (.int .u8 0), .v (.int .u8 0), .v (.int .u8 0), .v (.int .u8 0), .v (.int .u8 0), .v (.int .u8 0), .v (.int .u8 0), .v (.int .u8 0), .v (.int .u8 0), .v (.int .u8 0), .v (.int .u8 0), .v (.int .u8 0), .v (.int .u8 0), .v (.int .u8 0), .v (.int .u8 0), .v (.int .u8 0), .v (.int .u8 0), .v (.int .u8 0), .v (.int .u8 0), .v (.int .u8 0), .v (.int .u8 0), .v (.int .u8 0), .v (.int .u8 0), .v (.int .u8 0), .v (.int .u8 0), .v (.int .u8 0), .v (.int .u8 0), .v (.int .u8 0), .v (.int .u8 0), .v (.int .u8 0), .v (.int .u8 0), .v (.int .u8 0), .v (.int .u8 0), .v (.int .u8 0), .v (.int .u8 0), .v (.int .u8 0), .v (.int .u8 0), .v (.int .u8 0), .v (.int .u8 0), .v (.int .u8 0), .v (.int .u8 0), .v (.int .u8 0), .v (.int .u8 0), .v (.int .u8 0), .v (.int .u8 0), .v (.int .u8 0), .v (.int .u8 0), .v (.int .u8 0), .v (.int .u8 0), .v (.int .u8 0), .v (.int .u8 0), .v (.int .u8 0), .v (.int .u8 0), .v (.int .u8 0), .v (.int .u8 0), .v (.int .u8 0), .v (.int .u8 0), .v (.int .u8 0), .v (.int .u8 0), .v (.int .u8 0), .v (.int .u8 0), .v (.int .u8 0), .v (.int .u8 0)] := by kernel_rfl
theorem T.c114 : Tryd.prog.cellsOf 114 = 1 := by kernel_rfl
theorem T.b114 : Tryd.prog.bytesOf 114 = 8 := by kernel_rfl
theorem T.g114 : isAggT Tryd.prog 114 = some false := by kernel_rfl
theorem T.z114 : zcells Tryd.prog 114 = some [.v (.pointer none)] := by kernel_rfl
theorem T.p114 : isPtrT Tryd.prog 114 = true := by kernel_rfl
theorem T.c133 : Tryd.prog.cellsOf 133 = 1 := by kernel_rfl
theorem T.b133 : Tryd.prog.bytesOf 133 = 8 := by kernel_rfl
theorem T.g133 : isAggT Tryd.prog 133 = some false := by kernel_rfl
theorem T.z133 : zcells Tryd.prog 133 = some [.v (.pointer none)] := by kernel_rfl
theorem T.p133 : isPtrT Tryd.prog 133 = true := by kernel_rfl
theorem T.c138 : Tryd.prog.cellsOf 138 = 64 := by kernel_rfl
theorem T.b138 : Tryd.prog.bytesOf 138 = 256 := by kernel_rfl
theorem T.g138 : isAggT Tryd.prog 138 = some true := by kernel_rfl
theorem T.z138 : zcells Tryd.prog 138 = some [.v (.int .u32 0), .v (.int .u32 0), .v (.int .u32 0), .v (.int .u32 0), .v (.int .u32 0), .v (.int .u32 0), .v (.int .u32 0), .v (.int .u32 0), .v (.int .u32 0), .v (.int .u32 0), .v (.int .u32 0), .v (.int .u32 0), .v (.int .u32 0), .v (.int .u32 0), .v (.int .u32 0), .v (.int .u32 0), .v (.int .u32 0), .v (.int .u32 0), .v (.int .u32 0), .v (.int .u32 0), .v (.int .u32 0), .v (.int .u32 0), .v (.int .u32 0), .v (.int .u32 0), .v (.int .u32 0), .v (.int .u32 0), .v (.int .u32 0), .v (.int .u32 0), .v (.int .u32 0), .v (.int .u32 0), .v (.int .u32 0), .v (.int .u32 0), .v (.int .u32 0), .v (.int .u32 0), .v (.int .u32 0), .v (.int .u32 0), .v (.int .u32 0), .v (.int .u32 0), .v (.int .u32 0), .v (.int .u32 0), .v (.int .u32 0), .v (.int .u32 0), .v (.int .u32 0), .v (.int .u32 0), .v (.int .u32 0), .v (.int .u32 0), .v (.int .u32 0), .v (.int .u32 0), .v (.int .u32 0), .v (.int .u32 0), .v (.int .u32 0), .v (.int .u32 0), .v (.int .u32 0), .v (.int .u32 0), .v (.int .u32 0), .v (.int .u32 0), .v (.int .u32 0), .v (.int .u32 0), .v (.int .u32 0), .v (.int .u32 0), .v (.int .u32 0), .v (.int .u32 0), .v (.int .u32 0), .v (.int .u32 0)] := by kernel_rfl
theorem T.c141 : Tryd.prog.cellsOf 141 = 2 := by kernel_rfl
theorem T.b141 : Tryd.prog.bytesOf 141 = 32 := by kernel_rfl
theorem T.g141 : isAggT Tryd.prog 141 = some true := by kernel_rfl
theorem T.h141 : fieldsOk Tryd.prog 141 = true := by kernel_rfl
theorem T.f141_0 : fieldOf Tryd.prog 141 0 = some (0, 22) := by kernel_rfl
theorem T.f141_1 : fieldOf Tryd.prog 141 1 = some (1, 4) := by kernel_rfl
theorem T.z141 : zcells Tryd.prog 141 = some [.v (.slice none 0 0), .v (.bool false)] := by kernel_rfl
theorem T.c142 : Tryd.prog.cellsOf 142 = 2 := by kernel_rfl
theorem T.b142 : Tryd.prog.bytesOf 142 = 32 := by kernel_rfl
theorem T.g142 : isAggT Tryd.prog 142 = some true := by kernel_rfl
theorem T.h142 : fieldsOk Tryd.prog 142 = true := by kernel_rfl
theorem T.f142_0 : fieldOf Tryd.prog 142 0 = some (0, 22) := by kernel_rfl
theorem T.f142_1 : fieldOf Tryd.prog 142 1 = some (1, 4) := by kernel_rfl
theorem T.z142 : zcells Tryd.prog 142 = some [.v (.slice none 0 0), .v (.bool false)] := by kernel_rfl
theorem T.c154 : Tryd.prog.cellsOf 154 = 2 := by kernel_rfl
theorem T.b154 : Tryd.prog.bytesOf 154 = 32 := by kernel_rfl
theorem T.g154 : isAggT Tryd.prog 154 = some true := by kernel_rfl
theorem T.h154 : fieldsOk Tryd.prog 154 = true := by kernel_rfl
theorem T.f154_0 : fieldOf Tryd.prog 154 0 = some (0, 22) := by kernel_rfl
theorem T.f154_1 : fieldOf Tryd.prog 154 1 = some (1, 91) := by kernel_rfl
theorem T.z154 : zcells Tryd.prog 154 = some [.v (.slice none 0 0), .v (.int .i64 0)] := by kernel_rfl
theorem T.c155 : Tryd.prog.cellsOf 155 = 2 := by kernel_rfl
theorem T.b155 : Tryd.prog.bytesOf 155 = 32 := by kernel_rfl
theorem T.g155 : isAggT Tryd.prog 155 = some true := by kernel_rfl
theorem T.h155 : fieldsOk Tryd.prog 155 = true := by kernel_rfl
theorem T.f155_0 : fieldOf Tryd.prog 155 0 = some (0, 22) := by kernel_rfl
theorem T.f155_1 : fieldOf Tryd.prog 155 1 = some (1, 91) := by kernel_rfl
theorem T.z155 : zcells Tryd.prog 155 = some [.v (.slice none 0 0), .v (.int .i64 0)] := by kernel_rfl
theorem T.c157 : Tryd.prog.cellsOf 157 = 16 := by kernel_rfl
theorem T.b157 : Tryd.prog.bytesOf 157 = 16 := by kernel_rfl
theorem T.g157 : isAggT Tryd.prog 157 = some true := by kernel_rfl
theorem T.z157 : zcells Tryd.prog 157 = some [.v (.int .u8 0), .v (.int .u8 0), .v (.int .u8 0), .v (.int .u8 0), .v (.int .u8 0), .v (.int .u8 0), .v (.int .u8 0), .v (.int .u8 0), .v (.int .u8 0), .v (.int .u8 0), .v (.int .u8 0), .v (.int .u8 0), .v (.int .u8 0), .v (.int .u8 0), .v (.int .u8 0), .v (.int .u8 0)] := by kernel_rfl
theorem T.c165 : Tryd.prog.cellsOf 165 = 256 := by kernel_rfl
theorem T.b165 : Tryd.prog.bytesOf 165 = 256 := by kernel_rfl
theorem T.g165 : isAggT Tryd.prog 165 = some true := by kernel_rfl
theorem T.c167 : Tryd.prog.cellsOf 167 = 176 := by kernel_rfl
theorem T.b167 : Tryd.prog.bytesOf 167 = 176 := by kernel_rfl
theorem T.g167 : isAggT Tryd.prog 167 = some true := by kernel_rfl
theorem T.c171 : Tryd.prog.cellsOf 171 = 1 := by kernel_rfl
theorem T.b171 : Tryd.prog.bytesOf 171 = 8 := by kernel_rfl
theorem T.g171 : isAggT Tryd.prog 171 = some false := by kernel_rfl
theorem T.z171 : zcells Tryd.prog 171 = some [.v (.pointer none)] := by kernel_rfl
theorem T.p171 : isPtrT Tryd.prog 171 = true := by kernel_rfl
theorem T.c172 : Tryd.prog.cellsOf 172 = 4 := by kernel_rfl
theorem T.b172 : Tryd.prog.bytesOf 172 = 4 := by kernel_rfl
theorem T.g172 : isAggT Tryd.prog 172 = some true := by kernel_rfl
theorem T.z172 : zcells Tryd.prog 172 = some [.v (.int .u8 0), .v (.int .u8 0), .v (.int .u8 0), .v (.int .u8 0)] := by kernel_rfl
theorem T.c177 : Tryd.prog.cellsOf 177 = 4 := by kernel_rfl
theorem T.b177 : Tryd.prog.bytesOf 177 = 40 := by kernel_rfl
theorem T.g177 : isAggT Tryd.prog 177 = some true := by kernel_rfl
theorem T.h177 : fieldsOk Tryd.prog 177 = true := by kernel_rfl
theorem T.f177_0 : fieldOf Tryd.prog 177 0 = some (0, 17) := by kernel_rfl
theorem T.f177_1 : fieldOf Tryd.prog 177 1 = some (1, 17) := by kernel_rfl
theorem T.f177_2 : fieldOf Tryd.prog 177 2 = some (2, 17) := by kernel_rfl
theorem T.f177_3 : fieldOf Tryd.prog 177 3 = some (3, 9) := by kernel_rfl
theorem T.z177 : zcells Tryd.prog 177 = some [.v (.pointer none), .v (.pointer none), .v (.pointer none), .v (.string ByteArray.empty)] := by kernel_rfl
theorem T.c178 : Tryd.prog.cellsOf 178 = 4 := by kernel_rfl
theorem T.b178 : Tryd.prog.bytesOf 178 = 40 := by kernel_rfl
theorem T.g178 : isAggT Tryd.prog 178 = some true := by kernel_rfl
theorem T.h178 : fieldsOk Tryd.prog 178 = true := by kernel_rfl
theorem T.f178_0 : fieldOf Tryd.prog 178 0 = some (0, 17) := by kernel_rfl
theorem T.f178_1 : fieldOf Tryd.prog 178 1 = some (1, 17) := by kernel_rfl
theorem T.f178_2 : fieldOf Tryd.prog 178 2 = some (2, 17) := by kernel_rfl
theorem T.f178_3 : fieldOf Tryd.prog 178 3 = some (3, 9) := by kernel_rfl
theorem T.z178 : zcells Tryd.prog 178 = some [.v (.pointer none), .v (.pointer none), .v (.pointer none), .v (.string ByteArray.empty)] := by kernel_rfl
theorem T.c179 : Tryd.prog.cellsOf 179 = 0 := by kernel_rfl
theorem T.b179 : Tryd.prog.bytesOf 179 = 0 := by kernel_rfl
theorem T.g179 : isAggT Tryd.prog 179 = some true := by kernel_rfl
theorem T.z179 : zcells Tryd.prog 179 = some [] := by kernel_rfl
theorem T.c180 : Tryd.prog.cellsOf 180 = 0 := by kernel_rfl
theorem T.b180 : Tryd.prog.bytesOf 180 = 0 := by kernel_rfl
theorem T.g180 : isAggT Tryd.prog 180 = some true := by kernel_rfl
theorem T.h180 : fieldsOk Tryd.prog 180 = true := by kernel_rfl
theorem T.f180_0 : fieldOf Tryd.prog 180 0 = some (0, 179) := by kernel_rfl
theorem T.z180 : zcells Tryd.prog 180 = some [] := by kernel_rfl
theorem T.c181 : Tryd.prog.cellsOf 181 = 0 := by kernel_rfl
theorem T.b181 : Tryd.prog.bytesOf 181 = 0 := by kernel_rfl
theorem T.g181 : isAggT Tryd.prog 181 = some true := by kernel_rfl
theorem T.h181 : fieldsOk Tryd.prog 181 = true := by kernel_rfl
theorem T.f181_0 : fieldOf Tryd.prog 181 0 = some (0, 179) := by kernel_rfl
theorem T.z181 : zcells Tryd.prog 181 = some [] := by kernel_rfl
theorem T.c182 : Tryd.prog.cellsOf 182 = 1 := by kernel_rfl
theorem T.b182 : Tryd.prog.bytesOf 182 = 1 := by kernel_rfl
theorem T.g182 : isAggT Tryd.prog 182 = some false := by kernel_rfl
theorem T.z182 : zcells Tryd.prog 182 = some [.v (.int .u8 0)] := by kernel_rfl
theorem T.c183 : Tryd.prog.cellsOf 183 = 1 := by kernel_rfl
theorem T.b183 : Tryd.prog.bytesOf 183 = 1 := by kernel_rfl
theorem T.g183 : isAggT Tryd.prog 183 = some false := by kernel_rfl
theorem T.z183 : zcells Tryd.prog 183 = some [.v (.int .u8 0)] := by kernel_rfl
theorem T.c185 : Tryd.prog.cellsOf 185 = 1 := by kernel_rfl
theorem T.b185 : Tryd.prog.bytesOf 185 = 8 := by kernel_rfl
theorem T.g185 : isAggT Tryd.prog 185 = some false := by kernel_rfl
theorem T.z185 : zcells Tryd.prog 185 = some [.v (.pointer none)] := by kernel_rfl
theorem T.p185 : isPtrT Tryd.prog 185 = true := by kernel_rfl
theorem T.c186 : Tryd.prog.cellsOf 186 = 1 := by kernel_rfl
theorem T.b186 : Tryd.prog.bytesOf 186 = 4 := by kernel_rfl
theorem T.g186 : isAggT Tryd.prog 186 = some false := by kernel_rfl
theorem T.z186 : zcells Tryd.prog 186 = some [.v (.int .i32 0)] := by kernel_rfl
theorem T.c187 : Tryd.prog.cellsOf 187 = 1 := by kernel_rfl
theorem T.b187 : Tryd.prog.bytesOf 187 = 4 := by kernel_rfl
theorem T.g187 : isAggT Tryd.prog 187 = some false := by kernel_rfl
theorem T.z187 : zcells Tryd.prog 187 = some [.v (.int .i32 0)] := by kernel_rfl
theorem T.c188 : Tryd.prog.cellsOf 188 = 11 := by kernel_rfl
theorem T.b188 : Tryd.prog.bytesOf 188 = 48 := by kernel_rfl
theorem T.g188 : isAggT Tryd.prog 188 = some true := by kernel_rfl
theorem T.h188 : fieldsOk Tryd.prog 188 = true := by kernel_rfl
theorem T.f188_0 : fieldOf Tryd.prog 188 0 = some (0, 12) := by kernel_rfl
theorem T.f188_1 : fieldOf Tryd.prog 188 1 = some (1, 12) := by kernel_rfl
theorem T.f188_2 : fieldOf Tryd.prog 188 2 = some (2, 99) := by kernel_rfl
theorem T.f188_3 : fieldOf Tryd.prog 188 3 = some (3, 182) := by kernel_rfl
theorem T.f188_4 : fieldOf Tryd.prog 188 4 = some (4, 5) := by kernel_rfl
theorem T.f188_5 : fieldOf Tryd.prog 188 5 = some (5, 5) := by kernel_rfl
theorem T.f188_6 : fieldOf Tryd.prog 188 6 = some (6, 183) := by kernel_rfl
theorem T.f188_7 : fieldOf Tryd.prog 188 7 = some (7, 184) := by kernel_rfl
theorem T.f188_8 : fieldOf Tryd.prog 188 8 = some (8, 185) := by kernel_rfl
theorem T.f188_9 : fieldOf Tryd.prog 188 9 = some (9, 186) := by kernel_rfl
theorem T.f188_10 : fieldOf Tryd.prog 188 10 = some (10, 187) := by kernel_rfl
theorem T.z188 : zcells Tryd.prog 188 = some [.v (.int .u64 0), .v (.int .u64 0), .v (.int .u32 0), .v (.int .u8 0), .v (.int .u8 0), .v (.int .u8 0), .v (.int .u8 0), .v (.nilFunc), .v (.pointer none), .v (.int .i32 0), .v (.int .i32 0)] := by kernel_rfl
theorem T.c189 : Tryd.prog.cellsOf 189 = 11 := by kernel_rfl
theorem T.b189 : Tryd.prog.bytesOf 189 = 48 := by kernel_rfl
theorem T.g189 : isAggT Tryd.prog 189 = some true := by kernel_rfl
theorem T.h189 : fieldsOk Tryd.prog 189 = true := by kernel_rfl
theorem T.f189_0 : fieldOf Tryd.prog 189 0 = some (0, 12) := by kernel_rfl
theorem T.f189_1 : fieldOf Tryd.prog 189 1 = some (1, 12) := by kernel_rfl
theorem T.f189_2 : fieldOf Tryd.prog 189 2 = some (2, 99) := by kernel_rfl
theorem T.f189_3 : fieldOf Tryd.prog 189 3 = some (3, 182) := by kernel_rfl
theorem T.f189_4 : fieldOf Tryd.prog 189 4 = some (4, 5) := by kernel_rfl
theorem T.f189_5 : fieldOf Tryd.prog 189 5 = some (5, 5) := by kernel_rfl
theorem T.f189_6 : fieldOf Tryd.prog 189 6 = some (6, 183) := by kernel_rfl
theorem T.f189_7 : fieldOf Tryd.prog 189 7 = some (7, 184) := by kernel_rfl
theorem T.f189_8 : fieldOf Tryd.prog 189 8 = some (8, 185) := by kernel_rfl
theorem T.f189_9 : fieldOf Tryd.prog 189 9 = some (9, 186) := by kernel_rfl
theorem T.f189_10 : fieldOf Tryd.prog 189 10 = some (10, 187) := by kernel_rfl
theorem T.z189 : zcells Tryd.prog 189 = some [.v (.int .u64 0), .v (.int .u64 0), .v (.int .u32 0), .v (.int .u8 0), .v (.int .u8 0), .v (.int .u8 0), .v (.int .u8 0), .v (.nilFunc), .v (.pointer none), .v (.int .i32 0), .v (.int .i32 0)] := by kernel_rfl
theorem T.c190 : Tryd.prog.cellsOf 190 = 1 := by kernel_rfl
theorem T.b190 : Tryd.prog.bytesOf 190 = 8 := by kernel_rfl
theorem T.g190 : isAggT Tryd.prog 190 = some false := by kernel_rfl
theorem T.k3 : callable Tryd.prog 3 = true := by kernel_rfl
theorem T.k4 : callable Tryd.prog 4 = true := by kernel_rfl
theorem T.k5 : callable Tryd.prog 5 = true := by kernel_rfl
theorem T.k6 : callable Tryd.prog 6 = true := by kernel_rfl
theorem T.k7 : callable Tryd.prog 7 = true := by kernel_rfl
theorem T.k8 : callable Tryd.prog 8 = true := by kernel_rfl
theorem T.k9 : callable Tryd.prog 9 = true := by kernel_rfl
theorem T.k10 : callable Tryd.prog 10 = true := by kernel_rfl
theorem T.k11 : callable Tryd.prog 11 = true := by kernel_rfl
theorem T.k12 : callable Tryd.prog 12 = true := by kernel_rfl
theorem T.k13 : callable Tryd.prog 13 = true := by kernel_rfl
theorem T.k14 : callable Tryd.prog 14 = true := by kernel_rfl
theorem T.k15 : callable Tryd.prog 15 = true := by kernel_rfl
theorem T.k16 : callable Tryd.prog 16 = true := by kernel_rfl
theorem T.k17 : callable Tryd.prog 17 = true := by kernel_rfl
theorem T.k18 : callable Tryd.prog 18 = true := by kernel_rfl
theorem T.k19 : callable Tryd.prog 19 = true := by kernel_rfl
theorem T.k20 : callable Tryd.prog 20 = true := by kernel_rfl
theorem T.k21 : callable Tryd.prog 21 = true := by kernel_rfl
theorem T.k22 : callable Tryd.prog 22 = true := by kernel_rfl
theorem T.k23 : callable Tryd.prog 23 = true := by kernel_rfl
theorem T.k24 : callable Tryd.prog 24 = true := by kernel_rfl
theorem T.k25 : callable Tryd.prog 25 = true := by kernel_rfl
theorem T.k26 : callable Tryd.prog 26 = true := by kernel_rfl
theorem T.k27 : callable Tryd.prog 27 = true := by kernel_rfl
theorem T.k28 : callable Tryd.prog 28 = true := by kernel_rfl
theorem T.k29 : callable Tryd.prog 29 = true := by kernel_rfl
theorem T.k30 : callable Tryd.prog 30 = true := by kernel_rfl
theorem T.k31 : callable Tryd.prog 31 = true := by kernel_rfl
theorem T.k32 : callable Tryd.prog 32 = true := by kernel_rfl
theorem T.k33 : callable Tryd.prog 33 = true := by kernel_rfl
theorem T.k34 : callable Tryd.prog 34 = true := by kernel_rfl
theorem T.k35 : callable Tryd.prog 35 = true := by kernel_rfl
theorem T.k36 : callable Tryd.prog 36 = true := by kernel_rfl
theorem T.k37 : callable Tryd.prog 37 = true := by kernel_rfl
theorem T.k38 : callable Tryd.prog 38 = true := by kernel_rfl
theorem T.k39 : callable Tryd.prog 39 = true := by kernel_rfl
theorem T.k40 : callable Tryd.prog 40 = true := by kernel_rfl
theorem T.k41 : callable Tryd.prog 41 = true := by kernel_rfl
theorem T.k42 : callable Tryd.prog 42 = true := by kernel_rfl
theorem T.k43 : callable Tryd.prog 43 = true := by kernel_rfl
theorem T.k44 : callable Tryd.prog 44 = true := by kernel_rfl
theorem T.k45 : callable Tryd.prog 45 = true := by kernel_rfl
theorem T.k46 : callable Tryd.prog 46 = true := by kernel_rfl
theorem T.k47 : callable Tryd.prog 47 = true := by kernel_rfl
theorem T.k48 : callable Tryd.prog 48 = true := by kernel_rfl
theorem T.k49 : callable Tryd.prog 49 = true := by kernel_rfl
theorem T.k50 : callable Tryd.prog 50 = true := by kernel_rfl
theorem T.k51 : callable Tryd.prog 51 = true := by kernel_rfl
theorem T.k52 : callable Tryd.prog 52 = true := by kernel_rfl
theorem T.k53 : callable Tryd.prog 53 = true := by kernel_rfl
theorem T.k54 : callable Tryd.prog 54 = true := by kernel_rfl
theorem T.k55 : callable Tryd.prog 55 = true := by kernel_rfl
theorem T.k56 : callable Tryd.prog 56 = true := by kernel_rfl
theorem T.k57 : callable Tryd.prog 57 = true := by kernel_rfl
theorem T.k58 : callable Tryd.prog 58 = true := by kernel_rfl
theorem T.k59 : callable Tryd.prog 59 = true := by kernel_rfl
theorem T.k60 : callable Tryd.prog 60 = true := by kernel_rfl
theorem T.k61 : callable Tryd.prog 61 = true := by kernel_rfl
theorem T.k62 : callable Tryd.prog 62 = true := by kernel_rfl
theorem T.k63 : callable Tryd.prog 63 = true := by kernel_rfl
theorem T.k64 : callable Tryd.prog 64 = true := by kernel_rfl
theorem T.k65 : callable Tryd.prog 65 = true := by kernel_rfl
theorem T.k66 : callable Tryd.prog 66 = true := by kernel_rfl
theorem T.k67 : callable Tryd.prog 67 = true := by kernel_rfl
theorem T.k68 : callable Tryd.prog 68 = true := by kernel_rfl
theorem T.k69 : callable Tryd.prog 69 = true := by kernel_rfl
theorem T.k70 : callable Tryd.prog 70 = true := by kernel_rfl
theorem T.k71 : callable Tryd.prog 71 = true := by kernel_rfl
theorem T.k72 : callable Tryd.prog 72 = true := by kernel_rfl
theorem T.k73 : callable Tryd.prog 73 = true := by kernel_rfl
theorem T.k74 : callable Tryd.prog 74 = true := by kernel_rfl
theorem T.k75 : callable Tryd.prog 75 = true := by kernel_rfl
theorem T.k76 : callable Tryd.prog 76 = true := by kernel_rfl
theorem T.k77 : callable Tryd.prog 77 = true := by kernel_rfl
theorem T.k78 : callable Tryd.prog 78 = true := by kernel_rfl
theorem T.k79 : callable Tryd.prog 79 = true := by kernel_rfl
theorem T.k80 : callable Tryd.prog 80 = true := by kernel_rfl
theorem T.k81 : callable Tryd.prog 81 = true := by kernel_rfl
theorem T.k82 : callable Tryd.prog 82 = true := by kernel_rfl
theorem T.k83 : callable Tryd.prog 83 = true := by kernel_rfl
theorem T.k84 : callable Tryd.prog 84 = true := by kernel_rfl
theorem T.k85 : callable Tryd.prog 85 = true := by kernel_rfl
theorem T.k86 : callable Tryd.prog 86 = true := by kernel_rfl
theorem T.k87 : callable Tryd.prog 87 = true := by kernel_rfl
theorem T.k88 : callable Tryd.prog 88 = true := by kernel_rfl
theorem T.k89 : callable Tryd.prog 89 = true := by kernel_rfl
theorem T.k90 : callable Tryd.prog 90 = true := by kernel_rfl
theorem T.k91 : callable Tryd.prog 91 = true := by kernel_rfl
theorem T.k92 : callable Tryd.prog 92 = true := by kernel_rfl
theorem T.k93 : callable Tryd.prog 93 = true := by kernel_rfl
theorem T.k94 : callable Tryd.prog 94 = true := by kernel_rfl
theorem T.k95 : callable Tryd.prog 95 = true := by kernel_rfl
theorem T.k96 : callable Tryd.prog 96 = true := by kernel_rfl
theorem T.k97 : callable Tryd.prog 97 = true := by kernel_rfl
theorem T.k98 : callable Tryd.prog 98 = true := by kernel_rfl
theorem T.k99 : callable Tryd.prog 99 = true := by kernel_rfl
theorem T.k100 : callable Tryd.prog 100 = true := by kernel_rfl
theorem T.k101 : callable Tryd.prog 101 = true := by kernel_rfl
theorem T.k102 : callable Tryd.prog 102 = true := by kernel_rfl
theorem T.k103 : callable Tryd.prog 103 = true := by kernel_rfl
theorem T.k104 : callable Tryd.prog 104 = true := by kernel_rfl
theorem T.k105 : callable Tryd.prog 105 = true := by kernel_rfl
theorem T.k106 : callable Tryd.prog 106 = true := by kernel_rfl
theorem T.k107 : callable Tryd.prog 107 = true := by kernel_rfl
theorem T.k108 : callable Tryd.prog 108 = true := by kernel_rfl
theorem T.k109 : callable Tryd.prog 109 = true := by kernel_rfl
theorem T.k110 : callable Tryd.prog 110 = true := by kernel_rfl
theorem T.k111 : callable Tryd.prog 111 = true := by kernel_rfl
theorem T.k112 : callable Tryd.prog 112 = true := by kernel_rfl
theorem T.k113 : callable Tryd.prog 113 = true := by kernel_rfl
theorem T.k114 : callable Tryd.prog 114 = true := by kernel_rfl
theorem T.k115 : callable Tryd.prog 115 = true := by kernel_rfl
theorem T.k116 : callable Tryd.prog 116 = true := by kernel_rfl
theorem T.k117 : callable Tryd.prog 117 = true := by kernel_rfl
theorem T.k118 : callable Tryd.prog 118 = true := by kernel_rfl
theorem T.k119 : callable Tryd.prog 119 = true := by kernel_rfl
theorem T.k120 : callable Tryd.prog 120 = true := by kernel_rfl
theorem T.k121 : callable Tryd.prog 121 = true := by kernel_rfl
theorem T.k122 : callable Tryd.prog 122 = true := by kernel_rfl
theorem T.k123 : callable Tryd.prog 123 = true := by kernel_rfl
theorem T.k124 : callable Tryd.prog 124 = true := by kernel_rfl
theorem T.k125 : callable Tryd.prog 125 = true := by kernel_rfl
theorem T.k126 : callable Tryd.prog 126 = true := by kernel_rfl
theorem T.k127 : callable Tryd.prog 127 = true := by kernel_rfl
theorem T.k128 : callable Tryd.prog 128 = true := by kernel_rfl
theorem T.k129 : callable Tryd.prog 129 = true := by kernel_rfl
theorem T.k130 : callable Tryd.prog 130 = true := by kernel_rfl
theorem T.k131 : callable Tryd.prog 131 = true := by kernel_rfl
theorem T.k132 : callable Tryd.prog 132 = true := by kernel_rfl
theorem T.k133 : callable Tryd.prog 133 = true := by kernel_rfl
theorem T.k134 : callable Tryd.prog 134 = true := by kernel_rfl
theorem T.k135 : callable Tryd.prog 135 = true := by kernel_rfl
theorem T.k136 : callable Tryd.prog 136 = true := by kernel_rfl
theorem T.k137 : callable Tryd.prog 137 = true := by kernel_rfl
theorem T.k138 : callable Tryd.prog 138 = true := by kernel_rfl
theorem T.k139 : callable Tryd.prog 139 = true := by kernel_rfl
theorem T.k140 : callable Tryd.prog 140 = true := by kernel_rfl
theorem T.k141 : callable Tryd.prog 141 = true := by kernel_rfl
theorem T.k142 : callable Tryd.prog 142 = true := by kernel_rfl
theorem T.k143 : callable Tryd.prog 143 = true := by kernel_rfl
theorem T.k144 : callable Tryd.prog 144 = true := by kernel_rfl
theorem T.k145 : callable Tryd.prog 145 = true := by kernel_rfl
theorem T.k146 : callable Tryd.prog 146 = true := by kernel_rfl
theorem T.k147 : callable Tryd.prog 147 = true := by kernel_rfl
theorem T.k148 : callable Tryd.prog 148 = true := by kernel_rfl
theorem T.k149 : callable Tryd.prog 149 = true := by kernel_rfl
theorem T.k150 : callable Tryd.prog 150 = true := by kernel_rfl
theorem T.k151 : callable Tryd.prog 151 = true := by kernel_rfl
theorem T.k152 : callable Tryd.prog 152 = true := by kernel_rfl
theorem T.k153 : callable Tryd.prog 153 = true := by kernel_rfl
theorem T.k154 : callable Tryd.prog 154 = true := by kernel_rfl
theorem T.k155 : callable Tryd.prog 155 = true := by kernel_rfl
theorem T.k156 : callable Tryd.prog 156 = true := by kernel_rfl
theorem T.k157 : callable Tryd.prog 157 = true := by kernel_rfl
theorem T.k158 : callable Tryd.prog 158 = true := by kernel_rfl
theorem T.k159 : callable Tryd.prog 159 = true := by kernel_rfl
theorem T.k160 : callable Tryd.prog 160 = true := by kernel_rfl
theorem T.k161 : callable Tryd.prog 161 = true := by kernel_rfl
theorem T.k162 : callable Tryd.prog 162 = true := by kernel_rfl
theorem T.k163 : callable Tryd.prog 163 = true := by kernel_rfl
theorem T.k164 : callable Tryd.prog 164 = true := by kernel_rfl
theorem T.k165 : callable Tryd.prog 165 = true := by kernel_rfl
theorem T.k166 : callable Tryd.prog 166 = true := by kernel_rfl
theorem T.k167 : callable Tryd.prog 167 = true := by kernel_rfl
theorem T.k168 : callable Tryd.prog 168 = true := by kernel_rfl
theorem T.k169 : callable Tryd.prog 169 = true := by kernel_rfl
theorem T.k170 : callable Tryd.prog 170 = true := by kernel_rfl
theorem T.mixed : Tryd.prog.follows .mixedOrders = true := by kernel_rfl
end Go.Proofs.YtpakgjmcaefnmaaDoor

