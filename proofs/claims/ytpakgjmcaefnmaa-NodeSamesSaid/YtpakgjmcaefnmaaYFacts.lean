/- Closed facts of the loaded program: sizes, types, fields and functions; no condition. -/
import Derived.Test.YtpakgjmcaefnmaaProg
import Derived.Test.YtpakgjmcaefnmaaAMp4
set_option linter.unusedSimpArgs false
set_option linter.unusedVariables false
set_option autoImplicit false
namespace Go.Proofs.Ytpakgjmcaefnmaa
open Go Go.AM Go.Proofs
theorem T.c2 : Try.prog.cellsOf 2 = 1 := by kernel_rfl
theorem T.b2 : Try.prog.bytesOf 2 = 8 := by kernel_rfl
theorem T.g2 : isAggT Try.prog 2 = some false := by kernel_rfl
theorem T.z2 : zcells Try.prog 2 = some [.v (.int .i64 0)] := by kernel_rfl
theorem T.c3 : Try.prog.cellsOf 3 = 1 := by kernel_rfl
theorem T.b3 : Try.prog.bytesOf 3 = 8 := by kernel_rfl
theorem T.g3 : isAggT Try.prog 3 = some false := by kernel_rfl
theorem T.z3 : zcells Try.prog 3 = some [.v (.int .i64 0)] := by kernel_rfl
theorem T.c4 : Try.prog.cellsOf 4 = 1 := by kernel_rfl
theorem T.b4 : Try.prog.bytesOf 4 = 1 := by kernel_rfl
theorem T.g4 : isAggT Try.prog 4 = some false := by kernel_rfl
theorem T.z4 : zcells Try.prog 4 = some [.v (.bool false)] := by kernel_rfl
theorem T.c5 : Try.prog.cellsOf 5 = 1 := by kernel_rfl
theorem T.b5 : Try.prog.bytesOf 5 = 1 := by kernel_rfl
theorem T.g5 : isAggT Try.prog 5 = some false := by kernel_rfl
theorem T.z5 : zcells Try.prog 5 = some [.v (.int .u8 0)] := by kernel_rfl
theorem T.c6 : Try.prog.cellsOf 6 = 1 := by kernel_rfl
theorem T.b6 : Try.prog.bytesOf 6 = 1 := by kernel_rfl
theorem T.g6 : isAggT Try.prog 6 = some false := by kernel_rfl
theorem T.z6 : zcells Try.prog 6 = some [.v (.int .u8 0)] := by kernel_rfl
theorem T.c7 : Try.prog.cellsOf 7 = 4 := by kernel_rfl
theorem T.b7 : Try.prog.bytesOf 7 = 24 := by kernel_rfl
theorem T.g7 : isAggT Try.prog 7 = some true := by kernel_rfl
theorem T.h7 : fieldsOk Try.prog 7 = true := by kernel_rfl
theorem T.f7_0 : fieldOf Try.prog 7 0 = some (0, 2) := by kernel_rfl
theorem T.f7_1 : fieldOf Try.prog 7 1 = some (1, 3) := by kernel_rfl
theorem T.f7_2 : fieldOf Try.prog 7 2 = some (2, 4) := by kernel_rfl
theorem T.f7_3 : fieldOf Try.prog 7 3 = some (3, 6) := by kernel_rfl
theorem T.z7 : zcells Try.prog 7 = some [.v (.int .i64 0), .v (.int .i64 0), .v (.bool false), .v (.int .u8 0)] := by kernel_rfl
theorem T.c8 : Try.prog.cellsOf 8 = 4 := by kernel_rfl
theorem T.b8 : Try.prog.bytesOf 8 = 24 := by kernel_rfl
theorem T.g8 : isAggT Try.prog 8 = some true := by kernel_rfl
theorem T.h8 : fieldsOk Try.prog 8 = true := by kernel_rfl
theorem T.f8_0 : fieldOf Try.prog 8 0 = some (0, 2) := by kernel_rfl
theorem T.f8_1 : fieldOf Try.prog 8 1 = some (1, 3) := by kernel_rfl
theorem T.f8_2 : fieldOf Try.prog 8 2 = some (2, 4) := by kernel_rfl
theorem T.f8_3 : fieldOf Try.prog 8 3 = some (3, 6) := by kernel_rfl
theorem T.z8 : zcells Try.prog 8 = some [.v (.int .i64 0), .v (.int .i64 0), .v (.bool false), .v (.int .u8 0)] := by kernel_rfl
theorem T.c9 : Try.prog.cellsOf 9 = 1 := by kernel_rfl
theorem T.b9 : Try.prog.bytesOf 9 = 16 := by kernel_rfl
theorem T.g9 : isAggT Try.prog 9 = some false := by kernel_rfl
theorem T.z9 : zcells Try.prog 9 = some [.v (.string ByteArray.empty)] := by kernel_rfl
theorem T.c10 : Try.prog.cellsOf 10 = 1 := by kernel_rfl
theorem T.b10 : Try.prog.bytesOf 10 = 16 := by kernel_rfl
theorem T.g10 : isAggT Try.prog 10 = some false := by kernel_rfl
theorem T.z10 : zcells Try.prog 10 = some [.v (.string ByteArray.empty)] := by kernel_rfl
theorem T.c11 : Try.prog.cellsOf 11 = 1 := by kernel_rfl
theorem T.b11 : Try.prog.bytesOf 11 = 16 := by kernel_rfl
theorem T.g11 : isAggT Try.prog 11 = some false := by kernel_rfl
theorem T.z11 : zcells Try.prog 11 = some [.v (.string ByteArray.empty)] := by kernel_rfl
theorem T.c12 : Try.prog.cellsOf 12 = 1 := by kernel_rfl
theorem T.b12 : Try.prog.bytesOf 12 = 8 := by kernel_rfl
theorem T.g12 : isAggT Try.prog 12 = some false := by kernel_rfl
theorem T.z12 : zcells Try.prog 12 = some [.v (.int .u64 0)] := by kernel_rfl
theorem T.c13 : Try.prog.cellsOf 13 = 2 := by kernel_rfl
theorem T.b13 : Try.prog.bytesOf 13 = 24 := by kernel_rfl
theorem T.g13 : isAggT Try.prog 13 = some true := by kernel_rfl
theorem T.h13 : fieldsOk Try.prog 13 = true := by kernel_rfl
theorem T.f13_0 : fieldOf Try.prog 13 0 = some (0, 9) := by kernel_rfl
theorem T.f13_1 : fieldOf Try.prog 13 1 = some (1, 12) := by kernel_rfl
theorem T.z13 : zcells Try.prog 13 = some [.v (.string ByteArray.empty), .v (.int .u64 0)] := by kernel_rfl
theorem T.c14 : Try.prog.cellsOf 14 = 2 := by kernel_rfl
theorem T.b14 : Try.prog.bytesOf 14 = 24 := by kernel_rfl
theorem T.g14 : isAggT Try.prog 14 = some true := by kernel_rfl
theorem T.h14 : fieldsOk Try.prog 14 = true := by kernel_rfl
theorem T.f14_0 : fieldOf Try.prog 14 0 = some (0, 9) := by kernel_rfl
theorem T.f14_1 : fieldOf Try.prog 14 1 = some (1, 12) := by kernel_rfl
theorem T.z14 : zcells Try.prog 14 = some [.v (.string ByteArray.empty), .v (.int .u64 0)] := by kernel_rfl
theorem T.c15 : Try.prog.cellsOf 15 = 1 := by kernel_rfl
theorem T.b15 : Try.prog.bytesOf 15 = 8 := by kernel_rfl
theorem T.g15 : isAggT Try.prog 15 = some false := by kernel_rfl
theorem T.z15 : zcells Try.prog 15 = some [.v (.pointer none)] := by kernel_rfl
theorem T.p15 : isPtrT Try.prog 15 = true := by kernel_rfl
theorem T.c16 : Try.prog.cellsOf 16 = 1 := by kernel_rfl
theorem T.b16 : Try.prog.bytesOf 16 = 8 := by kernel_rfl
theorem T.g16 : isAggT Try.prog 16 = some false := by kernel_rfl
theorem T.z16 : zcells Try.prog 16 = some [.v (.pointer none)] := by kernel_rfl
theorem T.p16 : isPtrT Try.prog 16 = true := by kernel_rfl
theorem T.c17 : Try.prog.cellsOf 17 = 1 := by kernel_rfl
theorem T.b17 : Try.prog.bytesOf 17 = 8 := by kernel_rfl
theorem T.g17 : isAggT Try.prog 17 = some false := by kernel_rfl
theorem T.z17 : zcells Try.prog 17 = some [.v (.pointer none)] := by kernel_rfl
theorem T.p17 : isPtrT Try.prog 17 = true := by kernel_rfl
theorem T.c18 : Try.prog.cellsOf 18 = 1 := by kernel_rfl
theorem T.b18 : Try.prog.bytesOf 18 = 8 := by kernel_rfl
theorem T.g18 : isAggT Try.prog 18 = some true := by kernel_rfl
theorem T.h18 : fieldsOk Try.prog 18 = true := by kernel_rfl
theorem T.f18_0 : fieldOf Try.prog 18 0 = some (0, 17) := by kernel_rfl
theorem T.z18 : zcells Try.prog 18 = some [.v (.pointer none)] := by kernel_rfl
theorem T.c19 : Try.prog.cellsOf 19 = 1 := by kernel_rfl
theorem T.b19 : Try.prog.bytesOf 19 = 8 := by kernel_rfl
theorem T.g19 : isAggT Try.prog 19 = some true := by kernel_rfl
theorem T.h19 : fieldsOk Try.prog 19 = true := by kernel_rfl
theorem T.f19_0 : fieldOf Try.prog 19 0 = some (0, 17) := by kernel_rfl
theorem T.z19 : zcells Try.prog 19 = some [.v (.pointer none)] := by kernel_rfl
theorem T.c20 : Try.prog.cellsOf 20 = 1 := by kernel_rfl
theorem T.b20 : Try.prog.bytesOf 20 = 16 := by kernel_rfl
theorem T.g20 : isAggT Try.prog 20 = some false := by kernel_rfl
theorem T.z20 : zcells Try.prog 20 = some [.v (.nilIface)] := by kernel_rfl
theorem T.c21 : Try.prog.cellsOf 21 = 1 := by kernel_rfl
theorem T.b21 : Try.prog.bytesOf 21 = 4 := by kernel_rfl
theorem T.g21 : isAggT Try.prog 21 = some false := by kernel_rfl
theorem T.z21 : zcells Try.prog 21 = some [.v (.int .i32 0)] := by kernel_rfl
theorem T.c22 : Try.prog.cellsOf 22 = 1 := by kernel_rfl
theorem T.b22 : Try.prog.bytesOf 22 = 24 := by kernel_rfl
theorem T.g22 : isAggT Try.prog 22 = some false := by kernel_rfl
theorem T.z22 : zcells Try.prog 22 = some [.v (.slice none 0 0)] := by kernel_rfl
theorem T.s22 : isSliceT Try.prog 22 = true := by kernel_rfl
theorem T.c25 : Try.prog.cellsOf 25 = 1 := by kernel_rfl
theorem T.b25 : Try.prog.bytesOf 25 = 4 := by kernel_rfl
theorem T.g25 : isAggT Try.prog 25 = some false := by kernel_rfl
theorem T.z25 : zcells Try.prog 25 = some [.v (.int .u32 0)] := by kernel_rfl
theorem T.c29 : Try.prog.cellsOf 29 = 1 := by kernel_rfl
theorem T.b29 : Try.prog.bytesOf 29 = 24 := by kernel_rfl
theorem T.g29 : isAggT Try.prog 29 = some false := by kernel_rfl
theorem T.z29 : zcells Try.prog 29 = some [.v (.slice none 0 0)] := by kernel_rfl
theorem T.s29 : isSliceT Try.prog 29 = true := by kernel_rfl
theorem T.c31 : Try.prog.cellsOf 31 = 1 := by kernel_rfl
theorem T.b31 : Try.prog.bytesOf 31 = 8 := by kernel_rfl
theorem T.g31 : isAggT Try.prog 31 = some false := by kernel_rfl
theorem T.z31 : zcells Try.prog 31 = some [.v (.pointer none)] := by kernel_rfl
theorem T.p31 : isPtrT Try.prog 31 = true := by kernel_rfl
theorem T.c33 : Try.prog.cellsOf 33 = 3 := by kernel_rfl
theorem T.b33 : Try.prog.bytesOf 33 = 40 := by kernel_rfl
theorem T.g33 : isAggT Try.prog 33 = some true := by kernel_rfl
theorem T.h33 : fieldsOk Try.prog 33 = true := by kernel_rfl
theorem T.f33_0 : fieldOf Try.prog 33 0 = some (0, 3) := by kernel_rfl
theorem T.f33_1 : fieldOf Try.prog 33 1 = some (1, 3) := by kernel_rfl
theorem T.f33_2 : fieldOf Try.prog 33 2 = some (2, 22) := by kernel_rfl
theorem T.z33 : zcells Try.prog 33 = some [.v (.int .i64 0), .v (.int .i64 0), .v (.slice none 0 0)] := by kernel_rfl
theorem T.c34 : Try.prog.cellsOf 34 = 3 := by kernel_rfl
theorem T.b34 : Try.prog.bytesOf 34 = 40 := by kernel_rfl
theorem T.g34 : isAggT Try.prog 34 = some true := by kernel_rfl
theorem T.h34 : fieldsOk Try.prog 34 = true := by kernel_rfl
theorem T.f34_0 : fieldOf Try.prog 34 0 = some (0, 3) := by kernel_rfl
theorem T.f34_1 : fieldOf Try.prog 34 1 = some (1, 3) := by kernel_rfl
theorem T.f34_2 : fieldOf Try.prog 34 2 = some (2, 22) := by kernel_rfl
theorem T.z34 : zcells Try.prog 34 = some [.v (.int .i64 0), .v (.int .i64 0), .v (.slice none 0 0)] := by kernel_rfl
theorem T.c37 : Try.prog.cellsOf 37 = 1 := by kernel_rfl
theorem T.b37 : Try.prog.bytesOf 37 = 8 := by kernel_rfl
theorem T.g37 : isAggT Try.prog 37 = some false := by kernel_rfl
theorem T.z37 : zcells Try.prog 37 = some [.v (.int .u64 0)] := by kernel_rfl
theorem T.c49 : Try.prog.cellsOf 49 = 1 := by kernel_rfl
theorem T.b49 : Try.prog.bytesOf 49 = 24 := by kernel_rfl
theorem T.g49 : isAggT Try.prog 49 = some false := by kernel_rfl
theorem T.z49 : zcells Try.prog 49 = some [.v (.slice none 0 0)] := by kernel_rfl
theorem T.s49 : isSliceT Try.prog 49 = true := by kernel_rfl
theorem T.c51 : Try.prog.cellsOf 51 = 1 := by kernel_rfl
theorem T.b51 : Try.prog.bytesOf 51 = 8 := by kernel_rfl
theorem T.g51 : isAggT Try.prog 51 = some false := by kernel_rfl
theorem T.z51 : zcells Try.prog 51 = some [.v (.pointer none)] := by kernel_rfl
theorem T.p51 : isPtrT Try.prog 51 = true := by kernel_rfl
theorem T.c54 : Try.prog.cellsOf 54 = 9 := by kernel_rfl
theorem T.b54 : Try.prog.bytesOf 54 = 152 := by kernel_rfl
theorem T.g54 : isAggT Try.prog 54 = some true := by kernel_rfl
theorem T.h54 : fieldsOk Try.prog 54 = true := by kernel_rfl
theorem T.f54_0 : fieldOf Try.prog 54 0 = some (0, 3) := by kernel_rfl
theorem T.f54_1 : fieldOf Try.prog 54 1 = some (1, 22) := by kernel_rfl
theorem T.f54_2 : fieldOf Try.prog 54 2 = some (2, 3) := by kernel_rfl
theorem T.f54_3 : fieldOf Try.prog 54 3 = some (3, 3) := by kernel_rfl
theorem T.f54_4 : fieldOf Try.prog 54 4 = some (4, 3) := by kernel_rfl
theorem T.f54_5 : fieldOf Try.prog 54 5 = some (5, 22) := by kernel_rfl
theorem T.f54_6 : fieldOf Try.prog 54 6 = some (6, 22) := by kernel_rfl
theorem T.f54_7 : fieldOf Try.prog 54 7 = some (7, 22) := by kernel_rfl
theorem T.f54_8 : fieldOf Try.prog 54 8 = some (8, 22) := by kernel_rfl
theorem T.z54 : zcells Try.prog 54 = some [.v (.int .i64 0), .v (.slice none 0 0), .v (.int .i64 0), .v (.int .i64 0), .v (.int .i64 0), .v (.slice none 0 0), .v (.slice none 0 0), .v (.slice none 0 0), .v (.slice none 0 0)] := by kernel_rfl
theorem T.c55 : Try.prog.cellsOf 55 = 9 := by kernel_rfl
theorem T.b55 : Try.prog.bytesOf 55 = 152 := by kernel_rfl
theorem T.g55 : isAggT Try.prog 55 = some true := by kernel_rfl
theorem T.h55 : fieldsOk Try.prog 55 = true := by kernel_rfl
theorem T.f55_0 : fieldOf Try.prog 55 0 = some (0, 3) := by kernel_rfl
theorem T.f55_1 : fieldOf Try.prog 55 1 = some (1, 22) := by kernel_rfl
theorem T.f55_2 : fieldOf Try.prog 55 2 = some (2, 3) := by kernel_rfl
theorem T.f55_3 : fieldOf Try.prog 55 3 = some (3, 3) := by kernel_rfl
theorem T.f55_4 : fieldOf Try.prog 55 4 = some (4, 3) := by kernel_rfl
theorem T.f55_5 : fieldOf Try.prog 55 5 = some (5, 22) := by kernel_rfl
theorem T.f55_6 : fieldOf Try.prog 55 6 = some (6, 22) := by kernel_rfl
theorem T.f55_7 : fieldOf Try.prog 55 7 = some (7, 22) := by kernel_rfl
theorem T.f55_8 : fieldOf Try.prog 55 8 = some (8, 22) := by kernel_rfl
theorem T.z55 : zcells Try.prog 55 = some [.v (.int .i64 0), .v (.slice none 0 0), .v (.int .i64 0), .v (.int .i64 0), .v (.int .i64 0), .v (.slice none 0 0), .v (.slice none 0 0), .v (.slice none 0 0), .v (.slice none 0 0)] := by kernel_rfl
theorem T.c57 : Try.prog.cellsOf 57 = 1 := by kernel_rfl
theorem T.b57 : Try.prog.bytesOf 57 = 8 := by kernel_rfl
theorem T.g57 : isAggT Try.prog 57 = some false := by kernel_rfl
theorem T.z57 : zcells Try.prog 57 = some [.v (.int .i64 0)] := by kernel_rfl
theorem T.c59 : Try.prog.cellsOf 59 = 1 := by kernel_rfl
theorem T.b59 : Try.prog.bytesOf 59 = 24 := by kernel_rfl
theorem T.g59 : isAggT Try.prog 59 = some false := by kernel_rfl
theorem T.z59 : zcells Try.prog 59 = some [.v (.slice none 0 0)] := by kernel_rfl
theorem T.s59 : isSliceT Try.prog 59 = true := by kernel_rfl
theorem T.c61 : Try.prog.cellsOf 61 = 1 := by kernel_rfl
theorem T.b61 : Try.prog.bytesOf 61 = 24 := by kernel_rfl
theorem T.g61 : isAggT Try.prog 61 = some false := by kernel_rfl
theorem T.z61 : zcells Try.prog 61 = some [.v (.slice none 0 0)] := by kernel_rfl
theorem T.s61 : isSliceT Try.prog 61 = true := by kernel_rfl
theorem T.c63 : Try.prog.cellsOf 63 = 5 := by kernel_rfl
theorem T.b63 : Try.prog.bytesOf 63 = 40 := by kernel_rfl
theorem T.g63 : isAggT Try.prog 63 = some true := by kernel_rfl
theorem T.h63 : fieldsOk Try.prog 63 = true := by kernel_rfl
theorem T.f63_0 : fieldOf Try.prog 63 0 = some (0, 3) := by kernel_rfl
theorem T.f63_1 : fieldOf Try.prog 63 1 = some (1, 3) := by kernel_rfl
theorem T.f63_2 : fieldOf Try.prog 63 2 = some (2, 3) := by kernel_rfl
theorem T.f63_3 : fieldOf Try.prog 63 3 = some (3, 3) := by kernel_rfl
theorem T.f63_4 : fieldOf Try.prog 63 4 = some (4, 3) := by kernel_rfl
theorem T.z63 : zcells Try.prog 63 = some [.v (.int .i64 0), .v (.int .i64 0), .v (.int .i64 0), .v (.int .i64 0), .v (.int .i64 0)] := by kernel_rfl
theorem T.c64 : Try.prog.cellsOf 64 = 5 := by kernel_rfl
theorem T.b64 : Try.prog.bytesOf 64 = 40 := by kernel_rfl
theorem T.g64 : isAggT Try.prog 64 = some true := by kernel_rfl
theorem T.h64 : fieldsOk Try.prog 64 = true := by kernel_rfl
theorem T.f64_0 : fieldOf Try.prog 64 0 = some (0, 3) := by kernel_rfl
theorem T.f64_1 : fieldOf Try.prog 64 1 = some (1, 3) := by kernel_rfl
theorem T.f64_2 : fieldOf Try.prog 64 2 = some (2, 3) := by kernel_rfl
theorem T.f64_3 : fieldOf Try.prog 64 3 = some (3, 3) := by kernel_rfl
theorem T.f64_4 : fieldOf Try.prog 64 4 = some (4, 3) := by kernel_rfl
theorem T.z64 : zcells Try.prog 64 = some [.v (.int .i64 0), .v (.int .i64 0), .v (.int .i64 0), .v (.int .i64 0), .v (.int .i64 0)] := by kernel_rfl
theorem T.c72 : Try.prog.cellsOf 72 = 1 := by kernel_rfl
theorem T.b72 : Try.prog.bytesOf 72 = 8 := by kernel_rfl
theorem T.g72 : isAggT Try.prog 72 = some false := by kernel_rfl
theorem T.z72 : zcells Try.prog 72 = some [.v (.pointer none)] := by kernel_rfl
theorem T.p72 : isPtrT Try.prog 72 = true := by kernel_rfl
theorem T.c77 : Try.prog.cellsOf 77 = 1 := by kernel_rfl
theorem T.b77 : Try.prog.bytesOf 77 = 2 := by kernel_rfl
theorem T.g77 : isAggT Try.prog 77 = some false := by kernel_rfl
theorem T.z77 : zcells Try.prog 77 = some [.v (.int .u16 0)] := by kernel_rfl
theorem T.c79 : Try.prog.cellsOf 79 = 1 := by kernel_rfl
theorem T.b79 : Try.prog.bytesOf 79 = 8 := by kernel_rfl
theorem T.g79 : isAggT Try.prog 79 = some false := by kernel_rfl
theorem T.z79 : zcells Try.prog 79 = some [.v (.pointer none)] := by kernel_rfl
theorem T.p79 : isPtrT Try.prog 79 = true := by kernel_rfl
theorem T.c80 : Try.prog.cellsOf 80 = 2 := by kernel_rfl
theorem T.b80 : Try.prog.bytesOf 80 = 24 := by kernel_rfl
theorem T.g80 : isAggT Try.prog 80 = some true := by kernel_rfl
theorem T.h80 : fieldsOk Try.prog 80 = true := by kernel_rfl
theorem T.f80_0 : fieldOf Try.prog 80 0 = some (0, 9) := by kernel_rfl
theorem T.f80_1 : fieldOf Try.prog 80 1 = some (1, 3) := by kernel_rfl
theorem T.z80 : zcells Try.prog 80 = some [.v (.string ByteArray.empty), .v (.int .i64 0)] := by kernel_rfl
theorem T.c81 : Try.prog.cellsOf 81 = 2 := by kernel_rfl
theorem T.b81 : Try.prog.bytesOf 81 = 24 := by kernel_rfl
theorem T.g81 : isAggT Try.prog 81 = some true := by kernel_rfl
theorem T.h81 : fieldsOk Try.prog 81 = true := by kernel_rfl
theorem T.f81_0 : fieldOf Try.prog 81 0 = some (0, 9) := by kernel_rfl
theorem T.f81_1 : fieldOf Try.prog 81 1 = some (1, 3) := by kernel_rfl
theorem T.z81 : zcells Try.prog 81 = some [.v (.string ByteArray.empty), .v (.int .i64 0)] := by kernel_rfl
theorem T.c87 : Try.prog.cellsOf 87 = 1 := by kernel_rfl
theorem T.b87 : Try.prog.bytesOf 87 = 24 := by kernel_rfl
theorem T.g87 : isAggT Try.prog 87 = some false := by kernel_rfl
theorem T.z87 : zcells Try.prog 87 = some [.v (.slice none 0 0)] := by kernel_rfl
theorem T.s87 : isSliceT Try.prog 87 = true := by kernel_rfl
theorem T.c88 : Try.prog.cellsOf 88 = 5 := by kernel_rfl
theorem T.b88 : Try.prog.bytesOf 88 = 88 := by kernel_rfl
theorem T.g88 : isAggT Try.prog 88 = some true := by kernel_rfl
theorem T.h88 : fieldsOk Try.prog 88 = true := by kernel_rfl
theorem T.f88_0 : fieldOf Try.prog 88 0 = some (0, 3) := by kernel_rfl
theorem T.f88_1 : fieldOf Try.prog 88 1 = some (1, 22) := by kernel_rfl
theorem T.f88_2 : fieldOf Try.prog 88 2 = some (2, 37) := by kernel_rfl
theorem T.f88_3 : fieldOf Try.prog 88 3 = some (3, 22) := by kernel_rfl
theorem T.f88_4 : fieldOf Try.prog 88 4 = some (4, 87) := by kernel_rfl
theorem T.z88 : zcells Try.prog 88 = some [.v (.int .i64 0), .v (.slice none 0 0), .v (.int .u64 0), .v (.slice none 0 0), .v (.slice none 0 0)] := by kernel_rfl
theorem T.c89 : Try.prog.cellsOf 89 = 5 := by kernel_rfl
theorem T.b89 : Try.prog.bytesOf 89 = 88 := by kernel_rfl
theorem T.g89 : isAggT Try.prog 89 = some true := by kernel_rfl
theorem T.h89 : fieldsOk Try.prog 89 = true := by kernel_rfl
theorem T.f89_0 : fieldOf Try.prog 89 0 = some (0, 3) := by kernel_rfl
theorem T.f89_1 : fieldOf Try.prog 89 1 = some (1, 22) := by kernel_rfl
theorem T.f89_2 : fieldOf Try.prog 89 2 = some (2, 37) := by kernel_rfl
theorem T.f89_3 : fieldOf Try.prog 89 3 = some (3, 22) := by kernel_rfl
theorem T.f89_4 : fieldOf Try.prog 89 4 = some (4, 87) := by kernel_rfl
theorem T.z89 : zcells Try.prog 89 = some [.v (.int .i64 0), .v (.slice none 0 0), .v (.int .u64 0), .v (.slice none 0 0), .v (.slice none 0 0)] := by kernel_rfl
theorem T.c105 : Try.prog.cellsOf 105 = 5 := by kernel_rfl
theorem T.b105 : Try.prog.bytesOf 105 = 56 := by kernel_rfl
theorem T.g105 : isAggT Try.prog 105 = some true := by kernel_rfl
theorem T.h105 : fieldsOk Try.prog 105 = true := by kernel_rfl
theorem T.f105_0 : fieldOf Try.prog 105 0 = some (0, 3) := by kernel_rfl
theorem T.f105_1 : fieldOf Try.prog 105 1 = some (1, 3) := by kernel_rfl
theorem T.f105_2 : fieldOf Try.prog 105 2 = some (2, 22) := by kernel_rfl
theorem T.f105_3 : fieldOf Try.prog 105 3 = some (3, 37) := by kernel_rfl
theorem T.f105_4 : fieldOf Try.prog 105 4 = some (4, 37) := by kernel_rfl
theorem T.z105 : zcells Try.prog 105 = some [.v (.int .i64 0), .v (.int .i64 0), .v (.slice none 0 0), .v (.int .u64 0), .v (.int .u64 0)] := by kernel_rfl
theorem T.c106 : Try.prog.cellsOf 106 = 5 := by kernel_rfl
theorem T.b106 : Try.prog.bytesOf 106 = 56 := by kernel_rfl
theorem T.g106 : isAggT Try.prog 106 = some true := by kernel_rfl
theorem T.h106 : fieldsOk Try.prog 106 = true := by kernel_rfl
theorem T.f106_0 : fieldOf Try.prog 106 0 = some (0, 3) := by kernel_rfl
theorem T.f106_1 : fieldOf Try.prog 106 1 = some (1, 3) := by kernel_rfl
theorem T.f106_2 : fieldOf Try.prog 106 2 = some (2, 22) := by kernel_rfl
theorem T.f106_3 : fieldOf Try.prog 106 3 = some (3, 37) := by kernel_rfl
theorem T.f106_4 : fieldOf Try.prog 106 4 = some (4, 37) := by kernel_rfl
theorem T.z106 : zcells Try.prog 106 = some [.v (.int .i64 0), .v (.int .i64 0), .v (.slice none 0 0), .v (.int .u64 0), .v (.int .u64 0)] := by kernel_rfl
theorem T.c107 : Try.prog.cellsOf 107 = 1 := by kernel_rfl
theorem T.b107 : Try.prog.bytesOf 107 = 24 := by kernel_rfl
theorem T.g107 : isAggT Try.prog 107 = some false := by kernel_rfl
theorem T.z107 : zcells Try.prog 107 = some [.v (.slice none 0 0)] := by kernel_rfl
theorem T.s107 : isSliceT Try.prog 107 = true := by kernel_rfl
theorem T.c108 : Try.prog.cellsOf 108 = 1 := by kernel_rfl
theorem T.b108 : Try.prog.bytesOf 108 = 24 := by kernel_rfl
theorem T.g108 : isAggT Try.prog 108 = some false := by kernel_rfl
theorem T.z108 : zcells Try.prog 108 = some [.v (.slice none 0 0)] := by kernel_rfl
theorem T.s108 : isSliceT Try.prog 108 = true := by kernel_rfl
theorem T.c109 : Try.prog.cellsOf 109 = 3 := by kernel_rfl
theorem T.b109 : Try.prog.bytesOf 109 = 56 := by kernel_rfl
theorem T.g109 : isAggT Try.prog 109 = some true := by kernel_rfl
theorem T.h109 : fieldsOk Try.prog 109 = true := by kernel_rfl
theorem T.f109_0 : fieldOf Try.prog 109 0 = some (0, 37) := by kernel_rfl
theorem T.f109_1 : fieldOf Try.prog 109 1 = some (1, 22) := by kernel_rfl
theorem T.f109_2 : fieldOf Try.prog 109 2 = some (2, 108) := by kernel_rfl
theorem T.z109 : zcells Try.prog 109 = some [.v (.int .u64 0), .v (.slice none 0 0), .v (.slice none 0 0)] := by kernel_rfl
theorem T.c110 : Try.prog.cellsOf 110 = 3 := by kernel_rfl
theorem T.b110 : Try.prog.bytesOf 110 = 56 := by kernel_rfl
theorem T.g110 : isAggT Try.prog 110 = some true := by kernel_rfl
theorem T.h110 : fieldsOk Try.prog 110 = true := by kernel_rfl
theorem T.f110_0 : fieldOf Try.prog 110 0 = some (0, 37) := by kernel_rfl
theorem T.f110_1 : fieldOf Try.prog 110 1 = some (1, 22) := by kernel_rfl
theorem T.f110_2 : fieldOf Try.prog 110 2 = some (2, 108) := by kernel_rfl
theorem T.z110 : zcells Try.prog 110 = some [.v (.int .u64 0), .v (.slice none 0 0), .v (.slice none 0 0)] := by kernel_rfl
theorem T.c111 : Try.prog.cellsOf 111 = 10 := by kernel_rfl
theorem T.b111 : Try.prog.bytesOf 111 = 176 := by kernel_rfl
theorem T.g111 : isAggT Try.prog 111 = some true := by kernel_rfl
theorem T.h111 : fieldsOk Try.prog 111 = true := by kernel_rfl
theorem T.f111_0 : fieldOf Try.prog 111 0 = some (0, 22) := by kernel_rfl
theorem T.f111_1 : fieldOf Try.prog 111 1 = some (1, 3) := by kernel_rfl
theorem T.f111_2 : fieldOf Try.prog 111 2 = some (2, 3) := by kernel_rfl
theorem T.f111_3 : fieldOf Try.prog 111 3 = some (3, 107) := by kernel_rfl
theorem T.f111_4 : fieldOf Try.prog 111 4 = some (4, 4) := by kernel_rfl
theorem T.f111_5 : fieldOf Try.prog 111 5 = some (5, 110) := by kernel_rfl
theorem T.f111_6 : fieldOf Try.prog 111 6 = some (8, 22) := by kernel_rfl
theorem T.f111_7 : fieldOf Try.prog 111 7 = some (9, 22) := by kernel_rfl
theorem T.z111 : zcells Try.prog 111 = some [.v (.slice none 0 0), .v (.int .i64 0), .v (.int .i64 0), .v (.slice none 0 0), .v (.bool false), .v (.int .u64 0), .v (.slice none 0 0), .v (.slice none 0 0), .v (.slice none 0 0), .v (.slice none 0 0)] := by kernel_rfl
theorem T.c112 : Try.prog.cellsOf 112 = 10 := by kernel_rfl
theorem T.b112 : Try.prog.bytesOf 112 = 176 := by kernel_rfl
theorem T.g112 : isAggT Try.prog 112 = some true := by kernel_rfl
theorem T.h112 : fieldsOk Try.prog 112 = true := by kernel_rfl
theorem T.f112_0 : fieldOf Try.prog 112 0 = some (0, 22) := by kernel_rfl
theorem T.f112_1 : fieldOf Try.prog 112 1 = some (1, 3) := by kernel_rfl
theorem T.f112_2 : fieldOf Try.prog 112 2 = some (2, 3) := by kernel_rfl
theorem T.f112_3 : fieldOf Try.prog 112 3 = some (3, 107) := by kernel_rfl
theorem T.f112_4 : fieldOf Try.prog 112 4 = some (4, 4) := by kernel_rfl
theorem T.f112_5 : fieldOf Try.prog 112 5 = some (5, 110) := by kernel_rfl
theorem T.f112_6 : fieldOf Try.prog 112 6 = some (8, 22) := by kernel_rfl
theorem T.f112_7 : fieldOf Try.prog 112 7 = some (9, 22) := by kernel_rfl
theorem T.z112 : zcells Try.prog 112 = some [.v (.slice none 0 0), .v (.int .i64 0), .v (.int .i64 0), .v (.slice none 0 0), .v (.bool false), .v (.int .u64 0), .v (.slice none 0 0), .v (.slice none 0 0), .v (.slice none 0 0), .v (.slice none 0 0)] := by kernel_rfl
theorem T.c126 : Try.prog.cellsOf 126 = 1 := by kernel_rfl
theorem T.b126 : Try.prog.bytesOf 126 = 8 := by kernel_rfl
theorem T.g126 : isAggT Try.prog 126 = some false := by kernel_rfl
theorem T.z126 : zcells Try.prog 126 = some [.v (.int .u64 0)] := by kernel_rfl
theorem T.c127 : Try.prog.cellsOf 127 = 2 := by kernel_rfl
theorem T.b127 : Try.prog.bytesOf 127 = 32 := by kernel_rfl
theorem T.g127 : isAggT Try.prog 127 = some true := by kernel_rfl
theorem T.h127 : fieldsOk Try.prog 127 = true := by kernel_rfl
theorem T.f127_0 : fieldOf Try.prog 127 0 = some (0, 22) := by kernel_rfl
theorem T.f127_1 : fieldOf Try.prog 127 1 = some (1, 4) := by kernel_rfl
theorem T.z127 : zcells Try.prog 127 = some [.v (.slice none 0 0), .v (.bool false)] := by kernel_rfl
theorem T.c128 : Try.prog.cellsOf 128 = 2 := by kernel_rfl
theorem T.b128 : Try.prog.bytesOf 128 = 32 := by kernel_rfl
theorem T.g128 : isAggT Try.prog 128 = some true := by kernel_rfl
theorem T.h128 : fieldsOk Try.prog 128 = true := by kernel_rfl
theorem T.f128_0 : fieldOf Try.prog 128 0 = some (0, 22) := by kernel_rfl
theorem T.f128_1 : fieldOf Try.prog 128 1 = some (1, 4) := by kernel_rfl
theorem T.z128 : zcells Try.prog 128 = some [.v (.slice none 0 0), .v (.bool false)] := by kernel_rfl
theorem T.c136 : Try.prog.cellsOf 136 = 1 := by kernel_rfl
theorem T.b136 : Try.prog.bytesOf 136 = 8 := by kernel_rfl
theorem T.g136 : isAggT Try.prog 136 = some false := by kernel_rfl
theorem T.z136 : zcells Try.prog 136 = some [.v (.map none)] := by kernel_rfl
theorem T.c137 : Try.prog.cellsOf 137 = 1 := by kernel_rfl
theorem T.b137 : Try.prog.bytesOf 137 = 8 := by kernel_rfl
theorem T.g137 : isAggT Try.prog 137 = some false := by kernel_rfl
theorem T.z137 : zcells Try.prog 137 = some [.v (.map none)] := by kernel_rfl
theorem T.c138 : Try.prog.cellsOf 138 = 1 := by kernel_rfl
theorem T.b138 : Try.prog.bytesOf 138 = 24 := by kernel_rfl
theorem T.g138 : isAggT Try.prog 138 = some false := by kernel_rfl
theorem T.z138 : zcells Try.prog 138 = some [.v (.slice none 0 0)] := by kernel_rfl
theorem T.s138 : isSliceT Try.prog 138 = true := by kernel_rfl
theorem T.c139 : Try.prog.cellsOf 139 = 5 := by kernel_rfl
theorem T.b139 : Try.prog.bytesOf 139 = 56 := by kernel_rfl
theorem T.g139 : isAggT Try.prog 139 = some true := by kernel_rfl
theorem T.h139 : fieldsOk Try.prog 139 = true := by kernel_rfl
theorem T.f139_0 : fieldOf Try.prog 139 0 = some (0, 3) := by kernel_rfl
theorem T.f139_1 : fieldOf Try.prog 139 1 = some (1, 3) := by kernel_rfl
theorem T.f139_2 : fieldOf Try.prog 139 2 = some (2, 138) := by kernel_rfl
theorem T.f139_3 : fieldOf Try.prog 139 3 = some (3, 136) := by kernel_rfl
theorem T.f139_4 : fieldOf Try.prog 139 4 = some (4, 137) := by kernel_rfl
theorem T.z139 : zcells Try.prog 139 = some [.v (.int .i64 0), .v (.int .i64 0), .v (.slice none 0 0), .v (.map none), .v (.map none)] := by kernel_rfl
theorem T.c140 : Try.prog.cellsOf 140 = 5 := by kernel_rfl
theorem T.b140 : Try.prog.bytesOf 140 = 56 := by kernel_rfl
theorem T.g140 : isAggT Try.prog 140 = some true := by kernel_rfl
theorem T.h140 : fieldsOk Try.prog 140 = true := by kernel_rfl
theorem T.f140_0 : fieldOf Try.prog 140 0 = some (0, 3) := by kernel_rfl
theorem T.f140_1 : fieldOf Try.prog 140 1 = some (1, 3) := by kernel_rfl
theorem T.f140_2 : fieldOf Try.prog 140 2 = some (2, 138) := by kernel_rfl
theorem T.f140_3 : fieldOf Try.prog 140 3 = some (3, 136) := by kernel_rfl
theorem T.f140_4 : fieldOf Try.prog 140 4 = some (4, 137) := by kernel_rfl
theorem T.z140 : zcells Try.prog 140 = some [.v (.int .i64 0), .v (.int .i64 0), .v (.slice none 0 0), .v (.map none), .v (.map none)] := by kernel_rfl
theorem T.c142 : Try.prog.cellsOf 142 = 2 := by kernel_rfl
theorem T.b142 : Try.prog.bytesOf 142 = 32 := by kernel_rfl
theorem T.g142 : isAggT Try.prog 142 = some true := by kernel_rfl
theorem T.h142 : fieldsOk Try.prog 142 = true := by kernel_rfl
theorem T.f142_0 : fieldOf Try.prog 142 0 = some (0, 22) := by kernel_rfl
theorem T.f142_1 : fieldOf Try.prog 142 1 = some (1, 57) := by kernel_rfl
theorem T.z142 : zcells Try.prog 142 = some [.v (.slice none 0 0), .v (.int .i64 0)] := by kernel_rfl
theorem T.c143 : Try.prog.cellsOf 143 = 2 := by kernel_rfl
theorem T.b143 : Try.prog.bytesOf 143 = 32 := by kernel_rfl
theorem T.g143 : isAggT Try.prog 143 = some true := by kernel_rfl
theorem T.h143 : fieldsOk Try.prog 143 = true := by kernel_rfl
theorem T.f143_0 : fieldOf Try.prog 143 0 = some (0, 22) := by kernel_rfl
theorem T.f143_1 : fieldOf Try.prog 143 1 = some (1, 57) := by kernel_rfl
theorem T.z143 : zcells Try.prog 143 = some [.v (.slice none 0 0), .v (.int .i64 0)] := by kernel_rfl
theorem T.c151 : Try.prog.cellsOf 151 = 1 := by kernel_rfl
theorem T.b151 : Try.prog.bytesOf 151 = 24 := by kernel_rfl
theorem T.g151 : isAggT Try.prog 151 = some false := by kernel_rfl
theorem T.z151 : zcells Try.prog 151 = some [.v (.slice none 0 0)] := by kernel_rfl
theorem T.s151 : isSliceT Try.prog 151 = true := by kernel_rfl
theorem T.c152 : Try.prog.cellsOf 152 = 2 := by kernel_rfl
theorem T.b152 : Try.prog.bytesOf 152 = 32 := by kernel_rfl
theorem T.g152 : isAggT Try.prog 152 = some true := by kernel_rfl
theorem T.h152 : fieldsOk Try.prog 152 = true := by kernel_rfl
theorem T.f152_0 : fieldOf Try.prog 152 0 = some (0, 37) := by kernel_rfl
theorem T.f152_1 : fieldOf Try.prog 152 1 = some (1, 151) := by kernel_rfl
theorem T.z152 : zcells Try.prog 152 = some [.v (.int .u64 0), .v (.slice none 0 0)] := by kernel_rfl
theorem T.c153 : Try.prog.cellsOf 153 = 2 := by kernel_rfl
theorem T.b153 : Try.prog.bytesOf 153 = 32 := by kernel_rfl
theorem T.g153 : isAggT Try.prog 153 = some true := by kernel_rfl
theorem T.h153 : fieldsOk Try.prog 153 = true := by kernel_rfl
theorem T.f153_0 : fieldOf Try.prog 153 0 = some (0, 37) := by kernel_rfl
theorem T.f153_1 : fieldOf Try.prog 153 1 = some (1, 151) := by kernel_rfl
theorem T.z153 : zcells Try.prog 153 = some [.v (.int .u64 0), .v (.slice none 0 0)] := by kernel_rfl
theorem T.c154 : Try.prog.cellsOf 154 = 2 := by kernel_rfl
theorem T.b154 : Try.prog.bytesOf 154 = 32 := by kernel_rfl
theorem T.g154 : isAggT Try.prog 154 = some true := by kernel_rfl
theorem T.h154 : fieldsOk Try.prog 154 = true := by kernel_rfl
theorem T.f154_0 : fieldOf Try.prog 154 0 = some (0, 37) := by kernel_rfl
theorem T.f154_1 : fieldOf Try.prog 154 1 = some (1, 22) := by kernel_rfl
theorem T.z154 : zcells Try.prog 154 = some [.v (.int .u64 0), .v (.slice none 0 0)] := by kernel_rfl
theorem T.c155 : Try.prog.cellsOf 155 = 2 := by kernel_rfl
theorem T.b155 : Try.prog.bytesOf 155 = 32 := by kernel_rfl
theorem T.g155 : isAggT Try.prog 155 = some true := by kernel_rfl
theorem T.h155 : fieldsOk Try.prog 155 = true := by kernel_rfl
theorem T.f155_0 : fieldOf Try.prog 155 0 = some (0, 37) := by kernel_rfl
theorem T.f155_1 : fieldOf Try.prog 155 1 = some (1, 22) := by kernel_rfl
theorem T.z155 : zcells Try.prog 155 = some [.v (.int .u64 0), .v (.slice none 0 0)] := by kernel_rfl
theorem T.c172 : Try.prog.cellsOf 172 = 2 := by kernel_rfl
theorem T.b172 : Try.prog.bytesOf 172 = 24 := by kernel_rfl
theorem T.g172 : isAggT Try.prog 172 = some true := by kernel_rfl
theorem T.h172 : fieldsOk Try.prog 172 = true := by kernel_rfl
theorem T.f172_0 : fieldOf Try.prog 172 0 = some (0, 37) := by kernel_rfl
theorem T.f172_1 : fieldOf Try.prog 172 1 = some (1, 9) := by kernel_rfl
theorem T.z172 : zcells Try.prog 172 = some [.v (.int .u64 0), .v (.string ByteArray.empty)] := by kernel_rfl
theorem T.c173 : Try.prog.cellsOf 173 = 2 := by kernel_rfl
theorem T.b173 : Try.prog.bytesOf 173 = 24 := by kernel_rfl
theorem T.g173 : isAggT Try.prog 173 = some true := by kernel_rfl
theorem T.h173 : fieldsOk Try.prog 173 = true := by kernel_rfl
theorem T.f173_0 : fieldOf Try.prog 173 0 = some (0, 37) := by kernel_rfl
theorem T.f173_1 : fieldOf Try.prog 173 1 = some (1, 9) := by kernel_rfl
theorem T.z173 : zcells Try.prog 173 = some [.v (.int .u64 0), .v (.string ByteArray.empty)] := by kernel_rfl
theorem T.c176 : Try.prog.cellsOf 176 = 4 := by kernel_rfl
theorem T.b176 : Try.prog.bytesOf 176 = 40 := by kernel_rfl
theorem T.g176 : isAggT Try.prog 176 = some true := by kernel_rfl
theorem T.h176 : fieldsOk Try.prog 176 = true := by kernel_rfl
theorem T.f176_0 : fieldOf Try.prog 176 0 = some (0, 17) := by kernel_rfl
theorem T.f176_1 : fieldOf Try.prog 176 1 = some (1, 17) := by kernel_rfl
theorem T.f176_2 : fieldOf Try.prog 176 2 = some (2, 17) := by kernel_rfl
theorem T.f176_3 : fieldOf Try.prog 176 3 = some (3, 9) := by kernel_rfl
theorem T.z176 : zcells Try.prog 176 = some [.v (.pointer none), .v (.pointer none), .v (.pointer none), .v (.string ByteArray.empty)] := by kernel_rfl
theorem T.c177 : Try.prog.cellsOf 177 = 4 := by kernel_rfl
theorem T.b177 : Try.prog.bytesOf 177 = 40 := by kernel_rfl
theorem T.g177 : isAggT Try.prog 177 = some true := by kernel_rfl
theorem T.h177 : fieldsOk Try.prog 177 = true := by kernel_rfl
theorem T.f177_0 : fieldOf Try.prog 177 0 = some (0, 17) := by kernel_rfl
theorem T.f177_1 : fieldOf Try.prog 177 1 = some (1, 17) := by kernel_rfl
theorem T.f177_2 : fieldOf Try.prog 177 2 = some (2, 17) := by kernel_rfl
theorem T.f177_3 : fieldOf Try.prog 177 3 = some (3, 9) := by kernel_rfl
theorem T.z177 : zcells Try.prog 177 = some [.v (.pointer none), .v (.pointer none), .v (.pointer none), .v (.string ByteArray.empty)] := by kernel_rfl
theorem T.c178 : Try.prog.cellsOf 178 = 0 := by kernel_rfl
theorem T.b178 : Try.prog.bytesOf 178 = 0 := by kernel_rfl
theorem T.g178 : isAggT Try.prog 178 = some true := by kernel_rfl
theorem T.z178 : zcells Try.prog 178 = some [] := by kernel_rfl
theorem T.c179 : Try.prog.cellsOf 179 = 0 := by kernel_rfl
theorem T.b179 : Try.prog.bytesOf 179 = 0 := by kernel_rfl
theorem T.g179 : isAggT Try.prog 179 = some true := by kernel_rfl
theorem T.h179 : fieldsOk Try.prog 179 = true := by kernel_rfl
theorem T.f179_0 : fieldOf Try.prog 179 0 = some (0, 178) := by kernel_rfl
theorem T.z179 : zcells Try.prog 179 = some [] := by kernel_rfl
theorem T.c180 : Try.prog.cellsOf 180 = 0 := by kernel_rfl
theorem T.b180 : Try.prog.bytesOf 180 = 0 := by kernel_rfl
theorem T.g180 : isAggT Try.prog 180 = some true := by kernel_rfl
theorem T.h180 : fieldsOk Try.prog 180 = true := by kernel_rfl
theorem T.f180_0 : fieldOf Try.prog 180 0 = some (0, 178) := by kernel_rfl
theorem T.z180 : zcells Try.prog 180 = some [] := by kernel_rfl
theorem T.c181 : Try.prog.cellsOf 181 = 1 := by kernel_rfl
theorem T.b181 : Try.prog.bytesOf 181 = 1 := by kernel_rfl
theorem T.g181 : isAggT Try.prog 181 = some false := by kernel_rfl
theorem T.z181 : zcells Try.prog 181 = some [.v (.int .u8 0)] := by kernel_rfl
theorem T.c182 : Try.prog.cellsOf 182 = 1 := by kernel_rfl
theorem T.b182 : Try.prog.bytesOf 182 = 1 := by kernel_rfl
theorem T.g182 : isAggT Try.prog 182 = some false := by kernel_rfl
theorem T.z182 : zcells Try.prog 182 = some [.v (.int .u8 0)] := by kernel_rfl
theorem T.c184 : Try.prog.cellsOf 184 = 1 := by kernel_rfl
theorem T.b184 : Try.prog.bytesOf 184 = 8 := by kernel_rfl
theorem T.g184 : isAggT Try.prog 184 = some false := by kernel_rfl
theorem T.z184 : zcells Try.prog 184 = some [.v (.pointer none)] := by kernel_rfl
theorem T.p184 : isPtrT Try.prog 184 = true := by kernel_rfl
theorem T.c185 : Try.prog.cellsOf 185 = 1 := by kernel_rfl
theorem T.b185 : Try.prog.bytesOf 185 = 4 := by kernel_rfl
theorem T.g185 : isAggT Try.prog 185 = some false := by kernel_rfl
theorem T.z185 : zcells Try.prog 185 = some [.v (.int .i32 0)] := by kernel_rfl
theorem T.c186 : Try.prog.cellsOf 186 = 1 := by kernel_rfl
theorem T.b186 : Try.prog.bytesOf 186 = 4 := by kernel_rfl
theorem T.g186 : isAggT Try.prog 186 = some false := by kernel_rfl
theorem T.z186 : zcells Try.prog 186 = some [.v (.int .i32 0)] := by kernel_rfl
theorem T.c187 : Try.prog.cellsOf 187 = 11 := by kernel_rfl
theorem T.b187 : Try.prog.bytesOf 187 = 48 := by kernel_rfl
theorem T.g187 : isAggT Try.prog 187 = some true := by kernel_rfl
theorem T.h187 : fieldsOk Try.prog 187 = true := by kernel_rfl
theorem T.f187_0 : fieldOf Try.prog 187 0 = some (0, 12) := by kernel_rfl
theorem T.f187_1 : fieldOf Try.prog 187 1 = some (1, 12) := by kernel_rfl
theorem T.f187_2 : fieldOf Try.prog 187 2 = some (2, 25) := by kernel_rfl
theorem T.f187_3 : fieldOf Try.prog 187 3 = some (3, 181) := by kernel_rfl
theorem T.f187_4 : fieldOf Try.prog 187 4 = some (4, 5) := by kernel_rfl
theorem T.f187_5 : fieldOf Try.prog 187 5 = some (5, 5) := by kernel_rfl
theorem T.f187_6 : fieldOf Try.prog 187 6 = some (6, 182) := by kernel_rfl
theorem T.f187_7 : fieldOf Try.prog 187 7 = some (7, 183) := by kernel_rfl
theorem T.f187_8 : fieldOf Try.prog 187 8 = some (8, 184) := by kernel_rfl
theorem T.f187_9 : fieldOf Try.prog 187 9 = some (9, 185) := by kernel_rfl
theorem T.f187_10 : fieldOf Try.prog 187 10 = some (10, 186) := by kernel_rfl
theorem T.z187 : zcells Try.prog 187 = some [.v (.int .u64 0), .v (.int .u64 0), .v (.int .u32 0), .v (.int .u8 0), .v (.int .u8 0), .v (.int .u8 0), .v (.int .u8 0), .v (.nilFunc), .v (.pointer none), .v (.int .i32 0), .v (.int .i32 0)] := by kernel_rfl
theorem T.c188 : Try.prog.cellsOf 188 = 11 := by kernel_rfl
theorem T.b188 : Try.prog.bytesOf 188 = 48 := by kernel_rfl
theorem T.g188 : isAggT Try.prog 188 = some true := by kernel_rfl
theorem T.h188 : fieldsOk Try.prog 188 = true := by kernel_rfl
theorem T.f188_0 : fieldOf Try.prog 188 0 = some (0, 12) := by kernel_rfl
theorem T.f188_1 : fieldOf Try.prog 188 1 = some (1, 12) := by kernel_rfl
theorem T.f188_2 : fieldOf Try.prog 188 2 = some (2, 25) := by kernel_rfl
theorem T.f188_3 : fieldOf Try.prog 188 3 = some (3, 181) := by kernel_rfl
theorem T.f188_4 : fieldOf Try.prog 188 4 = some (4, 5) := by kernel_rfl
theorem T.f188_5 : fieldOf Try.prog 188 5 = some (5, 5) := by kernel_rfl
theorem T.f188_6 : fieldOf Try.prog 188 6 = some (6, 182) := by kernel_rfl
theorem T.f188_7 : fieldOf Try.prog 188 7 = some (7, 183) := by kernel_rfl
theorem T.f188_8 : fieldOf Try.prog 188 8 = some (8, 184) := by kernel_rfl
theorem T.f188_9 : fieldOf Try.prog 188 9 = some (9, 185) := by kernel_rfl
theorem T.f188_10 : fieldOf Try.prog 188 10 = some (10, 186) := by kernel_rfl
theorem T.z188 : zcells Try.prog 188 = some [.v (.int .u64 0), .v (.int .u64 0), .v (.int .u32 0), .v (.int .u8 0), .v (.int .u8 0), .v (.int .u8 0), .v (.int .u8 0), .v (.nilFunc), .v (.pointer none), .v (.int .i32 0), .v (.int .i32 0)] := by kernel_rfl
theorem T.c189 : Try.prog.cellsOf 189 = 1 := by kernel_rfl
theorem T.b189 : Try.prog.bytesOf 189 = 8 := by kernel_rfl
theorem T.g189 : isAggT Try.prog 189 = some false := by kernel_rfl
theorem T.k3 : callable Try.prog 3 = true := by kernel_rfl
theorem T.k4 : callable Try.prog 4 = true := by kernel_rfl
theorem T.k5 : callable Try.prog 5 = true := by kernel_rfl
theorem T.k6 : callable Try.prog 6 = true := by kernel_rfl
theorem T.k7 : callable Try.prog 7 = true := by kernel_rfl
theorem T.k8 : callable Try.prog 8 = true := by kernel_rfl
theorem T.k9 : callable Try.prog 9 = true := by kernel_rfl
theorem T.k10 : callable Try.prog 10 = true := by kernel_rfl
theorem T.k11 : callable Try.prog 11 = true := by kernel_rfl
theorem T.k12 : callable Try.prog 12 = true := by kernel_rfl
theorem T.k13 : callable Try.prog 13 = true := by kernel_rfl
theorem T.k14 : callable Try.prog 14 = true := by kernel_rfl
theorem T.k15 : callable Try.prog 15 = true := by kernel_rfl
theorem T.k16 : callable Try.prog 16 = true := by kernel_rfl
theorem T.k17 : callable Try.prog 17 = true := by kernel_rfl
theorem T.k18 : callable Try.prog 18 = true := by kernel_rfl
theorem T.k19 : callable Try.prog 19 = true := by kernel_rfl
theorem T.k20 : callable Try.prog 20 = true := by kernel_rfl
theorem T.k21 : callable Try.prog 21 = true := by kernel_rfl
theorem T.k22 : callable Try.prog 22 = true := by kernel_rfl
theorem T.k23 : callable Try.prog 23 = true := by kernel_rfl
theorem T.k24 : callable Try.prog 24 = true := by kernel_rfl
theorem T.k25 : callable Try.prog 25 = true := by kernel_rfl
theorem T.k26 : callable Try.prog 26 = true := by kernel_rfl
theorem T.k27 : callable Try.prog 27 = true := by kernel_rfl
theorem T.k28 : callable Try.prog 28 = true := by kernel_rfl
theorem T.k29 : callable Try.prog 29 = true := by kernel_rfl
theorem T.k30 : callable Try.prog 30 = true := by kernel_rfl
theorem T.k31 : callable Try.prog 31 = true := by kernel_rfl
theorem T.k32 : callable Try.prog 32 = true := by kernel_rfl
theorem T.k33 : callable Try.prog 33 = true := by kernel_rfl
theorem T.k34 : callable Try.prog 34 = true := by kernel_rfl
theorem T.k35 : callable Try.prog 35 = true := by kernel_rfl
theorem T.k36 : callable Try.prog 36 = true := by kernel_rfl
theorem T.k37 : callable Try.prog 37 = true := by kernel_rfl
theorem T.k38 : callable Try.prog 38 = true := by kernel_rfl
theorem T.k39 : callable Try.prog 39 = true := by kernel_rfl
theorem T.k40 : callable Try.prog 40 = true := by kernel_rfl
theorem T.k41 : callable Try.prog 41 = true := by kernel_rfl
theorem T.k42 : callable Try.prog 42 = true := by kernel_rfl
theorem T.k43 : callable Try.prog 43 = true := by kernel_rfl
theorem T.k44 : callable Try.prog 44 = true := by kernel_rfl
theorem T.k45 : callable Try.prog 45 = true := by kernel_rfl
theorem T.k46 : callable Try.prog 46 = true := by kernel_rfl
theorem T.k47 : callable Try.prog 47 = true := by kernel_rfl
theorem T.k48 : callable Try.prog 48 = true := by kernel_rfl
theorem T.k49 : callable Try.prog 49 = true := by kernel_rfl
theorem T.k50 : callable Try.prog 50 = true := by kernel_rfl
theorem T.k51 : callable Try.prog 51 = true := by kernel_rfl
theorem T.k52 : callable Try.prog 52 = true := by kernel_rfl
theorem T.k53 : callable Try.prog 53 = true := by kernel_rfl
theorem T.k54 : callable Try.prog 54 = true := by kernel_rfl
theorem T.k55 : callable Try.prog 55 = true := by kernel_rfl
theorem T.k56 : callable Try.prog 56 = true := by kernel_rfl
theorem T.k57 : callable Try.prog 57 = true := by kernel_rfl
theorem T.k58 : callable Try.prog 58 = true := by kernel_rfl
theorem T.k59 : callable Try.prog 59 = true := by kernel_rfl
theorem T.k60 : callable Try.prog 60 = true := by kernel_rfl
theorem T.k61 : callable Try.prog 61 = true := by kernel_rfl
theorem T.k62 : callable Try.prog 62 = true := by kernel_rfl
theorem T.k63 : callable Try.prog 63 = true := by kernel_rfl
theorem T.k64 : callable Try.prog 64 = true := by kernel_rfl
theorem T.k65 : callable Try.prog 65 = true := by kernel_rfl
theorem T.k66 : callable Try.prog 66 = true := by kernel_rfl
theorem T.k67 : callable Try.prog 67 = true := by kernel_rfl
theorem T.k68 : callable Try.prog 68 = true := by kernel_rfl
theorem T.k69 : callable Try.prog 69 = true := by kernel_rfl
theorem T.k70 : callable Try.prog 70 = true := by kernel_rfl
theorem T.k71 : callable Try.prog 71 = true := by kernel_rfl
theorem T.k72 : callable Try.prog 72 = true := by kernel_rfl
theorem T.k73 : callable Try.prog 73 = true := by kernel_rfl
theorem T.k74 : callable Try.prog 74 = true := by kernel_rfl
theorem T.k75 : callable Try.prog 75 = true := by kernel_rfl
theorem T.k76 : callable Try.prog 76 = true := by kernel_rfl
theorem T.k77 : callable Try.prog 77 = true := by kernel_rfl
theorem T.k78 : callable Try.prog 78 = true := by kernel_rfl
theorem T.k79 : callable Try.prog 79 = true := by kernel_rfl
theorem T.k80 : callable Try.prog 80 = true := by kernel_rfl
theorem T.k81 : callable Try.prog 81 = true := by kernel_rfl
theorem T.k82 : callable Try.prog 82 = true := by kernel_rfl
theorem T.k83 : callable Try.prog 83 = true := by kernel_rfl
theorem T.k84 : callable Try.prog 84 = true := by kernel_rfl
theorem T.k85 : callable Try.prog 85 = true := by kernel_rfl
theorem T.k86 : callable Try.prog 86 = true := by kernel_rfl
theorem T.k87 : callable Try.prog 87 = true := by kernel_rfl
theorem T.k88 : callable Try.prog 88 = true := by kernel_rfl
theorem T.k89 : callable Try.prog 89 = true := by kernel_rfl
theorem T.k90 : callable Try.prog 90 = true := by kernel_rfl
theorem T.k91 : callable Try.prog 91 = true := by kernel_rfl
theorem T.k92 : callable Try.prog 92 = true := by kernel_rfl
theorem T.k93 : callable Try.prog 93 = true := by kernel_rfl
theorem T.k94 : callable Try.prog 94 = true := by kernel_rfl
theorem T.k95 : callable Try.prog 95 = true := by kernel_rfl
theorem T.k96 : callable Try.prog 96 = true := by kernel_rfl
theorem T.k97 : callable Try.prog 97 = true := by kernel_rfl
theorem T.k98 : callable Try.prog 98 = true := by kernel_rfl
theorem T.k99 : callable Try.prog 99 = true := by kernel_rfl
theorem T.k100 : callable Try.prog 100 = true := by kernel_rfl
theorem T.k101 : callable Try.prog 101 = true := by kernel_rfl
theorem T.k102 : callable Try.prog 102 = true := by kernel_rfl
theorem T.k103 : callable Try.prog 103 = true := by kernel_rfl
theorem T.k104 : callable Try.prog 104 = true := by kernel_rfl
theorem T.k105 : callable Try.prog 105 = true := by kernel_rfl
theorem T.k106 : callable Try.prog 106 = true := by kernel_rfl
theorem T.k107 : callable Try.prog 107 = true := by kernel_rfl
theorem T.k108 : callable Try.prog 108 = true := by kernel_rfl
theorem T.k109 : callable Try.prog 109 = true := by kernel_rfl
theorem T.k110 : callable Try.prog 110 = true := by kernel_rfl
theorem T.k111 : callable Try.prog 111 = true := by kernel_rfl
theorem T.k112 : callable Try.prog 112 = true := by kernel_rfl
theorem T.k113 : callable Try.prog 113 = true := by kernel_rfl
theorem T.k114 : callable Try.prog 114 = true := by kernel_rfl
theorem T.k115 : callable Try.prog 115 = true := by kernel_rfl
theorem T.k116 : callable Try.prog 116 = true := by kernel_rfl
theorem T.k117 : callable Try.prog 117 = true := by kernel_rfl
theorem T.k118 : callable Try.prog 118 = true := by kernel_rfl
theorem T.k119 : callable Try.prog 119 = true := by kernel_rfl
theorem T.k120 : callable Try.prog 120 = true := by kernel_rfl
theorem T.k121 : callable Try.prog 121 = true := by kernel_rfl
theorem T.k122 : callable Try.prog 122 = true := by kernel_rfl
theorem T.k123 : callable Try.prog 123 = true := by kernel_rfl
theorem T.k124 : callable Try.prog 124 = true := by kernel_rfl
theorem T.k125 : callable Try.prog 125 = true := by kernel_rfl
theorem T.k126 : callable Try.prog 126 = true := by kernel_rfl
theorem T.k127 : callable Try.prog 127 = true := by kernel_rfl
theorem T.k128 : callable Try.prog 128 = true := by kernel_rfl
theorem T.k129 : callable Try.prog 129 = true := by kernel_rfl
theorem T.k130 : callable Try.prog 130 = true := by kernel_rfl
theorem T.k131 : callable Try.prog 131 = true := by kernel_rfl
theorem T.k132 : callable Try.prog 132 = true := by kernel_rfl
theorem T.k133 : callable Try.prog 133 = true := by kernel_rfl
theorem T.k134 : callable Try.prog 134 = true := by kernel_rfl
theorem T.k135 : callable Try.prog 135 = true := by kernel_rfl
theorem T.k136 : callable Try.prog 136 = true := by kernel_rfl
theorem T.k137 : callable Try.prog 137 = true := by kernel_rfl
theorem T.k138 : callable Try.prog 138 = true := by kernel_rfl
theorem T.k139 : callable Try.prog 139 = true := by kernel_rfl
theorem T.k140 : callable Try.prog 140 = true := by kernel_rfl
theorem T.k141 : callable Try.prog 141 = true := by kernel_rfl
theorem T.k142 : callable Try.prog 142 = true := by kernel_rfl
theorem T.k143 : callable Try.prog 143 = true := by kernel_rfl
theorem T.k144 : callable Try.prog 144 = true := by kernel_rfl
theorem T.k145 : callable Try.prog 145 = true := by kernel_rfl
theorem T.k146 : callable Try.prog 146 = true := by kernel_rfl
theorem T.k147 : callable Try.prog 147 = true := by kernel_rfl
theorem T.k148 : callable Try.prog 148 = true := by kernel_rfl
theorem T.k149 : callable Try.prog 149 = true := by kernel_rfl
theorem T.mixed : Try.prog.follows .mixedOrders = true := by kernel_rfl
end Go.Proofs.Ytpakgjmcaefnmaa

