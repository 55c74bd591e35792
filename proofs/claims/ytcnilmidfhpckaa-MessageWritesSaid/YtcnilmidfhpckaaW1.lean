/- Contracts of the program's functions, each walked once; the conditions stand in each theorem. -/
import Derived.Test.YtcnilmidfhpckaaProg
import Derived.Test.YtcnilmidfhpckaaAMp4
import Derived.Test.YtcnilmidfhpckaaAMp6
set_option linter.unusedSimpArgs false
set_option linter.unusedVariables false
open Nat renaming reduceLT → nLT, reduceLeDiff → nLE, reduceEqDiff → nEQ, reduceAdd → nAdd, reduceMul → nMul, reducePow → nPow, reduceSub → nSub
open Int renaming reduceLT → zLT, reduceLE → zLE, reduceToNat → zNat
open Go.AM renaming ashift → qSh, aconv → qCv, aindexAddr → qIA, aindex → qIx, aslice → qSl, abuiltin → qBu
open Go.AM.AV renaming cells → qCe, one → qOn
set_option autoImplicit false
namespace Go.Proofs.Ytcnilmidfhpckaa
open Go Go.AM Go.Proofs
theorem T.c2 : Try.prog.cellsOf 2 = 1 := by kernel_rfl
theorem T.b2 : Try.prog.bytesOf 2 = 8 := by kernel_rfl
theorem T.g2 : isAggT Try.prog 2 = some false := by kernel_rfl
theorem T.z2 : zcells Try.prog 2 = some [.v (.int .i64 0)] := by kernel_rfl
theorem T.c3 : Try.prog.cellsOf 3 = 1 := by kernel_rfl
theorem T.b3 : Try.prog.bytesOf 3 = 8 := by kernel_rfl
theorem T.g3 : isAggT Try.prog 3 = some false := by kernel_rfl
theorem T.z3 : zcells Try.prog 3 = some [.v (.int .i64 0)] := by kernel_rfl
theorem T.c4 : Try.prog.cellsOf 4 = 1 := by kernel_rfl
theorem T.b4 : Try.prog.bytesOf 4 = 1 := by kernel_rfl
theorem T.g4 : isAggT Try.prog 4 = some false := by kernel_rfl
theorem T.z4 : zcells Try.prog 4 = some [.v (.bool false)] := by kernel_rfl
theorem T.c5 : Try.prog.cellsOf 5 = 1 := by kernel_rfl
theorem T.b5 : Try.prog.bytesOf 5 = 1 := by kernel_rfl
theorem T.g5 : isAggT Try.prog 5 = some false := by kernel_rfl
theorem T.z5 : zcells Try.prog 5 = some [.v (.int .u8 0)] := by kernel_rfl
theorem T.c6 : Try.prog.cellsOf 6 = 1 := by kernel_rfl
theorem T.g6 : isAggT Try.prog 6 = some false := by kernel_rfl
theorem T.g7 : isAggT Try.prog 7 = some true := by kernel_rfl
theorem T.h7 : fieldsOk Try.prog 7 = true := by kernel_rfl
theorem T.g8 : isAggT Try.prog 8 = some true := by kernel_rfl
theorem T.h8 : fieldsOk Try.prog 8 = true := by kernel_rfl
theorem T.c9 : Try.prog.cellsOf 9 = 1 := by kernel_rfl
theorem T.b9 : Try.prog.bytesOf 9 = 16 := by kernel_rfl
theorem T.g9 : isAggT Try.prog 9 = some false := by kernel_rfl
theorem T.z9 : zcells Try.prog 9 = some [.v (.string ByteArray.empty)] := by kernel_rfl
theorem T.g11 : isAggT Try.prog 11 = some false := by kernel_rfl
theorem T.g12 : isAggT Try.prog 12 = some false := by kernel_rfl
theorem T.g18 : isAggT Try.prog 18 = some true := by kernel_rfl
theorem T.g19 : isAggT Try.prog 19 = some true := by kernel_rfl
theorem T.g22 : isAggT Try.prog 22 = some false := by kernel_rfl
theorem T.g25 : isAggT Try.prog 25 = some false := by kernel_rfl
theorem T.c28 : Try.prog.cellsOf 28 = 1 := by kernel_rfl
theorem T.b28 : Try.prog.bytesOf 28 = 24 := by kernel_rfl
theorem T.g28 : isAggT Try.prog 28 = some false := by kernel_rfl
theorem T.z28 : zcells Try.prog 28 = some [.v (.slice none 0 0)] := by kernel_rfl
theorem T.s28 : isSliceT Try.prog 28 = true := by kernel_rfl
theorem T.c32 : Try.prog.cellsOf 32 = 1 := by kernel_rfl
theorem T.b32 : Try.prog.bytesOf 32 = 8 := by kernel_rfl
theorem T.g32 : isAggT Try.prog 32 = some false := by kernel_rfl
theorem T.z32 : zcells Try.prog 32 = some [.v (.int .i64 0)] := by kernel_rfl
theorem T.g38 : isAggT Try.prog 38 = some true := by kernel_rfl
theorem T.g39 : isAggT Try.prog 39 = some true := by kernel_rfl
theorem T.c41 : Try.prog.cellsOf 41 = 1 := by kernel_rfl
theorem T.b41 : Try.prog.bytesOf 41 = 24 := by kernel_rfl
theorem T.g41 : isAggT Try.prog 41 = some false := by kernel_rfl
theorem T.z41 : zcells Try.prog 41 = some [.v (.slice none 0 0)] := by kernel_rfl
theorem T.s41 : isSliceT Try.prog 41 = true := by kernel_rfl
theorem T.c42 : Try.prog.cellsOf 42 = 1 := by kernel_rfl
theorem T.b42 : Try.prog.bytesOf 42 = 8 := by kernel_rfl
theorem T.g42 : isAggT Try.prog 42 = some false := by kernel_rfl
theorem T.z42 : zcells Try.prog 42 = some [.v (.int .u64 0)] := by kernel_rfl
theorem T.c43 : Try.prog.cellsOf 43 = 1 := by kernel_rfl
theorem T.b43 : Try.prog.bytesOf 43 = 24 := by kernel_rfl
theorem T.g43 : isAggT Try.prog 43 = some false := by kernel_rfl
theorem T.z43 : zcells Try.prog 43 = some [.v (.slice none 0 0)] := by kernel_rfl
theorem T.s43 : isSliceT Try.prog 43 = true := by kernel_rfl
theorem T.c45 : Try.prog.cellsOf 45 = 3 := by kernel_rfl
theorem T.b45 : Try.prog.bytesOf 45 = 56 := by kernel_rfl
theorem T.g45 : isAggT Try.prog 45 = some true := by kernel_rfl
theorem T.h45 : fieldsOk Try.prog 45 = true := by kernel_rfl
theorem T.f45_0 : fieldOf Try.prog 45 0 = some (0, 42) := by kernel_rfl
theorem T.f45_1 : fieldOf Try.prog 45 1 = some (1, 28) := by kernel_rfl
theorem T.f45_2 : fieldOf Try.prog 45 2 = some (2, 43) := by kernel_rfl
theorem T.z45 : zcells Try.prog 45 = some [.v (.int .u64 0), .v (.slice none 0 0), .v (.slice none 0 0)] := by kernel_rfl
theorem T.c47 : Try.prog.cellsOf 47 = 10 := by kernel_rfl
theorem T.b47 : Try.prog.bytesOf 47 = 176 := by kernel_rfl
theorem T.g47 : isAggT Try.prog 47 = some true := by kernel_rfl
theorem T.h47 : fieldsOk Try.prog 47 = true := by kernel_rfl
theorem T.f47_0 : fieldOf Try.prog 47 0 = some (0, 28) := by kernel_rfl
theorem T.f47_1 : fieldOf Try.prog 47 1 = some (1, 3) := by kernel_rfl
theorem T.f47_2 : fieldOf Try.prog 47 2 = some (2, 3) := by kernel_rfl
theorem T.f47_3 : fieldOf Try.prog 47 3 = some (3, 41) := by kernel_rfl
theorem T.f47_4 : fieldOf Try.prog 47 4 = some (4, 4) := by kernel_rfl
theorem T.f47_5 : fieldOf Try.prog 47 5 = some (5, 45) := by kernel_rfl
theorem T.f47_6 : fieldOf Try.prog 47 6 = some (8, 28) := by kernel_rfl
theorem T.f47_7 : fieldOf Try.prog 47 7 = some (9, 28) := by kernel_rfl
theorem T.z47 : zcells Try.prog 47 = some [.v (.slice none 0 0), .v (.int .i64 0), .v (.int .i64 0), .v (.slice none 0 0), .v (.bool false), .v (.int .u64 0), .v (.slice none 0 0), .v (.slice none 0 0), .v (.slice none 0 0), .v (.slice none 0 0)] := by kernel_rfl
theorem T.c80 : Try.prog.cellsOf 80 = 5 := by kernel_rfl
theorem T.b80 : Try.prog.bytesOf 80 = 56 := by kernel_rfl
theorem T.g80 : isAggT Try.prog 80 = some true := by kernel_rfl
theorem T.h80 : fieldsOk Try.prog 80 = true := by kernel_rfl
theorem T.f80_0 : fieldOf Try.prog 80 0 = some (0, 3) := by kernel_rfl
theorem T.f80_1 : fieldOf Try.prog 80 1 = some (1, 3) := by kernel_rfl
theorem T.f80_2 : fieldOf Try.prog 80 2 = some (2, 28) := by kernel_rfl
theorem T.f80_3 : fieldOf Try.prog 80 3 = some (3, 42) := by kernel_rfl
theorem T.f80_4 : fieldOf Try.prog 80 4 = some (4, 42) := by kernel_rfl
theorem T.z80 : zcells Try.prog 80 = some [.v (.int .i64 0), .v (.int .i64 0), .v (.slice none 0 0), .v (.int .u64 0), .v (.int .u64 0)] := by kernel_rfl
theorem T.c81 : Try.prog.cellsOf 81 = 1 := by kernel_rfl
theorem T.b81 : Try.prog.bytesOf 81 = 24 := by kernel_rfl
theorem T.g81 : isAggT Try.prog 81 = some false := by kernel_rfl
theorem T.z81 : zcells Try.prog 81 = some [.v (.slice none 0 0)] := by kernel_rfl
theorem T.s81 : isSliceT Try.prog 81 = true := by kernel_rfl
theorem T.c83 : Try.prog.cellsOf 83 = 2 := by kernel_rfl
theorem T.b83 : Try.prog.bytesOf 83 = 32 := by kernel_rfl
theorem T.g83 : isAggT Try.prog 83 = some true := by kernel_rfl
theorem T.h83 : fieldsOk Try.prog 83 = true := by kernel_rfl
theorem T.f83_0 : fieldOf Try.prog 83 0 = some (0, 42) := by kernel_rfl
theorem T.f83_1 : fieldOf Try.prog 83 1 = some (1, 81) := by kernel_rfl
theorem T.z83 : zcells Try.prog 83 = some [.v (.int .u64 0), .v (.slice none 0 0)] := by kernel_rfl
theorem T.c85 : Try.prog.cellsOf 85 = 2 := by kernel_rfl
theorem T.b85 : Try.prog.bytesOf 85 = 32 := by kernel_rfl
theorem T.g85 : isAggT Try.prog 85 = some true := by kernel_rfl
theorem T.h85 : fieldsOk Try.prog 85 = true := by kernel_rfl
theorem T.f85_0 : fieldOf Try.prog 85 0 = some (0, 42) := by kernel_rfl
theorem T.f85_1 : fieldOf Try.prog 85 1 = some (1, 28) := by kernel_rfl
theorem T.z85 : zcells Try.prog 85 = some [.v (.int .u64 0), .v (.slice none 0 0)] := by kernel_rfl
theorem T.c86 : Try.prog.cellsOf 86 = 1 := by kernel_rfl
theorem T.b86 : Try.prog.bytesOf 86 = 8 := by kernel_rfl
theorem T.g86 : isAggT Try.prog 86 = some false := by kernel_rfl
theorem T.z86 : zcells Try.prog 86 = some [.v (.pointer none)] := by kernel_rfl
theorem T.p86 : isPtrT Try.prog 86 = true := by kernel_rfl
theorem T.c98 : Try.prog.cellsOf 98 = 1 := by kernel_rfl
theorem T.b98 : Try.prog.bytesOf 98 = 8 := by kernel_rfl
theorem T.g98 : isAggT Try.prog 98 = some false := by kernel_rfl
theorem T.z98 : zcells Try.prog 98 = some [.v (.pointer none)] := by kernel_rfl
theorem T.p98 : isPtrT Try.prog 98 = true := by kernel_rfl
theorem T.c137 : Try.prog.cellsOf 137 = 2 := by kernel_rfl
theorem T.b137 : Try.prog.bytesOf 137 = 32 := by kernel_rfl
theorem T.g137 : isAggT Try.prog 137 = some true := by kernel_rfl
theorem T.h137 : fieldsOk Try.prog 137 = true := by kernel_rfl
theorem T.f137_0 : fieldOf Try.prog 137 0 = some (0, 28) := by kernel_rfl
theorem T.f137_1 : fieldOf Try.prog 137 1 = some (1, 4) := by kernel_rfl
theorem T.z137 : zcells Try.prog 137 = some [.v (.slice none 0 0), .v (.bool false)] := by kernel_rfl
theorem T.c145 : Try.prog.cellsOf 145 = 2 := by kernel_rfl
theorem T.b145 : Try.prog.bytesOf 145 = 32 := by kernel_rfl
theorem T.g145 : isAggT Try.prog 145 = some true := by kernel_rfl
theorem T.h145 : fieldsOk Try.prog 145 = true := by kernel_rfl
theorem T.f145_0 : fieldOf Try.prog 145 0 = some (0, 28) := by kernel_rfl
theorem T.f145_1 : fieldOf Try.prog 145 1 = some (1, 32) := by kernel_rfl
theorem T.z145 : zcells Try.prog 145 = some [.v (.slice none 0 0), .v (.int .i64 0)] := by kernel_rfl
theorem T.c150 : Try.prog.cellsOf 150 = 2 := by kernel_rfl
theorem T.b150 : Try.prog.bytesOf 150 = 24 := by kernel_rfl
theorem T.g150 : isAggT Try.prog 150 = some true := by kernel_rfl
theorem T.h150 : fieldsOk Try.prog 150 = true := by kernel_rfl
theorem T.f150_0 : fieldOf Try.prog 150 0 = some (0, 42) := by kernel_rfl
theorem T.f150_1 : fieldOf Try.prog 150 1 = some (1, 9) := by kernel_rfl
theorem T.z150 : zcells Try.prog 150 = some [.v (.int .u64 0), .v (.string ByteArray.empty)] := by kernel_rfl
theorem T.k3 : callable Try.prog 3 = true := by kernel_rfl
theorem T.k4 : callable Try.prog 4 = true := by kernel_rfl
theorem T.k5 : callable Try.prog 5 = true := by kernel_rfl
theorem T.k6 : callable Try.prog 6 = true := by kernel_rfl
theorem T.k16 : callable Try.prog 16 = true := by kernel_rfl
theorem T.k17 : callable Try.prog 17 = true := by kernel_rfl
theorem T.k18 : callable Try.prog 18 = true := by kernel_rfl
theorem T.k19 : callable Try.prog 19 = true := by kernel_rfl
theorem T.k20 : callable Try.prog 20 = true := by kernel_rfl
theorem T.k21 : callable Try.prog 21 = true := by kernel_rfl
theorem T.k22 : callable Try.prog 22 = true := by kernel_rfl
theorem T.k23 : callable Try.prog 23 = true := by kernel_rfl
theorem T.k24 : callable Try.prog 24 = true := by kernel_rfl
theorem T.k25 : callable Try.prog 25 = true := by kernel_rfl
theorem T.k27 : callable Try.prog 27 = true := by kernel_rfl
theorem T.k39 : callable Try.prog 39 = true := by kernel_rfl
theorem T.k40 : callable Try.prog 40 = true := by kernel_rfl
theorem T.k41 : callable Try.prog 41 = true := by kernel_rfl
theorem T.k42 : callable Try.prog 42 = true := by kernel_rfl
theorem T.k43 : callable Try.prog 43 = true := by kernel_rfl
theorem T.k44 : callable Try.prog 44 = true := by kernel_rfl
theorem T.k45 : callable Try.prog 45 = true := by kernel_rfl
theorem T.k46 : callable Try.prog 46 = true := by kernel_rfl
theorem T.k47 : callable Try.prog 47 = true := by kernel_rfl
theorem T.k48 : callable Try.prog 48 = true := by kernel_rfl
theorem T.k49 : callable Try.prog 49 = true := by kernel_rfl
theorem T.k50 : callable Try.prog 50 = true := by kernel_rfl
theorem T.k51 : callable Try.prog 51 = true := by kernel_rfl
theorem T.k52 : callable Try.prog 52 = true := by kernel_rfl
theorem T.k53 : callable Try.prog 53 = true := by kernel_rfl
theorem T.k54 : callable Try.prog 54 = true := by kernel_rfl
theorem T.k55 : callable Try.prog 55 = true := by kernel_rfl
theorem T.k56 : callable Try.prog 56 = true := by kernel_rfl
theorem T.k57 : callable Try.prog 57 = true := by kernel_rfl
theorem T.k58 : callable Try.prog 58 = true := by kernel_rfl
theorem T.k59 : callable Try.prog 59 = true := by kernel_rfl
theorem T.k60 : callable Try.prog 60 = true := by kernel_rfl
theorem T.k61 : callable Try.prog 61 = true := by kernel_rfl
theorem T.k62 : callable Try.prog 62 = true := by kernel_rfl
theorem T.k63 : callable Try.prog 63 = true := by kernel_rfl
theorem T.k64 : callable Try.prog 64 = true := by kernel_rfl
theorem T.k65 : callable Try.prog 65 = true := by kernel_rfl
theorem T.k66 : callable Try.prog 66 = true := by kernel_rfl
theorem T.k67 : callable Try.prog 67 = true := by kernel_rfl
theorem T.k68 : callable Try.prog 68 = true := by kernel_rfl
theorem T.k94 : callable Try.prog 94 = true := by kernel_rfl
theorem T.k95 : callable Try.prog 95 = true := by kernel_rfl
theorem T.k96 : callable Try.prog 96 = true := by kernel_rfl
theorem T.k97 : callable Try.prog 97 = true := by kernel_rfl
theorem T.k98 : callable Try.prog 98 = true := by kernel_rfl
theorem T.k99 : callable Try.prog 99 = true := by kernel_rfl
theorem T.k100 : callable Try.prog 100 = true := by kernel_rfl
theorem T.k101 : callable Try.prog 101 = true := by kernel_rfl
theorem T.k102 : callable Try.prog 102 = true := by kernel_rfl
theorem T.k103 : callable Try.prog 103 = true := by kernel_rfl
theorem T.k104 : callable Try.prog 104 = true := by kernel_rfl
theorem T.k110 : callable Try.prog 110 = true := by kernel_rfl
theorem T.k111 : callable Try.prog 111 = true := by kernel_rfl
theorem T.k112 : callable Try.prog 112 = true := by kernel_rfl
theorem T.k113 : callable Try.prog 113 = true := by kernel_rfl
theorem T.mixed : Try.prog.follows .mixedOrders = true := by kernel_rfl
end Go.Proofs.Ytcnilmidfhpckaa


set_option autoImplicit false
namespace Go.Proofs.Ytcnilmidfhpckaa
open Go Go.AM Go.Proofs

theorem RPen95 : type_of% (And.intro (And.intro (And.intro (And.intro @Try.underlying5 T.c5) (And.intro T.g5 (And.intro T.b5 T.z5))) (And.intro (And.intro @Try.underlying28 (And.intro T.c28 T.g28)) (And.intro T.b28 (And.intro T.z28 T.s28)))) Try.ntmps95) :=
  (And.intro (And.intro (And.intro (And.intro @Try.underlying5 T.c5) (And.intro T.g5 (And.intro T.b5 T.z5))) (And.intro (And.intro @Try.underlying28 (And.intro T.c28 T.g28)) (And.intro T.b28 (And.intro T.z28 T.s28)))) Try.ntmps95)
theorem RPen97 : type_of% (And.intro (And.intro (And.intro (And.intro (And.intro (And.intro @Try.underlying3 T.c3) (And.intro T.g3 T.b3)) (And.intro (And.intro T.z3 @Try.underlying4) (And.intro T.c4 T.g4))) (And.intro (And.intro (And.intro T.b4 T.z4) (And.intro @Try.underlying5 T.c5)) (And.intro (And.intro T.g5 T.b5) (And.intro T.z5 (And.intro @Try.underlying28 T.c28))))) (And.intro (And.intro (And.intro (And.intro T.g28 T.b28) (And.intro T.z28 T.s28)) (And.intro (And.intro @Try.underlying42 T.c42) (And.intro T.g42 T.b42))) (And.intro (And.intro (And.intro T.z42 @Try.underlying137) (And.intro T.c137 T.g137)) (And.intro (And.intro T.b137 T.z137) (And.intro T.h137 (And.intro T.f137_0 T.f137_1)))))) Try.ntmps97) :=
  (And.intro (And.intro (And.intro (And.intro (And.intro (And.intro @Try.underlying3 T.c3) (And.intro T.g3 T.b3)) (And.intro (And.intro T.z3 @Try.underlying4) (And.intro T.c4 T.g4))) (And.intro (And.intro (And.intro T.b4 T.z4) (And.intro @Try.underlying5 T.c5)) (And.intro (And.intro T.g5 T.b5) (And.intro T.z5 (And.intro @Try.underlying28 T.c28))))) (And.intro (And.intro (And.intro (And.intro T.g28 T.b28) (And.intro T.z28 T.s28)) (And.intro (And.intro @Try.underlying42 T.c42) (And.intro T.g42 T.b42))) (And.intro (And.intro (And.intro T.z42 @Try.underlying137) (And.intro T.c137 T.g137)) (And.intro (And.intro T.b137 T.z137) (And.intro T.h137 (And.intro T.f137_0 T.f137_1)))))) Try.ntmps97)

variable {Γ : Nat → List AV}

set_option maxHeartbeats 400000 in
theorem clone_calls (l : List UInt8) (sp : Sp) (ha : sp.isAny = false) (s : AS) (hl : l.length ≤ 2 ^ 45) : ACalls Try.prog Γ 95 [bytesV l sp] s (fun r s' => r = bytesV l .any ∧ s' = s) := by
  refine acalls_body Try.func95 rfl Try.ntmps95 Try.results95 (by simp) ?_
  unfold bytesV
  refine awp_reg_seq ?_
  intro K hK
  simp only [↓DN, UP, DF, qSh, qCv, qIA, qIx, qSl, qBu, qCe, qOn, reduceCtorEq, ↓reduceIte, nLT, nLE, nEQ, nAdd, nMul, nPow, nSub, zLT, zLE, zNat, RPen95]
  refine hK _ _ ?_
  clear hK K
  refine awp_seq_k ?_
  intro K hK
  refine awp_reg_seq ?_
  intro K hK
  simp only [↓DN, UP, DF, qSh, qCv, qIA, qIx, qSl, qBu, qCe, qOn, reduceCtorEq, ↓reduceIte, nLT, nLE, nEQ, nAdd, nMul, nPow, nSub, zLT, zLE, zNat, RPen95, ha, Bool.false_eq_true, and_false]
  refine hK _ _ ?_
  clear hK K
  refine awp_cond_k ?_
  intro X Y hX hY
  simp only [↓DN, UP, DF, qSh, qCv, qIA, qIx, qSl, qBu, qCe, qOn, reduceCtorEq, ↓reduceIte, nLT, nLE, nEQ, nAdd, nMul, nPow, nSub, zLT, zLE, zNat, RPen95, DB]
  refine hY ?_
  clear hX hY X Y
  refine awp_skip ?_
  refine hK _ _ ?_
  clear hK K
  by_cases h0 : l.length = 0
  · have hl0 : l = [] := List.eq_nil_of_length_eq_zero h0
    subst hl0
    refine awp_reg_seq ?_
    intro K hK
    simp only [↓DN, UP, DF, qSh, qCv, qIA, qIx, qSl, qBu, qCe, qOn, reduceCtorEq, ↓reduceIte, nLT, nLE, nEQ, nAdd, nMul, nPow, nSub, zLT, zLE, zNat, RPen95]
    refine hK _ _ ?_
    clear hK K
    refine awp_ret ?_
    simp only [↓DN, UP, DF, qSh, qCv, qIA, qIx, qSl, qBu, qCe, qOn, reduceCtorEq, ↓reduceIte, nLT, nLE, nEQ, nAdd, nMul, nPow, nSub, zLT, zLE, zNat, RPen95, retQ, AEnds, aresL, ares, atuple]
    exact ⟨_, s, AV.weak_any, AS.le.refl s, rfl, rfl⟩
  · refine awp_reg_seq ?_
    intro K hK
    simp only [↓DN, UP, DF, qSh, qCv, qIA, qIx, qSl, qBu, qCe, qOn, reduceCtorEq, ↓reduceIte, nLT, nLE, nEQ, nAdd, nMul, nPow, nSub, zLT, zLE, zNat, RPen95, h0]
    refine ⟨by omega, by omega, fun t ht => hK _ _ ?_⟩
    clear hK K
    refine awp_ret ?_
    simp only [↓DN, UP, DF, qSh, qCv, qIA, qIx, qSl, qBu, qCe, qOn, reduceCtorEq, ↓reduceIte, nLT, nLE, nEQ, nAdd, nMul, nPow, nSub, zLT, zLE, zNat, RPen95, retQ, AEnds, aresL, ares, atuple]
    exact ⟨_, s, AV.weak_any, AS.le_gain (AS.le.refl s) ht 0, rfl, rfl⟩

set_option maxHeartbeats 400000 in
theorem number_calls (s0 s : AS) (p : Nat) (l : List UInt8) (n size : Nat) (hn : n < 2 ^ 64) (hs : size ≤ 8) (hl : l.length + 8 ≤ 2 ^ 45) (h : Pen s0 s p l false) :
    ACalls Try.prog Γ 97 [.ptr p 0, .v (.int .u64 n), .v (.int .i64 size)] s (fun r s' => r = .tup [] ∧ Pen s0 s' p (l ++ be size n) false) := by
  refine acalls_body Try.func97 rfl Try.ntmps97 Try.results97 (by simp) ?_
  refine awp_reg_seq ?_
  intro K hK
  simp only [↓DN, UP, DF, qSh, qCv, qIA, qIx, qSl, qBu, qCe, qOn, reduceCtorEq, ↓reduceIte, nLT, nLE, nEQ, nAdd, nMul, nPow, nSub, zLT, zLE, zNat, RPen97]
  refine hK _ _ ?_
  clear hK K
  refine awp_block ?_
  refine awp_loop (fun E s1 => ∃ (i : Int) (l' : List UInt8), E 6 = .v (.int .i64 i) ∧ -1 ≤ i ∧ i < size ∧ E 0 = .ptr p 0 ∧ E 1 = .v (.int .u64 n) ∧ Pen s0 s1 p l' false ∧ l' ++ be (i + 1).toNat n = l ++ be size n)
    (fun E _ => match E 6 with | .v (.int _ i) => (i + 1).toNat | _ => 0) ?_ ?_
  · refine ⟨size - 1, l, ?_, by omega, by omega, by simp [upd, initE], by simp [upd, initE], h, by congr 2; omega⟩
    simp [upd, isub_i64 (show -9223372036854775808 ≤ (size : Int) - 1 ∧ (size : Int) - 1 ≤ 9223372036854775807 by omega)]
  · rintro E1 s1 ⟨i, l', h6, hi1, hi2, h0, h1, hp, hl'⟩ -
    obtain ⟨x, hx, hb⟩ := hp.obj
    refine awp_seq_k ?_
    intro K hK
    by_cases hi : 0 ≤ i
    · refine awp_reg_seq ?_
      intro K hK
      simp only [↓DN, UP, DF, qSh, qCv, qIA, qIx, qSl, qBu, qCe, qOn, reduceCtorEq, ↓reduceIte, nLT, nLE, nEQ, nAdd, nMul, nPow, nSub, zLT, zLE, zNat, RPen97, h6, h0, h1, hx, decide_eq_true hi, ge_iff_le, Bool.not_false]
      refine hK _ _ ?_
      clear hK K
      refine awp_cond_k ?_
      intro X Y hX hY
      simp only [↓DN, UP, DF, qSh, qCv, qIA, qIx, qSl, qBu, qCe, qOn, reduceCtorEq, ↓reduceIte, nLT, nLE, nEQ, nAdd, nMul, nPow, nSub, zLT, zLE, zNat, RPen97, DB]
      refine hX ?_
      clear hX hY X Y
      refine awp_skip ?_
      refine hK _ _ ?_
      clear hK K
      refine awp_seq_k ?_
      intro K hK
      refine awp_block ?_
      have hmul : imul .i64 8 i = 8 * i := imul_i64 (by omega)
      have hnn : ¬ (8 * i < 0) := by omega
      obtain ⟨j, rfl⟩ := Int.eq_ofNat_of_zero_le hi
      have hj : j < 8 := by omega
      have hstep := be_step n j hj
      have hbe : be ((j : Int) + 1).toNat n = UInt8.ofNat (n / 2 ^ (8 * j)) :: be j n := by
        rw [show ((j : Int) + 1).toNat = j + 1 from by omega]; rfl
      have hlen : l'.length ≤ l.length + size := by
        have := congrArg List.length hl'
        simp at this
        omega
      have hsub : isub .i64 (j : Int) 1 = (j : Int) - 1 := isub_i64 (by omega)
      have hend : ∀ (E2 : Env) (s2 : AS), E2 6 = .v (.int .i64 j) → E2 0 = .ptr p 0 → E2 1 = .v (.int .u64 n) → Pen s0 s2 p (l' ++ [UInt8.ofNat (n / 2 ^ (8 * j))]) false → K E2 s2 := by
        intro E2 s2 e6 e0 e1 hp2
        refine hK _ _ ?_
        clear hK K
        refine awp_reg_end ?_
        intro K hK
        simp only [↓DN, UP, DF, qSh, qCv, qIA, qIx, qSl, qBu, qCe, qOn, reduceCtorEq, ↓reduceIte, nLT, nLE, nEQ, nAdd, nMul, nPow, nSub, zLT, zLE, zNat, RPen97, e6, hsub]
        refine hK _ _ ?_
        clear hK K
        refine ⟨⟨(j : Int) - 1, _, by simp only [upd, ↓reduceIte], by omega, by omega, by simp only [upd, e0, nEQ, ↓reduceIte], by simp only [upd, e1, nEQ, ↓reduceIte], hp2, ?_⟩, ?_⟩
        · rw [← hl', hbe]
          simp
        · simp only [h6, upd, ↓reduceIte]
          omega
      clear hK
      rcases hb with ⟨rfl, hl0⟩ | ⟨t, e, rfl, ht, ht0⟩
      · subst hl0
        refine awp_drw_end T.mixed [4,11,14] (by kernel_rfl) ?_
        intro K hK
        simp only [↓AXq_nil, ↓AXq_cons, pval, DX, Nat.reduceBEq, ↓DN, UP, DF, qSh, qCv, qIA, qIx, qSl, qBu, qCe, qOn, reduceCtorEq, ↓reduceIte, nLT, nLE, nEQ, nAdd, nMul, nPow, nSub, zLT, zLE, zNat, RPen97, h6, h0, h1, hx, nilS, hmul, hnn, List.replicate_succ]
        intro t ht
        refine hK _ _ (hend _ _ (by simp only [upd, h6, nEQ, ↓reduceIte]) (by simp only [upd, h0, nEQ, ↓reduceIte]) (by simp only [upd, h1, nEQ, ↓reduceIte]) ?_)
        rw [hstep]
        exact hp.one ht _
      · refine awp_drw_end T.mixed [4,11,14] (by kernel_rfl) ?_
        intro K hK
        simp only [↓AXq_nil, ↓AXq_cons, pval, DX, Nat.reduceBEq, ↓DN, UP, DF, qSh, qCv, qIA, qIx, qSl, qBu, qCe, qOn, reduceCtorEq, ↓reduceIte, nLT, nLE, nEQ, nAdd, nMul, nPow, nSub, zLT, zLE, zNat, RPen97, h6, h0, h1, hx, bytesV, hmul, hnn, ht, List.replicate_succ]
        refine ⟨by omega, by omega, hK _ _ (hend _ _ (by simp only [upd, h6, nEQ, ↓reduceIte]) (by simp only [upd, h0, nEQ, ↓reduceIte]) (by simp only [upd, h1, nEQ, ↓reduceIte]) ?_)⟩
        rw [hstep]
        exact hp.more ht0 [_] rfl rfl
    · have hi0 : i = -1 := by omega
      subst hi0
      refine awp_reg_seq ?_
      intro K hK
      simp only [↓DN, UP, DF, qSh, qCv, qIA, qIx, qSl, qBu, qCe, qOn, reduceCtorEq, ↓reduceIte, nLT, nLE, nEQ, nAdd, nMul, nPow, nSub, zLT, zLE, zNat, RPen97, h6, h0, h1, hx]
      refine hK _ _ ?_
      clear hK K
      refine awp_cond_k ?_
      intro X Y hX hY
      simp only [↓DN, UP, DF, qSh, qCv, qIA, qIx, qSl, qBu, qCe, qOn, reduceCtorEq, ↓reduceIte, nLT, nLE, nEQ, nAdd, nMul, nPow, nSub, zLT, zLE, zNat, RPen97, DB]
      refine hY ?_
      clear hX hY X Y
      refine awp_exit ?_
      simp only [thenQ, blockQ, if_true, retQ, AEnds, aresL, atuple, List.toList_toArray]
      refine ⟨_, s1, AV.weak.refl _, AS.le.refl _, rfl, ?_⟩
      have : l' = l ++ be size n := by simpa [be] using hl'
      rw [← this]
      exact hp
end Go.Proofs.Ytcnilmidfhpckaa


set_option autoImplicit false
namespace Go.Proofs.Ytcnilmidfhpckaa
open Go Go.AM Go.Proofs

theorem RPen297 : type_of% (And.intro (And.intro (And.intro (And.intro (And.intro (And.intro @Try.underlying3 T.c3) (And.intro T.g3 T.b3)) (And.intro (And.intro T.z3 @Try.underlying4) (And.intro T.c4 T.g4))) (And.intro (And.intro (And.intro T.b4 T.z4) (And.intro @Try.underlying5 T.c5)) (And.intro (And.intro T.g5 T.b5) (And.intro T.z5 (And.intro @Try.underlying28 T.c28))))) (And.intro (And.intro (And.intro (And.intro T.g28 T.b28) (And.intro T.z28 T.s28)) (And.intro (And.intro @Try.underlying42 T.c42) (And.intro T.g42 T.b42))) (And.intro (And.intro (And.intro T.z42 @Try.underlying137) (And.intro T.c137 T.g137)) (And.intro (And.intro T.b137 T.z137) (And.intro T.h137 (And.intro T.f137_0 T.f137_1)))))) Try.ntmps97) :=
  (And.intro (And.intro (And.intro (And.intro (And.intro (And.intro @Try.underlying3 T.c3) (And.intro T.g3 T.b3)) (And.intro (And.intro T.z3 @Try.underlying4) (And.intro T.c4 T.g4))) (And.intro (And.intro (And.intro T.b4 T.z4) (And.intro @Try.underlying5 T.c5)) (And.intro (And.intro T.g5 T.b5) (And.intro T.z5 (And.intro @Try.underlying28 T.c28))))) (And.intro (And.intro (And.intro (And.intro T.g28 T.b28) (And.intro T.z28 T.s28)) (And.intro (And.intro @Try.underlying42 T.c42) (And.intro T.g42 T.b42))) (And.intro (And.intro (And.intro T.z42 @Try.underlying137) (And.intro T.c137 T.g137)) (And.intro (And.intro T.b137 T.z137) (And.intro T.h137 (And.intro T.f137_0 T.f137_1)))))) Try.ntmps97)
theorem RPen239 : type_of% (And.intro (And.intro (And.intro (And.intro (And.intro @Try.underlying4 (And.intro T.c4 T.g4)) (And.intro T.b4 (And.intro T.z4 @Try.underlying5))) (And.intro (And.intro T.c5 (And.intro T.g5 T.b5)) (And.intro T.z5 (And.intro @Try.underlying28 T.c28)))) (And.intro (And.intro (And.intro T.g28 (And.intro T.b28 T.z28)) (And.intro T.s28 (And.intro @Try.underlying137 T.c137))) (And.intro (And.intro T.g137 (And.intro T.b137 T.z137)) (And.intro T.h137 (And.intro T.f137_0 T.f137_1))))) Try.ntmps39) :=
  (And.intro (And.intro (And.intro (And.intro (And.intro @Try.underlying4 (And.intro T.c4 T.g4)) (And.intro T.b4 (And.intro T.z4 @Try.underlying5))) (And.intro (And.intro T.c5 (And.intro T.g5 T.b5)) (And.intro T.z5 (And.intro @Try.underlying28 T.c28)))) (And.intro (And.intro (And.intro T.g28 (And.intro T.b28 T.z28)) (And.intro T.s28 (And.intro @Try.underlying137 T.c137))) (And.intro (And.intro T.g137 (And.intro T.b137 T.z137)) (And.intro T.h137 (And.intro T.f137_0 T.f137_1))))) Try.ntmps39)
theorem RPen296 : type_of% (And.intro (And.intro (And.intro (And.intro (And.intro (And.intro @Try.underlying3 T.c3) (And.intro T.g3 (And.intro T.b3 T.z3))) (And.intro (And.intro @Try.underlying4 T.c4) (And.intro T.g4 (And.intro T.b4 T.z4)))) (And.intro (And.intro (And.intro @Try.underlying5 T.c5) (And.intro T.g5 (And.intro T.b5 T.z5))) (And.intro (And.intro @Try.underlying28 T.c28) (And.intro T.g28 (And.intro T.b28 T.z28))))) (And.intro (And.intro (And.intro (And.intro T.s28 @Try.underlying42) (And.intro T.c42 (And.intro T.g42 T.b42))) (And.intro (And.intro T.z42 @Try.underlying86) (And.intro T.c86 (And.intro T.g86 T.b86)))) (And.intro (And.intro (And.intro T.z86 T.p86) (And.intro @Try.underlying137 (And.intro T.c137 T.g137))) (And.intro (And.intro T.b137 T.z137) (And.intro T.h137 (And.intro T.f137_1 T.k97)))))) Try.ntmps96) :=
  (And.intro (And.intro (And.intro (And.intro (And.intro (And.intro @Try.underlying3 T.c3) (And.intro T.g3 (And.intro T.b3 T.z3))) (And.intro (And.intro @Try.underlying4 T.c4) (And.intro T.g4 (And.intro T.b4 T.z4)))) (And.intro (And.intro (And.intro @Try.underlying5 T.c5) (And.intro T.g5 (And.intro T.b5 T.z5))) (And.intro (And.intro @Try.underlying28 T.c28) (And.intro T.g28 (And.intro T.b28 T.z28))))) (And.intro (And.intro (And.intro (And.intro T.s28 @Try.underlying42) (And.intro T.c42 (And.intro T.g42 T.b42))) (And.intro (And.intro T.z42 @Try.underlying86) (And.intro T.c86 (And.intro T.g86 T.b86)))) (And.intro (And.intro (And.intro T.z86 T.p86) (And.intro @Try.underlying137 (And.intro T.c137 T.g137))) (And.intro (And.intro T.b137 T.z137) (And.intro T.h137 (And.intro T.f137_1 T.k97)))))) Try.ntmps96)

variable {Γ : Nat → List AV}

set_option maxHeartbeats 400000 in
theorem number_bad (s0 s : AS) (p : Nat) (l : List UInt8) (n size : Int) (hs : 0 ≤ size ∧ size ≤ 8) (h : Pen s0 s p l true) :
    ACalls Try.prog Γ 97 [.ptr p 0, .v (.int .u64 n), .v (.int .i64 size)] s (fun r s' => r = .tup [] ∧ Pen s0 s' p l true) := by
  refine acalls_body Try.func97 rfl Try.ntmps97 Try.results97 (by simp) ?_
  obtain ⟨x, hx, hb⟩ := h.obj
  have hsub : isub .i64 size 1 = size - 1 := isub_i64 (by omega)
  refine awp_reg_seq ?_
  intro K hK
  simp only [↓DN, UP, DF, qSh, qCv, qIA, qIx, qSl, qBu, qCe, qOn, reduceCtorEq, ↓reduceIte, nLT, nLE, nEQ, nAdd, nMul, nPow, nSub, zLT, zLE, zNat, RPen297, hsub]
  refine hK _ _ ?_
  clear hK K
  refine awp_block ?_
  refine awp_loop (fun E s1 => E 6 = .v (.int .i64 (size - 1)) ∧ E 0 = .ptr p 0 ∧ s1 = s) (fun _ _ => 0) ?_ ?_
  · exact ⟨by simp [upd], by simp [upd, initE], rfl⟩
  · rintro E1 s1 ⟨h6, h0, rfl⟩ -
    refine awp_seq_k ?_
    intro K hK
    by_cases hi : 0 ≤ size - 1
    · refine awp_reg_seq ?_
      intro K hK
      simp only [↓DN, UP, DF, qSh, qCv, qIA, qIx, qSl, qBu, qCe, qOn, reduceCtorEq, ↓reduceIte, nLT, nLE, nEQ, nAdd, nMul, nPow, nSub, zLT, zLE, zNat, RPen297, h6, h0, hx, decide_eq_true hi, Bool.not_true]
      refine hK _ _ ?_
      clear hK K
      refine awp_cond_k ?_
      intro X Y hX hY
      simp only [↓DN, UP, DF, qSh, qCv, qIA, qIx, qSl, qBu, qCe, qOn, reduceCtorEq, ↓reduceIte, nLT, nLE, nEQ, nAdd, nMul, nPow, nSub, zLT, zLE, zNat, RPen297, DB]
      refine hY ?_
      clear hX hY X Y
      refine awp_exit ?_
      simp only [thenQ, blockQ, if_true, retQ, AEnds, aresL, atuple, List.toList_toArray]
      exact ⟨_, s1, AV.weak.refl _, AS.le.refl _, rfl, h⟩
    · refine awp_reg_seq ?_
      intro K hK
      simp only [↓DN, UP, DF, qSh, qCv, qIA, qIx, qSl, qBu, qCe, qOn, reduceCtorEq, ↓reduceIte, nLT, nLE, nEQ, nAdd, nMul, nPow, nSub, zLT, zLE, zNat, RPen297, h6, h0, hx, decide_eq_false hi, Bool.not_true, Bool.true_eq_false, Bool.false_eq_true]
      refine hK _ _ ?_
      clear hK K
      refine awp_cond_k ?_
      intro X Y hX hY
      simp only [↓DN, UP, DF, qSh, qCv, qIA, qIx, qSl, qBu, qCe, qOn, reduceCtorEq, ↓reduceIte, nLT, nLE, nEQ, nAdd, nMul, nPow, nSub, zLT, zLE, zNat, RPen297, DB]
      refine hY ?_
      clear hX hY X Y
      refine awp_exit ?_
      simp only [thenQ, blockQ, if_true, retQ, AEnds, aresL, atuple, List.toList_toArray]
      exact ⟨_, s1, AV.weak.refl _, AS.le.refl _, rfl, h⟩

theorem number_any (s0 s : AS) (p : Nat) (st : List UInt8 × Bool) (n size : Nat) (hn : n < 2 ^ 64) (hs : size ≤ 8) (hl : st.1.length + 8 ≤ 2 ^ 45) (h : PenS s0 s p st) :
    ACalls Try.prog Γ 97 [.ptr p 0, .v (.int .u64 n), .v (.int .i64 size)] s (fun r s' => r = .tup [] ∧ PenS s0 s' p (penNum size n st)) := by
  obtain ⟨l, b⟩ := st
  cases b
  · exact number_calls s0 s p l n size hn hs hl h
  · exact number_bad s0 s p l n size (by omega) h

set_option maxHeartbeats 400000 in
theorem new_calls (s : AS) : ACalls Try.prog Γ 39 [] s (fun r s' => ∃ p, r = .ptr p 0 ∧ PenS s s' p ([], false)) := by
  refine acalls_body Try.func39 rfl Try.ntmps39 Try.results39 (by simp) ?_
  refine awp_reg_seq ?_
  intro K hK
  simp only [↓DN, UP, DF, qSh, qCv, qIA, qIx, qSl, qBu, qCe, qOn, reduceCtorEq, ↓reduceIte, nLT, nLE, nEQ, nAdd, nMul, nPow, nSub, zLT, zLE, zNat, RPen239]
  refine hK _ _ ?_
  clear hK K
  refine awp_reg_seq ?_
  intro K hK
  simp only [↓DN, UP, DF, qSh, qCv, qIA, qIx, qSl, qBu, qCe, qOn, reduceCtorEq, ↓reduceIte, nLT, nLE, nEQ, nAdd, nMul, nPow, nSub, zLT, zLE, zNat, RPen239, Array.toList_empty]
  intro p hp
  refine hK _ _ ?_
  refine awp_ret ?_
  simp only [↓DN, UP, DF, qSh, qCv, qIA, qIx, qSl, qBu, qCe, qOn, reduceCtorEq, ↓reduceIte, nLT, nLE, nEQ, nAdd, nMul, nPow, nSub, zLT, zLE, zNat, RPen239, retQ, AEnds, aresL, ares, atuple]
  exact ⟨_, _, AV.weak.refl _, AS.le.refl _, p, rfl, AS.le_set (AS.le.refl s) hp _, hp, _, AS.set_objs_same _ _ _, .inl ⟨rfl, rfl⟩⟩

set_option maxHeartbeats 400000 in
theorem small_calls (s0 s : AS) (p : Nat) (st : List UInt8 × Bool) (n : Int) (size : Nat) (hn : -9223372036854775808 ≤ n ∧ n ≤ 9223372036854775807) (hs : size ≤ 8) (hl : st.1.length + 8 ≤ 2 ^ 45) (h : PenS s0 s p st) :
    ACalls Try.prog Γ 96 [.ptr p 0, .v (.int .i64 n), .v (.int .i64 size)] s (fun r s' => r = .tup [] ∧ PenS s0 s' p (penSmall size n st)) := by
  refine acalls_body Try.func96 rfl Try.ntmps96 Try.results96 (by simp) ?_
  obtain ⟨x, hx, hb⟩ := h.obj
  refine awp_seq_k ?_
  intro K hK
  have hmul : imul .i64 8 (size : Int) = 8 * size := imul_i64 (by omega)
  have hnn : ¬ (8 * (size : Int) < 0) := by omega
  by_cases h0 : n < 0
  · refine awp_reg_seq ?_
    intro K hK
    simp only [↓DN, UP, DF, qSh, qCv, qIA, qIx, qSl, qBu, qCe, qOn, reduceCtorEq, ↓reduceIte, nLT, nLE, nEQ, nAdd, nMul, nPow, nSub, zLT, zLE, zNat, RPen296, decide_eq_true h0, Bool.true_eq_false]
    refine hK _ _ ?_
    clear hK K
    refine awp_cond_k ?_
    intro X Y hX hY
    simp only [↓DN, UP, DF, qSh, qCv, qIA, qIx, qSl, qBu, qCe, qOn, reduceCtorEq, ↓reduceIte, nLT, nLE, nEQ, nAdd, nMul, nPow, nSub, zLT, zLE, zNat, RPen296, DB]
    refine hX ?_
    clear hX hY X Y
    refine awp_reg_seq ?_
    intro K hK
    simp only [↓DN, UP, DF, qSh, qCv, qIA, qIx, qSl, qBu, qCe, qOn, reduceCtorEq, ↓reduceIte, nLT, nLE, nEQ, nAdd, nMul, nPow, nSub, zLT, zLE, zNat, RPen296, hx]
    refine hK _ _ ?_
    clear hK K
    refine awp_ret ?_
    simp only [thenQ, retQ, AEnds, aresL, atuple, List.toList_toArray]
    refine ⟨_, _, AV.weak.refl _, AS.le.refl _, rfl, ?_⟩
    have : penSmall size n st = (st.1, true) := by unfold penSmall; rw [if_neg (by omega)]
    rw [this]
    exact h.bad hx hb true
  · by_cases h1 : 2 ^ (8 * size) ≤ n
    · refine awp_reg_seq ?_
      intro K hK
      simp only [↓DN, UP, DF, qSh, qCv, qIA, qIx, qSl, qBu, qCe, qOn, reduceCtorEq, ↓reduceIte, nLT, nLE, nEQ, nAdd, nMul, nPow, nSub, zLT, zLE, zNat, RPen296, decide_eq_false h0, Bool.false_eq_true, hmul, hnn, shr_small n size (by omega) (by omega), decide_eq_true h1]
      refine hK _ _ ?_
      clear hK K
      refine awp_cond_k ?_
      intro X Y hX hY
      simp only [↓DN, UP, DF, qSh, qCv, qIA, qIx, qSl, qBu, qCe, qOn, reduceCtorEq, ↓reduceIte, nLT, nLE, nEQ, nAdd, nMul, nPow, nSub, zLT, zLE, zNat, RPen296, DB]
      refine hX ?_
      clear hX hY X Y
      refine awp_reg_seq ?_
      intro K hK
      simp only [↓DN, UP, DF, qSh, qCv, qIA, qIx, qSl, qBu, qCe, qOn, reduceCtorEq, ↓reduceIte, nLT, nLE, nEQ, nAdd, nMul, nPow, nSub, zLT, zLE, zNat, RPen296, hx]
      refine hK _ _ ?_
      clear hK K
      refine awp_ret ?_
      simp only [thenQ, retQ, AEnds, aresL, atuple, List.toList_toArray]
      refine ⟨_, _, AV.weak.refl _, AS.le.refl _, rfl, ?_⟩
      have : penSmall size n st = (st.1, true) := by unfold penSmall; rw [if_neg (by omega)]
      rw [this]
      exact h.bad hx hb true
    · refine awp_reg_seq ?_
      intro K hK
      simp only [↓DN, UP, DF, qSh, qCv, qIA, qIx, qSl, qBu, qCe, qOn, reduceCtorEq, ↓reduceIte, nLT, nLE, nEQ, nAdd, nMul, nPow, nSub, zLT, zLE, zNat, RPen296, decide_eq_false h0, Bool.false_eq_true, hmul, hnn, shr_small n size (by omega) (by omega), decide_eq_false h1]
      refine hK _ _ ?_
      clear hK K
      refine awp_cond_k ?_
      intro X Y hX hY
      simp only [↓DN, UP, DF, qSh, qCv, qIA, qIx, qSl, qBu, qCe, qOn, reduceCtorEq, ↓reduceIte, nLT, nLE, nEQ, nAdd, nMul, nPow, nSub, zLT, zLE, zNat, RPen296, DB]
      refine hY ?_
      clear hX hY X Y
      refine awp_skip ?_
      refine hK _ _ ?_
      clear hK K
      obtain ⟨m, rfl⟩ := Int.eq_ofNat_of_zero_le (Int.not_lt.1 h0)
      have hconv : iconv .u64 (m : Int) = m := iconv_u64_nat m (by omega)
      refine awp_reg_end ?_
      intro K hK
      simp only [↓DN, UP, DF, qSh, qCv, qIA, qIx, qSl, qBu, qCe, qOn, reduceCtorEq, ↓reduceIte, nLT, nLE, nEQ, nAdd, nMul, nPow, nSub, zLT, zLE, zNat, RPen296, hconv]
      refine acallk (number_any s0 s p st m size (by omega) hs hl h) ?_
      rintro r s' ⟨rfl, hp⟩
      simp only [↓AXq_nil, ↓AXq_cons, pval, DX, Nat.reduceBEq, ↓DN, UP, DF, qSh, qCv, qIA, qIx, qSl, qBu, qCe, qOn, reduceCtorEq, ↓reduceIte, nLT, nLE, nEQ, nAdd, nMul, nPow, nSub, zLT, zLE, zNat, RPen296]
      refine hK _ _ ?_
      clear hK K
      simp only [retQ, AEnds, aresL, atuple, List.toList_toArray]
      refine ⟨_, _, AV.weak.refl _, AS.le.refl _, rfl, ?_⟩
      have : penSmall size m st = penNum size m st := by unfold penSmall; rw [if_pos (by omega)]; rfl
      rw [this]
      exact hp

end Go.Proofs.Ytcnilmidfhpckaa


set_option autoImplicit false
namespace Go.Proofs.Ytcnilmidfhpckaa
open Go Go.AM Go.Proofs

theorem RPen343 : type_of% (And.intro (And.intro (And.intro (And.intro (And.intro @Try.underlying3 (And.intro T.c3 T.g3)) (And.intro (And.intro T.b3 T.z3) (And.intro @Try.underlying4 T.c4))) (And.intro (And.intro T.g4 (And.intro T.b4 T.z4)) (And.intro (And.intro @Try.underlying28 T.c28) (And.intro T.g28 T.b28)))) (And.intro (And.intro (And.intro T.z28 (And.intro T.s28 @Try.underlying86)) (And.intro (And.intro T.c86 T.g86) (And.intro T.b86 T.z86))) (And.intro (And.intro (And.intro T.p86 @Try.underlying137) (And.intro T.c137 T.g137)) (And.intro (And.intro T.b137 T.z137) (And.intro T.h137 T.k96))))) Try.ntmps43) :=
  (And.intro (And.intro (And.intro (And.intro (And.intro @Try.underlying3 (And.intro T.c3 T.g3)) (And.intro (And.intro T.b3 T.z3) (And.intro @Try.underlying4 T.c4))) (And.intro (And.intro T.g4 (And.intro T.b4 T.z4)) (And.intro (And.intro @Try.underlying28 T.c28) (And.intro T.g28 T.b28)))) (And.intro (And.intro (And.intro T.z28 (And.intro T.s28 @Try.underlying86)) (And.intro (And.intro T.c86 T.g86) (And.intro T.b86 T.z86))) (And.intro (And.intro (And.intro T.p86 @Try.underlying137) (And.intro T.c137 T.g137)) (And.intro (And.intro T.b137 T.z137) (And.intro T.h137 T.k96))))) Try.ntmps43)
theorem RPen344 : type_of% (And.intro (And.intro (And.intro (And.intro (And.intro (And.intro @Try.underlying3 T.c3) (And.intro T.g3 T.b3)) (And.intro (And.intro T.z3 @Try.underlying4) (And.intro T.c4 T.g4))) (And.intro (And.intro (And.intro T.b4 T.z4) (And.intro @Try.underlying28 T.c28)) (And.intro (And.intro T.g28 T.b28) (And.intro T.z28 (And.intro T.s28 @Try.underlying42))))) (And.intro (And.intro (And.intro (And.intro T.c42 T.g42) (And.intro T.b42 T.z42)) (And.intro (And.intro @Try.underlying86 T.c86) (And.intro T.g86 T.b86))) (And.intro (And.intro (And.intro T.z86 T.p86) (And.intro @Try.underlying137 T.c137)) (And.intro (And.intro T.g137 T.b137) (And.intro T.z137 (And.intro T.h137 T.k97)))))) Try.ntmps44) :=
  (And.intro (And.intro (And.intro (And.intro (And.intro (And.intro @Try.underlying3 T.c3) (And.intro T.g3 T.b3)) (And.intro (And.intro T.z3 @Try.underlying4) (And.intro T.c4 T.g4))) (And.intro (And.intro (And.intro T.b4 T.z4) (And.intro @Try.underlying28 T.c28)) (And.intro (And.intro T.g28 T.b28) (And.intro T.z28 (And.intro T.s28 @Try.underlying42))))) (And.intro (And.intro (And.intro (And.intro T.c42 T.g42) (And.intro T.b42 T.z42)) (And.intro (And.intro @Try.underlying86 T.c86) (And.intro T.g86 T.b86))) (And.intro (And.intro (And.intro T.z86 T.p86) (And.intro @Try.underlying137 T.c137)) (And.intro (And.intro T.g137 T.b137) (And.intro T.z137 (And.intro T.h137 T.k97)))))) Try.ntmps44)
theorem RPen340 : type_of% (And.intro (And.intro (And.intro (And.intro (And.intro @Try.underlying4 (And.intro T.c4 T.g4)) (And.intro T.b4 (And.intro T.z4 @Try.underlying5))) (And.intro (And.intro T.c5 (And.intro T.g5 T.b5)) (And.intro T.z5 (And.intro @Try.underlying28 T.c28)))) (And.intro (And.intro (And.intro T.g28 (And.intro T.b28 T.z28)) (And.intro T.s28 (And.intro @Try.underlying137 T.c137))) (And.intro (And.intro T.g137 (And.intro T.b137 T.z137)) (And.intro T.h137 (And.intro T.f137_0 T.f137_1))))) Try.ntmps40) :=
  (And.intro (And.intro (And.intro (And.intro (And.intro @Try.underlying4 (And.intro T.c4 T.g4)) (And.intro T.b4 (And.intro T.z4 @Try.underlying5))) (And.intro (And.intro T.c5 (And.intro T.g5 T.b5)) (And.intro T.z5 (And.intro @Try.underlying28 T.c28)))) (And.intro (And.intro (And.intro T.g28 (And.intro T.b28 T.z28)) (And.intro T.s28 (And.intro @Try.underlying137 T.c137))) (And.intro (And.intro T.g137 (And.intro T.b137 T.z137)) (And.intro T.h137 (And.intro T.f137_0 T.f137_1))))) Try.ntmps40)
theorem RPen394 : type_of% (And.intro (And.intro (And.intro (And.intro (And.intro (And.intro @Try.underlying3 T.c3) (And.intro T.g3 T.b3)) (And.intro (And.intro T.z3 @Try.underlying4) (And.intro T.c4 T.g4))) (And.intro (And.intro (And.intro T.b4 T.z4) (And.intro @Try.underlying5 T.c5)) (And.intro (And.intro T.g5 T.b5) (And.intro T.z5 (And.intro @Try.underlying28 T.c28))))) (And.intro (And.intro (And.intro (And.intro T.g28 T.b28) (And.intro T.z28 T.s28)) (And.intro (And.intro @Try.underlying86 T.c86) (And.intro T.g86 (And.intro T.b86 T.z86)))) (And.intro (And.intro (And.intro T.p86 @Try.underlying137) (And.intro T.c137 T.g137)) (And.intro (And.intro T.b137 T.z137) (And.intro T.h137 (And.intro T.k96 T.k40)))))) Try.ntmps94) :=
  (And.intro (And.intro (And.intro (And.intro (And.intro (And.intro @Try.underlying3 T.c3) (And.intro T.g3 T.b3)) (And.intro (And.intro T.z3 @Try.underlying4) (And.intro T.c4 T.g4))) (And.intro (And.intro (And.intro T.b4 T.z4) (And.intro @Try.underlying5 T.c5)) (And.intro (And.intro T.g5 T.b5) (And.intro T.z5 (And.intro @Try.underlying28 T.c28))))) (And.intro (And.intro (And.intro (And.intro T.g28 T.b28) (And.intro T.z28 T.s28)) (And.intro (And.intro @Try.underlying86 T.c86) (And.intro T.g86 (And.intro T.b86 T.z86)))) (And.intro (And.intro (And.intro T.p86 @Try.underlying137) (And.intro T.c137 T.g137)) (And.intro (And.intro T.b137 T.z137) (And.intro T.h137 (And.intro T.k96 T.k40)))))) Try.ntmps94)
theorem RPen341 : type_of% (And.intro (And.intro (And.intro (And.intro (And.intro (And.intro @Try.underlying3 T.c3) (And.intro T.g3 T.b3)) (And.intro (And.intro T.z3 @Try.underlying4) (And.intro T.c4 T.g4))) (And.intro (And.intro (And.intro T.b4 T.z4) (And.intro @Try.underlying5 T.c5)) (And.intro (And.intro T.g5 T.b5) (And.intro T.z5 (And.intro @Try.underlying28 T.c28))))) (And.intro (And.intro (And.intro (And.intro T.g28 T.b28) (And.intro T.z28 T.s28)) (And.intro (And.intro @Try.underlying86 T.c86) (And.intro T.g86 T.b86))) (And.intro (And.intro (And.intro T.z86 T.p86) (And.intro @Try.underlying137 T.c137)) (And.intro (And.intro T.g137 T.b137) (And.intro T.z137 (And.intro T.h137 T.k94)))))) Try.ntmps41) :=
  (And.intro (And.intro (And.intro (And.intro (And.intro (And.intro @Try.underlying3 T.c3) (And.intro T.g3 T.b3)) (And.intro (And.intro T.z3 @Try.underlying4) (And.intro T.c4 T.g4))) (And.intro (And.intro (And.intro T.b4 T.z4) (And.intro @Try.underlying5 T.c5)) (And.intro (And.intro T.g5 T.b5) (And.intro T.z5 (And.intro @Try.underlying28 T.c28))))) (And.intro (And.intro (And.intro (And.intro T.g28 T.b28) (And.intro T.z28 T.s28)) (And.intro (And.intro @Try.underlying86 T.c86) (And.intro T.g86 T.b86))) (And.intro (And.intro (And.intro T.z86 T.p86) (And.intro @Try.underlying137 T.c137)) (And.intro (And.intro T.g137 T.b137) (And.intro T.z137 (And.intro T.h137 T.k94)))))) Try.ntmps41)
theorem RPen3111 : type_of% (And.intro (And.intro (And.intro (And.intro (And.intro (And.intro @Try.underlying3 T.c3) (And.intro T.g3 T.b3)) (And.intro (And.intro T.z3 @Try.underlying4) (And.intro T.c4 T.g4))) (And.intro (And.intro (And.intro T.b4 T.z4) (And.intro @Try.underlying5 T.c5)) (And.intro (And.intro T.g5 T.b5) (And.intro T.z5 (And.intro @Try.underlying28 T.c28))))) (And.intro (And.intro (And.intro (And.intro T.g28 T.b28) (And.intro T.z28 T.s28)) (And.intro (And.intro @Try.underlying86 T.c86) (And.intro T.g86 T.b86))) (And.intro (And.intro (And.intro T.z86 T.p86) (And.intro @Try.underlying137 T.c137)) (And.intro (And.intro T.g137 T.b137) (And.intro T.z137 (And.intro T.h137 T.k94)))))) Try.ntmps111) :=
  (And.intro (And.intro (And.intro (And.intro (And.intro (And.intro @Try.underlying3 T.c3) (And.intro T.g3 T.b3)) (And.intro (And.intro T.z3 @Try.underlying4) (And.intro T.c4 T.g4))) (And.intro (And.intro (And.intro T.b4 T.z4) (And.intro @Try.underlying5 T.c5)) (And.intro (And.intro T.g5 T.b5) (And.intro T.z5 (And.intro @Try.underlying28 T.c28))))) (And.intro (And.intro (And.intro (And.intro T.g28 T.b28) (And.intro T.z28 T.s28)) (And.intro (And.intro @Try.underlying86 T.c86) (And.intro T.g86 T.b86))) (And.intro (And.intro (And.intro T.z86 T.p86) (And.intro @Try.underlying137 T.c137)) (And.intro (And.intro T.g137 T.b137) (And.intro T.z137 (And.intro T.h137 T.k94)))))) Try.ntmps111)
theorem RPen395 : type_of% (And.intro (And.intro (And.intro (And.intro @Try.underlying5 T.c5) (And.intro T.g5 (And.intro T.b5 T.z5))) (And.intro (And.intro @Try.underlying28 (And.intro T.c28 T.g28)) (And.intro T.b28 (And.intro T.z28 T.s28)))) Try.ntmps95) :=
  (And.intro (And.intro (And.intro (And.intro @Try.underlying5 T.c5) (And.intro T.g5 (And.intro T.b5 T.z5))) (And.intro (And.intro @Try.underlying28 (And.intro T.c28 T.g28)) (And.intro T.b28 (And.intro T.z28 T.s28)))) Try.ntmps95)
theorem RPen342 : type_of% (And.intro (And.intro (And.intro (And.intro (And.intro @Try.underlying4 (And.intro T.c4 T.g4)) (And.intro T.b4 (And.intro T.z4 @Try.underlying5))) (And.intro (And.intro T.c5 (And.intro T.g5 T.b5)) (And.intro T.z5 (And.intro @Try.underlying28 T.c28)))) (And.intro (And.intro (And.intro T.g28 (And.intro T.b28 T.z28)) (And.intro T.s28 (And.intro @Try.underlying137 T.c137))) (And.intro (And.intro T.g137 (And.intro T.b137 T.z137)) (And.intro (And.intro T.h137 T.f137_0) (And.intro T.f137_1 T.k95))))) Try.ntmps42) :=
  (And.intro (And.intro (And.intro (And.intro (And.intro @Try.underlying4 (And.intro T.c4 T.g4)) (And.intro T.b4 (And.intro T.z4 @Try.underlying5))) (And.intro (And.intro T.c5 (And.intro T.g5 T.b5)) (And.intro T.z5 (And.intro @Try.underlying28 T.c28)))) (And.intro (And.intro (And.intro T.g28 (And.intro T.b28 T.z28)) (And.intro T.s28 (And.intro @Try.underlying137 T.c137))) (And.intro (And.intro T.g137 (And.intro T.b137 T.z137)) (And.intro (And.intro T.h137 T.f137_0) (And.intro T.f137_1 T.k95))))) Try.ntmps42)

variable {Γ : Nat → List AV}



set_option maxHeartbeats 400000 in
theorem penU8_calls (s0 s : AS) (p : Nat) (st : List UInt8 × Bool) (n : Int) (hn : -9223372036854775808 ≤ n ∧ n ≤ 9223372036854775807) (hl : st.1.length + 8 ≤ 2 ^ 45) (h : PenS s0 s p st) :
    ACalls Try.prog Γ 43 [.ptr p 0, .v (.int .i64 n)] s (fun r s' => r = .tup [] ∧ PenS s0 s' p (penSmall 1 n st)) := by
  refine acalls_body Try.func43 rfl Try.ntmps43 Try.results43 (by simp) ?_
  refine awp_reg_end ?_
  intro K hK
  simp only [↓DN, UP, DF, qSh, qCv, qIA, qIx, qSl, qBu, qCe, qOn, reduceCtorEq, ↓reduceIte, nLT, nLE, nEQ, nAdd, nMul, nPow, nSub, zLT, zLE, zNat, RPen343]
  refine acallk (small_calls s0 s p st n 1 hn (by omega) hl h) ?_
  rintro r s' ⟨rfl, hp⟩
  simp only [↓AXq_nil, ↓AXq_cons, pval, DX, Nat.reduceBEq, ↓DN, UP, DF, qSh, qCv, qIA, qIx, qSl, qBu, qCe, qOn, reduceCtorEq, ↓reduceIte, nLT, nLE, nEQ, nAdd, nMul, nPow, nSub, zLT, zLE, zNat, RPen343]
  refine hK _ _ ?_
  clear hK K
  simp only [retQ, AEnds, aresL, ares, List.toList_toArray, ↓upd_same]; try simp only [↓DN, UP, DF, qSh, qCv, qIA, qIx, qSl, qBu, qCe, qOn, reduceCtorEq, ↓reduceIte, nLT, nLE, nEQ, nAdd, nMul, nPow, nSub, zLT, zLE, zNat, RPen343, DT]
  exact ⟨_, _, AV.weak.refl _, AS.le.refl _, rfl, hp⟩

set_option maxHeartbeats 400000 in
theorem penU64_calls (s0 s : AS) (p : Nat) (st : List UInt8 × Bool) (n : Nat) (hn : n < 2 ^ 64) (hl : st.1.length + 8 ≤ 2 ^ 45) (h : PenS s0 s p st) :
    ACalls Try.prog Γ 44 [.ptr p 0, .v (.int .u64 n)] s (fun r s' => r = .tup [] ∧ PenS s0 s' p (penNum 8 n st)) := by
  refine acalls_body Try.func44 rfl Try.ntmps44 Try.results44 (by simp) ?_
  refine awp_reg_end ?_
  intro K hK
  simp only [↓DN, UP, DF, qSh, qCv, qIA, qIx, qSl, qBu, qCe, qOn, reduceCtorEq, ↓reduceIte, nLT, nLE, nEQ, nAdd, nMul, nPow, nSub, zLT, zLE, zNat, RPen344]
  refine acallk (number_any s0 s p st n 8 hn (by omega) hl h) ?_
  rintro r s' ⟨rfl, hp⟩
  simp only [↓AXq_nil, ↓AXq_cons, pval, DX, Nat.reduceBEq, ↓DN, UP, DF, qSh, qCv, qIA, qIx, qSl, qBu, qCe, qOn, reduceCtorEq, ↓reduceIte, nLT, nLE, nEQ, nAdd, nMul, nPow, nSub, zLT, zLE, zNat, RPen344]
  refine hK _ _ ?_
  clear hK K
  simp only [retQ, AEnds, aresL, ares, List.toList_toArray, ↓upd_same]; try simp only [↓DN, UP, DF, qSh, qCv, qIA, qIx, qSl, qBu, qCe, qOn, reduceCtorEq, ↓reduceIte, nLT, nLE, nEQ, nAdd, nMul, nPow, nSub, zLT, zLE, zNat, RPen344, DT]
  exact ⟨_, _, AV.weak.refl _, AS.le.refl _, rfl, hp⟩

set_option maxHeartbeats 800000 in
theorem penRaw_calls (s0 s : AS) (p : Nat) (st : List UInt8 × Bool) (b : AV) (m : List UInt8) (hb : IsB b m) (hl : st.1.length + m.length ≤ 2 ^ 45) (h : PenS s0 s p st) :
    ACalls Try.prog Γ 40 [.ptr p 0, b] s (fun r s' => r = .tup [] ∧ PenS s0 s' p (penRaw m st)) := by
  obtain ⟨l, bad⟩ := st
  obtain ⟨x, hx, hbuf⟩ := h.obj
  refine acalls_body Try.func40 rfl Try.ntmps40 Try.results40 (by simp) ?_
  cases bad
  · refine awp_reg_seq ?_
    intro K hK
    simp only [↓DN, UP, DF, qSh, qCv, qIA, qIx, qSl, qBu, qCe, qOn, reduceCtorEq, ↓reduceIte, nLT, nLE, nEQ, nAdd, nMul, nPow, nSub, zLT, zLE, zNat, RPen340, hx, Bool.not_false]
    refine hK _ _ ?_
    clear hK K
    refine awp_cond_k ?_
    intro X Y hX hY
    simp only [↓DN, UP, DF, qSh, qCv, qIA, qIx, qSl, qBu, qCe, qOn, reduceCtorEq, ↓reduceIte, nLT, nLE, nEQ, nAdd, nMul, nPow, nSub, zLT, zLE, zNat, RPen340, DB]
    refine hX ?_
    clear hX hY X Y
    have hraw : penRaw m (l, false) = (l ++ m, false) := rfl
    by_cases hm : m.length = 0
    · have hm0 : m = [] := List.eq_nil_of_length_eq_zero hm
      subst hm0
      have e : (l ++ [], false) = (l, false) := by simp
      rw [hraw, e]
      rcases hbuf with ⟨rfl, hl0⟩ | ⟨t, e, rfl, ht, ht0⟩
      · simp only at hl0
        subst hl0
        rcases hb with ⟨rfl, _⟩ | ⟨sp, rfl⟩
        · refine awp_reg_end ?_
          intro K hK
          simp only [↓DN, UP, DF, qSh, qCv, qIA, qIx, qSl, qBu, qCe, qOn, reduceCtorEq, ↓reduceIte, nLT, nLE, nEQ, nAdd, nMul, nPow, nSub, zLT, zLE, zNat, RPen340, hx, nilS, bytesV, hm]
          refine hK _ _ ?_
          clear hK K
          simp only [retQ, AEnds, aresL, ares, List.toList_toArray, ↓upd_same]; try simp only [↓DN, UP, DF, qSh, qCv, qIA, qIx, qSl, qBu, qCe, qOn, reduceCtorEq, ↓reduceIte, nLT, nLE, nEQ, nAdd, nMul, nPow, nSub, zLT, zLE, zNat, RPen340, DT]
          exact ⟨_, _, AV.weak.refl _, AS.le.refl _, rfl, h.bad hx (.inl ⟨rfl, rfl⟩) false⟩
        · refine awp_reg_end ?_
          intro K hK
          simp only [↓DN, UP, DF, qSh, qCv, qIA, qIx, qSl, qBu, qCe, qOn, reduceCtorEq, ↓reduceIte, nLT, nLE, nEQ, nAdd, nMul, nPow, nSub, zLT, zLE, zNat, RPen340, hx, nilS, bytesV, hm]
          refine hK _ _ ?_
          clear hK K
          simp only [retQ, AEnds, aresL, ares, List.toList_toArray, ↓upd_same]; try simp only [↓DN, UP, DF, qSh, qCv, qIA, qIx, qSl, qBu, qCe, qOn, reduceCtorEq, ↓reduceIte, nLT, nLE, nEQ, nAdd, nMul, nPow, nSub, zLT, zLE, zNat, RPen340, DT]
          exact ⟨_, _, AV.weak.refl _, AS.le.refl _, rfl, h.bad hx (.inl ⟨rfl, rfl⟩) false⟩
      · rcases hb with ⟨rfl, _⟩ | ⟨sp, rfl⟩
        · refine awp_reg_end ?_
          intro K hK
          simp only [↓DN, UP, DF, qSh, qCv, qIA, qIx, qSl, qBu, qCe, qOn, reduceCtorEq, ↓reduceIte, nLT, nLE, nEQ, nAdd, nMul, nPow, nSub, zLT, zLE, zNat, RPen340, hx, nilS, bytesV, hm]
          refine hK _ _ ?_
          clear hK K
          simp only [retQ, AEnds, aresL, ares, List.toList_toArray, ↓upd_same]; try simp only [↓DN, UP, DF, qSh, qCv, qIA, qIx, qSl, qBu, qCe, qOn, reduceCtorEq, ↓reduceIte, nLT, nLE, nEQ, nAdd, nMul, nPow, nSub, zLT, zLE, zNat, RPen340, DT]
          exact ⟨_, _, AV.weak.refl _, AS.le.refl _, rfl, h.bad hx (.inr ⟨t, e, rfl, ht, ht0⟩) false⟩
        · refine awp_reg_end ?_
          intro K hK
          simp only [↓DN, UP, DF, qSh, qCv, qIA, qIx, qSl, qBu, qCe, qOn, reduceCtorEq, ↓reduceIte, nLT, nLE, nEQ, nAdd, nMul, nPow, nSub, zLT, zLE, zNat, RPen340, hx, nilS, bytesV, hm]
          refine hK _ _ ?_
          clear hK K
          simp only [retQ, AEnds, aresL, ares, List.toList_toArray, ↓upd_same]; try simp only [↓DN, UP, DF, qSh, qCv, qIA, qIx, qSl, qBu, qCe, qOn, reduceCtorEq, ↓reduceIte, nLT, nLE, nEQ, nAdd, nMul, nPow, nSub, zLT, zLE, zNat, RPen340, DT]
          exact ⟨_, _, AV.weak.refl _, AS.le.refl _, rfl, h.bad hx (.inr ⟨t, e, rfl, ht, ht0⟩) false⟩
    · have hb' : ∃ sp, b = bytesV m sp := by
        rcases hb with ⟨_, rfl⟩ | hb
        · exact absurd rfl hm
        · exact hb
      obtain ⟨sp, rfl⟩ := hb'
      rw [hraw]
      simp only at hl
      rcases hbuf with ⟨rfl, hl0⟩ | ⟨t, e, rfl, ht, ht0⟩
      · simp only at hl0
        subst hl0
        refine awp_reg_end ?_
        intro K hK
        simp only [↓DN, UP, DF, qSh, qCv, qIA, qIx, qSl, qBu, qCe, qOn, reduceCtorEq, ↓reduceIte, nLT, nLE, nEQ, nAdd, nMul, nPow, nSub, zLT, zLE, zNat, RPen340, hx, nilS, bytesV, hm]
        refine ⟨by omega, by omega, fun t ht => hK _ _ ?_⟩
        clear hK K
        simp only [retQ, AEnds, aresL, ares, List.toList_toArray, ↓upd_same]; try simp only [↓DN, UP, DF, qSh, qCv, qIA, qIx, qSl, qBu, qCe, qOn, reduceCtorEq, ↓reduceIte, nLT, nLE, nEQ, nAdd, nMul, nPow, nSub, zLT, zLE, zNat, RPen340, DT]
        exact ⟨_, _, AV.weak.refl _, AS.le.refl _, rfl, h.put_one ht m⟩
      · refine awp_reg_end ?_
        intro K hK
        simp only [↓DN, UP, DF, qSh, qCv, qIA, qIx, qSl, qBu, qCe, qOn, reduceCtorEq, ↓reduceIte, nLT, nLE, nEQ, nAdd, nMul, nPow, nSub, zLT, zLE, zNat, RPen340, hx, bytesV, hm, ht]
        refine ⟨by omega, by omega, hK _ _ ?_⟩
        clear hK K
        simp only [retQ, AEnds, aresL, ares, List.toList_toArray, ↓upd_same]; try simp only [↓DN, UP, DF, qSh, qCv, qIA, qIx, qSl, qBu, qCe, qOn, reduceCtorEq, ↓reduceIte, nLT, nLE, nEQ, nAdd, nMul, nPow, nSub, zLT, zLE, zNat, RPen340, DT]
        exact ⟨_, _, AV.weak.refl _, AS.le.refl _, rfl, h.more ht0 m rfl rfl⟩
  · refine awp_reg_seq ?_
    intro K hK
    simp only [↓DN, UP, DF, qSh, qCv, qIA, qIx, qSl, qBu, qCe, qOn, reduceCtorEq, ↓reduceIte, nLT, nLE, nEQ, nAdd, nMul, nPow, nSub, zLT, zLE, zNat, RPen340, hx, Bool.not_true]
    refine hK _ _ ?_
    clear hK K
    refine awp_cond_k ?_
    intro X Y hX hY
    simp only [↓DN, UP, DF, qSh, qCv, qIA, qIx, qSl, qBu, qCe, qOn, reduceCtorEq, ↓reduceIte, nLT, nLE, nEQ, nAdd, nMul, nPow, nSub, zLT, zLE, zNat, RPen340, DB]
    refine hY ?_
    clear hX hY X Y
    refine awp_skip ?_
    simp only [retQ, AEnds, aresL, ares, List.toList_toArray, ↓upd_same]; try simp only [↓DN, UP, DF, qSh, qCv, qIA, qIx, qSl, qBu, qCe, qOn, reduceCtorEq, ↓reduceIte, nLT, nLE, nEQ, nAdd, nMul, nPow, nSub, zLT, zLE, zNat, RPen340, DT]
    exact ⟨_, _, AV.weak.refl _, AS.le.refl _, rfl, h⟩

set_option maxHeartbeats 400000 in
theorem penText_calls (s0 s : AS) (p : Nat) (st : List UInt8 × Bool) (b : AV) (m : List UInt8) (k : Nat) (hk : k ≤ 8) (hb : IsB b m) (hl : st.1.length + m.length + 8 ≤ 2 ^ 45) (h : PenS s0 s p st) :
    ACalls Try.prog Γ 94 [.ptr p 0, b, .v (.int .i64 k)] s (fun r s' => r = .tup [] ∧ PenS s0 s' p (penText k m st)) := by
  refine acalls_body Try.func94 rfl Try.ntmps94 Try.results94 (by simp) ?_
  have hlen : (penSmall k m.length st).1.length ≤ st.1.length + k := penSmall_len ..
  rcases hb with ⟨rfl, rfl⟩ | ⟨sp, rfl⟩
  · refine awp_reg_seq ?_
    intro K hK
    simp only [↓DN, UP, DF, qSh, qCv, qIA, qIx, qSl, qBu, qCe, qOn, reduceCtorEq, ↓reduceIte, nLT, nLE, nEQ, nAdd, nMul, nPow, nSub, zLT, zLE, zNat, RPen394, nilS, List.length_nil]
    refine acallk (small_calls s0 s p st 0 k (by omega) hk (by omega) h) ?_
    rintro r s' ⟨rfl, hp⟩
    simp only [↓AXq_nil, ↓AXq_cons, pval, DX, Nat.reduceBEq, ↓DN, UP, DF, qSh, qCv, qIA, qIx, qSl, qBu, qCe, qOn, reduceCtorEq, ↓reduceIte, nLT, nLE, nEQ, nAdd, nMul, nPow, nSub, zLT, zLE, zNat, RPen394]
    refine hK _ _ ?_
    clear hK K
    refine awp_reg_end ?_
    intro K hK
    simp only [↓DN, UP, DF, qSh, qCv, qIA, qIx, qSl, qBu, qCe, qOn, reduceCtorEq, ↓reduceIte, nLT, nLE, nEQ, nAdd, nMul, nPow, nSub, zLT, zLE, zNat, RPen394]
    refine acallk (penRaw_calls s0 s' p _ nilS [] IsB.nil (by have := penSmall_len k 0 st; simp at this hl ⊢; omega) hp) ?_
    rintro r s'' ⟨rfl, hp'⟩
    simp only [↓AXq_nil, ↓AXq_cons, pval, DX, Nat.reduceBEq, ↓DN, UP, DF, qSh, qCv, qIA, qIx, qSl, qBu, qCe, qOn, reduceCtorEq, ↓reduceIte, nLT, nLE, nEQ, nAdd, nMul, nPow, nSub, zLT, zLE, zNat, RPen394]
    refine hK _ _ ?_
    clear hK K
    simp only [retQ, AEnds, aresL, ares, List.toList_toArray, ↓upd_same]; try simp only [↓DN, UP, DF, qSh, qCv, qIA, qIx, qSl, qBu, qCe, qOn, reduceCtorEq, ↓reduceIte, nLT, nLE, nEQ, nAdd, nMul, nPow, nSub, zLT, zLE, zNat, RPen394, DT]
    exact ⟨_, _, AV.weak.refl _, AS.le.refl _, rfl, hp'⟩
  · refine awp_reg_seq ?_
    intro K hK
    simp only [↓DN, UP, DF, qSh, qCv, qIA, qIx, qSl, qBu, qCe, qOn, reduceCtorEq, ↓reduceIte, nLT, nLE, nEQ, nAdd, nMul, nPow, nSub, zLT, zLE, zNat, RPen394, bytesV]
    refine acallk (small_calls s0 s p st m.length k (by omega) hk (by omega) h) ?_
    rintro r s' ⟨rfl, hp⟩
    simp only [↓AXq_nil, ↓AXq_cons, pval, DX, Nat.reduceBEq, ↓DN, UP, DF, qSh, qCv, qIA, qIx, qSl, qBu, qCe, qOn, reduceCtorEq, ↓reduceIte, nLT, nLE, nEQ, nAdd, nMul, nPow, nSub, zLT, zLE, zNat, RPen394]
    refine hK _ _ ?_
    clear hK K
    refine awp_reg_end ?_
    intro K hK
    simp only [↓DN, UP, DF, qSh, qCv, qIA, qIx, qSl, qBu, qCe, qOn, reduceCtorEq, ↓reduceIte, nLT, nLE, nEQ, nAdd, nMul, nPow, nSub, zLT, zLE, zNat, RPen394]
    refine acallk (penRaw_calls s0 s' p _ (bytesV m sp) m (IsB.mk m sp) (by simp only [List.length_nil] at *; omega) hp) ?_
    rintro r s'' ⟨rfl, hp'⟩
    simp only [↓AXq_nil, ↓AXq_cons, pval, DX, Nat.reduceBEq, ↓DN, UP, DF, qSh, qCv, qIA, qIx, qSl, qBu, qCe, qOn, reduceCtorEq, ↓reduceIte, nLT, nLE, nEQ, nAdd, nMul, nPow, nSub, zLT, zLE, zNat, RPen394]
    refine hK _ _ ?_
    clear hK K
    simp only [retQ, AEnds, aresL, ares, List.toList_toArray, ↓upd_same]; try simp only [↓DN, UP, DF, qSh, qCv, qIA, qIx, qSl, qBu, qCe, qOn, reduceCtorEq, ↓reduceIte, nLT, nLE, nEQ, nAdd, nMul, nPow, nSub, zLT, zLE, zNat, RPen394, DT]
    exact ⟨_, _, AV.weak.refl _, AS.le.refl _, rfl, hp'⟩

set_option maxHeartbeats 400000 in
theorem penShort_calls (s0 s : AS) (p : Nat) (st : List UInt8 × Bool) (b : AV) (m : List UInt8) (hb : IsB b m) (hl : st.1.length + m.length + 8 ≤ 2 ^ 45) (h : PenS s0 s p st) :
    ACalls Try.prog Γ 41 [.ptr p 0, b] s (fun r s' => r = .tup [] ∧ PenS s0 s' p (penText 1 m st)) := by
  refine acalls_body Try.func41 rfl Try.ntmps41 Try.results41 (by simp) ?_
  refine awp_reg_end ?_
  intro K hK
  simp only [↓DN, UP, DF, qSh, qCv, qIA, qIx, qSl, qBu, qCe, qOn, reduceCtorEq, ↓reduceIte, nLT, nLE, nEQ, nAdd, nMul, nPow, nSub, zLT, zLE, zNat, RPen341]
  refine acallk (penText_calls s0 s p st b m 1 (by omega) hb hl h) ?_
  rintro r s' ⟨rfl, hp⟩
  simp only [↓AXq_nil, ↓AXq_cons, pval, DX, Nat.reduceBEq, ↓DN, UP, DF, qSh, qCv, qIA, qIx, qSl, qBu, qCe, qOn, reduceCtorEq, ↓reduceIte, nLT, nLE, nEQ, nAdd, nMul, nPow, nSub, zLT, zLE, zNat, RPen341]
  refine hK _ _ ?_
  clear hK K
  simp only [retQ, AEnds, aresL, ares, List.toList_toArray, ↓upd_same]; try simp only [↓DN, UP, DF, qSh, qCv, qIA, qIx, qSl, qBu, qCe, qOn, reduceCtorEq, ↓reduceIte, nLT, nLE, nEQ, nAdd, nMul, nPow, nSub, zLT, zLE, zNat, RPen341, DT]
  exact ⟨_, _, AV.weak.refl _, AS.le.refl _, rfl, hp⟩

set_option maxHeartbeats 400000 in
theorem penLong_calls (s0 s : AS) (p : Nat) (st : List UInt8 × Bool) (b : AV) (m : List UInt8) (hb : IsB b m) (hl : st.1.length + m.length + 8 ≤ 2 ^ 45) (h : PenS s0 s p st) :
    ACalls Try.prog Γ 111 [.ptr p 0, b] s (fun r s' => r = .tup [] ∧ PenS s0 s' p (penText 2 m st)) := by
  refine acalls_body Try.func111 rfl Try.ntmps111 Try.results111 (by simp) ?_
  refine awp_reg_end ?_
  intro K hK
  simp only [↓DN, UP, DF, qSh, qCv, qIA, qIx, qSl, qBu, qCe, qOn, reduceCtorEq, ↓reduceIte, nLT, nLE, nEQ, nAdd, nMul, nPow, nSub, zLT, zLE, zNat, RPen3111]
  refine acallk (penText_calls s0 s p st b m 2 (by omega) hb hl h) ?_
  rintro r s' ⟨rfl, hp⟩
  simp only [↓AXq_nil, ↓AXq_cons, pval, DX, Nat.reduceBEq, ↓DN, UP, DF, qSh, qCv, qIA, qIx, qSl, qBu, qCe, qOn, reduceCtorEq, ↓reduceIte, nLT, nLE, nEQ, nAdd, nMul, nPow, nSub, zLT, zLE, zNat, RPen3111]
  refine hK _ _ ?_
  clear hK K
  simp only [retQ, AEnds, aresL, ares, List.toList_toArray, ↓upd_same]; try simp only [↓DN, UP, DF, qSh, qCv, qIA, qIx, qSl, qBu, qCe, qOn, reduceCtorEq, ↓reduceIte, nLT, nLE, nEQ, nAdd, nMul, nPow, nSub, zLT, zLE, zNat, RPen3111, DT]
  exact ⟨_, _, AV.weak.refl _, AS.le.refl _, rfl, hp⟩

theorem clone_nil (s : AS) : ACalls Try.prog Γ 95 [nilS] s (fun r s' => r = bytesV [] .any ∧ s' = s) := by
  refine acalls_body Try.func95 rfl Try.ntmps95 Try.results95 (by simp) ?_
  unfold nilS
  refine awp_reg_seq ?_
  intro K hK
  simp only [↓DN, UP, DF, qSh, qCv, qIA, qIx, qSl, qBu, qCe, qOn, reduceCtorEq, ↓reduceIte, nLT, nLE, nEQ, nAdd, nMul, nPow, nSub, zLT, zLE, zNat, RPen395]
  refine hK _ _ ?_
  clear hK K
  refine awp_seq_k ?_
  intro K hK
  refine awp_reg_seq ?_
  intro K hK
  simp only [↓DN, UP, DF, qSh, qCv, qIA, qIx, qSl, qBu, qCe, qOn, reduceCtorEq, ↓reduceIte, nLT, nLE, nEQ, nAdd, nMul, nPow, nSub, zLT, zLE, zNat, RPen395]
  refine hK _ _ ?_
  clear hK K
  refine awp_cond_k ?_
  intro X Y hX hY
  simp only [↓DN, UP, DF, qSh, qCv, qIA, qIx, qSl, qBu, qCe, qOn, reduceCtorEq, ↓reduceIte, nLT, nLE, nEQ, nAdd, nMul, nPow, nSub, zLT, zLE, zNat, RPen395, DB]
  refine hX ?_
  clear hX hY X Y
  refine awp_reg_seq ?_
  intro K hK
  simp only [↓DN, UP, DF, qSh, qCv, qIA, qIx, qSl, qBu, qCe, qOn, reduceCtorEq, ↓reduceIte, nLT, nLE, nEQ, nAdd, nMul, nPow, nSub, zLT, zLE, zNat, RPen395]
  refine hK _ _ ?_
  clear hK K
  refine awp_ret ?_
  simp only [retQ, AEnds, aresL, ares, List.toList_toArray, ↓upd_same]; try simp only [↓DN, UP, DF, qSh, qCv, qIA, qIx, qSl, qBu, qCe, qOn, reduceCtorEq, ↓reduceIte, nLT, nLE, nEQ, nAdd, nMul, nPow, nSub, zLT, zLE, zNat, RPen395, DT]
  exact ⟨_, _, AV.weak_nil, AS.le.refl _, rfl, rfl⟩

theorem cloneB_calls (l : List UInt8) (s : AS) (hl : l.length ≤ 2 ^ 45) : ACalls Try.prog Γ 95 [bytesV l .any] s (fun r s' => r = bytesV l .any ∧ s' = s) :=
  ACalls.any (pre := []) (post := []) (fun e => by subst e; exact clone_nil s) (clone_calls l .no rfl s hl)

set_option maxHeartbeats 400000 in
theorem penBytes_calls (s0 s : AS) (p : Nat) (st : List UInt8 × Bool) (hl : st.1.length ≤ 2 ^ 45) (h : PenS s0 s p st) :
    ACalls Try.prog Γ 42 [.ptr p 0] s (fun r s' => r = .tup [bytesV (if st.2 = true then [] else st.1) .any, .v (.bool !st.2)] ∧ s' = s) := by
  obtain ⟨l, bad⟩ := st
  obtain ⟨x, hx, hbuf⟩ := h.obj
  refine acalls_body Try.func42 rfl Try.ntmps42 Try.results42 (by simp) ?_
  simp only at hx hl hbuf
  refine awp_reg_seq ?_
  intro K hK
  simp only [↓DN, UP, DF, qSh, qCv, qIA, qIx, qSl, qBu, qCe, qOn, reduceCtorEq, ↓reduceIte, nLT, nLE, nEQ, nAdd, nMul, nPow, nSub, zLT, zLE, zNat, RPen342]
  refine hK _ _ ?_
  clear hK K
  refine awp_seq_k ?_
  intro K hK
  cases bad
  · refine awp_reg_seq ?_
    intro K hK
    simp only [↓DN, UP, DF, qSh, qCv, qIA, qIx, qSl, qBu, qCe, qOn, reduceCtorEq, ↓reduceIte, nLT, nLE, nEQ, nAdd, nMul, nPow, nSub, zLT, zLE, zNat, RPen342, hx]
    refine hK _ _ ?_
    clear hK K
    refine awp_cond_k ?_
    intro X Y hX hY
    simp only [↓DN, UP, DF, qSh, qCv, qIA, qIx, qSl, qBu, qCe, qOn, reduceCtorEq, ↓reduceIte, nLT, nLE, nEQ, nAdd, nMul, nPow, nSub, zLT, zLE, zNat, RPen342, DB]
    refine hY ?_
    clear hX hY X Y
    refine awp_skip ?_
    refine hK _ _ ?_
    clear hK K
    rcases hbuf with ⟨rfl, hl0⟩ | ⟨t, e, rfl, ht, ht0⟩
    · subst hl0
      refine awp_reg_seq ?_
      intro K hK
      simp only [↓DN, UP, DF, qSh, qCv, qIA, qIx, qSl, qBu, qCe, qOn, reduceCtorEq, ↓reduceIte, nLT, nLE, nEQ, nAdd, nMul, nPow, nSub, zLT, zLE, zNat, RPen342, hx]
      refine acallk (clone_nil s) ?_
      rintro r s' ⟨rfl, rfl⟩
      simp only [↓AXq_nil, ↓AXq_cons, pval, DX, Nat.reduceBEq, ↓DN, UP, DF, qSh, qCv, qIA, qIx, qSl, qBu, qCe, qOn, reduceCtorEq, ↓reduceIte, nLT, nLE, nEQ, nAdd, nMul, nPow, nSub, zLT, zLE, zNat, RPen342]
      refine hK _ _ ?_
      clear hK K
      refine awp_ret ?_
      simp only [retQ, AEnds, aresL, ares, List.toList_toArray, ↓upd_same]; try simp only [↓DN, UP, DF, qSh, qCv, qIA, qIx, qSl, qBu, qCe, qOn, reduceCtorEq, ↓reduceIte, nLT, nLE, nEQ, nAdd, nMul, nPow, nSub, zLT, zLE, zNat, RPen342, DT]
      exact ⟨_, _, AV.weak.refl _, AS.le.refl _, rfl, rfl⟩
    · refine awp_reg_seq ?_
      intro K hK
      simp only [↓DN, UP, DF, qSh, qCv, qIA, qIx, qSl, qBu, qCe, qOn, reduceCtorEq, ↓reduceIte, nLT, nLE, nEQ, nAdd, nMul, nPow, nSub, zLT, zLE, zNat, RPen342, hx]
      refine acallk (clone_calls l _ rfl s hl) ?_
      rintro r s' ⟨rfl, rfl⟩
      simp only [↓AXq_nil, ↓AXq_cons, pval, DX, Nat.reduceBEq, ↓DN, UP, DF, qSh, qCv, qIA, qIx, qSl, qBu, qCe, qOn, reduceCtorEq, ↓reduceIte, nLT, nLE, nEQ, nAdd, nMul, nPow, nSub, zLT, zLE, zNat, RPen342]
      refine hK _ _ ?_
      clear hK K
      refine awp_ret ?_
      simp only [retQ, AEnds, aresL, ares, List.toList_toArray, ↓upd_same]; try simp only [↓DN, UP, DF, qSh, qCv, qIA, qIx, qSl, qBu, qCe, qOn, reduceCtorEq, ↓reduceIte, nLT, nLE, nEQ, nAdd, nMul, nPow, nSub, zLT, zLE, zNat, RPen342, DT]
      exact ⟨_, _, AV.weak.refl _, AS.le.refl _, rfl, rfl⟩
  · refine awp_reg_seq ?_
    intro K hK
    simp only [↓DN, UP, DF, qSh, qCv, qIA, qIx, qSl, qBu, qCe, qOn, reduceCtorEq, ↓reduceIte, nLT, nLE, nEQ, nAdd, nMul, nPow, nSub, zLT, zLE, zNat, RPen342, hx]
    refine hK _ _ ?_
    clear hK K
    refine awp_cond_k ?_
    intro X Y hX hY
    simp only [↓DN, UP, DF, qSh, qCv, qIA, qIx, qSl, qBu, qCe, qOn, reduceCtorEq, ↓reduceIte, nLT, nLE, nEQ, nAdd, nMul, nPow, nSub, zLT, zLE, zNat, RPen342, DB]
    refine hX ?_
    clear hX hY X Y
    refine awp_reg_seq ?_
    intro K hK
    simp only [↓DN, UP, DF, qSh, qCv, qIA, qIx, qSl, qBu, qCe, qOn, reduceCtorEq, ↓reduceIte, nLT, nLE, nEQ, nAdd, nMul, nPow, nSub, zLT, zLE, zNat, RPen342]
    refine hK _ _ ?_
    clear hK K
    refine awp_ret ?_
    simp only [retQ, AEnds, aresL, ares, List.toList_toArray, ↓upd_same]; try simp only [↓DN, UP, DF, qSh, qCv, qIA, qIx, qSl, qBu, qCe, qOn, reduceCtorEq, ↓reduceIte, nLT, nLE, nEQ, nAdd, nMul, nPow, nSub, zLT, zLE, zNat, RPen342, DT]
    exact ⟨_, _, AV.weak_tup2 AV.weak_nil (AV.weak.refl _), AS.le.refl _, rfl, rfl⟩

end Go.Proofs.Ytcnilmidfhpckaa


set_option autoImplicit false
namespace Go.Proofs.Ytcnilmidfhpckaa
open Go Go.AM Go.Proofs

theorem REye55 : type_of% (And.intro (And.intro (And.intro (And.intro (And.intro @Try.underlying5 (And.intro T.c5 T.g5)) (And.intro T.b5 (And.intro T.z5 @Try.underlying28))) (And.intro (And.intro T.c28 (And.intro T.g28 T.b28)) (And.intro T.z28 (And.intro T.s28 @Try.underlying32)))) (And.intro (And.intro (And.intro T.c32 (And.intro T.g32 T.b32)) (And.intro T.z32 (And.intro @Try.underlying145 T.c145))) (And.intro (And.intro T.g145 (And.intro T.b145 T.z145)) (And.intro (And.intro T.h145 T.f145_0) (And.intro T.f145_1 T.k95))))) Try.ntmps55) :=
  (And.intro (And.intro (And.intro (And.intro (And.intro @Try.underlying5 (And.intro T.c5 T.g5)) (And.intro T.b5 (And.intro T.z5 @Try.underlying28))) (And.intro (And.intro T.c28 (And.intro T.g28 T.b28)) (And.intro T.z28 (And.intro T.s28 @Try.underlying32)))) (And.intro (And.intro (And.intro T.c32 (And.intro T.g32 T.b32)) (And.intro T.z32 (And.intro @Try.underlying145 T.c145))) (And.intro (And.intro T.g145 (And.intro T.b145 T.z145)) (And.intro (And.intro T.h145 T.f145_0) (And.intro T.f145_1 T.k95))))) Try.ntmps55)
theorem REye112 : type_of% (And.intro (And.intro (And.intro (And.intro (And.intro @Try.underlying3 (And.intro T.c3 T.g3)) (And.intro (And.intro T.b3 T.z3) (And.intro @Try.underlying5 T.c5))) (And.intro (And.intro T.g5 (And.intro T.b5 T.z5)) (And.intro (And.intro @Try.underlying28 T.c28) (And.intro T.g28 T.b28)))) (And.intro (And.intro (And.intro T.z28 (And.intro T.s28 @Try.underlying32)) (And.intro (And.intro T.c32 T.g32) (And.intro T.b32 T.z32))) (And.intro (And.intro (And.intro @Try.underlying145 T.c145) (And.intro T.g145 T.b145)) (And.intro (And.intro T.z145 T.h145) (And.intro T.f145_0 T.f145_1))))) Try.ntmps112) :=
  (And.intro (And.intro (And.intro (And.intro (And.intro @Try.underlying3 (And.intro T.c3 T.g3)) (And.intro (And.intro T.b3 T.z3) (And.intro @Try.underlying5 T.c5))) (And.intro (And.intro T.g5 (And.intro T.b5 T.z5)) (And.intro (And.intro @Try.underlying28 T.c28) (And.intro T.g28 T.b28)))) (And.intro (And.intro (And.intro T.z28 (And.intro T.s28 @Try.underlying32)) (And.intro (And.intro T.c32 T.g32) (And.intro T.b32 T.z32))) (And.intro (And.intro (And.intro @Try.underlying145 T.c145) (And.intro T.g145 T.b145)) (And.intro (And.intro T.z145 T.h145) (And.intro T.f145_0 T.f145_1))))) Try.ntmps112)

variable {Γ : Nat → List AV}

set_option maxHeartbeats 400000 in
theorem open_calls (l : List UInt8) (s : AS) (hl : l.length ≤ 2 ^ 45) : ACalls Try.prog Γ 55 [bytesV l .any] s (fun r s' => ∃ p, r = .ptr p 0 ∧ EyeS s s' p (l, 0)) := by
  refine acalls_body Try.func55 rfl Try.ntmps55 Try.results55 (by simp) ?_
  refine awp_reg_seq ?_
  intro K hK
  simp only [↓DN, UP, DF, qSh, qCv, qIA, qIx, qSl, qBu, qCe, qOn, reduceCtorEq, ↓reduceIte, nLT, nLE, nEQ, nAdd, nMul, nPow, nSub, zLT, zLE, zNat, REye55]
  refine hK _ _ ?_
  clear hK K
  refine awp_reg_seq ?_
  intro K hK
  simp only [↓DN, UP, DF, qSh, qCv, qIA, qIx, qSl, qBu, qCe, qOn, reduceCtorEq, ↓reduceIte, nLT, nLE, nEQ, nAdd, nMul, nPow, nSub, zLT, zLE, zNat, REye55]
  refine acallk (cloneB_calls l s hl) ?_
  rintro r s' ⟨rfl, rfl⟩
  unfold bytesV
  simp only [↓AXq_nil, ↓AXq_cons, pval, DX, Nat.reduceBEq, ↓DN, UP, DF, qSh, qCv, qIA, qIx, qSl, qBu, qCe, qOn, reduceCtorEq, ↓reduceIte, nLT, nLE, nEQ, nAdd, nMul, nPow, nSub, zLT, zLE, zNat, REye55]
  intro p hp
  refine hK _ _ ?_
  refine awp_ret ?_
  simp only [retQ, AEnds, aresL, ares, List.toList_toArray, ↓upd_same]; try simp only [↓DN, UP, DF, qSh, qCv, qIA, qIx, qSl, qBu, qCe, qOn, reduceCtorEq, ↓reduceIte, nLT, nLE, nEQ, nAdd, nMul, nPow, nSub, zLT, zLE, zNat, REye55, DT]
  exact ⟨_, _, AV.weak.refl _, AS.le.refl _, p, rfl, AS.le_set (AS.le.refl _) hp _, hp, AS.set_objs_same _ _ _⟩

set_option maxHeartbeats 1000000 in
theorem next_calls (s0 s : AS) (p : Nat) (st : EyeSt) (n : Int) (h : EyeS s0 s p st) :
    ACalls Try.prog Γ 112 [.ptr p 0, .v (.int .i64 n)] s (fun r s' => r = bytesV (eyeNext n st).1 .any ∧ EyeS s0 s' p (eyeNext n st).2) := by
  refine acalls_body Try.func112 rfl Try.ntmps112 Try.results112 (by simp) ?_
  obtain ⟨l, er⟩ := st
  have hx := h.obj
  simp only [bytesV] at hx
  refine awp_reg_seq ?_
  intro K hK
  simp only [↓DN, UP, DF, qSh, qCv, qIA, qIx, qSl, qBu, qCe, qOn, reduceCtorEq, ↓reduceIte, nLT, nLE, nEQ, nAdd, nMul, nPow, nSub, zLT, zLE, zNat, REye112]
  refine hK _ _ ?_
  clear hK K
  refine awp_seq_k ?_
  intro K hK
  refine awp_block ?_
  by_cases h0 : er = 0
  · subst h0
    refine awp_reg_seq ?_
    intro K hK
    simp only [↓DN, UP, DF, qSh, qCv, qIA, qIx, qSl, qBu, qCe, qOn, reduceCtorEq, ↓reduceIte, nLT, nLE, nEQ, nAdd, nMul, nPow, nSub, zLT, zLE, zNat, REye112, hx, i64_ne_false 0 rfl]
    refine hK _ _ ?_
    clear hK K
    refine awp_cond_k ?_
    intro X Y hX hY
    simp only [↓DN, UP, DF, qSh, qCv, qIA, qIx, qSl, qBu, qCe, qOn, reduceCtorEq, ↓reduceIte, nLT, nLE, nEQ, nAdd, nMul, nPow, nSub, zLT, zLE, zNat, REye112, DB]
    refine hY ?_
    clear hX hY X Y
    by_cases h1 : n < 0
    · refine awp_reg_seq ?_
      intro K hK
      simp only [↓DN, UP, DF, qSh, qCv, qIA, qIx, qSl, qBu, qCe, qOn, reduceCtorEq, ↓reduceIte, nLT, nLE, nEQ, nAdd, nMul, nPow, nSub, zLT, zLE, zNat, REye112, decide_eq_true h1]
      refine hK _ _ ?_
      clear hK K
      refine awp_cond_k ?_
      intro X Y hX hY
      simp only [↓DN, UP, DF, qSh, qCv, qIA, qIx, qSl, qBu, qCe, qOn, reduceCtorEq, ↓reduceIte, nLT, nLE, nEQ, nAdd, nMul, nPow, nSub, zLT, zLE, zNat, REye112, DB]
      refine hX ?_
      clear hX hY X Y
      refine awp_reg_seq ?_
      intro K hK
      simp only [↓DN, UP, DF, qSh, qCv, qIA, qIx, qSl, qBu, qCe, qOn, reduceCtorEq, ↓reduceIte, nLT, nLE, nEQ, nAdd, nMul, nPow, nSub, zLT, zLE, zNat, REye112, hx]
      refine hK _ _ ?_
      clear hK K
      refine awp_reg_seq ?_
      intro K hK
      simp only [↓DN, UP, DF, qSh, qCv, qIA, qIx, qSl, qBu, qCe, qOn, reduceCtorEq, ↓reduceIte, nLT, nLE, nEQ, nAdd, nMul, nPow, nSub, zLT, zLE, zNat, REye112]
      refine hK _ _ ?_
      clear hK K
      refine awp_ret ?_
      simp only [retQ, AEnds, aresL, ares, List.toList_toArray, ↓upd_same]; try simp only [↓DN, UP, DF, qSh, qCv, qIA, qIx, qSl, qBu, qCe, qOn, reduceCtorEq, ↓reduceIte, nLT, nLE, nEQ, nAdd, nMul, nPow, nSub, zLT, zLE, zNat, REye112, DT]
      rw [eyeNext_neg h1]
      exact ⟨_, _, AV.weak_nil, AS.le.refl _, rfl, h.put⟩
    · refine awp_reg_seq ?_
      intro K hK
      simp only [↓DN, UP, DF, qSh, qCv, qIA, qIx, qSl, qBu, qCe, qOn, reduceCtorEq, ↓reduceIte, nLT, nLE, nEQ, nAdd, nMul, nPow, nSub, zLT, zLE, zNat, REye112, decide_eq_false h1]
      refine hK _ _ ?_
      clear hK K
      refine awp_cond_k ?_
      intro X Y hX hY
      simp only [↓DN, UP, DF, qSh, qCv, qIA, qIx, qSl, qBu, qCe, qOn, reduceCtorEq, ↓reduceIte, nLT, nLE, nEQ, nAdd, nMul, nPow, nSub, zLT, zLE, zNat, REye112, DB]
      refine hY ?_
      clear hX hY X Y
      by_cases h2 : (l.length : Int) < n
      · refine awp_reg_seq ?_
        intro K hK
        simp only [↓DN, UP, DF, qSh, qCv, qIA, qIx, qSl, qBu, qCe, qOn, reduceCtorEq, ↓reduceIte, nLT, nLE, nEQ, nAdd, nMul, nPow, nSub, zLT, zLE, zNat, REye112, hx, decide_eq_true h2]
        refine hK _ _ ?_
        clear hK K
        refine awp_cond_k ?_
        intro X Y hX hY
        simp only [↓DN, UP, DF, qSh, qCv, qIA, qIx, qSl, qBu, qCe, qOn, reduceCtorEq, ↓reduceIte, nLT, nLE, nEQ, nAdd, nMul, nPow, nSub, zLT, zLE, zNat, REye112, DB]
        refine hX ?_
        clear hX hY X Y
        refine awp_reg_seq ?_
        intro K hK
        simp only [↓DN, UP, DF, qSh, qCv, qIA, qIx, qSl, qBu, qCe, qOn, reduceCtorEq, ↓reduceIte, nLT, nLE, nEQ, nAdd, nMul, nPow, nSub, zLT, zLE, zNat, REye112, hx]
        refine hK _ _ ?_
        clear hK K
        refine awp_reg_seq ?_
        intro K hK
        simp only [↓DN, UP, DF, qSh, qCv, qIA, qIx, qSl, qBu, qCe, qOn, reduceCtorEq, ↓reduceIte, nLT, nLE, nEQ, nAdd, nMul, nPow, nSub, zLT, zLE, zNat, REye112]
        refine hK _ _ ?_
        clear hK K
        refine awp_ret ?_
        simp only [retQ, AEnds, aresL, ares, List.toList_toArray, ↓upd_same]; try simp only [↓DN, UP, DF, qSh, qCv, qIA, qIx, qSl, qBu, qCe, qOn, reduceCtorEq, ↓reduceIte, nLT, nLE, nEQ, nAdd, nMul, nPow, nSub, zLT, zLE, zNat, REye112, DT]
        rw [eyeNext_short h1 h2]
        exact ⟨_, _, AV.weak_nil, AS.le.refl _, rfl, h.put⟩
      · obtain ⟨m, rfl⟩ := Int.eq_ofNat_of_zero_le (Int.not_lt.1 h1)
        have hml : m ≤ l.length := by omega
        have hm0 : (0 : Int) ≤ (m : Int) := by omega
        have hml' : (m : Int) ≤ (l.length : Int) := by omega
        refine awp_reg_seq ?_
        intro K hK
        simp only [↓DN, UP, DF, qSh, qCv, qIA, qIx, qSl, qBu, qCe, qOn, reduceCtorEq, ↓reduceIte, nLT, nLE, nEQ, nAdd, nMul, nPow, nSub, zLT, zLE, zNat, REye112, hx, decide_eq_false h2]
        refine hK _ _ ?_
        clear hK K
        refine awp_cond_k ?_
        intro X Y hX hY
        simp only [↓DN, UP, DF, qSh, qCv, qIA, qIx, qSl, qBu, qCe, qOn, reduceCtorEq, ↓reduceIte, nLT, nLE, nEQ, nAdd, nMul, nPow, nSub, zLT, zLE, zNat, REye112, DB]
        refine hY ?_
        clear hX hY X Y
        refine awp_skip ?_
        simp only [thenQ, blockQ, if_true, if_false]
        refine hK _ _ ?_
        clear hK K
        refine awp_reg_seq ?_
        intro K hK
        simp only [↓DN, UP, DF, qSh, qCv, qIA, qIx, qSl, qBu, qCe, qOn, reduceCtorEq, ↓reduceIte, nLT, nLE, nEQ, nAdd, nMul, nPow, nSub, zLT, zLE, zNat, REye112, hx, hm0, hml', Int.le_refl]
        refine hK _ _ ?_
        clear hK K
        refine awp_reg_seq ?_
        intro K hK
        simp only [↓DN, UP, DF, qSh, qCv, qIA, qIx, qSl, qBu, qCe, qOn, reduceCtorEq, ↓reduceIte, nLT, nLE, nEQ, nAdd, nMul, nPow, nSub, zLT, zLE, zNat, REye112, hx, hm0, hml', Int.le_refl]
        refine hK _ _ ?_
        clear hK K
        refine awp_reg_seq ?_
        intro K hK
        simp only [↓DN, UP, DF, qSh, qCv, qIA, qIx, qSl, qBu, qCe, qOn, reduceCtorEq, ↓reduceIte, nLT, nLE, nEQ, nAdd, nMul, nPow, nSub, zLT, zLE, zNat, REye112]
        refine hK _ _ ?_
        clear hK K
        refine awp_ret ?_
        simp only [retQ, AEnds, aresL, ares, List.toList_toArray, ↓upd_same]; try simp only [↓DN, UP, DF, qSh, qCv, qIA, qIx, qSl, qBu, qCe, qOn, reduceCtorEq, ↓reduceIte, nLT, nLE, nEQ, nAdd, nMul, nPow, nSub, zLT, zLE, zNat, REye112, DT]
        rw [eyeNext_ok hml]
        refine ⟨_, _, AV.weak.refl _, AS.le.refl _, bytes_of ?_ rfl, h.put' ?_⟩
        · simp only [List.length_take]; omega
        · rw [bytes_of (m := l.drop m)]
          · simp only [List.length_drop]
          · rw [List.take_length]
  · refine awp_reg_seq ?_
    intro K hK
    simp only [↓DN, UP, DF, qSh, qCv, qIA, qIx, qSl, qBu, qCe, qOn, reduceCtorEq, ↓reduceIte, nLT, nLE, nEQ, nAdd, nMul, nPow, nSub, zLT, zLE, zNat, REye112, hx, i64_ne_true er h0]
    refine hK _ _ ?_
    clear hK K
    refine awp_cond_k ?_
    intro X Y hX hY
    simp only [↓DN, UP, DF, qSh, qCv, qIA, qIx, qSl, qBu, qCe, qOn, reduceCtorEq, ↓reduceIte, nLT, nLE, nEQ, nAdd, nMul, nPow, nSub, zLT, zLE, zNat, REye112, DB]
    refine hX ?_
    clear hX hY X Y
    refine awp_reg_seq ?_
    intro K hK
    simp only [↓DN, UP, DF, qSh, qCv, qIA, qIx, qSl, qBu, qCe, qOn, reduceCtorEq, ↓reduceIte, nLT, nLE, nEQ, nAdd, nMul, nPow, nSub, zLT, zLE, zNat, REye112]
    refine hK _ _ ?_
    clear hK K
    refine awp_ret ?_
    simp only [retQ, AEnds, aresL, ares, List.toList_toArray, ↓upd_same]; try simp only [↓DN, UP, DF, qSh, qCv, qIA, qIx, qSl, qBu, qCe, qOn, reduceCtorEq, ↓reduceIte, nLT, nLE, nEQ, nAdd, nMul, nPow, nSub, zLT, zLE, zNat, REye112, DT]
    rw [eyeNext_err h0]
    exact ⟨_, _, AV.weak_nil, AS.le.refl _, rfl, h⟩

end Go.Proofs.Ytcnilmidfhpckaa


set_option autoImplicit false
namespace Go.Proofs.Ytcnilmidfhpckaa
open Go Go.AM Go.Proofs

theorem REye2101 : type_of% (And.intro (And.intro (And.intro (And.intro (And.intro (And.intro @Try.underlying3 T.c3) (And.intro T.g3 T.b3)) (And.intro (And.intro T.z3 @Try.underlying5) (And.intro T.c5 (And.intro T.g5 T.b5)))) (And.intro (And.intro (And.intro T.z5 @Try.underlying28) (And.intro T.c28 (And.intro T.g28 T.b28))) (And.intro (And.intro T.z28 T.s28) (And.intro @Try.underlying32 (And.intro T.c32 T.g32))))) (And.intro (And.intro (And.intro (And.intro T.b32 T.z32) (And.intro @Try.underlying42 (And.intro T.c42 T.g42))) (And.intro (And.intro T.b42 T.z42) (And.intro @Try.underlying98 (And.intro T.c98 T.g98)))) (And.intro (And.intro (And.intro T.b98 T.z98) (And.intro T.p98 (And.intro @Try.underlying145 T.c145))) (And.intro (And.intro T.g145 T.b145) (And.intro T.z145 (And.intro T.h145 T.k112)))))) Try.ntmps101) :=
  (And.intro (And.intro (And.intro (And.intro (And.intro (And.intro @Try.underlying3 T.c3) (And.intro T.g3 T.b3)) (And.intro (And.intro T.z3 @Try.underlying5) (And.intro T.c5 (And.intro T.g5 T.b5)))) (And.intro (And.intro (And.intro T.z5 @Try.underlying28) (And.intro T.c28 (And.intro T.g28 T.b28))) (And.intro (And.intro T.z28 T.s28) (And.intro @Try.underlying32 (And.intro T.c32 T.g32))))) (And.intro (And.intro (And.intro (And.intro T.b32 T.z32) (And.intro @Try.underlying42 (And.intro T.c42 T.g42))) (And.intro (And.intro T.b42 T.z42) (And.intro @Try.underlying98 (And.intro T.c98 T.g98)))) (And.intro (And.intro (And.intro T.b98 T.z98) (And.intro T.p98 (And.intro @Try.underlying145 T.c145))) (And.intro (And.intro T.g145 T.b145) (And.intro T.z145 (And.intro T.h145 T.k112)))))) Try.ntmps101)

variable {Γ : Nat → List AV}

set_option maxHeartbeats 1000000 in
theorem eyeNumber_calls (s0 s : AS) (p : Nat) (st : EyeSt) (size : Nat) (hs : size ≤ 8) (h : EyeS s0 s p st) :
    ACalls Try.prog Γ 101 [.ptr p 0, .v (.int .i64 size)] s (fun r s' => r = .v (.int .u64 (eyeNum size st).1) ∧ EyeS s0 s' p (eyeNum size st).2) := by
  refine acalls_body Try.func101 rfl Try.ntmps101 Try.results101 (by simp) ?_
  obtain ⟨out, hout⟩ : ∃ out, out = (eyeNext size st).1 := ⟨_, rfl⟩
  have hlen : out.length ≤ 8 := by rw [hout]; exact Nat.le_trans (eyeNext_le _ _) hs
  refine awp_reg_seq ?_
  intro K hK
  simp only [↓DN, UP, DF, qSh, qCv, qIA, qIx, qSl, qBu, qCe, qOn, reduceCtorEq, ↓reduceIte, nLT, nLE, nEQ, nAdd, nMul, nPow, nSub, zLT, zLE, zNat, REye2101]
  refine hK _ _ ?_
  clear hK K
  refine awp_reg_seq ?_
  intro K hK
  simp only [↓DN, UP, DF, qSh, qCv, qIA, qIx, qSl, qBu, qCe, qOn, reduceCtorEq, ↓reduceIte, nLT, nLE, nEQ, nAdd, nMul, nPow, nSub, zLT, zLE, zNat, REye2101]
  refine hK _ _ ?_
  clear hK K
  refine awp_seq_k ?_
  intro K hK
  refine awp_reg_seq ?_
  intro K hK
  simp only [↓DN, UP, DF, qSh, qCv, qIA, qIx, qSl, qBu, qCe, qOn, reduceCtorEq, ↓reduceIte, nLT, nLE, nEQ, nAdd, nMul, nPow, nSub, zLT, zLE, zNat, REye2101]
  refine acallk (next_calls s0 s p st size h) ?_
  rintro r s2 ⟨rfl, he⟩
  rw [← hout]
  unfold bytesV
  simp only [↓AXq_nil, ↓AXq_cons, pval, DX, Nat.reduceBEq, ↓DN, UP, DF, qSh, qCv, qIA, qIx, qSl, qBu, qCe, qOn, reduceCtorEq, ↓reduceIte, nLT, nLE, nEQ, nAdd, nMul, nPow, nSub, zLT, zLE, zNat, REye2101]
  refine hK _ _ ?_
  clear hK K
  refine awp_block ?_
  refine awp_loop (fun E s3 => ∃ j y : Nat, j ≤ out.length ∧ E 10 = .sl 1 out.length (out.map byteV) .any ∧ E 11 = .v (.int .i64 out.length) ∧ E 12 = .v (.int .i64 j) ∧ E 5 = .v (.int .u64 y) ∧ y = beNat (out.take j) ∧ s3 = s2)
    (fun E _ => match E 12 with | .v (.int _ j) => out.length - j.toNat | _ => 0) ?_ ?_
  · exact ⟨0, 0, Nat.zero_le _, by simp only [upd, nEQ, ↓reduceIte], by simp only [upd, nEQ, ↓reduceIte], by simp only [upd, ↓reduceIte]; rfl, by simp only [upd, nEQ, ↓reduceIte]; rfl, rfl, rfl⟩
  · rintro E3 s3 ⟨j, y, hj, f10, f11, f12, f5, hy, rfl⟩ -
    by_cases hj' : j < out.length
    · have hy7 : y < 2 ^ 56 := by
        rw [hy]
        refine Nat.lt_of_lt_of_le (beNat_take_lt out j) ?_
        rw [show (2 : Nat) ^ 56 = 256 ^ 7 from by decide]
        exact Nat.pow_le_pow_right (by decide) (by omega)
      have hy2 : beNat (out.take (j + 1)) = y * 256 + out[j].toNat := by rw [List.take_succ_eq_append_getElem hj', beNat_snoc, ← hy]
      have hgj : (0 : Int) ≤ (j : Int) := by omega
      have hat := eat_byte hj'
      generalize hcc : out[j] = c at *
      refine awp_reg_seq ?_
      intro K hK
      simp only [↓DN, UP, DF, qSh, qCv, qIA, qIx, qSl, qBu, qCe, qOn, reduceCtorEq, ↓reduceIte, nLT, nLE, nEQ, nAdd, nMul, nPow, nSub, zLT, zLE, zNat, REye2101, f11, f12, eye_lt_nat, decide_eq_true hj']
      refine hK _ _ ?_
      clear hK K
      refine awp_seq_k ?_
      intro K5 hK5
      refine awp_cond_k ?_
      intro X Y hX hY
      simp only [↓DN, UP, DF, qSh, qCv, qIA, qIx, qSl, qBu, qCe, qOn, reduceCtorEq, ↓reduceIte, nLT, nLE, nEQ, nAdd, nMul, nPow, nSub, zLT, zLE, zNat, REye2101, DB]
      refine hX ?_
      clear hX hY X Y
      refine awp_skip ?_
      refine hK5 _ _ ?_
      clear hK5 K5
      refine awp_seq_k ?_
      intro K6 hK6
      refine awp_block ?_
      refine awp_reg_seq ?_
      intro K hK
      simp only [↓DN, UP, DF, qSh, qCv, qIA, qIx, qSl, qBu, qCe, qOn, reduceCtorEq, ↓reduceIte, nLT, nLE, nEQ, nAdd, nMul, nPow, nSub, zLT, zLE, zNat, REye2101, f10, f12, eye_lt_nat, hj', hgj, hat, byteV]
      refine hK _ _ ?_
      clear hK K
      refine awp_reg_end ?_
      intro K hK
      simp only [↓DN, UP, DF, qSh, qCv, qIA, qIx, qSl, qBu, qCe, qOn, reduceCtorEq, ↓reduceIte, nLT, nLE, nEQ, nAdd, nMul, nPow, nSub, zLT, zLE, zNat, REye2101, f5, beNat_step y c hy7]
      refine hK _ _ ?_
      clear hK K
      simp only [blockQ, thenQ, if_true, if_false]
      refine hK6 _ _ ?_
      clear hK6 K6
      refine awp_reg_end ?_
      intro K hK
      simp only [↓DN, UP, DF, qSh, qCv, qIA, qIx, qSl, qBu, qCe, qOn, reduceCtorEq, ↓reduceIte, nLT, nLE, nEQ, nAdd, nMul, nPow, nSub, zLT, zLE, zNat, REye2101, f12, eye_succ j (by omega)]
      refine hK _ _ ?_
      clear hK K
      refine ⟨⟨j + 1, y * 256 + c.toNat, by omega, by simp only [upd, f10, nEQ, ↓reduceIte], by simp only [upd, f11, nEQ, ↓reduceIte], by simp only [upd, ↓reduceIte], by simp only [upd, nEQ, ↓reduceIte], hy2.symm, rfl⟩, ?_⟩
      simp only [f12, upd, ↓reduceIte]
      omega
    · refine awp_reg_seq ?_
      intro K hK
      simp only [↓DN, UP, DF, qSh, qCv, qIA, qIx, qSl, qBu, qCe, qOn, reduceCtorEq, ↓reduceIte, nLT, nLE, nEQ, nAdd, nMul, nPow, nSub, zLT, zLE, zNat, REye2101, f11, f12, eye_lt_nat, decide_eq_false hj']
      refine hK _ _ ?_
      clear hK K
      refine awp_seq_k ?_
      intro K5 hK5
      refine awp_cond_k ?_
      intro X Y hX hY
      simp only [↓DN, UP, DF, qSh, qCv, qIA, qIx, qSl, qBu, qCe, qOn, reduceCtorEq, ↓reduceIte, nLT, nLE, nEQ, nAdd, nMul, nPow, nSub, zLT, zLE, zNat, REye2101, DB]
      refine hY ?_
      clear hX hY X Y
      refine awp_exit ?_
      simp only [thenQ, blockQ, if_true]
      refine hK _ _ ?_
      clear hK hK5 K K5
      refine awp_reg_seq ?_
      intro K hK
      simp only [↓DN, UP, DF, qSh, qCv, qIA, qIx, qSl, qBu, qCe, qOn, reduceCtorEq, ↓reduceIte, nLT, nLE, nEQ, nAdd, nMul, nPow, nSub, zLT, zLE, zNat, REye2101, f5]
      refine hK _ _ ?_
      clear hK K
      refine awp_ret ?_
      simp only [retQ, AEnds, aresL, ares, List.toList_toArray, ↓upd_same]; try simp only [↓DN, UP, DF, qSh, qCv, qIA, qIx, qSl, qBu, qCe, qOn, reduceCtorEq, ↓reduceIte, nLT, nLE, nEQ, nAdd, nMul, nPow, nSub, zLT, zLE, zNat, REye2101, DT]
      refine ⟨_, _, AV.weak.refl _, AS.le.refl _, ?_, he⟩
      rw [hy, List.take_of_length_le (by omega), hout]
      rfl

end Go.Proofs.Ytcnilmidfhpckaa


