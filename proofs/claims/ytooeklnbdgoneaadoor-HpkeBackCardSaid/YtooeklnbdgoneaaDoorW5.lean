/- Contracts of the program's functions, each walked once; the conditions stand in each theorem. -/
import Derived.Test.YtooeklnbdgoneaaDoorAMp6
import Derived.Test.YtooeklnbdgoneaaDoorW4
import Derived.Test.YtooeklnbdgoneaaDoorAMp4
import Derived.Test.YtooeklnbdgoneaaDoorAMp3
set_option linter.unusedSimpArgs false
set_option linter.unusedVariables false
open Nat renaming reduceLT → nLT, reduceLeDiff → nLE, reduceEqDiff → nEQ, reduceAdd → nAdd, reduceMul → nMul, reducePow → nPow, reduceSub → nSub
open Int renaming reduceLT → zLT, reduceLE → zLE, reduceToNat → zNat
open Go.AM renaming ashift → qSh, aconv → qCv, aindexAddr → qIA, aindex → qIx, aslice → qSl, abuiltin → qBu
open Go.AM.AV renaming cells → qCe, one → qOn
set_option autoImplicit false
namespace Go.Proofs.YtooeklnbdgoneaaDoor
open Go Go.AM Go.Proofs

theorem RPen3102 : type_of% (And.intro (And.intro (And.intro (And.intro (And.intro @Tryd.underlying3 (And.intro T.c3 T.g3)) (And.intro (And.intro T.b3 T.z3) (And.intro @Tryd.underlying4 T.c4))) (And.intro (And.intro T.g4 (And.intro T.b4 T.z4)) (And.intro (And.intro @Tryd.underlying22 T.c22) (And.intro T.g22 T.b22)))) (And.intro (And.intro (And.intro T.z22 (And.intro T.s22 @Tryd.underlying61)) (And.intro (And.intro T.c61 T.g61) (And.intro T.b61 T.z61))) (And.intro (And.intro (And.intro T.p61 @Tryd.underlying105) (And.intro T.c105 T.g105)) (And.intro (And.intro T.b105 T.z105) (And.intro T.h105 T.k111))))) Tryd.ntmps102) :=
  (And.intro (And.intro (And.intro (And.intro (And.intro @Tryd.underlying3 (And.intro T.c3 T.g3)) (And.intro (And.intro T.b3 T.z3) (And.intro @Tryd.underlying4 T.c4))) (And.intro (And.intro T.g4 (And.intro T.b4 T.z4)) (And.intro (And.intro @Tryd.underlying22 T.c22) (And.intro T.g22 T.b22)))) (And.intro (And.intro (And.intro T.z22 (And.intro T.s22 @Tryd.underlying61)) (And.intro (And.intro T.c61 T.g61) (And.intro T.b61 T.z61))) (And.intro (And.intro (And.intro T.p61 @Tryd.underlying105) (And.intro T.c105 T.g105)) (And.intro (And.intro T.b105 T.z105) (And.intro T.h105 T.k111))))) Tryd.ntmps102)
theorem RPen3106 : type_of% (And.intro (And.intro (And.intro (And.intro (And.intro @Tryd.underlying3 (And.intro T.c3 T.g3)) (And.intro (And.intro T.b3 T.z3) (And.intro @Tryd.underlying4 T.c4))) (And.intro (And.intro T.g4 (And.intro T.b4 T.z4)) (And.intro (And.intro @Tryd.underlying22 T.c22) (And.intro T.g22 T.b22)))) (And.intro (And.intro (And.intro T.z22 (And.intro T.s22 @Tryd.underlying61)) (And.intro (And.intro T.c61 T.g61) (And.intro T.b61 T.z61))) (And.intro (And.intro (And.intro T.p61 @Tryd.underlying105) (And.intro T.c105 T.g105)) (And.intro (And.intro T.b105 T.z105) (And.intro T.h105 T.k111))))) Tryd.ntmps106) :=
  (And.intro (And.intro (And.intro (And.intro (And.intro @Tryd.underlying3 (And.intro T.c3 T.g3)) (And.intro (And.intro T.b3 T.z3) (And.intro @Tryd.underlying4 T.c4))) (And.intro (And.intro T.g4 (And.intro T.b4 T.z4)) (And.intro (And.intro @Tryd.underlying22 T.c22) (And.intro T.g22 T.b22)))) (And.intro (And.intro (And.intro T.z22 (And.intro T.s22 @Tryd.underlying61)) (And.intro (And.intro T.c61 T.g61) (And.intro T.b61 T.z61))) (And.intro (And.intro (And.intro T.p61 @Tryd.underlying105) (And.intro T.c105 T.g105)) (And.intro (And.intro T.b105 T.z105) (And.intro T.h105 T.k111))))) Tryd.ntmps106)
theorem RPen357 : type_of% (And.intro (And.intro (And.intro (And.intro (And.intro (And.intro @Tryd.underlying3 T.c3) (And.intro T.g3 T.b3)) (And.intro (And.intro T.z3 @Tryd.underlying4) (And.intro T.c4 T.g4))) (And.intro (And.intro (And.intro T.b4 T.z4) (And.intro @Tryd.underlying22 T.c22)) (And.intro (And.intro T.g22 T.b22) (And.intro T.z22 (And.intro T.s22 @Tryd.underlying41))))) (And.intro (And.intro (And.intro (And.intro T.c41 T.g41) (And.intro T.b41 T.z41)) (And.intro (And.intro @Tryd.underlying61 T.c61) (And.intro T.g61 T.b61))) (And.intro (And.intro (And.intro T.z61 T.p61) (And.intro @Tryd.underlying105 T.c105)) (And.intro (And.intro T.g105 T.b105) (And.intro T.z105 (And.intro T.h105 T.k90)))))) Tryd.ntmps57) :=
  (And.intro (And.intro (And.intro (And.intro (And.intro (And.intro @Tryd.underlying3 T.c3) (And.intro T.g3 T.b3)) (And.intro (And.intro T.z3 @Tryd.underlying4) (And.intro T.c4 T.g4))) (And.intro (And.intro (And.intro T.b4 T.z4) (And.intro @Tryd.underlying22 T.c22)) (And.intro (And.intro T.g22 T.b22) (And.intro T.z22 (And.intro T.s22 @Tryd.underlying41))))) (And.intro (And.intro (And.intro (And.intro T.c41 T.g41) (And.intro T.b41 T.z41)) (And.intro (And.intro @Tryd.underlying61 T.c61) (And.intro T.g61 T.b61))) (And.intro (And.intro (And.intro T.z61 T.p61) (And.intro @Tryd.underlying105 T.c105)) (And.intro (And.intro T.g105 T.b105) (And.intro T.z105 (And.intro T.h105 T.k90)))))) Tryd.ntmps57)
theorem RPen3112 : type_of% (And.intro (And.intro (And.intro (And.intro (And.intro @Tryd.underlying4 (And.intro T.c4 T.g4)) (And.intro T.b4 (And.intro T.z4 @Tryd.underlying5))) (And.intro (And.intro T.c5 (And.intro T.g5 T.b5)) (And.intro T.z5 (And.intro @Tryd.underlying22 T.c22)))) (And.intro (And.intro (And.intro T.g22 (And.intro T.b22 T.z22)) (And.intro T.s22 (And.intro @Tryd.underlying105 T.c105))) (And.intro (And.intro T.g105 (And.intro T.b105 T.z105)) (And.intro T.h105 (And.intro T.f105_0 T.f105_1))))) Tryd.ntmps112) :=
  (And.intro (And.intro (And.intro (And.intro (And.intro @Tryd.underlying4 (And.intro T.c4 T.g4)) (And.intro T.b4 (And.intro T.z4 @Tryd.underlying5))) (And.intro (And.intro T.c5 (And.intro T.g5 T.b5)) (And.intro T.z5 (And.intro @Tryd.underlying22 T.c22)))) (And.intro (And.intro (And.intro T.g22 (And.intro T.b22 T.z22)) (And.intro T.s22 (And.intro @Tryd.underlying105 T.c105))) (And.intro (And.intro T.g105 (And.intro T.b105 T.z105)) (And.intro T.h105 (And.intro T.f105_0 T.f105_1))))) Tryd.ntmps112)
theorem RPen389 : type_of% (And.intro (And.intro (And.intro (And.intro (And.intro (And.intro @Tryd.underlying3 T.c3) (And.intro T.g3 T.b3)) (And.intro (And.intro T.z3 @Tryd.underlying4) (And.intro T.c4 T.g4))) (And.intro (And.intro (And.intro T.b4 T.z4) (And.intro @Tryd.underlying5 T.c5)) (And.intro (And.intro T.g5 T.b5) (And.intro T.z5 (And.intro @Tryd.underlying22 T.c22))))) (And.intro (And.intro (And.intro (And.intro T.g22 T.b22) (And.intro T.z22 T.s22)) (And.intro (And.intro @Tryd.underlying61 T.c61) (And.intro T.g61 (And.intro T.b61 T.z61)))) (And.intro (And.intro (And.intro T.p61 @Tryd.underlying105) (And.intro T.c105 T.g105)) (And.intro (And.intro T.b105 T.z105) (And.intro T.h105 (And.intro T.k112 T.k111)))))) Tryd.ntmps89) :=
  (And.intro (And.intro (And.intro (And.intro (And.intro (And.intro @Tryd.underlying3 T.c3) (And.intro T.g3 T.b3)) (And.intro (And.intro T.z3 @Tryd.underlying4) (And.intro T.c4 T.g4))) (And.intro (And.intro (And.intro T.b4 T.z4) (And.intro @Tryd.underlying5 T.c5)) (And.intro (And.intro T.g5 T.b5) (And.intro T.z5 (And.intro @Tryd.underlying22 T.c22))))) (And.intro (And.intro (And.intro (And.intro T.g22 T.b22) (And.intro T.z22 T.s22)) (And.intro (And.intro @Tryd.underlying61 T.c61) (And.intro T.g61 (And.intro T.b61 T.z61)))) (And.intro (And.intro (And.intro T.p61 @Tryd.underlying105) (And.intro T.c105 T.g105)) (And.intro (And.intro T.b105 T.z105) (And.intro T.h105 (And.intro T.k112 T.k111)))))) Tryd.ntmps89)
theorem RPen356 : type_of% (And.intro (And.intro (And.intro (And.intro (And.intro (And.intro @Tryd.underlying3 T.c3) (And.intro T.g3 T.b3)) (And.intro (And.intro T.z3 @Tryd.underlying4) (And.intro T.c4 T.g4))) (And.intro (And.intro (And.intro T.b4 T.z4) (And.intro @Tryd.underlying5 T.c5)) (And.intro (And.intro T.g5 T.b5) (And.intro T.z5 (And.intro @Tryd.underlying22 T.c22))))) (And.intro (And.intro (And.intro (And.intro T.g22 T.b22) (And.intro T.z22 T.s22)) (And.intro (And.intro @Tryd.underlying61 T.c61) (And.intro T.g61 T.b61))) (And.intro (And.intro (And.intro T.z61 T.p61) (And.intro @Tryd.underlying105 T.c105)) (And.intro (And.intro T.g105 T.b105) (And.intro T.z105 (And.intro T.h105 T.k89)))))) Tryd.ntmps56) :=
  (And.intro (And.intro (And.intro (And.intro (And.intro (And.intro @Tryd.underlying3 T.c3) (And.intro T.g3 T.b3)) (And.intro (And.intro T.z3 @Tryd.underlying4) (And.intro T.c4 T.g4))) (And.intro (And.intro (And.intro T.b4 T.z4) (And.intro @Tryd.underlying5 T.c5)) (And.intro (And.intro T.g5 T.b5) (And.intro T.z5 (And.intro @Tryd.underlying22 T.c22))))) (And.intro (And.intro (And.intro (And.intro T.g22 T.b22) (And.intro T.z22 T.s22)) (And.intro (And.intro @Tryd.underlying61 T.c61) (And.intro T.g61 T.b61))) (And.intro (And.intro (And.intro T.z61 T.p61) (And.intro @Tryd.underlying105 T.c105)) (And.intro (And.intro T.g105 T.b105) (And.intro T.z105 (And.intro T.h105 T.k89)))))) Tryd.ntmps56)
theorem RPen369 : type_of% (And.intro (And.intro (And.intro (And.intro (And.intro (And.intro @Tryd.underlying3 T.c3) (And.intro T.g3 T.b3)) (And.intro (And.intro T.z3 @Tryd.underlying4) (And.intro T.c4 T.g4))) (And.intro (And.intro (And.intro T.b4 T.z4) (And.intro @Tryd.underlying5 T.c5)) (And.intro (And.intro T.g5 T.b5) (And.intro T.z5 (And.intro @Tryd.underlying22 T.c22))))) (And.intro (And.intro (And.intro (And.intro T.g22 T.b22) (And.intro T.z22 T.s22)) (And.intro (And.intro @Tryd.underlying61 T.c61) (And.intro T.g61 T.b61))) (And.intro (And.intro (And.intro T.z61 T.p61) (And.intro @Tryd.underlying105 T.c105)) (And.intro (And.intro T.g105 T.b105) (And.intro T.z105 (And.intro T.h105 T.k89)))))) Tryd.ntmps69) :=
  (And.intro (And.intro (And.intro (And.intro (And.intro (And.intro @Tryd.underlying3 T.c3) (And.intro T.g3 T.b3)) (And.intro (And.intro T.z3 @Tryd.underlying4) (And.intro T.c4 T.g4))) (And.intro (And.intro (And.intro T.b4 T.z4) (And.intro @Tryd.underlying5 T.c5)) (And.intro (And.intro T.g5 T.b5) (And.intro T.z5 (And.intro @Tryd.underlying22 T.c22))))) (And.intro (And.intro (And.intro (And.intro T.g22 T.b22) (And.intro T.z22 T.s22)) (And.intro (And.intro @Tryd.underlying61 T.c61) (And.intro T.g61 T.b61))) (And.intro (And.intro (And.intro T.z61 T.p61) (And.intro @Tryd.underlying105 T.c105)) (And.intro (And.intro T.g105 T.b105) (And.intro T.z105 (And.intro T.h105 T.k89)))))) Tryd.ntmps69)
theorem RPen370 : type_of% (And.intro (And.intro (And.intro (And.intro @Tryd.underlying5 T.c5) (And.intro T.g5 (And.intro T.b5 T.z5))) (And.intro (And.intro @Tryd.underlying22 (And.intro T.c22 T.g22)) (And.intro T.b22 (And.intro T.z22 T.s22)))) Tryd.ntmps70) :=
  (And.intro (And.intro (And.intro (And.intro @Tryd.underlying5 T.c5) (And.intro T.g5 (And.intro T.b5 T.z5))) (And.intro (And.intro @Tryd.underlying22 (And.intro T.c22 T.g22)) (And.intro T.b22 (And.intro T.z22 T.s22)))) Tryd.ntmps70)
theorem RPen336 : type_of% (And.intro (And.intro (And.intro (And.intro (And.intro @Tryd.underlying4 (And.intro T.c4 T.g4)) (And.intro T.b4 (And.intro T.z4 @Tryd.underlying5))) (And.intro (And.intro T.c5 (And.intro T.g5 T.b5)) (And.intro T.z5 (And.intro @Tryd.underlying22 T.c22)))) (And.intro (And.intro (And.intro T.g22 (And.intro T.b22 T.z22)) (And.intro T.s22 (And.intro @Tryd.underlying105 T.c105))) (And.intro (And.intro T.g105 (And.intro T.b105 T.z105)) (And.intro (And.intro T.h105 T.f105_0) (And.intro T.f105_1 T.k70))))) Tryd.ntmps36) :=
  (And.intro (And.intro (And.intro (And.intro (And.intro @Tryd.underlying4 (And.intro T.c4 T.g4)) (And.intro T.b4 (And.intro T.z4 @Tryd.underlying5))) (And.intro (And.intro T.c5 (And.intro T.g5 T.b5)) (And.intro T.z5 (And.intro @Tryd.underlying22 T.c22)))) (And.intro (And.intro (And.intro T.g22 (And.intro T.b22 T.z22)) (And.intro T.s22 (And.intro @Tryd.underlying105 T.c105))) (And.intro (And.intro T.g105 (And.intro T.b105 T.z105)) (And.intro (And.intro T.h105 T.f105_0) (And.intro T.f105_1 T.k70))))) Tryd.ntmps36)

variable {Γ : Nat → List AV}

set_option maxHeartbeats 400000 in
theorem penU16_calls (s0 s : AS) (p : Nat) (st : List UInt8 × Bool) (n : Int) (hn : -9223372036854775808 ≤ n ∧ n ≤ 9223372036854775807) (hl : st.1.length + 8 ≤ 2 ^ 45) (h : PenS s0 s p st) :
    ACalls Tryd.prog Γ 102 [.ptr p 0, .v (.int .i64 n)] s (fun r s' => r = .tup [] ∧ PenS s0 s' p (penSmall 2 n st)) := by
  refine acalls_body Tryd.func102 rfl Tryd.ntmps102 Tryd.results102 (by simp) ?_
  refine awp_reg_end ?_
  intro K hK
  simp only [↓DN, UP, DF, qSh, qCv, qIA, qIx, qSl, qBu, qCe, qOn, reduceCtorEq, ↓reduceIte, nLT, nLE, nEQ, nAdd, nMul, nPow, nSub, zLT, zLE, zNat, RPen3102]
  refine acallk (small_calls s0 s p st n 2 hn (by omega) hl h) ?_
  rintro r s' ⟨rfl, hp⟩
  simp only [↓AXq_nil, ↓AXq_cons, pval, DX, Nat.reduceBEq, ↓DN, UP, DF, qSh, qCv, qIA, qIx, qSl, qBu, qCe, qOn, reduceCtorEq, ↓reduceIte, nLT, nLE, nEQ, nAdd, nMul, nPow, nSub, zLT, zLE, zNat, RPen3102]
  refine hK _ _ ?_
  clear hK K
  simp only [retQ, AEnds, aresL, ares, List.toList_toArray, ↓upd_same]; try simp only [↓DN, UP, DF, qSh, qCv, qIA, qIx, qSl, qBu, qCe, qOn, reduceCtorEq, ↓reduceIte, nLT, nLE, nEQ, nAdd, nMul, nPow, nSub, zLT, zLE, zNat, RPen3102, DT]
  exact ⟨_, _, AV.weak.refl _, AS.le.refl _, rfl, hp⟩

set_option maxHeartbeats 400000 in
theorem penU32_calls (s0 s : AS) (p : Nat) (st : List UInt8 × Bool) (n : Int) (hn : -9223372036854775808 ≤ n ∧ n ≤ 9223372036854775807) (hl : st.1.length + 8 ≤ 2 ^ 45) (h : PenS s0 s p st) :
    ACalls Tryd.prog Γ 106 [.ptr p 0, .v (.int .i64 n)] s (fun r s' => r = .tup [] ∧ PenS s0 s' p (penSmall 4 n st)) := by
  refine acalls_body Tryd.func106 rfl Tryd.ntmps106 Tryd.results106 (by simp) ?_
  refine awp_reg_end ?_
  intro K hK
  simp only [↓DN, UP, DF, qSh, qCv, qIA, qIx, qSl, qBu, qCe, qOn, reduceCtorEq, ↓reduceIte, nLT, nLE, nEQ, nAdd, nMul, nPow, nSub, zLT, zLE, zNat, RPen3106]
  refine acallk (small_calls s0 s p st n 4 hn (by omega) hl h) ?_
  rintro r s' ⟨rfl, hp⟩
  simp only [↓AXq_nil, ↓AXq_cons, pval, DX, Nat.reduceBEq, ↓DN, UP, DF, qSh, qCv, qIA, qIx, qSl, qBu, qCe, qOn, reduceCtorEq, ↓reduceIte, nLT, nLE, nEQ, nAdd, nMul, nPow, nSub, zLT, zLE, zNat, RPen3106]
  refine hK _ _ ?_
  clear hK K
  simp only [retQ, AEnds, aresL, ares, List.toList_toArray, ↓upd_same]; try simp only [↓DN, UP, DF, qSh, qCv, qIA, qIx, qSl, qBu, qCe, qOn, reduceCtorEq, ↓reduceIte, nLT, nLE, nEQ, nAdd, nMul, nPow, nSub, zLT, zLE, zNat, RPen3106, DT]
  exact ⟨_, _, AV.weak.refl _, AS.le.refl _, rfl, hp⟩

set_option maxHeartbeats 400000 in
theorem penU64_calls (s0 s : AS) (p : Nat) (st : List UInt8 × Bool) (n : Nat) (hn : n < 2 ^ 64) (hl : st.1.length + 8 ≤ 2 ^ 45) (h : PenS s0 s p st) :
    ACalls Tryd.prog Γ 57 [.ptr p 0, .v (.int .u64 n)] s (fun r s' => r = .tup [] ∧ PenS s0 s' p (penNum 8 n st)) := by
  refine acalls_body Tryd.func57 rfl Tryd.ntmps57 Tryd.results57 (by simp) ?_
  refine awp_reg_end ?_
  intro K hK
  simp only [↓DN, UP, DF, qSh, qCv, qIA, qIx, qSl, qBu, qCe, qOn, reduceCtorEq, ↓reduceIte, nLT, nLE, nEQ, nAdd, nMul, nPow, nSub, zLT, zLE, zNat, RPen357]
  refine acallk (number_any s0 s p st n 8 hn (by omega) hl h) ?_
  rintro r s' ⟨rfl, hp⟩
  simp only [↓AXq_nil, ↓AXq_cons, pval, DX, Nat.reduceBEq, ↓DN, UP, DF, qSh, qCv, qIA, qIx, qSl, qBu, qCe, qOn, reduceCtorEq, ↓reduceIte, nLT, nLE, nEQ, nAdd, nMul, nPow, nSub, zLT, zLE, zNat, RPen357]
  refine hK _ _ ?_
  clear hK K
  simp only [retQ, AEnds, aresL, ares, List.toList_toArray, ↓upd_same]; try simp only [↓DN, UP, DF, qSh, qCv, qIA, qIx, qSl, qBu, qCe, qOn, reduceCtorEq, ↓reduceIte, nLT, nLE, nEQ, nAdd, nMul, nPow, nSub, zLT, zLE, zNat, RPen357, DT]
  exact ⟨_, _, AV.weak.refl _, AS.le.refl _, rfl, hp⟩

set_option maxHeartbeats 800000 in
theorem penRaw_calls (s0 s : AS) (p : Nat) (st : List UInt8 × Bool) (b : AV) (m : List UInt8) (hb : IsB b m) (hl : st.1.length + m.length ≤ 2 ^ 45) (h : PenS s0 s p st) :
    ACalls Tryd.prog Γ 112 [.ptr p 0, b] s (fun r s' => r = .tup [] ∧ PenS s0 s' p (penRaw m st)) := by
  obtain ⟨l, bad⟩ := st
  obtain ⟨x, hx, hbuf⟩ := h.obj
  refine acalls_body Tryd.func112 rfl Tryd.ntmps112 Tryd.results112 (by simp) ?_
  cases bad
  · refine awp_reg_seq ?_
    intro K hK
    simp only [↓DN, UP, DF, qSh, qCv, qIA, qIx, qSl, qBu, qCe, qOn, reduceCtorEq, ↓reduceIte, nLT, nLE, nEQ, nAdd, nMul, nPow, nSub, zLT, zLE, zNat, RPen3112, hx, Bool.not_false]
    refine hK _ _ ?_
    clear hK K
    refine awp_cond_k ?_
    intro X Y hX hY
    simp only [↓DN, UP, DF, qSh, qCv, qIA, qIx, qSl, qBu, qCe, qOn, reduceCtorEq, ↓reduceIte, nLT, nLE, nEQ, nAdd, nMul, nPow, nSub, zLT, zLE, zNat, RPen3112, DB]
    refine hX ?_
    clear hX hY X Y
    have hraw : penRaw m (l, false) = (l ++ m, false) := rfl
    by_cases hm : m.length = 0
    · have hm0 : m = [] := List.eq_nil_of_length_eq_zero hm
      subst hm0
      have e : (l ++ [], false) = (l, false) := by simp
      rw [hraw, e]
      rcases hbuf with ⟨rfl, hl0⟩ | ⟨t, e, rfl, ht, ht0⟩
      · simp only at hl0
        subst hl0
        rcases hb with ⟨rfl, _⟩ | ⟨sp, rfl⟩
        · refine awp_reg_end ?_
          intro K hK
          simp only [↓DN, UP, DF, qSh, qCv, qIA, qIx, qSl, qBu, qCe, qOn, reduceCtorEq, ↓reduceIte, nLT, nLE, nEQ, nAdd, nMul, nPow, nSub, zLT, zLE, zNat, RPen3112, hx, nilS, bytesV, hm]
          refine hK _ _ ?_
          clear hK K
          simp only [retQ, AEnds, aresL, ares, List.toList_toArray, ↓upd_same]; try simp only [↓DN, UP, DF, qSh, qCv, qIA, qIx, qSl, qBu, qCe, qOn, reduceCtorEq, ↓reduceIte, nLT, nLE, nEQ, nAdd, nMul, nPow, nSub, zLT, zLE, zNat, RPen3112, DT]
          exact ⟨_, _, AV.weak.refl _, AS.le.refl _, rfl, h.bad hx (.inl ⟨rfl, rfl⟩) false⟩
        · refine awp_reg_end ?_
          intro K hK
          simp only [↓DN, UP, DF, qSh, qCv, qIA, qIx, qSl, qBu, qCe, qOn, reduceCtorEq, ↓reduceIte, nLT, nLE, nEQ, nAdd, nMul, nPow, nSub, zLT, zLE, zNat, RPen3112, hx, nilS, bytesV, hm]
          refine hK _ _ ?_
          clear hK K
          simp only [retQ, AEnds, aresL, ares, List.toList_toArray, ↓upd_same]; try simp only [↓DN, UP, DF, qSh, qCv, qIA, qIx, qSl, qBu, qCe, qOn, reduceCtorEq, ↓reduceIte, nLT, nLE, nEQ, nAdd, nMul, nPow, nSub, zLT, zLE, zNat, RPen3112, DT]
          exact ⟨_, _, AV.weak.refl _, AS.le.refl _, rfl, h.bad hx (.inl ⟨rfl, rfl⟩) false⟩
      · rcases hb with ⟨rfl, _⟩ | ⟨sp, rfl⟩
        · refine awp_reg_end ?_
          intro K hK
          simp only [↓DN, UP, DF, qSh, qCv, qIA, qIx, qSl, qBu, qCe, qOn, reduceCtorEq, ↓reduceIte, nLT, nLE, nEQ, nAdd, nMul, nPow, nSub, zLT, zLE, zNat, RPen3112, hx, nilS, bytesV, hm]
          refine hK _ _ ?_
          clear hK K
          simp only [retQ, AEnds, aresL, ares, List.toList_toArray, ↓upd_same]; try simp only [↓DN, UP, DF, qSh, qCv, qIA, qIx, qSl, qBu, qCe, qOn, reduceCtorEq, ↓reduceIte, nLT, nLE, nEQ, nAdd, nMul, nPow, nSub, zLT, zLE, zNat, RPen3112, DT]
          exact ⟨_, _, AV.weak.refl _, AS.le.refl _, rfl, h.bad hx (.inr ⟨t, e, rfl, ht, ht0⟩) false⟩
        · refine awp_reg_end ?_
          intro K hK
          simp only [↓DN, UP, DF, qSh, qCv, qIA, qIx, qSl, qBu, qCe, qOn, reduceCtorEq, ↓reduceIte, nLT, nLE, nEQ, nAdd, nMul, nPow, nSub, zLT, zLE, zNat, RPen3112, hx, nilS, bytesV, hm]
          refine hK _ _ ?_
          clear hK K
          simp only [retQ, AEnds, aresL, ares, List.toList_toArray, ↓upd_same]; try simp only [↓DN, UP, DF, qSh, qCv, qIA, qIx, qSl, qBu, qCe, qOn, reduceCtorEq, ↓reduceIte, nLT, nLE, nEQ, nAdd, nMul, nPow, nSub, zLT, zLE, zNat, RPen3112, DT]
          exact ⟨_, _, AV.weak.refl _, AS.le.refl _, rfl, h.bad hx (.inr ⟨t, e, rfl, ht, ht0⟩) false⟩
    · have hb' : ∃ sp, b = bytesV m sp := by
        rcases hb with ⟨_, rfl⟩ | hb
        · exact absurd rfl hm
        · exact hb
      obtain ⟨sp, rfl⟩ := hb'
      rw [hraw]
      simp only at hl
      rcases hbuf with ⟨rfl, hl0⟩ | ⟨t, e, rfl, ht, ht0⟩
      · simp only at hl0
        subst hl0
        refine awp_reg_end ?_
        intro K hK
        simp only [↓DN, UP, DF, qSh, qCv, qIA, qIx, qSl, qBu, qCe, qOn, reduceCtorEq, ↓reduceIte, nLT, nLE, nEQ, nAdd, nMul, nPow, nSub, zLT, zLE, zNat, RPen3112, hx, nilS, bytesV, hm]
        refine ⟨by omega, by omega, fun t ht => hK _ _ ?_⟩
        clear hK K
        simp only [retQ, AEnds, aresL, ares, List.toList_toArray, ↓upd_same]; try simp only [↓DN, UP, DF, qSh, qCv, qIA, qIx, qSl, qBu, qCe, qOn, reduceCtorEq, ↓reduceIte, nLT, nLE, nEQ, nAdd, nMul, nPow, nSub, zLT, zLE, zNat, RPen3112, DT]
        exact ⟨_, _, AV.weak.refl _, AS.le.refl _, rfl, h.put_one ht m⟩
      · refine awp_reg_end ?_
        intro K hK
        simp only [↓DN, UP, DF, qSh, qCv, qIA, qIx, qSl, qBu, qCe, qOn, reduceCtorEq, ↓reduceIte, nLT, nLE, nEQ, nAdd, nMul, nPow, nSub, zLT, zLE, zNat, RPen3112, hx, bytesV, hm, ht]
        refine ⟨by omega, by omega, hK _ _ ?_⟩
        clear hK K
        simp only [retQ, AEnds, aresL, ares, List.toList_toArray, ↓upd_same]; try simp only [↓DN, UP, DF, qSh, qCv, qIA, qIx, qSl, qBu, qCe, qOn, reduceCtorEq, ↓reduceIte, nLT, nLE, nEQ, nAdd, nMul, nPow, nSub, zLT, zLE, zNat, RPen3112, DT]
        exact ⟨_, _, AV.weak.refl _, AS.le.refl _, rfl, h.more ht0 m rfl rfl⟩
  · refine awp_reg_seq ?_
    intro K hK
    simp only [↓DN, UP, DF, qSh, qCv, qIA, qIx, qSl, qBu, qCe, qOn, reduceCtorEq, ↓reduceIte, nLT, nLE, nEQ, nAdd, nMul, nPow, nSub, zLT, zLE, zNat, RPen3112, hx, Bool.not_true]
    refine hK _ _ ?_
    clear hK K
    refine awp_cond_k ?_
    intro X Y hX hY
    simp only [↓DN, UP, DF, qSh, qCv, qIA, qIx, qSl, qBu, qCe, qOn, reduceCtorEq, ↓reduceIte, nLT, nLE, nEQ, nAdd, nMul, nPow, nSub, zLT, zLE, zNat, RPen3112, DB]
    refine hY ?_
    clear hX hY X Y
    refine awp_skip ?_
    simp only [retQ, AEnds, aresL, ares, List.toList_toArray, ↓upd_same]; try simp only [↓DN, UP, DF, qSh, qCv, qIA, qIx, qSl, qBu, qCe, qOn, reduceCtorEq, ↓reduceIte, nLT, nLE, nEQ, nAdd, nMul, nPow, nSub, zLT, zLE, zNat, RPen3112, DT]
    exact ⟨_, _, AV.weak.refl _, AS.le.refl _, rfl, h⟩

set_option maxHeartbeats 400000 in
theorem penText_calls (s0 s : AS) (p : Nat) (st : List UInt8 × Bool) (b : AV) (m : List UInt8) (k : Nat) (hk : k ≤ 8) (hb : IsB b m) (hl : st.1.length + m.length + 8 ≤ 2 ^ 45) (h : PenS s0 s p st) :
    ACalls Tryd.prog Γ 89 [.ptr p 0, b, .v (.int .i64 k)] s (fun r s' => r = .tup [] ∧ PenS s0 s' p (penText k m st)) := by
  refine acalls_body Tryd.func89 rfl Tryd.ntmps89 Tryd.results89 (by simp) ?_
  have hlen : (penSmall k m.length st).1.length ≤ st.1.length + k := penSmall_len ..
  rcases hb with ⟨rfl, rfl⟩ | ⟨sp, rfl⟩
  · refine awp_reg_seq ?_
    intro K hK
    simp only [↓DN, UP, DF, qSh, qCv, qIA, qIx, qSl, qBu, qCe, qOn, reduceCtorEq, ↓reduceIte, nLT, nLE, nEQ, nAdd, nMul, nPow, nSub, zLT, zLE, zNat, RPen389, nilS, List.length_nil]
    refine acallk (small_calls s0 s p st 0 k (by omega) hk (by omega) h) ?_
    rintro r s' ⟨rfl, hp⟩
    simp only [↓AXq_nil, ↓AXq_cons, pval, DX, Nat.reduceBEq, ↓DN, UP, DF, qSh, qCv, qIA, qIx, qSl, qBu, qCe, qOn, reduceCtorEq, ↓reduceIte, nLT, nLE, nEQ, nAdd, nMul, nPow, nSub, zLT, zLE, zNat, RPen389]
    refine hK _ _ ?_
    clear hK K
    refine awp_reg_end ?_
    intro K hK
    simp only [↓DN, UP, DF, qSh, qCv, qIA, qIx, qSl, qBu, qCe, qOn, reduceCtorEq, ↓reduceIte, nLT, nLE, nEQ, nAdd, nMul, nPow, nSub, zLT, zLE, zNat, RPen389]
    refine acallk (penRaw_calls s0 s' p _ nilS [] IsB.nil (by have := penSmall_len k 0 st; simp at this hl ⊢; omega) hp) ?_
    rintro r s'' ⟨rfl, hp'⟩
    simp only [↓AXq_nil, ↓AXq_cons, pval, DX, Nat.reduceBEq, ↓DN, UP, DF, qSh, qCv, qIA, qIx, qSl, qBu, qCe, qOn, reduceCtorEq, ↓reduceIte, nLT, nLE, nEQ, nAdd, nMul, nPow, nSub, zLT, zLE, zNat, RPen389]
    refine hK _ _ ?_
    clear hK K
    simp only [retQ, AEnds, aresL, ares, List.toList_toArray, ↓upd_same]; try simp only [↓DN, UP, DF, qSh, qCv, qIA, qIx, qSl, qBu, qCe, qOn, reduceCtorEq, ↓reduceIte, nLT, nLE, nEQ, nAdd, nMul, nPow, nSub, zLT, zLE, zNat, RPen389, DT]
    exact ⟨_, _, AV.weak.refl _, AS.le.refl _, rfl, hp'⟩
  · refine awp_reg_seq ?_
    intro K hK
    simp only [↓DN, UP, DF, qSh, qCv, qIA, qIx, qSl, qBu, qCe, qOn, reduceCtorEq, ↓reduceIte, nLT, nLE, nEQ, nAdd, nMul, nPow, nSub, zLT, zLE, zNat, RPen389, bytesV]
    refine acallk (small_calls s0 s p st m.length k (by omega) hk (by omega) h) ?_
    rintro r s' ⟨rfl, hp⟩
    simp only [↓AXq_nil, ↓AXq_cons, pval, DX, Nat.reduceBEq, ↓DN, UP, DF, qSh, qCv, qIA, qIx, qSl, qBu, qCe, qOn, reduceCtorEq, ↓reduceIte, nLT, nLE, nEQ, nAdd, nMul, nPow, nSub, zLT, zLE, zNat, RPen389]
    refine hK _ _ ?_
    clear hK K
    refine awp_reg_end ?_
    intro K hK
    simp only [↓DN, UP, DF, qSh, qCv, qIA, qIx, qSl, qBu, qCe, qOn, reduceCtorEq, ↓reduceIte, nLT, nLE, nEQ, nAdd, nMul, nPow, nSub, zLT, zLE, zNat, RPen389]
    refine acallk (penRaw_calls s0 s' p _ (bytesV m sp) m (IsB.mk m sp) (by simp only [List.length_nil] at *; omega) hp) ?_
    rintro r s'' ⟨rfl, hp'⟩
    simp only [↓AXq_nil, ↓AXq_cons, pval, DX, Nat.reduceBEq, ↓DN, UP, DF, qSh, qCv, qIA, qIx, qSl, qBu, qCe, qOn, reduceCtorEq, ↓reduceIte, nLT, nLE, nEQ, nAdd, nMul, nPow, nSub, zLT, zLE, zNat, RPen389]
    refine hK _ _ ?_
    clear hK K
    simp only [retQ, AEnds, aresL, ares, List.toList_toArray, ↓upd_same]; try simp only [↓DN, UP, DF, qSh, qCv, qIA, qIx, qSl, qBu, qCe, qOn, reduceCtorEq, ↓reduceIte, nLT, nLE, nEQ, nAdd, nMul, nPow, nSub, zLT, zLE, zNat, RPen389, DT]
    exact ⟨_, _, AV.weak.refl _, AS.le.refl _, rfl, hp'⟩

set_option maxHeartbeats 400000 in
theorem penShort_calls (s0 s : AS) (p : Nat) (st : List UInt8 × Bool) (b : AV) (m : List UInt8) (hb : IsB b m) (hl : st.1.length + m.length + 8 ≤ 2 ^ 45) (h : PenS s0 s p st) :
    ACalls Tryd.prog Γ 56 [.ptr p 0, b] s (fun r s' => r = .tup [] ∧ PenS s0 s' p (penText 1 m st)) := by
  refine acalls_body Tryd.func56 rfl Tryd.ntmps56 Tryd.results56 (by simp) ?_
  refine awp_reg_end ?_
  intro K hK
  simp only [↓DN, UP, DF, qSh, qCv, qIA, qIx, qSl, qBu, qCe, qOn, reduceCtorEq, ↓reduceIte, nLT, nLE, nEQ, nAdd, nMul, nPow, nSub, zLT, zLE, zNat, RPen356]
  refine acallk (penText_calls s0 s p st b m 1 (by omega) hb hl h) ?_
  rintro r s' ⟨rfl, hp⟩
  simp only [↓AXq_nil, ↓AXq_cons, pval, DX, Nat.reduceBEq, ↓DN, UP, DF, qSh, qCv, qIA, qIx, qSl, qBu, qCe, qOn, reduceCtorEq, ↓reduceIte, nLT, nLE, nEQ, nAdd, nMul, nPow, nSub, zLT, zLE, zNat, RPen356]
  refine hK _ _ ?_
  clear hK K
  simp only [retQ, AEnds, aresL, ares, List.toList_toArray, ↓upd_same]; try simp only [↓DN, UP, DF, qSh, qCv, qIA, qIx, qSl, qBu, qCe, qOn, reduceCtorEq, ↓reduceIte, nLT, nLE, nEQ, nAdd, nMul, nPow, nSub, zLT, zLE, zNat, RPen356, DT]
  exact ⟨_, _, AV.weak.refl _, AS.le.refl _, rfl, hp⟩

set_option maxHeartbeats 400000 in
theorem penLong_calls (s0 s : AS) (p : Nat) (st : List UInt8 × Bool) (b : AV) (m : List UInt8) (hb : IsB b m) (hl : st.1.length + m.length + 8 ≤ 2 ^ 45) (h : PenS s0 s p st) :
    ACalls Tryd.prog Γ 69 [.ptr p 0, b] s (fun r s' => r = .tup [] ∧ PenS s0 s' p (penText 2 m st)) := by
  refine acalls_body Tryd.func69 rfl Tryd.ntmps69 Tryd.results69 (by simp) ?_
  refine awp_reg_end ?_
  intro K hK
  simp only [↓DN, UP, DF, qSh, qCv, qIA, qIx, qSl, qBu, qCe, qOn, reduceCtorEq, ↓reduceIte, nLT, nLE, nEQ, nAdd, nMul, nPow, nSub, zLT, zLE, zNat, RPen369]
  refine acallk (penText_calls s0 s p st b m 2 (by omega) hb hl h) ?_
  rintro r s' ⟨rfl, hp⟩
  simp only [↓AXq_nil, ↓AXq_cons, pval, DX, Nat.reduceBEq, ↓DN, UP, DF, qSh, qCv, qIA, qIx, qSl, qBu, qCe, qOn, reduceCtorEq, ↓reduceIte, nLT, nLE, nEQ, nAdd, nMul, nPow, nSub, zLT, zLE, zNat, RPen369]
  refine hK _ _ ?_
  clear hK K
  simp only [retQ, AEnds, aresL, ares, List.toList_toArray, ↓upd_same]; try simp only [↓DN, UP, DF, qSh, qCv, qIA, qIx, qSl, qBu, qCe, qOn, reduceCtorEq, ↓reduceIte, nLT, nLE, nEQ, nAdd, nMul, nPow, nSub, zLT, zLE, zNat, RPen369, DT]
  exact ⟨_, _, AV.weak.refl _, AS.le.refl _, rfl, hp⟩

theorem clone_nil (s : AS) : ACalls Tryd.prog Γ 70 [nilS] s (fun r s' => r = bytesV [] .any ∧ s' = s) := by
  refine acalls_body Tryd.func70 rfl Tryd.ntmps70 Tryd.results70 (by simp) ?_
  unfold nilS
  refine awp_reg_seq ?_
  intro K hK
  simp only [↓DN, UP, DF, qSh, qCv, qIA, qIx, qSl, qBu, qCe, qOn, reduceCtorEq, ↓reduceIte, nLT, nLE, nEQ, nAdd, nMul, nPow, nSub, zLT, zLE, zNat, RPen370]
  refine hK _ _ ?_
  clear hK K
  refine awp_seq_k ?_
  intro K hK
  refine awp_reg_seq ?_
  intro K hK
  simp only [↓DN, UP, DF, qSh, qCv, qIA, qIx, qSl, qBu, qCe, qOn, reduceCtorEq, ↓reduceIte, nLT, nLE, nEQ, nAdd, nMul, nPow, nSub, zLT, zLE, zNat, RPen370]
  refine hK _ _ ?_
  clear hK K
  refine awp_cond_k ?_
  intro X Y hX hY
  simp only [↓DN, UP, DF, qSh, qCv, qIA, qIx, qSl, qBu, qCe, qOn, reduceCtorEq, ↓reduceIte, nLT, nLE, nEQ, nAdd, nMul, nPow, nSub, zLT, zLE, zNat, RPen370, DB]
  refine hX ?_
  clear hX hY X Y
  refine awp_reg_seq ?_
  intro K hK
  simp only [↓DN, UP, DF, qSh, qCv, qIA, qIx, qSl, qBu, qCe, qOn, reduceCtorEq, ↓reduceIte, nLT, nLE, nEQ, nAdd, nMul, nPow, nSub, zLT, zLE, zNat, RPen370]
  refine hK _ _ ?_
  clear hK K
  refine awp_ret ?_
  simp only [retQ, AEnds, aresL, ares, List.toList_toArray, ↓upd_same]; try simp only [↓DN, UP, DF, qSh, qCv, qIA, qIx, qSl, qBu, qCe, qOn, reduceCtorEq, ↓reduceIte, nLT, nLE, nEQ, nAdd, nMul, nPow, nSub, zLT, zLE, zNat, RPen370, DT]
  exact ⟨_, _, AV.weak_nil, AS.le.refl _, rfl, rfl⟩

theorem cloneB_calls (l : List UInt8) (s : AS) (hl : l.length ≤ 2 ^ 45) : ACalls Tryd.prog Γ 70 [bytesV l .any] s (fun r s' => r = bytesV l .any ∧ s' = s) :=
  ACalls.any (pre := []) (post := []) (fun e => by subst e; exact clone_nil s) (clone_calls l .no rfl s hl)

set_option maxHeartbeats 400000 in
theorem penBytes_calls (s0 s : AS) (p : Nat) (st : List UInt8 × Bool) (hl : st.1.length ≤ 2 ^ 45) (h : PenS s0 s p st) :
    ACalls Tryd.prog Γ 36 [.ptr p 0] s (fun r s' => r = .tup [bytesV (if st.2 = true then [] else st.1) .any, .v (.bool !st.2)] ∧ s' = s) := by
  obtain ⟨l, bad⟩ := st
  obtain ⟨x, hx, hbuf⟩ := h.obj
  refine acalls_body Tryd.func36 rfl Tryd.ntmps36 Tryd.results36 (by simp) ?_
  simp only at hx hl hbuf
  refine awp_reg_seq ?_
  intro K hK
  simp only [↓DN, UP, DF, qSh, qCv, qIA, qIx, qSl, qBu, qCe, qOn, reduceCtorEq, ↓reduceIte, nLT, nLE, nEQ, nAdd, nMul, nPow, nSub, zLT, zLE, zNat, RPen336]
  refine hK _ _ ?_
  clear hK K
  refine awp_seq_k ?_
  intro K hK
  cases bad
  · refine awp_reg_seq ?_
    intro K hK
    simp only [↓DN, UP, DF, qSh, qCv, qIA, qIx, qSl, qBu, qCe, qOn, reduceCtorEq, ↓reduceIte, nLT, nLE, nEQ, nAdd, nMul, nPow, nSub, zLT, zLE, zNat, RPen336, hx]
    refine hK _ _ ?_
    clear hK K
    refine awp_cond_k ?_
    intro X Y hX hY
    simp only [↓DN, UP, DF, qSh, qCv, qIA, qIx, qSl, qBu, qCe, qOn, reduceCtorEq, ↓reduceIte, nLT, nLE, nEQ, nAdd, nMul, nPow, nSub, zLT, zLE, zNat, RPen336, DB]
    refine hY ?_
    clear hX hY X Y
    refine awp_skip ?_
    refine hK _ _ ?_
    clear hK K
    rcases hbuf with ⟨rfl, hl0⟩ | ⟨t, e, rfl, ht, ht0⟩
    · subst hl0
      refine awp_reg_seq ?_
      intro K hK
      simp only [↓DN, UP, DF, qSh, qCv, qIA, qIx, qSl, qBu, qCe, qOn, reduceCtorEq, ↓reduceIte, nLT, nLE, nEQ, nAdd, nMul, nPow, nSub, zLT, zLE, zNat, RPen336, hx]
      refine acallk (clone_nil s) ?_
      rintro r s' ⟨rfl, rfl⟩
      simp only [↓AXq_nil, ↓AXq_cons, pval, DX, Nat.reduceBEq, ↓DN, UP, DF, qSh, qCv, qIA, qIx, qSl, qBu, qCe, qOn, reduceCtorEq, ↓reduceIte, nLT, nLE, nEQ, nAdd, nMul, nPow, nSub, zLT, zLE, zNat, RPen336]
      refine hK _ _ ?_
      clear hK K
      refine awp_ret ?_
      simp only [retQ, AEnds, aresL, ares, List.toList_toArray, ↓upd_same]; try simp only [↓DN, UP, DF, qSh, qCv, qIA, qIx, qSl, qBu, qCe, qOn, reduceCtorEq, ↓reduceIte, nLT, nLE, nEQ, nAdd, nMul, nPow, nSub, zLT, zLE, zNat, RPen336, DT]
      exact ⟨_, _, AV.weak.refl _, AS.le.refl _, rfl, rfl⟩
    · refine awp_reg_seq ?_
      intro K hK
      simp only [↓DN, UP, DF, qSh, qCv, qIA, qIx, qSl, qBu, qCe, qOn, reduceCtorEq, ↓reduceIte, nLT, nLE, nEQ, nAdd, nMul, nPow, nSub, zLT, zLE, zNat, RPen336, hx]
      refine acallk (clone_calls l _ rfl s hl) ?_
      rintro r s' ⟨rfl, rfl⟩
      simp only [↓AXq_nil, ↓AXq_cons, pval, DX, Nat.reduceBEq, ↓DN, UP, DF, qSh, qCv, qIA, qIx, qSl, qBu, qCe, qOn, reduceCtorEq, ↓reduceIte, nLT, nLE, nEQ, nAdd, nMul, nPow, nSub, zLT, zLE, zNat, RPen336]
      refine hK _ _ ?_
      clear hK K
      refine awp_ret ?_
      simp only [retQ, AEnds, aresL, ares, List.toList_toArray, ↓upd_same]; try simp only [↓DN, UP, DF, qSh, qCv, qIA, qIx, qSl, qBu, qCe, qOn, reduceCtorEq, ↓reduceIte, nLT, nLE, nEQ, nAdd, nMul, nPow, nSub, zLT, zLE, zNat, RPen336, DT]
      exact ⟨_, _, AV.weak.refl _, AS.le.refl _, rfl, rfl⟩
  · refine awp_reg_seq ?_
    intro K hK
    simp only [↓DN, UP, DF, qSh, qCv, qIA, qIx, qSl, qBu, qCe, qOn, reduceCtorEq, ↓reduceIte, nLT, nLE, nEQ, nAdd, nMul, nPow, nSub, zLT, zLE, zNat, RPen336, hx]
    refine hK _ _ ?_
    clear hK K
    refine awp_cond_k ?_
    intro X Y hX hY
    simp only [↓DN, UP, DF, qSh, qCv, qIA, qIx, qSl, qBu, qCe, qOn, reduceCtorEq, ↓reduceIte, nLT, nLE, nEQ, nAdd, nMul, nPow, nSub, zLT, zLE, zNat, RPen336, DB]
    refine hX ?_
    clear hX hY X Y
    refine awp_reg_seq ?_
    intro K hK
    simp only [↓DN, UP, DF, qSh, qCv, qIA, qIx, qSl, qBu, qCe, qOn, reduceCtorEq, ↓reduceIte, nLT, nLE, nEQ, nAdd, nMul, nPow, nSub, zLT, zLE, zNat, RPen336]
    refine hK _ _ ?_
    clear hK K
    refine awp_ret ?_
    simp only [retQ, AEnds, aresL, ares, List.toList_toArray, ↓upd_same]; try simp only [↓DN, UP, DF, qSh, qCv, qIA, qIx, qSl, qBu, qCe, qOn, reduceCtorEq, ↓reduceIte, nLT, nLE, nEQ, nAdd, nMul, nPow, nSub, zLT, zLE, zNat, RPen336, DT]
    exact ⟨_, _, AV.weak_tup2 AV.weak_nil (AV.weak.refl _), AS.le.refl _, rfl, rfl⟩

end Go.Proofs.YtooeklnbdgoneaaDoor


set_option autoImplicit false
namespace Go.Proofs.YtooeklnbdgoneaaDoor
open Go Go.AM Go.Proofs

theorem REye37 : type_of% (And.intro (And.intro (And.intro (And.intro (And.intro @Tryd.underlying5 (And.intro T.c5 T.g5)) (And.intro T.b5 (And.intro T.z5 @Tryd.underlying22))) (And.intro (And.intro T.c22 (And.intro T.g22 T.b22)) (And.intro T.z22 (And.intro T.s22 @Tryd.underlying30)))) (And.intro (And.intro (And.intro T.c30 (And.intro T.g30 T.b30)) (And.intro T.z30 (And.intro @Tryd.underlying108 T.c108))) (And.intro (And.intro T.g108 (And.intro T.b108 T.z108)) (And.intro (And.intro T.h108 T.f108_0) (And.intro T.f108_1 T.k70))))) Tryd.ntmps37) :=
  (And.intro (And.intro (And.intro (And.intro (And.intro @Tryd.underlying5 (And.intro T.c5 T.g5)) (And.intro T.b5 (And.intro T.z5 @Tryd.underlying22))) (And.intro (And.intro T.c22 (And.intro T.g22 T.b22)) (And.intro T.z22 (And.intro T.s22 @Tryd.underlying30)))) (And.intro (And.intro (And.intro T.c30 (And.intro T.g30 T.b30)) (And.intro T.z30 (And.intro @Tryd.underlying108 T.c108))) (And.intro (And.intro T.g108 (And.intro T.b108 T.z108)) (And.intro (And.intro T.h108 T.f108_0) (And.intro T.f108_1 T.k70))))) Tryd.ntmps37)
theorem REye115 : type_of% (And.intro (And.intro (And.intro (And.intro (And.intro @Tryd.underlying3 (And.intro T.c3 T.g3)) (And.intro (And.intro T.b3 T.z3) (And.intro @Tryd.underlying5 T.c5))) (And.intro (And.intro T.g5 (And.intro T.b5 T.z5)) (And.intro (And.intro @Tryd.underlying22 T.c22) (And.intro T.g22 T.b22)))) (And.intro (And.intro (And.intro T.z22 (And.intro T.s22 @Tryd.underlying30)) (And.intro (And.intro T.c30 T.g30) (And.intro T.b30 T.z30))) (And.intro (And.intro (And.intro @Tryd.underlying108 T.c108) (And.intro T.g108 T.b108)) (And.intro (And.intro T.z108 T.h108) (And.intro T.f108_0 T.f108_1))))) Tryd.ntmps115) :=
  (And.intro (And.intro (And.intro (And.intro (And.intro @Tryd.underlying3 (And.intro T.c3 T.g3)) (And.intro (And.intro T.b3 T.z3) (And.intro @Tryd.underlying5 T.c5))) (And.intro (And.intro T.g5 (And.intro T.b5 T.z5)) (And.intro (And.intro @Tryd.underlying22 T.c22) (And.intro T.g22 T.b22)))) (And.intro (And.intro (And.intro T.z22 (And.intro T.s22 @Tryd.underlying30)) (And.intro (And.intro T.c30 T.g30) (And.intro T.b30 T.z30))) (And.intro (And.intro (And.intro @Tryd.underlying108 T.c108) (And.intro T.g108 T.b108)) (And.intro (And.intro T.z108 T.h108) (And.intro T.f108_0 T.f108_1))))) Tryd.ntmps115)

variable {Γ : Nat → List AV}

set_option maxHeartbeats 400000 in
theorem open_calls (l : List UInt8) (s : AS) (hl : l.length ≤ 2 ^ 45) : ACalls Tryd.prog Γ 37 [bytesV l .any] s (fun r s' => ∃ p, r = .ptr p 0 ∧ EyeS s s' p (l, 0)) := by
  refine acalls_body Tryd.func37 rfl Tryd.ntmps37 Tryd.results37 (by simp) ?_
  refine awp_reg_seq ?_
  intro K hK
  simp only [↓DN, UP, DF, qSh, qCv, qIA, qIx, qSl, qBu, qCe, qOn, reduceCtorEq, ↓reduceIte, nLT, nLE, nEQ, nAdd, nMul, nPow, nSub, zLT, zLE, zNat, REye37]
  refine hK _ _ ?_
  clear hK K
  refine awp_reg_seq ?_
  intro K hK
  simp only [↓DN, UP, DF, qSh, qCv, qIA, qIx, qSl, qBu, qCe, qOn, reduceCtorEq, ↓reduceIte, nLT, nLE, nEQ, nAdd, nMul, nPow, nSub, zLT, zLE, zNat, REye37]
  refine acallk (cloneB_calls l s hl) ?_
  rintro r s' ⟨rfl, rfl⟩
  unfold bytesV
  simp only [↓AXq_nil, ↓AXq_cons, pval, DX, Nat.reduceBEq, ↓DN, UP, DF, qSh, qCv, qIA, qIx, qSl, qBu, qCe, qOn, reduceCtorEq, ↓reduceIte, nLT, nLE, nEQ, nAdd, nMul, nPow, nSub, zLT, zLE, zNat, REye37]
  intro p hp
  refine hK _ _ ?_
  refine awp_ret ?_
  simp only [retQ, AEnds, aresL, ares, List.toList_toArray, ↓upd_same]; try simp only [↓DN, UP, DF, qSh, qCv, qIA, qIx, qSl, qBu, qCe, qOn, reduceCtorEq, ↓reduceIte, nLT, nLE, nEQ, nAdd, nMul, nPow, nSub, zLT, zLE, zNat, REye37, DT]
  exact ⟨_, _, AV.weak.refl _, AS.le.refl _, p, rfl, AS.le_set (AS.le.refl _) hp _, hp, AS.set_objs_same _ _ _⟩

set_option maxHeartbeats 1000000 in
theorem next_calls (s0 s : AS) (p : Nat) (st : EyeSt) (n : Int) (h : EyeS s0 s p st) :
    ACalls Tryd.prog Γ 115 [.ptr p 0, .v (.int .i64 n)] s (fun r s' => r = bytesV (eyeNext n st).1 .any ∧ EyeS s0 s' p (eyeNext n st).2) := by
  refine acalls_body Tryd.func115 rfl Tryd.ntmps115 Tryd.results115 (by simp) ?_
  obtain ⟨l, er⟩ := st
  have hx := h.obj
  simp only [bytesV] at hx
  refine awp_reg_seq ?_
  intro K hK
  simp only [↓DN, UP, DF, qSh, qCv, qIA, qIx, qSl, qBu, qCe, qOn, reduceCtorEq, ↓reduceIte, nLT, nLE, nEQ, nAdd, nMul, nPow, nSub, zLT, zLE, zNat, REye115]
  refine hK _ _ ?_
  clear hK K
  refine awp_seq_k ?_
  intro K hK
  refine awp_block ?_
  by_cases h0 : er = 0
  · subst h0
    refine awp_reg_seq ?_
    intro K hK
    simp only [↓DN, UP, DF, qSh, qCv, qIA, qIx, qSl, qBu, qCe, qOn, reduceCtorEq, ↓reduceIte, nLT, nLE, nEQ, nAdd, nMul, nPow, nSub, zLT, zLE, zNat, REye115, hx, i64_ne_false 0 rfl]
    refine hK _ _ ?_
    clear hK K
    refine awp_cond_k ?_
    intro X Y hX hY
    simp only [↓DN, UP, DF, qSh, qCv, qIA, qIx, qSl, qBu, qCe, qOn, reduceCtorEq, ↓reduceIte, nLT, nLE, nEQ, nAdd, nMul, nPow, nSub, zLT, zLE, zNat, REye115, DB]
    refine hY ?_
    clear hX hY X Y
    by_cases h1 : n < 0
    · refine awp_reg_seq ?_
      intro K hK
      simp only [↓DN, UP, DF, qSh, qCv, qIA, qIx, qSl, qBu, qCe, qOn, reduceCtorEq, ↓reduceIte, nLT, nLE, nEQ, nAdd, nMul, nPow, nSub, zLT, zLE, zNat, REye115, decide_eq_true h1]
      refine hK _ _ ?_
      clear hK K
      refine awp_cond_k ?_
      intro X Y hX hY
      simp only [↓DN, UP, DF, qSh, qCv, qIA, qIx, qSl, qBu, qCe, qOn, reduceCtorEq, ↓reduceIte, nLT, nLE, nEQ, nAdd, nMul, nPow, nSub, zLT, zLE, zNat, REye115, DB]
      refine hX ?_
      clear hX hY X Y
      refine awp_reg_seq ?_
      intro K hK
      simp only [↓DN, UP, DF, qSh, qCv, qIA, qIx, qSl, qBu, qCe, qOn, reduceCtorEq, ↓reduceIte, nLT, nLE, nEQ, nAdd, nMul, nPow, nSub, zLT, zLE, zNat, REye115, hx]
      refine hK _ _ ?_
      clear hK K
      refine awp_reg_seq ?_
      intro K hK
      simp only [↓DN, UP, DF, qSh, qCv, qIA, qIx, qSl, qBu, qCe, qOn, reduceCtorEq, ↓reduceIte, nLT, nLE, nEQ, nAdd, nMul, nPow, nSub, zLT, zLE, zNat, REye115]
      refine hK _ _ ?_
      clear hK K
      refine awp_ret ?_
      simp only [retQ, AEnds, aresL, ares, List.toList_toArray, ↓upd_same]; try simp only [↓DN, UP, DF, qSh, qCv, qIA, qIx, qSl, qBu, qCe, qOn, reduceCtorEq, ↓reduceIte, nLT, nLE, nEQ, nAdd, nMul, nPow, nSub, zLT, zLE, zNat, REye115, DT]
      rw [eyeNext_neg h1]
      exact ⟨_, _, AV.weak_nil, AS.le.refl _, rfl, h.put⟩
    · refine awp_reg_seq ?_
      intro K hK
      simp only [↓DN, UP, DF, qSh, qCv, qIA, qIx, qSl, qBu, qCe, qOn, reduceCtorEq, ↓reduceIte, nLT, nLE, nEQ, nAdd, nMul, nPow, nSub, zLT, zLE, zNat, REye115, decide_eq_false h1]
      refine hK _ _ ?_
      clear hK K
      refine awp_cond_k ?_
      intro X Y hX hY
      simp only [↓DN, UP, DF, qSh, qCv, qIA, qIx, qSl, qBu, qCe, qOn, reduceCtorEq, ↓reduceIte, nLT, nLE, nEQ, nAdd, nMul, nPow, nSub, zLT, zLE, zNat, REye115, DB]
      refine hY ?_
      clear hX hY X Y
      by_cases h2 : (l.length : Int) < n
      · refine awp_reg_seq ?_
        intro K hK
        simp only [↓DN, UP, DF, qSh, qCv, qIA, qIx, qSl, qBu, qCe, qOn, reduceCtorEq, ↓reduceIte, nLT, nLE, nEQ, nAdd, nMul, nPow, nSub, zLT, zLE, zNat, REye115, hx, decide_eq_true h2]
        refine hK _ _ ?_
        clear hK K
        refine awp_cond_k ?_
        intro X Y hX hY
        simp only [↓DN, UP, DF, qSh, qCv, qIA, qIx, qSl, qBu, qCe, qOn, reduceCtorEq, ↓reduceIte, nLT, nLE, nEQ, nAdd, nMul, nPow, nSub, zLT, zLE, zNat, REye115, DB]
        refine hX ?_
        clear hX hY X Y
        refine awp_reg_seq ?_
        intro K hK
        simp only [↓DN, UP, DF, qSh, qCv, qIA, qIx, qSl, qBu, qCe, qOn, reduceCtorEq, ↓reduceIte, nLT, nLE, nEQ, nAdd, nMul, nPow, nSub, zLT, zLE, zNat, REye115, hx]
        refine hK _ _ ?_
        clear hK K
        refine awp_reg_seq ?_
        intro K hK
        simp only [↓DN, UP, DF, qSh, qCv, qIA, qIx, qSl, qBu, qCe, qOn, reduceCtorEq, ↓reduceIte, nLT, nLE, nEQ, nAdd, nMul, nPow, nSub, zLT, zLE, zNat, REye115]
        refine hK _ _ ?_
        clear hK K
        refine awp_ret ?_
        simp only [retQ, AEnds, aresL, ares, List.toList_toArray, ↓upd_same]; try simp only [↓DN, UP, DF, qSh, qCv, qIA, qIx, qSl, qBu, qCe, qOn, reduceCtorEq, ↓reduceIte, nLT, nLE, nEQ, nAdd, nMul, nPow, nSub, zLT, zLE, zNat, REye115, DT]
        rw [eyeNext_short h1 h2]
        exact ⟨_, _, AV.weak_nil, AS.le.refl _, rfl, h.put⟩
      · obtain ⟨m, rfl⟩ := Int.eq_ofNat_of_zero_le (Int.not_lt.1 h1)
        have hml : m ≤ l.length := by omega
        have hm0 : (0 : Int) ≤ (m : Int) := by omega
        have hml' : (m : Int) ≤ (l.length : Int) := by omega
        refine awp_reg_seq ?_
        intro K hK
        simp only [↓DN, UP, DF, qSh, qCv, qIA, qIx, qSl, qBu, qCe, qOn, reduceCtorEq, ↓reduceIte, nLT, nLE, nEQ, nAdd, nMul, nPow, nSub, zLT, zLE, zNat, REye115, hx, decide_eq_false h2]
        refine hK _ _ ?_
        clear hK K
        refine awp_cond_k ?_
        intro X Y hX hY
        simp only [↓DN, UP, DF, qSh, qCv, qIA, qIx, qSl, qBu, qCe, qOn, reduceCtorEq, ↓reduceIte, nLT, nLE, nEQ, nAdd, nMul, nPow, nSub, zLT, zLE, zNat, REye115, DB]
        refine hY ?_
        clear hX hY X Y
        refine awp_skip ?_
        simp only [thenQ, blockQ, if_true, if_false]
        refine hK _ _ ?_
        clear hK K
        refine awp_reg_seq ?_
        intro K hK
        simp only [↓DN, UP, DF, qSh, qCv, qIA, qIx, qSl, qBu, qCe, qOn, reduceCtorEq, ↓reduceIte, nLT, nLE, nEQ, nAdd, nMul, nPow, nSub, zLT, zLE, zNat, REye115, hx, hm0, hml', Int.le_refl]
        refine hK _ _ ?_
        clear hK K
        refine awp_reg_seq ?_
        intro K hK
        simp only [↓DN, UP, DF, qSh, qCv, qIA, qIx, qSl, qBu, qCe, qOn, reduceCtorEq, ↓reduceIte, nLT, nLE, nEQ, nAdd, nMul, nPow, nSub, zLT, zLE, zNat, REye115, hx, hm0, hml', Int.le_refl]
        refine hK _ _ ?_
        clear hK K
        refine awp_reg_seq ?_
        intro K hK
        simp only [↓DN, UP, DF, qSh, qCv, qIA, qIx, qSl, qBu, qCe, qOn, reduceCtorEq, ↓reduceIte, nLT, nLE, nEQ, nAdd, nMul, nPow, nSub, zLT, zLE, zNat, REye115]
        refine hK _ _ ?_
        clear hK K
        refine awp_ret ?_
        simp only [retQ, AEnds, aresL, ares, List.toList_toArray, ↓upd_same]; try simp only [↓DN, UP, DF, qSh, qCv, qIA, qIx, qSl, qBu, qCe, qOn, reduceCtorEq, ↓reduceIte, nLT, nLE, nEQ, nAdd, nMul, nPow, nSub, zLT, zLE, zNat, REye115, DT]
        rw [eyeNext_ok hml]
        refine ⟨_, _, AV.weak.refl _, AS.le.refl _, bytes_of ?_ rfl, h.put' ?_⟩
        · simp only [List.length_take]; omega
        · rw [bytes_of (m := l.drop m)]
          · simp only [List.length_drop]
          · rw [List.take_length]
  · refine awp_reg_seq ?_
    intro K hK
    simp only [↓DN, UP, DF, qSh, qCv, qIA, qIx, qSl, qBu, qCe, qOn, reduceCtorEq, ↓reduceIte, nLT, nLE, nEQ, nAdd, nMul, nPow, nSub, zLT, zLE, zNat, REye115, hx, i64_ne_true er h0]
    refine hK _ _ ?_
    clear hK K
    refine awp_cond_k ?_
    intro X Y hX hY
    simp only [↓DN, UP, DF, qSh, qCv, qIA, qIx, qSl, qBu, qCe, qOn, reduceCtorEq, ↓reduceIte, nLT, nLE, nEQ, nAdd, nMul, nPow, nSub, zLT, zLE, zNat, REye115, DB]
    refine hX ?_
    clear hX hY X Y
    refine awp_reg_seq ?_
    intro K hK
    simp only [↓DN, UP, DF, qSh, qCv, qIA, qIx, qSl, qBu, qCe, qOn, reduceCtorEq, ↓reduceIte, nLT, nLE, nEQ, nAdd, nMul, nPow, nSub, zLT, zLE, zNat, REye115]
    refine hK _ _ ?_
    clear hK K
    refine awp_ret ?_
    simp only [retQ, AEnds, aresL, ares, List.toList_toArray, ↓upd_same]; try simp only [↓DN, UP, DF, qSh, qCv, qIA, qIx, qSl, qBu, qCe, qOn, reduceCtorEq, ↓reduceIte, nLT, nLE, nEQ, nAdd, nMul, nPow, nSub, zLT, zLE, zNat, REye115, DT]
    rw [eyeNext_err h0]
    exact ⟨_, _, AV.weak_nil, AS.le.refl _, rfl, h⟩

end Go.Proofs.YtooeklnbdgoneaaDoor


set_option autoImplicit false
namespace Go.Proofs.YtooeklnbdgoneaaDoor
open Go Go.AM Go.Proofs

theorem REye297 : type_of% (And.intro (And.intro (And.intro (And.intro (And.intro (And.intro @Tryd.underlying3 T.c3) (And.intro T.g3 T.b3)) (And.intro (And.intro T.z3 @Tryd.underlying5) (And.intro T.c5 (And.intro T.g5 T.b5)))) (And.intro (And.intro (And.intro T.z5 @Tryd.underlying22) (And.intro T.c22 (And.intro T.g22 T.b22))) (And.intro (And.intro T.z22 T.s22) (And.intro @Tryd.underlying30 (And.intro T.c30 T.g30))))) (And.intro (And.intro (And.intro (And.intro T.b30 T.z30) (And.intro @Tryd.underlying41 (And.intro T.c41 T.g41))) (And.intro (And.intro T.b41 T.z41) (And.intro @Tryd.underlying66 (And.intro T.c66 T.g66)))) (And.intro (And.intro (And.intro T.b66 T.z66) (And.intro T.p66 (And.intro @Tryd.underlying108 T.c108))) (And.intro (And.intro T.g108 T.b108) (And.intro T.z108 (And.intro T.h108 T.k115)))))) Tryd.ntmps97) :=
  (And.intro (And.intro (And.intro (And.intro (And.intro (And.intro @Tryd.underlying3 T.c3) (And.intro T.g3 T.b3)) (And.intro (And.intro T.z3 @Tryd.underlying5) (And.intro T.c5 (And.intro T.g5 T.b5)))) (And.intro (And.intro (And.intro T.z5 @Tryd.underlying22) (And.intro T.c22 (And.intro T.g22 T.b22))) (And.intro (And.intro T.z22 T.s22) (And.intro @Tryd.underlying30 (And.intro T.c30 T.g30))))) (And.intro (And.intro (And.intro (And.intro T.b30 T.z30) (And.intro @Tryd.underlying41 (And.intro T.c41 T.g41))) (And.intro (And.intro T.b41 T.z41) (And.intro @Tryd.underlying66 (And.intro T.c66 T.g66)))) (And.intro (And.intro (And.intro T.b66 T.z66) (And.intro T.p66 (And.intro @Tryd.underlying108 T.c108))) (And.intro (And.intro T.g108 T.b108) (And.intro T.z108 (And.intro T.h108 T.k115)))))) Tryd.ntmps97)

variable {Γ : Nat → List AV}

set_option maxHeartbeats 1000000 in
theorem eyeNumber_calls (s0 s : AS) (p : Nat) (st : EyeSt) (size : Nat) (hs : size ≤ 8) (h : EyeS s0 s p st) :
    ACalls Tryd.prog Γ 97 [.ptr p 0, .v (.int .i64 size)] s (fun r s' => r = .v (.int .u64 (eyeNum size st).1) ∧ EyeS s0 s' p (eyeNum size st).2) := by
  refine acalls_body Tryd.func97 rfl Tryd.ntmps97 Tryd.results97 (by simp) ?_
  obtain ⟨out, hout⟩ : ∃ out, out = (eyeNext size st).1 := ⟨_, rfl⟩
  have hlen : out.length ≤ 8 := by rw [hout]; exact Nat.le_trans (eyeNext_le _ _) hs
  refine awp_reg_seq ?_
  intro K hK
  simp only [↓DN, UP, DF, qSh, qCv, qIA, qIx, qSl, qBu, qCe, qOn, reduceCtorEq, ↓reduceIte, nLT, nLE, nEQ, nAdd, nMul, nPow, nSub, zLT, zLE, zNat, REye297]
  refine hK _ _ ?_
  clear hK K
  refine awp_reg_seq ?_
  intro K hK
  simp only [↓DN, UP, DF, qSh, qCv, qIA, qIx, qSl, qBu, qCe, qOn, reduceCtorEq, ↓reduceIte, nLT, nLE, nEQ, nAdd, nMul, nPow, nSub, zLT, zLE, zNat, REye297]
  refine hK _ _ ?_
  clear hK K
  refine awp_seq_k ?_
  intro K hK
  refine awp_reg_seq ?_
  intro K hK
  simp only [↓DN, UP, DF, qSh, qCv, qIA, qIx, qSl, qBu, qCe, qOn, reduceCtorEq, ↓reduceIte, nLT, nLE, nEQ, nAdd, nMul, nPow, nSub, zLT, zLE, zNat, REye297]
  refine acallk (next_calls s0 s p st size h) ?_
  rintro r s2 ⟨rfl, he⟩
  rw [← hout]
  unfold bytesV
  simp only [↓AXq_nil, ↓AXq_cons, pval, DX, Nat.reduceBEq, ↓DN, UP, DF, qSh, qCv, qIA, qIx, qSl, qBu, qCe, qOn, reduceCtorEq, ↓reduceIte, nLT, nLE, nEQ, nAdd, nMul, nPow, nSub, zLT, zLE, zNat, REye297]
  refine hK _ _ ?_
  clear hK K
  refine awp_block ?_
  refine awp_loop (fun E s3 => ∃ j y : Nat, j ≤ out.length ∧ E 10 = .sl 1 out.length (out.map byteV) .any ∧ E 11 = .v (.int .i64 out.length) ∧ E 12 = .v (.int .i64 j) ∧ E 5 = .v (.int .u64 y) ∧ y = beNat (out.take j) ∧ s3 = s2)
    (fun E _ => match E 12 with | .v (.int _ j) => out.length - j.toNat | _ => 0) ?_ ?_
  · exact ⟨0, 0, Nat.zero_le _, by simp only [upd, nEQ, ↓reduceIte], by simp only [upd, nEQ, ↓reduceIte], by simp only [upd, ↓reduceIte]; rfl, by simp only [upd, nEQ, ↓reduceIte]; rfl, rfl, rfl⟩
  · rintro E3 s3 ⟨j, y, hj, f10, f11, f12, f5, hy, rfl⟩ -
    by_cases hj' : j < out.length
    · have hy7 : y < 2 ^ 56 := by
        rw [hy]
        refine Nat.lt_of_lt_of_le (beNat_take_lt out j) ?_
        rw [show (2 : Nat) ^ 56 = 256 ^ 7 from by decide]
        exact Nat.pow_le_pow_right (by decide) (by omega)
      have hy2 : beNat (out.take (j + 1)) = y * 256 + out[j].toNat := by rw [List.take_succ_eq_append_getElem hj', beNat_snoc, ← hy]
      have hgj : (0 : Int) ≤ (j : Int) := by omega
      have hat := eat_byte hj'
      generalize hcc : out[j] = c at *
      refine awp_reg_seq ?_
      intro K hK
      simp only [↓DN, UP, DF, qSh, qCv, qIA, qIx, qSl, qBu, qCe, qOn, reduceCtorEq, ↓reduceIte, nLT, nLE, nEQ, nAdd, nMul, nPow, nSub, zLT, zLE, zNat, REye297, f11, f12, eye_lt_nat, decide_eq_true hj']
      refine hK _ _ ?_
      clear hK K
      refine awp_seq_k ?_
      intro K5 hK5
      refine awp_cond_k ?_
      intro X Y hX hY
      simp only [↓DN, UP, DF, qSh, qCv, qIA, qIx, qSl, qBu, qCe, qOn, reduceCtorEq, ↓reduceIte, nLT, nLE, nEQ, nAdd, nMul, nPow, nSub, zLT, zLE, zNat, REye297, DB]
      refine hX ?_
      clear hX hY X Y
      refine awp_skip ?_
      refine hK5 _ _ ?_
      clear hK5 K5
      refine awp_seq_k ?_
      intro K6 hK6
      refine awp_block ?_
      refine awp_reg_seq ?_
      intro K hK
      simp only [↓DN, UP, DF, qSh, qCv, qIA, qIx, qSl, qBu, qCe, qOn, reduceCtorEq, ↓reduceIte, nLT, nLE, nEQ, nAdd, nMul, nPow, nSub, zLT, zLE, zNat, REye297, f10, f12, eye_lt_nat, hj', hgj, hat, byteV]
      refine hK _ _ ?_
      clear hK K
      refine awp_reg_end ?_
      intro K hK
      simp only [↓DN, UP, DF, qSh, qCv, qIA, qIx, qSl, qBu, qCe, qOn, reduceCtorEq, ↓reduceIte, nLT, nLE, nEQ, nAdd, nMul, nPow, nSub, zLT, zLE, zNat, REye297, f5, beNat_step y c hy7]
      refine hK _ _ ?_
      clear hK K
      simp only [blockQ, thenQ, if_true, if_false]
      refine hK6 _ _ ?_
      clear hK6 K6
      refine awp_reg_end ?_
      intro K hK
      simp only [↓DN, UP, DF, qSh, qCv, qIA, qIx, qSl, qBu, qCe, qOn, reduceCtorEq, ↓reduceIte, nLT, nLE, nEQ, nAdd, nMul, nPow, nSub, zLT, zLE, zNat, REye297, f12, eye_succ j (by omega)]
      refine hK _ _ ?_
      clear hK K
      refine ⟨⟨j + 1, y * 256 + c.toNat, by omega, by simp only [upd, f10, nEQ, ↓reduceIte], by simp only [upd, f11, nEQ, ↓reduceIte], by simp only [upd, ↓reduceIte], by simp only [upd, nEQ, ↓reduceIte], hy2.symm, rfl⟩, ?_⟩
      simp only [f12, upd, ↓reduceIte]
      omega
    · refine awp_reg_seq ?_
      intro K hK
      simp only [↓DN, UP, DF, qSh, qCv, qIA, qIx, qSl, qBu, qCe, qOn, reduceCtorEq, ↓reduceIte, nLT, nLE, nEQ, nAdd, nMul, nPow, nSub, zLT, zLE, zNat, REye297, f11, f12, eye_lt_nat, decide_eq_false hj']
      refine hK _ _ ?_
      clear hK K
      refine awp_seq_k ?_
      intro K5 hK5
      refine awp_cond_k ?_
      intro X Y hX hY
      simp only [↓DN, UP, DF, qSh, qCv, qIA, qIx, qSl, qBu, qCe, qOn, reduceCtorEq, ↓reduceIte, nLT, nLE, nEQ, nAdd, nMul, nPow, nSub, zLT, zLE, zNat, REye297, DB]
      refine hY ?_
      clear hX hY X Y
      refine awp_exit ?_
      simp only [thenQ, blockQ, if_true]
      refine hK _ _ ?_
      clear hK hK5 K K5
      refine awp_reg_seq ?_
      intro K hK
      simp only [↓DN, UP, DF, qSh, qCv, qIA, qIx, qSl, qBu, qCe, qOn, reduceCtorEq, ↓reduceIte, nLT, nLE, nEQ, nAdd, nMul, nPow, nSub, zLT, zLE, zNat, REye297, f5]
      refine hK _ _ ?_
      clear hK K
      refine awp_ret ?_
      simp only [retQ, AEnds, aresL, ares, List.toList_toArray, ↓upd_same]; try simp only [↓DN, UP, DF, qSh, qCv, qIA, qIx, qSl, qBu, qCe, qOn, reduceCtorEq, ↓reduceIte, nLT, nLE, nEQ, nAdd, nMul, nPow, nSub, zLT, zLE, zNat, REye297, DT]
      refine ⟨_, _, AV.weak.refl _, AS.le.refl _, ?_, he⟩
      rw [hy, List.take_of_length_le (by omega), hout]
      rfl

end Go.Proofs.YtooeklnbdgoneaaDoor


set_option autoImplicit false
namespace Go.Proofs.YtooeklnbdgoneaaDoor
open Go Go.AM Go.Proofs

theorem REye3104 : type_of% (And.intro (And.intro (And.intro (And.intro (And.intro (And.intro @Tryd.underlying3 T.c3) (And.intro T.g3 T.b3)) (And.intro (And.intro T.z3 @Tryd.underlying22) (And.intro T.c22 T.g22))) (And.intro (And.intro (And.intro T.b22 T.z22) (And.intro T.s22 @Tryd.underlying30)) (And.intro (And.intro T.c30 T.g30) (And.intro T.b30 (And.intro T.z30 @Tryd.underlying41))))) (And.intro (And.intro (And.intro (And.intro T.c41 T.g41) (And.intro T.b41 T.z41)) (And.intro (And.intro @Tryd.underlying66 T.c66) (And.intro T.g66 T.b66))) (And.intro (And.intro (And.intro T.z66 T.p66) (And.intro @Tryd.underlying108 T.c108)) (And.intro (And.intro T.g108 T.b108) (And.intro T.z108 (And.intro T.h108 T.k97)))))) Tryd.ntmps104) :=
  (And.intro (And.intro (And.intro (And.intro (And.intro (And.intro @Tryd.underlying3 T.c3) (And.intro T.g3 T.b3)) (And.intro (And.intro T.z3 @Tryd.underlying22) (And.intro T.c22 T.g22))) (And.intro (And.intro (And.intro T.b22 T.z22) (And.intro T.s22 @Tryd.underlying30)) (And.intro (And.intro T.c30 T.g30) (And.intro T.b30 (And.intro T.z30 @Tryd.underlying41))))) (And.intro (And.intro (And.intro (And.intro T.c41 T.g41) (And.intro T.b41 T.z41)) (And.intro (And.intro @Tryd.underlying66 T.c66) (And.intro T.g66 T.b66))) (And.intro (And.intro (And.intro T.z66 T.p66) (And.intro @Tryd.underlying108 T.c108)) (And.intro (And.intro T.g108 T.b108) (And.intro T.z108 (And.intro T.h108 T.k97)))))) Tryd.ntmps104)
theorem REye371 : type_of% (And.intro (And.intro (And.intro (And.intro (And.intro @Tryd.underlying3 (And.intro T.c3 T.g3)) (And.intro (And.intro T.b3 T.z3) (And.intro @Tryd.underlying22 T.c22))) (And.intro (And.intro T.g22 (And.intro T.b22 T.z22)) (And.intro (And.intro T.s22 @Tryd.underlying30) (And.intro T.c30 T.g30)))) (And.intro (And.intro (And.intro T.b30 (And.intro T.z30 @Tryd.underlying66)) (And.intro (And.intro T.c66 T.g66) (And.intro T.b66 T.z66))) (And.intro (And.intro (And.intro T.p66 @Tryd.underlying108) (And.intro T.c108 T.g108)) (And.intro (And.intro T.b108 T.z108) (And.intro T.h108 T.k97))))) Tryd.ntmps71) :=
  (And.intro (And.intro (And.intro (And.intro (And.intro @Tryd.underlying3 (And.intro T.c3 T.g3)) (And.intro (And.intro T.b3 T.z3) (And.intro @Tryd.underlying22 T.c22))) (And.intro (And.intro T.g22 (And.intro T.b22 T.z22)) (And.intro (And.intro T.s22 @Tryd.underlying30) (And.intro T.c30 T.g30)))) (And.intro (And.intro (And.intro T.b30 (And.intro T.z30 @Tryd.underlying66)) (And.intro (And.intro T.c66 T.g66) (And.intro T.b66 T.z66))) (And.intro (And.intro (And.intro T.p66 @Tryd.underlying108) (And.intro T.c108 T.g108)) (And.intro (And.intro T.b108 T.z108) (And.intro T.h108 T.k97))))) Tryd.ntmps71)
variable {Γ : Nat → List AV}



theorem eyeU_conv (k : Nat) (hk : k ≤ 7) (st : EyeSt) : iconv .i64 ((eyeNum k st).1 : Int) = ((eyeNum k st).1 : Int) := by
  have := eyeNum_lt k st
  have h2 : 256 ^ k ≤ 256 ^ 7 := Nat.pow_le_pow_right (by decide) hk
  have h3 : (256 : Nat) ^ 7 = 72057594037927936 := by decide
  exact iconv_i64 (by omega)

set_option maxHeartbeats 400000 in
theorem eyeU32_calls (s0 s : AS) (p : Nat) (st : EyeSt) (h : EyeS s0 s p st) :
    ACalls Tryd.prog Γ 104 [.ptr p 0] s (fun r s' => r = .v (.int .i64 (eyeNum 4 st).1) ∧ EyeS s0 s' p (eyeNum 4 st).2) := by
  refine acalls_body Tryd.func104 rfl Tryd.ntmps104 Tryd.results104 (by simp) ?_
  refine awp_reg_seq ?_
  intro K hK
  simp only [↓DN, UP, DF, qSh, qCv, qIA, qIx, qSl, qBu, qCe, qOn, reduceCtorEq, ↓reduceIte, nLT, nLE, nEQ, nAdd, nMul, nPow, nSub, zLT, zLE, zNat, REye3104]
  refine hK _ _ ?_
  clear hK K
  refine awp_reg_seq ?_
  intro K hK
  simp only [↓DN, UP, DF, qSh, qCv, qIA, qIx, qSl, qBu, qCe, qOn, reduceCtorEq, ↓reduceIte, nLT, nLE, nEQ, nAdd, nMul, nPow, nSub, zLT, zLE, zNat, REye3104]
  refine acallk (eyeNumber_calls s0 s p st 4 (by omega) h) ?_
  rintro r s' ⟨rfl, he⟩
  simp only [↓AXq_nil, ↓AXq_cons, pval, DX, Nat.reduceBEq, ↓DN, UP, DF, qSh, qCv, qIA, qIx, qSl, qBu, qCe, qOn, reduceCtorEq, ↓reduceIte, nLT, nLE, nEQ, nAdd, nMul, nPow, nSub, zLT, zLE, zNat, REye3104, eyeU_conv 4 (by omega) st]
  refine hK _ _ ?_
  clear hK K
  refine awp_ret ?_
  simp only [retQ, AEnds, aresL, ares, List.toList_toArray, ↓upd_same]; try simp only [↓DN, UP, DF, qSh, qCv, qIA, qIx, qSl, qBu, qCe, qOn, reduceCtorEq, ↓reduceIte, nLT, nLE, nEQ, nAdd, nMul, nPow, nSub, zLT, zLE, zNat, REye3104, DT]
  exact ⟨_, _, AV.weak.refl _, AS.le.refl _, rfl, he⟩

set_option maxHeartbeats 400000 in
theorem eyeU64_calls (s0 s : AS) (p : Nat) (st : EyeSt) (h : EyeS s0 s p st) :
    ACalls Tryd.prog Γ 71 [.ptr p 0] s (fun r s' => r = .v (.int .u64 (eyeNum 8 st).1) ∧ EyeS s0 s' p (eyeNum 8 st).2) := by
  refine acalls_body Tryd.func71 rfl Tryd.ntmps71 Tryd.results71 (by simp) ?_
  refine awp_reg_seq ?_
  intro K hK
  simp only [↓DN, UP, DF, qSh, qCv, qIA, qIx, qSl, qBu, qCe, qOn, reduceCtorEq, ↓reduceIte, nLT, nLE, nEQ, nAdd, nMul, nPow, nSub, zLT, zLE, zNat, REye371]
  refine hK _ _ ?_
  clear hK K
  refine awp_reg_seq ?_
  intro K hK
  simp only [↓DN, UP, DF, qSh, qCv, qIA, qIx, qSl, qBu, qCe, qOn, reduceCtorEq, ↓reduceIte, nLT, nLE, nEQ, nAdd, nMul, nPow, nSub, zLT, zLE, zNat, REye371]
  refine acallk (eyeNumber_calls s0 s p st 8 (by omega) h) ?_
  rintro r s' ⟨rfl, he⟩
  simp only [↓AXq_nil, ↓AXq_cons, pval, DX, Nat.reduceBEq, ↓DN, UP, DF, qSh, qCv, qIA, qIx, qSl, qBu, qCe, qOn, reduceCtorEq, ↓reduceIte, nLT, nLE, nEQ, nAdd, nMul, nPow, nSub, zLT, zLE, zNat, REye371]
  refine hK _ _ ?_
  clear hK K
  refine awp_ret ?_
  simp only [retQ, AEnds, aresL, ares, List.toList_toArray, ↓upd_same]; try simp only [↓DN, UP, DF, qSh, qCv, qIA, qIx, qSl, qBu, qCe, qOn, reduceCtorEq, ↓reduceIte, nLT, nLE, nEQ, nAdd, nMul, nPow, nSub, zLT, zLE, zNat, REye371, DT]
  exact ⟨_, _, AV.weak.refl _, AS.le.refl _, rfl, he⟩

end Go.Proofs.YtooeklnbdgoneaaDoor


set_option autoImplicit false
namespace Go.Proofs.YtooeklnbdgoneaaDoor
open Go Go.AM Go.Proofs

theorem RRef0159 : type_of% (And.intro (And.intro (And.intro (And.intro (And.intro @Tryd.underlying3 (And.intro T.c3 T.g3)) (And.intro T.b3 (And.intro T.z3 @Tryd.underlying5))) (And.intro (And.intro T.c5 (And.intro T.g5 T.b5)) (And.intro (And.intro T.z5 @Tryd.underlying9) (And.intro T.c9 T.g9)))) (And.intro (And.intro (And.intro T.b9 (And.intro T.z9 @Tryd.underlying22)) (And.intro T.c22 (And.intro T.g22 T.b22))) (And.intro (And.intro T.z22 (And.intro T.s22 @Tryd.underlying41)) (And.intro (And.intro T.c41 T.g41) (And.intro T.b41 T.z41))))) Tryd.ntmps59) :=
  (And.intro (And.intro (And.intro (And.intro (And.intro @Tryd.underlying3 (And.intro T.c3 T.g3)) (And.intro T.b3 (And.intro T.z3 @Tryd.underlying5))) (And.intro (And.intro T.c5 (And.intro T.g5 T.b5)) (And.intro (And.intro T.z5 @Tryd.underlying9) (And.intro T.c9 T.g9)))) (And.intro (And.intro (And.intro T.b9 (And.intro T.z9 @Tryd.underlying22)) (And.intro T.c22 (And.intro T.g22 T.b22))) (And.intro (And.intro T.z22 (And.intro T.s22 @Tryd.underlying41)) (And.intro (And.intro T.c41 T.g41) (And.intro T.b41 T.z41))))) Tryd.ntmps59)
theorem RRef0158 : type_of% (And.intro (And.intro (And.intro (And.intro (And.intro @Tryd.underlying3 T.c3) (And.intro T.g3 T.b3)) (And.intro (And.intro T.z3 @Tryd.underlying9) (And.intro T.c9 T.g9))) (And.intro (And.intro (And.intro T.b9 T.z9) (And.intro @Tryd.underlying41 T.c41)) (And.intro (And.intro T.g41 T.b41) (And.intro T.z41 T.k59)))) Tryd.ntmps58) :=
  (And.intro (And.intro (And.intro (And.intro (And.intro @Tryd.underlying3 T.c3) (And.intro T.g3 T.b3)) (And.intro (And.intro T.z3 @Tryd.underlying9) (And.intro T.c9 T.g9))) (And.intro (And.intro (And.intro T.b9 T.z9) (And.intro @Tryd.underlying41 T.c41)) (And.intro (And.intro T.g41 T.b41) (And.intro T.z41 T.k59)))) Tryd.ntmps58)
theorem RRef0167 : type_of% (And.intro (And.intro (And.intro (And.intro (And.intro @Tryd.underlying3 T.c3) (And.intro T.g3 (And.intro T.b3 T.z3))) (And.intro (And.intro @Tryd.underlying5 T.c5) (And.intro T.g5 (And.intro T.b5 T.z5)))) (And.intro (And.intro (And.intro @Tryd.underlying9 T.c9) (And.intro T.g9 (And.intro T.b9 T.z9))) (And.intro (And.intro @Tryd.underlying41 T.c41) (And.intro T.g41 (And.intro T.b41 T.z41))))) Tryd.ntmps67) :=
  (And.intro (And.intro (And.intro (And.intro (And.intro @Tryd.underlying3 T.c3) (And.intro T.g3 (And.intro T.b3 T.z3))) (And.intro (And.intro @Tryd.underlying5 T.c5) (And.intro T.g5 (And.intro T.b5 T.z5)))) (And.intro (And.intro (And.intro @Tryd.underlying9 T.c9) (And.intro T.g9 (And.intro T.b9 T.z9))) (And.intro (And.intro @Tryd.underlying41 T.c41) (And.intro T.g41 (And.intro T.b41 T.z41))))) Tryd.ntmps67)

variable {Γ : Nat → List AV}

theorem n256 : ((256 : Int) = 0) = False := by simp
theorem num_byte (q : Nat) : iconv .u8 (irem (q : Int) 256) = ((UInt8.ofNat q).toNat : Int) := by
  rw [show (256 : Int) = ((256 : Nat) : Int) from rfl, irem_u, iconv_u rfl]
  simp [IntKind.bits]
theorem num_quo (n i : Nat) (h : n < 2 ^ 64) : iquo .u64 ((n / 256 ^ i : Nat) : Int) 256 = ((n / 256 ^ (i + 1) : Nat) : Int) := by
  have hq : n / 256 ^ i < 2 ^ IntKind.u64.bits := Nat.lt_of_le_of_lt (Nat.div_le_self _ _) h
  have := iquo_u (k := .u64) rfl (n / 256 ^ i) 256 hq
  rw [show (256 : Int) = ((256 : Nat) : Int) from rfl, this, Nat.div_div_eq_div_mul, Nat.pow_succ]
theorem byte_one (c : UInt8) : toBytes [AV.v (.int .u8 (c.toNat : Int))] = ByteArray.mk [c].toArray := toBytes_map [c]
theorem byte_is (c : UInt8) : isByte (AV.v (.int .u8 (c.toNat : Int))) = true := rfl

set_option maxHeartbeats 1000000 in
theorem refNumber_calls (n size : Nat) (hn : n < 2 ^ 64) (hs : size ≤ 8) (s : AS) :
    ACalls Tryd.prog Γ 59 [.v (.int .u64 n), .v (.int .i64 size)] s (fun r s' => r = .v (.string ⟨(be size n).toArray⟩) ∧ s' = s) := by
  refine acalls_body Tryd.func59 rfl Tryd.ntmps59 Tryd.results59 (by simp) ?_
  refine awp_reg_seq ?_
  intro K hK
  simp only [↓DN, UP, DF, qSh, qCv, qIA, qIx, qSl, qBu, qCe, qOn, reduceCtorEq, ↓reduceIte, nLT, nLE, nEQ, nAdd, nMul, nPow, nSub, zLT, zLE, zNat, RRef0159]
  refine hK _ _ ?_
  clear hK K
  refine awp_reg_seq ?_
  intro K hK
  simp only [↓DN, UP, DF, qSh, qCv, qIA, qIx, qSl, qBu, qCe, qOn, reduceCtorEq, ↓reduceIte, nLT, nLE, nEQ, nAdd, nMul, nPow, nSub, zLT, zLE, zNat, RRef0159]
  refine hK _ _ ?_
  clear hK K
  refine awp_seq_k ?_
  intro K hK
  refine awp_reg_seq ?_
  intro K hK
  simp only [↓DN, UP, DF, qSh, qCv, qIA, qIx, qSl, qBu, qCe, qOn, reduceCtorEq, ↓reduceIte, nLT, nLE, nEQ, nAdd, nMul, nPow, nSub, zLT, zLE, zNat, RRef0159]
  refine hK _ _ ?_
  clear hK K
  refine awp_block ?_
  refine awp_loop (fun E s1 => ∃ i : Nat, i ≤ size ∧ E 6 = .v (.int .i64 i) ∧ E 1 = .v (.int .i64 size) ∧ E 0 = .v (.int .u64 (n / 256 ^ i : Nat)) ∧ E 5 = .v (.string ⟨(be i n).toArray⟩) ∧ s1 = s)
    (fun E _ => match E 6 with | .v (.int _ i) => size - i.toNat | _ => 0) ?_ ?_
  · exact ⟨0, Nat.zero_le _, by simp [upd], by simp [upd, initE], by simp [upd, initE], by simp [upd, be], rfl⟩
  · rintro E1 s1 ⟨i, hi, h6, h1, h0, h5, rfl⟩ -
    refine awp_seq_k ?_
    intro K2 hK2
    by_cases hi' : i < size
    · refine awp_reg_seq ?_
      intro K hK
      simp only [↓DN, UP, DF, qSh, qCv, qIA, qIx, qSl, qBu, qCe, qOn, reduceCtorEq, ↓reduceIte, nLT, nLE, nEQ, nAdd, nMul, nPow, nSub, zLT, zLE, zNat, RRef0159, h6, h1, eye_lt_nat, decide_eq_true hi']
      refine hK _ _ ?_
      clear hK K
      refine awp_cond_k ?_
      intro X Y hX hY
      simp only [↓DN, UP, DF, qSh, qCv, qIA, qIx, qSl, qBu, qCe, qOn, reduceCtorEq, ↓reduceIte, nLT, nLE, nEQ, nAdd, nMul, nPow, nSub, zLT, zLE, zNat, RRef0159, DB]
      refine hX ?_
      clear hX hY X Y
      refine awp_skip ?_
      refine hK2 _ _ ?_
      clear hK2 K2
      refine awp_seq_k ?_
      intro K3 hK3
      refine awp_block ?_
      refine awp_reg_seq ?_
      intro K hK
      simp only [↓DN, UP, DF, qSh, qCv, qIA, qIx, qSl, qBu, qCe, qOn, reduceCtorEq, ↓reduceIte, nLT, nLE, nEQ, nAdd, nMul, nPow, nSub, zLT, zLE, zNat, RRef0159, h0, h5, n256, num_byte, byte_one, byte_is, List.replicate_succ, bs_size, bs_append, length_be, i64_room (show 1 + i < 2 ^ 62 by omega)]
      refine hK _ _ ?_
      clear hK K
      refine awp_reg_end ?_
      intro K hK
      simp only [↓DN, UP, DF, qSh, qCv, qIA, qIx, qSl, qBu, qCe, qOn, reduceCtorEq, ↓reduceIte, nLT, nLE, nEQ, nAdd, nMul, nPow, nSub, zLT, zLE, zNat, RRef0159, h0, n256, num_quo n i hn]
      refine hK _ _ ?_
      clear hK K
      simp only [blockQ, thenQ, if_true, if_false]
      refine hK3 _ _ ?_
      clear hK3 K3
      refine awp_reg_end ?_
      intro K hK
      simp only [↓DN, UP, DF, qSh, qCv, qIA, qIx, qSl, qBu, qCe, qOn, reduceCtorEq, ↓reduceIte, nLT, nLE, nEQ, nAdd, nMul, nPow, nSub, zLT, zLE, zNat, RRef0159, h6, eye_succ i (by omega)]
      refine hK _ _ ?_
      clear hK K
      refine ⟨⟨i + 1, by omega, by simp only [upd, ↓reduceIte], by simp only [upd, h1, nEQ, ↓reduceIte], by simp only [upd, nEQ, ↓reduceIte], ?_, rfl⟩, ?_⟩
      · simp only [upd, nEQ, ↓reduceIte, be, show 2 ^ (8 * i) = 256 ^ i from by rw [Nat.pow_mul]]
      · simp only [h6, upd, ↓reduceIte]
        omega
    · refine awp_reg_seq ?_
      intro K hK
      simp only [↓DN, UP, DF, qSh, qCv, qIA, qIx, qSl, qBu, qCe, qOn, reduceCtorEq, ↓reduceIte, nLT, nLE, nEQ, nAdd, nMul, nPow, nSub, zLT, zLE, zNat, RRef0159, h6, h1, eye_lt_nat, decide_eq_false hi']
      refine hK _ _ ?_
      clear hK K
      refine awp_cond_k ?_
      intro X Y hX hY
      simp only [↓DN, UP, DF, qSh, qCv, qIA, qIx, qSl, qBu, qCe, qOn, reduceCtorEq, ↓reduceIte, nLT, nLE, nEQ, nAdd, nMul, nPow, nSub, zLT, zLE, zNat, RRef0159, DB]
      refine hY ?_
      clear hX hY X Y
      refine awp_exit ?_
      simp only [thenQ, blockQ, if_true]
      refine hK _ _ ?_
      clear hK hK2 K K2
      refine awp_reg_seq ?_
      intro K hK
      simp only [↓DN, UP, DF, qSh, qCv, qIA, qIx, qSl, qBu, qCe, qOn, reduceCtorEq, ↓reduceIte, nLT, nLE, nEQ, nAdd, nMul, nPow, nSub, zLT, zLE, zNat, RRef0159, h5]
      refine hK _ _ ?_
      clear hK K
      refine awp_ret ?_
      simp only [retQ, AEnds, aresL, ares, List.toList_toArray, ↓upd_same]; try simp only [↓DN, UP, DF, qSh, qCv, qIA, qIx, qSl, qBu, qCe, qOn, reduceCtorEq, ↓reduceIte, nLT, nLE, nEQ, nAdd, nMul, nPow, nSub, zLT, zLE, zNat, RRef0159, DT]
      obtain rfl : i = size := by omega
      exact ⟨_, _, AV.weak.refl _, AS.le.refl _, rfl, rfl⟩

theorem u64_len (n : Nat) (h : n < 2 ^ 63) : iconv .u64 (n : Int) = n := iconv_u64_nat n (by omega)

set_option maxHeartbeats 400000 in
theorem refText_calls (l : List UInt8) (size : Nat) (hl : l.length < 2 ^ 61) (hs : size ≤ 8) (s : AS) :
    ACalls Tryd.prog Γ 58 [.v (.string ⟨l.toArray⟩), .v (.int .i64 size)] s (fun r s' => r = .v (.string ⟨(be size l.length ++ l).toArray⟩) ∧ s' = s) := by
  refine acalls_body Tryd.func58 rfl Tryd.ntmps58 Tryd.results58 (by simp) ?_
  refine awp_reg_seq ?_
  intro K hK
  simp only [↓DN, UP, DF, qSh, qCv, qIA, qIx, qSl, qBu, qCe, qOn, reduceCtorEq, ↓reduceIte, nLT, nLE, nEQ, nAdd, nMul, nPow, nSub, zLT, zLE, zNat, RRef0158]
  refine hK _ _ ?_
  clear hK K
  refine awp_reg_seq ?_
  intro K hK
  simp only [↓DN, UP, DF, qSh, qCv, qIA, qIx, qSl, qBu, qCe, qOn, reduceCtorEq, ↓reduceIte, nLT, nLE, nEQ, nAdd, nMul, nPow, nSub, zLT, zLE, zNat, RRef0158, bs_size, u64_len l.length (by omega)]
  refine acallk (refNumber_calls l.length size (by omega) hs s) ?_
  rintro r s' ⟨rfl, rfl⟩
  simp only [↓AXq_nil, ↓AXq_cons, pval, DX, Nat.reduceBEq, ↓DN, UP, DF, qSh, qCv, qIA, qIx, qSl, qBu, qCe, qOn, reduceCtorEq, ↓reduceIte, nLT, nLE, nEQ, nAdd, nMul, nPow, nSub, zLT, zLE, zNat, RRef0158, bs_size, bs_append, length_be, i64_room (show size + l.length < 2 ^ 62 by omega)]
  refine hK _ _ ?_
  clear hK K
  refine awp_ret ?_
  simp only [retQ, AEnds, aresL, ares, List.toList_toArray, ↓upd_same]; try simp only [↓DN, UP, DF, qSh, qCv, qIA, qIx, qSl, qBu, qCe, qOn, reduceCtorEq, ↓reduceIte, nLT, nLE, nEQ, nAdd, nMul, nPow, nSub, zLT, zLE, zNat, RRef0158, DT]
  exact ⟨_, _, AV.weak.refl _, AS.le.refl _, rfl, rfl⟩

theorem val_step (y : Nat) (c : UInt8) (h : y < 2 ^ 56) : iadd .u64 (imul .u64 (y : Int) 256) (iconv .u64 (c.toNat : Int)) = ((y * 256 + c.toNat : Nat) : Int) := by
  have hc := c.toNat_lt
  rw [iconv_u64_nat _ (by omega), show (256 : Int) = ((256 : Nat) : Int) from rfl, imul_u rfl, Nat.mod_eq_of_lt (by simp only [IntKind.bits]; omega), iadd_u rfl, Nat.mod_eq_of_lt (by simp only [IntKind.bits]; omega)]

set_option maxHeartbeats 1000000 in
theorem value_calls (l : List UInt8) (hl : l.length ≤ 8) (s : AS) :
    ACalls Tryd.prog Γ 67 [.v (.string ⟨l.toArray⟩)] s (fun r s' => r = .v (.int .u64 (beNat l)) ∧ s' = s) := by
  refine acalls_body Tryd.func67 rfl Tryd.ntmps67 Tryd.results67 (by simp) ?_
  refine awp_reg_seq ?_
  intro K hK
  simp only [↓DN, UP, DF, qSh, qCv, qIA, qIx, qSl, qBu, qCe, qOn, reduceCtorEq, ↓reduceIte, nLT, nLE, nEQ, nAdd, nMul, nPow, nSub, zLT, zLE, zNat, RRef0167]
  refine hK _ _ ?_
  clear hK K
  refine awp_reg_seq ?_
  intro K hK
  simp only [↓DN, UP, DF, qSh, qCv, qIA, qIx, qSl, qBu, qCe, qOn, reduceCtorEq, ↓reduceIte, nLT, nLE, nEQ, nAdd, nMul, nPow, nSub, zLT, zLE, zNat, RRef0167]
  refine hK _ _ ?_
  clear hK K
  refine awp_seq_k ?_
  intro K hK
  refine awp_reg_seq ?_
  intro K hK
  simp only [↓DN, UP, DF, qSh, qCv, qIA, qIx, qSl, qBu, qCe, qOn, reduceCtorEq, ↓reduceIte, nLT, nLE, nEQ, nAdd, nMul, nPow, nSub, zLT, zLE, zNat, RRef0167]
  refine hK _ _ ?_
  clear hK K
  refine awp_block ?_
  refine awp_loop (fun E s1 => ∃ i x : Nat, i ≤ l.length ∧ E 0 = .v (.string ⟨l.toArray⟩) ∧ E 4 = .v (.int .i64 i) ∧ E 3 = .v (.int .u64 x) ∧ x = beNat (l.take i) ∧ s1 = s)
    (fun E _ => match E 4 with | .v (.int _ i) => l.length - i.toNat | _ => 0) ?_ ?_
  · exact ⟨0, 0, Nat.zero_le _, by simp [upd, initE], by simp [upd], by simp [upd], by simp [beNat], rfl⟩
  · rintro E1 s1 ⟨i, x, hi, h0, h4, h3, hx, rfl⟩ -
    refine awp_seq_k ?_
    intro K2 hK2
    by_cases hi' : i < l.length
    · have hx2 : beNat (l.take (i + 1)) = x * 256 + l[i].toNat := by rw [List.take_succ_eq_append_getElem hi', beNat_snoc, ← hx]
      have hx7 : x < 2 ^ 56 := by
        rw [hx]
        refine Nat.lt_of_lt_of_le (beNat_take_lt l i) ?_
        rw [show (2 : Nat) ^ 56 = 256 ^ 7 from by decide]
        exact Nat.pow_le_pow_right (by decide) (by omega)
      have hgi : (0 : Int) ≤ (i : Int) := by omega
      have hget := bs_get l i hi'
      generalize hcc : l[i] = c at *
      refine awp_reg_seq ?_
      intro K hK
      simp only [↓DN, UP, DF, qSh, qCv, qIA, qIx, qSl, qBu, qCe, qOn, reduceCtorEq, ↓reduceIte, nLT, nLE, nEQ, nAdd, nMul, nPow, nSub, zLT, zLE, zNat, RRef0167, h0, h4, bs_size, eye_lt_nat, decide_eq_true hi']
      refine hK _ _ ?_
      clear hK K
      refine awp_cond_k ?_
      intro X Y hX hY
      simp only [↓DN, UP, DF, qSh, qCv, qIA, qIx, qSl, qBu, qCe, qOn, reduceCtorEq, ↓reduceIte, nLT, nLE, nEQ, nAdd, nMul, nPow, nSub, zLT, zLE, zNat, RRef0167, DB]
      refine hX ?_
      clear hX hY X Y
      refine awp_skip ?_
      refine hK2 _ _ ?_
      clear hK2 K2
      refine awp_seq_k ?_
      intro K3 hK3
      refine awp_block ?_
      refine awp_reg_end ?_
      intro K hK
      simp only [↓DN, UP, DF, qSh, qCv, qIA, qIx, qSl, qBu, qCe, qOn, reduceCtorEq, ↓reduceIte, nLT, nLE, nEQ, nAdd, nMul, nPow, nSub, zLT, zLE, zNat, RRef0167, h0, h4, h3, hgi, hget, byteV, val_step x c hx7]
      refine hK _ _ ?_
      clear hK K
      simp only [blockQ, thenQ, if_true, if_false]
      refine hK3 _ _ ?_
      clear hK3 K3
      refine awp_reg_end ?_
      intro K hK
      simp only [↓DN, UP, DF, qSh, qCv, qIA, qIx, qSl, qBu, qCe, qOn, reduceCtorEq, ↓reduceIte, nLT, nLE, nEQ, nAdd, nMul, nPow, nSub, zLT, zLE, zNat, RRef0167, h4, eye_succ i (by omega)]
      refine hK _ _ ?_
      clear hK K
      refine ⟨⟨i + 1, _, by omega, by simp only [upd, h0, nEQ, ↓reduceIte], by simp only [upd, ↓reduceIte], by simp only [upd, nEQ, ↓reduceIte], hx2.symm, rfl⟩, ?_⟩
      simp only [h4, upd, ↓reduceIte]
      omega
    · refine awp_reg_seq ?_
      intro K hK
      simp only [↓DN, UP, DF, qSh, qCv, qIA, qIx, qSl, qBu, qCe, qOn, reduceCtorEq, ↓reduceIte, nLT, nLE, nEQ, nAdd, nMul, nPow, nSub, zLT, zLE, zNat, RRef0167, h0, h4, bs_size, eye_lt_nat, decide_eq_false hi']
      refine hK _ _ ?_
      clear hK K
      refine awp_cond_k ?_
      intro X Y hX hY
      simp only [↓DN, UP, DF, qSh, qCv, qIA, qIx, qSl, qBu, qCe, qOn, reduceCtorEq, ↓reduceIte, nLT, nLE, nEQ, nAdd, nMul, nPow, nSub, zLT, zLE, zNat, RRef0167, DB]
      refine hY ?_
      clear hX hY X Y
      refine awp_exit ?_
      simp only [thenQ, blockQ, if_true]
      refine hK _ _ ?_
      clear hK hK2 K K2
      refine awp_reg_seq ?_
      intro K hK
      simp only [↓DN, UP, DF, qSh, qCv, qIA, qIx, qSl, qBu, qCe, qOn, reduceCtorEq, ↓reduceIte, nLT, nLE, nEQ, nAdd, nMul, nPow, nSub, zLT, zLE, zNat, RRef0167, h3]
      refine hK _ _ ?_
      clear hK K
      refine awp_ret ?_
      simp only [retQ, AEnds, aresL, ares, List.toList_toArray, ↓upd_same]; try simp only [↓DN, UP, DF, qSh, qCv, qIA, qIx, qSl, qBu, qCe, qOn, reduceCtorEq, ↓reduceIte, nLT, nLE, nEQ, nAdd, nMul, nPow, nSub, zLT, zLE, zNat, RRef0167, DT]
      refine ⟨_, _, AV.weak.refl _, AS.le.refl _, ?_, rfl⟩
      rw [hx, List.take_of_length_le (by omega)]

end Go.Proofs.YtooeklnbdgoneaaDoor


set_option autoImplicit false
namespace Go.Proofs.YtooeklnbdgoneaaDoor
open Go Go.AM Go.Proofs

theorem RKdf581 : type_of% (And.intro (And.intro (And.intro (And.intro (And.intro (And.intro @Tryd.underlying3 T.c3) (And.intro T.g3 (And.intro T.b3 T.z3))) (And.intro (And.intro @Tryd.underlying4 (And.intro T.c4 T.g4)) (And.intro T.b4 (And.intro T.z4 @Tryd.underlying5)))) (And.intro (And.intro (And.intro T.c5 T.g5) (And.intro T.b5 (And.intro T.z5 @Tryd.underlying9))) (And.intro (And.intro T.c9 (And.intro T.g9 T.b9)) (And.intro T.z9 (And.intro @Tryd.underlying22 T.c22))))) (And.intro (And.intro (And.intro (And.intro T.g22 T.b22) (And.intro T.z22 (And.intro T.s22 @Tryd.underlying61))) (And.intro (And.intro T.c61 (And.intro T.g61 T.b61)) (And.intro T.z61 (And.intro T.p61 @Tryd.underlying105)))) (And.intro (And.intro (And.intro T.c105 T.g105) (And.intro T.b105 (And.intro T.z105 T.h105))) (And.intro (And.intro T.k36 (And.intro T.k34 T.k56)) (And.intro T.k102 (And.intro T.k103 T.k69)))))) Tryd.ntmps81) :=
  (And.intro (And.intro (And.intro (And.intro (And.intro (And.intro @Tryd.underlying3 T.c3) (And.intro T.g3 (And.intro T.b3 T.z3))) (And.intro (And.intro @Tryd.underlying4 (And.intro T.c4 T.g4)) (And.intro T.b4 (And.intro T.z4 @Tryd.underlying5)))) (And.intro (And.intro (And.intro T.c5 T.g5) (And.intro T.b5 (And.intro T.z5 @Tryd.underlying9))) (And.intro (And.intro T.c9 (And.intro T.g9 T.b9)) (And.intro T.z9 (And.intro @Tryd.underlying22 T.c22))))) (And.intro (And.intro (And.intro (And.intro T.g22 T.b22) (And.intro T.z22 (And.intro T.s22 @Tryd.underlying61))) (And.intro (And.intro T.c61 (And.intro T.g61 T.b61)) (And.intro T.z61 (And.intro T.p61 @Tryd.underlying105)))) (And.intro (And.intro (And.intro T.c105 T.g105) (And.intro T.b105 (And.intro T.z105 T.h105))) (And.intro (And.intro T.k36 (And.intro T.k34 T.k56)) (And.intro T.k102 (And.intro T.k103 T.k69)))))) Tryd.ntmps81)
theorem RKdf553 : type_of% (And.intro (And.intro (And.intro (And.intro (And.intro @Tryd.underlying3 T.c3) (And.intro T.g3 T.b3)) (And.intro (And.intro T.z3 @Tryd.underlying9) (And.intro T.c9 (And.intro T.g9 T.b9)))) (And.intro (And.intro (And.intro T.z9 @Tryd.underlying41) (And.intro T.c41 T.g41)) (And.intro (And.intro T.b41 T.z41) (And.intro T.k58 (And.intro T.k59 T.k87))))) Tryd.ntmps53) :=
  (And.intro (And.intro (And.intro (And.intro (And.intro @Tryd.underlying3 T.c3) (And.intro T.g3 T.b3)) (And.intro (And.intro T.z3 @Tryd.underlying9) (And.intro T.c9 (And.intro T.g9 T.b9)))) (And.intro (And.intro (And.intro T.z9 @Tryd.underlying41) (And.intro T.c41 T.g41)) (And.intro (And.intro T.b41 T.z41) (And.intro T.k58 (And.intro T.k59 T.k87))))) Tryd.ntmps53)

variable {Γ : Nat → List AV}



set_option maxHeartbeats 2000000 in
set_option maxRecDepth 100000 in
theorem label_calls (hG0 : Γ 0 = stC Sha.H0) (hG : Γ 1 = Sha.K.map wV) (secret l c : List UInt8) (n : Int) (hs : secret.length ≤ 2 ^ 36) (hl : l.length ≤ 2 ^ 36) (hc : c.length ≤ 2 ^ 36) (hn : -9223372036854775808 ≤ n ∧ n ≤ 9223372036854775807) (s : AS) :
    ACalls Tryd.prog Γ 81 [bytesV secret .any, .v (.string ⟨l.toArray⟩), bytesV c .any, .v (.int .i64 n)] s (fun r s' => r = .tup [bytesV (Kdf.label secret l c n) .any, .v (.bool (Kdf.fits l c n))] ∧ s' = s) := by
  refine acalls_body Tryd.func81 rfl Tryd.ntmps81 Tryd.results81 (by simp) ?_
  have hml : (Kdf.mls ++ l).length = 4 + l.length := by simp [Kdf.mls]; omega
  refine awp_reg_seq ?_
  intro K hK
  simp only [↓DN, UP, DF, qSh, qCv, qIA, qIx, qSl, qBu, qCe, qOn, reduceCtorEq, ↓reduceIte, nLT, nLE, nEQ, nAdd, nMul, nPow, nSub, zLT, zLE, zNat, RKdf581]
  refine hK _ _ ?_
  clear hK K
  refine awp_reg_seq ?_
  intro K hK
  simp only [↓DN, UP, DF, qSh, qCv, qIA, qIx, qSl, qBu, qCe, qOn, reduceCtorEq, ↓reduceIte, nLT, nLE, nEQ, nAdd, nMul, nPow, nSub, zLT, zLE, zNat, RKdf581]
  refine acallk (new_calls s) ?_
  rintro r s1 ⟨p, rfl, h1⟩
  simp only [↓AXq_nil, ↓AXq_cons, pval, DX, Nat.reduceBEq, ↓DN, UP, DF, qSh, qCv, qIA, qIx, qSl, qBu, qCe, qOn, reduceCtorEq, ↓reduceIte, nLT, nLE, nEQ, nAdd, nMul, nPow, nSub, zLT, zLE, zNat, RKdf581]
  refine hK _ _ ?_
  clear hK K
  refine awp_reg_seq ?_
  intro K hK
  simp only [↓DN, UP, DF, qSh, qCv, qIA, qIx, qSl, qBu, qCe, qOn, reduceCtorEq, ↓reduceIte, nLT, nLE, nEQ, nAdd, nMul, nPow, nSub, zLT, zLE, zNat, RKdf581]
  refine acallk (penU16_calls s s1 p _ n hn (by simp) h1) ?_
  rintro r s2 ⟨rfl, h2⟩
  have hl2 := penSmall_len 2 n ([], false)
  generalize hst2 : penSmall 2 n ([], false) = st2 at *
  simp only [List.length_nil] at hl2
  simp only [↓AXq_nil, ↓AXq_cons, pval, DX, Nat.reduceBEq, ↓DN, UP, DF, qSh, qCv, qIA, qIx, qSl, qBu, qCe, qOn, reduceCtorEq, ↓reduceIte, nLT, nLE, nEQ, nAdd, nMul, nPow, nSub, zLT, zLE, zNat, RKdf581]
  refine hK _ _ ?_
  clear hK K
  refine awp_reg_seq ?_
  intro K hK
  simp only [↓DN, UP, DF, qSh, qCv, qIA, qIx, qSl, qBu, qCe, qOn, reduceCtorEq, ↓reduceIte, nLT, nLE, nEQ, nAdd, nMul, nPow, nSub, zLT, zLE, zNat, RKdf581, i64_room (show 4 + l.length < 2 ^ 62 by omega)]
  refine acallk (penShort_calls s s2 p st2 _ (Kdf.mls ++ l) (IsB.of (by rw [hml]; omega) rfl) (by rw [hml]; omega) h2) ?_
  rintro r s3 ⟨rfl, h3⟩
  have hl3 := Kdf.text_len 1 (Kdf.mls ++ l) st2
  generalize hst3 : penText 1 (Kdf.mls ++ l) st2 = st3 at *
  rw [hml] at hl3
  simp only [↓AXq_nil, ↓AXq_cons, pval, DX, Nat.reduceBEq, ↓DN, UP, DF, qSh, qCv, qIA, qIx, qSl, qBu, qCe, qOn, reduceCtorEq, ↓reduceIte, nLT, nLE, nEQ, nAdd, nMul, nPow, nSub, zLT, zLE, zNat, RKdf581]
  refine hK _ _ ?_
  clear hK K
  refine awp_reg_seq ?_
  intro K hK
  simp only [↓DN, UP, DF, qSh, qCv, qIA, qIx, qSl, qBu, qCe, qOn, reduceCtorEq, ↓reduceIte, nLT, nLE, nEQ, nAdd, nMul, nPow, nSub, zLT, zLE, zNat, RKdf581]
  refine acallk (penLong_calls s s3 p st3 _ c (IsB.any c) (by omega) h3) ?_
  rintro r s4 ⟨rfl, h4⟩
  have hl4 := Kdf.text_len 2 c st3
  have hpen : penText 2 c st3 = Kdf.pen l c n := by rw [Kdf.pen, hst2, hst3]
  rw [hpen] at h4 hl4
  simp only [↓AXq_nil, ↓AXq_cons, pval, DX, Nat.reduceBEq, ↓DN, UP, DF, qSh, qCv, qIA, qIx, qSl, qBu, qCe, qOn, reduceCtorEq, ↓reduceIte, nLT, nLE, nEQ, nAdd, nMul, nPow, nSub, zLT, zLE, zNat, RKdf581]
  refine hK _ _ ?_
  clear hK K
  refine awp_reg_seq ?_
  intro K hK
  simp only [↓DN, UP, DF, qSh, qCv, qIA, qIx, qSl, qBu, qCe, qOn, reduceCtorEq, ↓reduceIte, nLT, nLE, nEQ, nAdd, nMul, nPow, nSub, zLT, zLE, zNat, RKdf581]
  refine acallk (penBytes_calls s s4 p _ (by omega) h4) ?_
  rintro r s5 ⟨rfl, rfl⟩
  by_cases hgood : 0 ≤ n ∧ n ≤ 65535 ∧ l.length ≤ 251 ∧ c.length ≤ 65535
  · obtain ⟨q0, q1, q2, q3⟩ := hgood
    have hp := Kdf.pen_good l c n q0 q1 q2 q3
    have hf : Kdf.fits l c n = Kdf.ok n := by
      simp only [Kdf.fits, Kdf.ok, decide_eq_true q2, decide_eq_true q3, Bool.true_and]
    have hlab : Kdf.label secret l c n = Kdf.get secret (Kdf.text l c n.toNat) n := by
      rw [Kdf.label, Kdf.get, hf]
    have htl : (Kdf.text l c n.toNat).length ≤ 2 ^ 37 := by
      rw [hp] at hl4
      simp only at hl4
      omega
    rw [hp]
    simp only [↓AXq_nil, ↓AXq_cons, pval, DX, Nat.reduceBEq, ↓DN, UP, DF, qSh, qCv, qIA, qIx, qSl, qBu, qCe, qOn, reduceCtorEq, ↓reduceIte, nLT, nLE, nEQ, nAdd, nMul, nPow, nSub, zLT, zLE, zNat, RKdf581, Bool.false_eq_true]
    refine hK _ _ ?_
    clear hK K
    refine awp_seq_k ?_
    intro K hK
    refine awp_reg_seq ?_
    intro K hK
    simp only [↓DN, UP, DF, qSh, qCv, qIA, qIx, qSl, qBu, qCe, qOn, reduceCtorEq, ↓reduceIte, nLT, nLE, nEQ, nAdd, nMul, nPow, nSub, zLT, zLE, zNat, RKdf581]
    refine hK _ _ ?_
    clear hK K
    refine awp_cond_k ?_
    intro X Y hX hY
    simp only [↓DN, UP, DF, qSh, qCv, qIA, qIx, qSl, qBu, qCe, qOn, reduceCtorEq, ↓reduceIte, nLT, nLE, nEQ, nAdd, nMul, nPow, nSub, zLT, zLE, zNat, RKdf581, DB]
    refine hY ?_
    clear hX hY X Y
    refine awp_skip ?_
    refine hK _ _ ?_
    clear hK K
    refine awp_reg_seq ?_
    intro K hK
    simp only [↓DN, UP, DF, qSh, qCv, qIA, qIx, qSl, qBu, qCe, qOn, reduceCtorEq, ↓reduceIte, nLT, nLE, nEQ, nAdd, nMul, nPow, nSub, zLT, zLE, zNat, RKdf581]
    refine acallk (expand_calls hG0 hG secret (Kdf.text l c n.toNat) (by omega) htl n s5) ?_
    rintro r s6 ⟨rfl, rfl⟩
    simp only [↓AXq_nil, ↓AXq_cons, pval, DX, Nat.reduceBEq, ↓DN, UP, DF, qSh, qCv, qIA, qIx, qSl, qBu, qCe, qOn, reduceCtorEq, ↓reduceIte, nLT, nLE, nEQ, nAdd, nMul, nPow, nSub, zLT, zLE, zNat, RKdf581]
    refine hK _ _ ?_
    clear hK K
    refine awp_ret ?_
    simp only [retQ, AEnds, aresL, ares, List.toList_toArray, ↓upd_same]; try simp only [↓DN, UP, DF, qSh, qCv, qIA, qIx, qSl, qBu, qCe, qOn, reduceCtorEq, ↓reduceIte, nLT, nLE, nEQ, nAdd, nMul, nPow, nSub, zLT, zLE, zNat, RKdf581, DT]
    rw [hlab, hf]
    exact ⟨_, s, AV.weak.refl _, h4.le, rfl, rfl⟩
  · have hp := Kdf.pen_bad l c n hgood
    have hf : Kdf.fits l c n = false := by
      cases hf : Kdf.fits l c n with
      | false => rfl
      | true =>
        simp only [Kdf.fits, Bool.and_eq_true, decide_eq_true_eq] at hf
        exact absurd ⟨hf.1.2, by omega, hf.1.1.1, hf.1.1.2⟩ hgood
    have hlab : Kdf.label secret l c n = [] := by rw [Kdf.label, hf]; rfl
    rw [hp, if_pos rfl]
    simp only [↓AXq_nil, ↓AXq_cons, pval, DX, Nat.reduceBEq, ↓DN, UP, DF, qSh, qCv, qIA, qIx, qSl, qBu, qCe, qOn, reduceCtorEq, ↓reduceIte, nLT, nLE, nEQ, nAdd, nMul, nPow, nSub, zLT, zLE, zNat, RKdf581]
    refine hK _ _ ?_
    clear hK K
    refine awp_seq_k ?_
    intro K hK
    refine awp_reg_seq ?_
    intro K hK
    simp only [↓DN, UP, DF, qSh, qCv, qIA, qIx, qSl, qBu, qCe, qOn, reduceCtorEq, ↓reduceIte, nLT, nLE, nEQ, nAdd, nMul, nPow, nSub, zLT, zLE, zNat, RKdf581]
    refine hK _ _ ?_
    clear hK K
    refine awp_cond_k ?_
    intro X Y hX hY
    simp only [↓DN, UP, DF, qSh, qCv, qIA, qIx, qSl, qBu, qCe, qOn, reduceCtorEq, ↓reduceIte, nLT, nLE, nEQ, nAdd, nMul, nPow, nSub, zLT, zLE, zNat, RKdf581, DB]
    refine hX ?_
    clear hX hY X Y
    refine awp_reg_seq ?_
    intro K hK
    simp only [↓DN, UP, DF, qSh, qCv, qIA, qIx, qSl, qBu, qCe, qOn, reduceCtorEq, ↓reduceIte, nLT, nLE, nEQ, nAdd, nMul, nPow, nSub, zLT, zLE, zNat, RKdf581]
    refine hK _ _ ?_
    clear hK K
    refine awp_ret ?_
    simp only [retQ, AEnds, aresL, ares, List.toList_toArray, ↓upd_same]; try simp only [↓DN, UP, DF, qSh, qCv, qIA, qIx, qSl, qBu, qCe, qOn, reduceCtorEq, ↓reduceIte, nLT, nLE, nEQ, nAdd, nMul, nPow, nSub, zLT, zLE, zNat, RKdf581, DT]
    rw [hlab, hf]
    exact ⟨_, s, AV.weak_tup2 AV.weak_nil (AV.weak.refl _), h4.le, rfl, rfl⟩

set_option maxHeartbeats 2000000 in
theorem refLabel_calls (secret l c : List UInt8) (n : Int) (hs : secret.length ≤ 2 ^ 36) (hf : Kdf.fits l c n = true) (s : AS) :
    ACalls Tryd.prog Γ 53 [.v (.string ⟨secret.toArray⟩), .v (.string ⟨l.toArray⟩), .v (.string ⟨c.toArray⟩), .v (.int .i64 n)] s (fun r s' => r = .v (.string ⟨(Kdf.label secret l c n).toArray⟩) ∧ s' = s) := by
  refine acalls_body Tryd.func53 rfl Tryd.ntmps53 Tryd.results53 (by simp) ?_
  have hlab : Kdf.label secret l c n = Kdf.expand secret (Kdf.text l c n.toNat) n.toNat := by rw [Kdf.label, hf]; rfl
  simp only [Kdf.fits, Bool.and_eq_true, decide_eq_true_eq] at hf
  obtain ⟨⟨⟨q1, q2⟩, q3⟩, q4⟩ := hf
  obtain ⟨m, rfl⟩ : ∃ m : Nat, n = (m : Int) := ⟨n.toNat, by omega⟩
  rw [hlab, Int.toNat_natCast]
  have hu : iconv .u64 (m : Int) = (m : Int) := u64_conv (by omega)
  have hml : (Kdf.mls ++ l).length = 4 + l.length := by simp [Kdf.mls]; omega
  have hbl : ∀ k n, (be k n).length = k := length_be
  refine awp_reg_seq ?_
  intro K hK
  simp only [↓DN, UP, DF, qSh, qCv, qIA, qIx, qSl, qBu, qCe, qOn, reduceCtorEq, ↓reduceIte, nLT, nLE, nEQ, nAdd, nMul, nPow, nSub, zLT, zLE, zNat, RKdf553]
  refine hK _ _ ?_
  clear hK K
  refine awp_reg_seq ?_
  intro K hK
  simp only [↓DN, UP, DF, qSh, qCv, qIA, qIx, qSl, qBu, qCe, qOn, reduceCtorEq, ↓reduceIte, nLT, nLE, nEQ, nAdd, nMul, nPow, nSub, zLT, zLE, zNat, RKdf553, hu]
  refine acallk (refNumber_calls m 2 (by omega) (by omega) s) ?_
  rintro r s1 ⟨rfl, rfl⟩
  simp only [↓AXq_nil, ↓AXq_cons, pval, DX, Nat.reduceBEq, ↓DN, UP, DF, qSh, qCv, qIA, qIx, qSl, qBu, qCe, qOn, reduceCtorEq, ↓reduceIte, nLT, nLE, nEQ, nAdd, nMul, nPow, nSub, zLT, zLE, zNat, RKdf553, i64_room (show 4 + l.length < 2 ^ 62 by omega)]
  refine acallk (refText_calls (Kdf.mls ++ l) 1 (by rw [hml]; omega) (by omega) s1) ?_
  rintro r s2 ⟨rfl, rfl⟩
  have hm4 : Kdf.mls.length = 4 := rfl
  simp only [↓AXq_nil, ↓AXq_cons, pval, DX, Nat.reduceBEq, ↓DN, UP, DF, qSh, qCv, qIA, qIx, qSl, qBu, qCe, qOn, reduceCtorEq, ↓reduceIte, nLT, nLE, nEQ, nAdd, nMul, nPow, nSub, zLT, zLE, zNat, RKdf553, hm4, length_be, i64_room (show 2 + (1 + (4 + l.length)) < 2 ^ 62 by omega)]
  refine acallk (refText_calls c 2 (by omega) (by omega) s2) ?_
  rintro r s3 ⟨rfl, rfl⟩
  simp only [↓AXq_nil, ↓AXq_cons, pval, DX, Nat.reduceBEq, ↓DN, UP, DF, qSh, qCv, qIA, qIx, qSl, qBu, qCe, qOn, reduceCtorEq, ↓reduceIte, nLT, nLE, nEQ, nAdd, nMul, nPow, nSub, zLT, zLE, zNat, RKdf553, hm4, length_be, i64_room (show 2 + (1 + (4 + l.length)) + (2 + c.length) < 2 ^ 62 by omega)]
  have htx : be 2 m ++ (be 1 (4 + l.length) ++ (Kdf.mls ++ (l ++ (be 2 c.length ++ c)))) = Kdf.text l c m := by
    simp only [Kdf.text, hml, List.append_assoc]
  have htl : (Kdf.text l c m).length ≤ 2 ^ 37 := by
    rw [← htx]
    simp only [List.length_append, length_be, hm4]
    omega
  rw [htx]
  refine acallk (refExpand_calls secret (Kdf.text l c m) (by omega) htl m (by omega) s3) ?_
  rintro r s4 ⟨rfl, rfl⟩
  simp only [↓AXq_nil, ↓AXq_cons, pval, DX, Nat.reduceBEq, ↓DN, UP, DF, qSh, qCv, qIA, qIx, qSl, qBu, qCe, qOn, reduceCtorEq, ↓reduceIte, nLT, nLE, nEQ, nAdd, nMul, nPow, nSub, zLT, zLE, zNat, RKdf553]
  refine hK _ _ ?_
  clear hK K
  refine awp_ret ?_
  simp only [retQ, AEnds, aresL, ares, List.toList_toArray, ↓upd_same]; try simp only [↓DN, UP, DF, qSh, qCv, qIA, qIx, qSl, qBu, qCe, qOn, reduceCtorEq, ↓reduceIte, nLT, nLE, nEQ, nAdd, nMul, nPow, nSub, zLT, zLE, zNat, RKdf553, DT]
  exact ⟨_, _, AV.weak.refl _, AS.le.refl _, rfl, rfl⟩

end Go.Proofs.YtooeklnbdgoneaaDoor


