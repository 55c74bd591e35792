/- Contracts of the program's functions, each walked once; the conditions stand in each theorem. -/
import Derived.Test.YtcnilmidfhpckaaAMp6
import Derived.Test.YtcnilmidfhpckaaW7
set_option linter.unusedSimpArgs false
set_option linter.unusedVariables false
open Nat renaming reduceLT → nLT, reduceLeDiff → nLE, reduceEqDiff → nEQ, reduceAdd → nAdd, reduceMul → nMul, reducePow → nPow, reduceSub → nSub
open Int renaming reduceLT → zLT, reduceLE → zLE, reduceToNat → zNat
open Go.AM renaming ashift → qSh, aconv → qCv, aindexAddr → qIA, aindex → qIx, aslice → qSl, abuiltin → qBu
open Go.AM.AV renaming cells → qCe, one → qOn
set_option autoImplicit false
namespace Go.Proofs.Ytcnilmidfhpckaa
open Go Go.AM Go.Proofs

theorem RMsg1761 : type_of% (And.intro (And.intro (And.intro (And.intro (And.intro (And.intro @Try.underlying3 (And.intro T.c3 T.g3)) (And.intro T.b3 (And.intro T.z3 @Try.underlying5))) (And.intro (And.intro T.c5 (And.intro T.g5 T.b5)) (And.intro (And.intro T.z5 @Try.underlying28) (And.intro T.c28 T.g28)))) (And.intro (And.intro (And.intro T.b28 (And.intro T.z28 T.s28)) (And.intro @Try.underlying32 (And.intro T.c32 T.g32))) (And.intro (And.intro T.b32 (And.intro T.z32 @Try.underlying42)) (And.intro (And.intro T.c42 T.g42) (And.intro T.b42 T.z42))))) (And.intro (And.intro (And.intro (And.intro @Try.underlying80 (And.intro T.c80 T.g80)) (And.intro T.b80 (And.intro T.z80 T.h80))) (And.intro (And.intro @Try.underlying98 (And.intro T.c98 T.g98)) (And.intro (And.intro T.b98 T.z98) (And.intro T.p98 @Try.underlying145)))) (And.intro (And.intro (And.intro T.c145 (And.intro T.g145 T.b145)) (And.intro (And.intro T.z145 T.h145) (And.intro T.f80_0 T.f80_1))) (And.intro (And.intro T.f80_2 (And.intro T.f80_3 T.f80_4)) (And.intro (And.intro T.k59 T.k58) (And.intro T.k56 T.k57)))))) Try.ntmps61) :=
  (And.intro (And.intro (And.intro (And.intro (And.intro (And.intro @Try.underlying3 (And.intro T.c3 T.g3)) (And.intro T.b3 (And.intro T.z3 @Try.underlying5))) (And.intro (And.intro T.c5 (And.intro T.g5 T.b5)) (And.intro (And.intro T.z5 @Try.underlying28) (And.intro T.c28 T.g28)))) (And.intro (And.intro (And.intro T.b28 (And.intro T.z28 T.s28)) (And.intro @Try.underlying32 (And.intro T.c32 T.g32))) (And.intro (And.intro T.b32 (And.intro T.z32 @Try.underlying42)) (And.intro (And.intro T.c42 T.g42) (And.intro T.b42 T.z42))))) (And.intro (And.intro (And.intro (And.intro @Try.underlying80 (And.intro T.c80 T.g80)) (And.intro T.b80 (And.intro T.z80 T.h80))) (And.intro (And.intro @Try.underlying98 (And.intro T.c98 T.g98)) (And.intro (And.intro T.b98 T.z98) (And.intro T.p98 @Try.underlying145)))) (And.intro (And.intro (And.intro T.c145 (And.intro T.g145 T.b145)) (And.intro (And.intro T.z145 T.h145) (And.intro T.f80_0 T.f80_1))) (And.intro (And.intro T.f80_2 (And.intro T.f80_3 T.f80_4)) (And.intro (And.intro T.k59 T.k58) (And.intro T.k56 T.k57)))))) Try.ntmps61)
theorem RMsg1760 : type_of% (And.intro (And.intro (And.intro (And.intro (And.intro @Try.underlying3 (And.intro T.c3 T.g3)) (And.intro (And.intro T.b3 T.z3) (And.intro @Try.underlying28 T.c28))) (And.intro (And.intro (And.intro T.g28 T.b28) (And.intro T.z28 T.s28)) (And.intro (And.intro @Try.underlying32 T.c32) (And.intro T.g32 T.b32)))) (And.intro (And.intro (And.intro T.z32 (And.intro @Try.underlying98 T.c98)) (And.intro (And.intro T.g98 T.b98) (And.intro T.z98 T.p98))) (And.intro (And.intro (And.intro @Try.underlying145 T.c145) (And.intro T.g145 T.b145)) (And.intro (And.intro T.z145 T.h145) (And.intro T.k56 T.k57))))) Try.ntmps60) :=
  (And.intro (And.intro (And.intro (And.intro (And.intro @Try.underlying3 (And.intro T.c3 T.g3)) (And.intro (And.intro T.b3 T.z3) (And.intro @Try.underlying28 T.c28))) (And.intro (And.intro (And.intro T.g28 T.b28) (And.intro T.z28 T.s28)) (And.intro (And.intro @Try.underlying32 T.c32) (And.intro T.g32 T.b32)))) (And.intro (And.intro (And.intro T.z32 (And.intro @Try.underlying98 T.c98)) (And.intro (And.intro T.g98 T.b98) (And.intro T.z98 T.p98))) (And.intro (And.intro (And.intro @Try.underlying145 T.c145) (And.intro T.g145 T.b145)) (And.intro (And.intro T.z145 T.h145) (And.intro T.k56 T.k57))))) Try.ntmps60)
variable {Γ : Nat → List AV}

theorem propR_one {st : EyeSt} (h : (eyeNum 1 st).1 = 1) : propR st = (⟨1, 0, (eyeText 1 16 (eyeNum 1 st).2).1, (eyeNum 8 (eyeText 1 16 (eyeNum 1 st).2).2).1, (eyeNum 8 (eyeNum 8 (eyeText 1 16 (eyeNum 1 st).2).2).2).1⟩, (eyeNum 8 (eyeNum 8 (eyeText 1 16 (eyeNum 1 st).2).2).2).2) := if_pos h
theorem propR_two {st : EyeSt} (h : (eyeNum 1 st).1 = 2) : propR st = (⟨2, (eyeNum 1 (eyeNum 1 st).2).1, [], (eyeNum 8 (eyeNum 1 (eyeNum 1 st).2).2).1, 0⟩, (eyeNum 8 (eyeNum 1 (eyeNum 1 st).2).2).2) :=
  (if_neg (by omega)).trans (if_pos h)
theorem propR_three {st : EyeSt} (h : (eyeNum 1 st).1 = 3) : propR st = (⟨3, (eyeNum 1 (eyeNum 1 st).2).1, [], 0, 0⟩, (eyeNum 1 (eyeNum 1 st).2).2) :=
  (if_neg (by omega)).trans ((if_neg (by omega)).trans (if_pos h))
theorem propR_else {st : EyeSt} (h1 : (eyeNum 1 st).1 ≠ 1) (h2 : (eyeNum 1 st).1 ≠ 2) (h3 : (eyeNum 1 st).1 ≠ 3) : propR st = (⟨(eyeNum 1 st).1, 0, [], 0, 0⟩, eFail 12 (eyeNum 1 st).2) :=
  (if_neg h1).trans ((if_neg h2).trans (if_neg h3))
theorem prop_weak {k l : Int} {y i : Nat} {n : List UInt8} {x : AV} (h : x.weak (bytesV n .any)) : AVs.weak [.v (.int .i64 k), .v (.int .i64 l), x, .v (.int .u64 y), .v (.int .u64 i)] (PropV.cells ⟨k, l, n, y, i⟩) :=
  .cons (AV.weak.refl _) (.cons (AV.weak.refl _) (.cons h (.cons (AV.weak.refl _) (.cons (AV.weak.refl _) .nil))))

set_option maxRecDepth 100000 in
set_option maxHeartbeats 8000000 in
theorem readProp_calls (s : AS) (p : Nat) (st : EyeSt) (hl : st.1.length ≤ 2 ^ 44) (h : s.objs p = some (eyeC st)) :
    ACalls Try.prog Γ 61 [.ptr p 0] s (fun r s' => r = .agg (propR st).1.cells ∧ s' = s.set p (eyeC (propR st).2)) := by
  refine acalls_body Try.func61 rfl Try.ntmps61 Try.results61 (by simp) ?_
  obtain ⟨q1, e1⟩ : ∃ q, q = eyeNum 1 st := ⟨_, rfl⟩
  have l1 : q1.2.1.length ≤ 2 ^ 44 := by rw [e1]; exact Nat.le_trans (eyeNum_len _ _) hl
  refine awp_reg_seq ?_
  intro K hK
  simp only [↓DN, UP, DF, qSh, qCv, qIA, qIx, qSl, qBu, qCe, qOn, reduceCtorEq, ↓reduceIte, nLT, nLE, nEQ, nAdd, nMul, nPow, nSub, zLT, zLE, zNat, RMsg1761]
  intro o2 ho2
  have hp2 := some_neO h ho2
  refine hK _ _ ?_
  clear hK K
  obtain ⟨z, hz⟩ : ∃ z : List AV, z = [.v (.int .i64 0), .v (.int .i64 0), .v (.slice none 0 0), .v (.int .u64 0), .v (.int .u64 0)] := ⟨_, rfl⟩
  refine awp_seq_k ?_
  intro K1 hK1
  have h1 : ∀ (E : Env) (s1 : AS) (o3 : Nat), E 0 = .ptr p 0 → E 2 = .ptr o2 0 → E 3 = .ptr o3 0 → RdS s s1 p o2 o3 (eyeC q1.2) z [.v (.int .i64 q1.1), .v (.int .i64 0), .v (.slice none 0 0), .v (.int .u64 0), .v (.int .u64 0)] → K1 E s1 := by
    intro E s1 o3 g0 g2 g3 J
    refine hK1 _ _ ?_
    clear hK1 K1
    refine awp_seq_k ?_
    intro K2 hK2
    have h2 : ∀ (E : Env) (s1 : AS) (x : AV) (k l : Int) (n : List UInt8) (y i : Nat) (st' : EyeSt), propR st = (⟨k, l, n, y, i⟩, st') → x.weak (bytesV n .any) → x.one = true → E 2 = .ptr o2 0 → E 3 = .ptr o3 0 → RdS s s1 p o2 o3 (eyeC st') z [.v (.int .i64 k), .v (.int .i64 l), x, .v (.int .u64 y), .v (.int .u64 i)] → K2 E s1 := by
      clear J g0 g2 g3 E s1
      intro E s1 x k l n y i st' hr hx ox g2 g3 J
      refine hK2 _ _ ?_
      clear hK2 K2
      simp only [AV.one] at ox
      have jr := J.res
      have jv := J.var
      have jd := J.d
      have jd2 := J.d.symm
      rw [hz] at jr
      refine awp_reg_seq ?_
      intro K hK
      simp only [↓DN, UP, DF, qSh, qCv, qIA, qIx, qSl, qBu, qCe, qOn, reduceCtorEq, ↓reduceIte, nLT, nLE, nEQ, nAdd, nMul, nPow, nSub, zLT, zLE, zNat, RMsg1761, g3, g2, jv, jr, jd, jd2, ox]
      refine hK _ _ ?_
      clear hK K
      refine awp_ret ?_
      refine aends_cell (o := o2) (off := 0) (by simp only [upd, g2, nEQ, ↓reduceIte]) (AS.set_objs_same _ _ _) (by rw [T.c80]; decide) (by simp only [↓DN, UP, DF, qSh, qCv, qIA, qIx, qSl, qBu, qCe, qOn, reduceCtorEq, ↓reduceIte, nLT, nLE, nEQ, nAdd, nMul, nPow, nSub, zLT, zLE, zNat, RMsg1761]; rfl) ?_
      rw [hr]
      exact ⟨_, _, AV.weak_agg (prop_weak hx), (J.setRes _).out, rfl, rfl⟩
    clear hK2
    have jv := J.var
    have jp := J.p3
    have jp2 := J.p3.symm
    have hK3 : ∀ {a b : Prop}, a → b → a := fun h _ => h
    clear hK3
    by_cases k1 : q1.1 = 1
    · refine awp_reg_seq ?_
      intro K hK
      simp only [↓DN, UP, DF, qSh, qCv, qIA, qIx, qSl, qBu, qCe, qOn, reduceCtorEq, ↓reduceIte, nLT, nLE, nEQ, nAdd, nMul, nPow, nSub, zLT, zLE, zNat, RMsg1761, g3, jv]
      refine hK _ _ ?_
      clear hK K
      refine awp_block ?_
      refine awp_reg_seq ?_
      intro K hK
      simp only [↓DN, UP, DF, qSh, qCv, qIA, qIx, qSl, qBu, qCe, qOn, reduceCtorEq, ↓reduceIte, nLT, nLE, nEQ, nAdd, nMul, nPow, nSub, zLT, zLE, zNat, RMsg1761, yesI (show ((q1.1 : Nat) : Int) = 1 by omega)]
      refine hK _ _ ?_
      clear hK K
      refine awp_cond_k ?_
      intro X Y hX hY
      simp only [↓DN, UP, DF, qSh, qCv, qIA, qIx, qSl, qBu, qCe, qOn, reduceCtorEq, ↓reduceIte, nLT, nLE, nEQ, nAdd, nMul, nPow, nSub, zLT, zLE, zNat, RMsg1761, DB]
      refine hX ?_
      clear hX hY X Y
      refine awp_reg_end ?_
      intro K hK
      simp only [↓DN, UP, DF, qSh, qCv, qIA, qIx, qSl, qBu, qCe, qOn, reduceCtorEq, ↓reduceIte, nLT, nLE, nEQ, nAdd, nMul, nPow, nSub, zLT, zLE, zNat, RMsg1761, g0]
      refine acallk (eyeShort_set _ p _ 16 (by have := l1; omega) J.eye) ?_
      rintro r s2 ⟨rfl, rfl⟩
      simp only [↓AXq_nil, ↓AXq_cons, pval, DX, Nat.reduceBEq, ↓DN, UP, DF, qSh, qCv, qIA, qIx, qSl, qBu, qCe, qOn, reduceCtorEq, ↓reduceIte, nLT, nLE, nEQ, nAdd, nMul, nPow, nSub, zLT, zLE, zNat, RMsg1761, g0]
      refine acallk (eyeU64_set _ p _ (AS.set_objs_same _ _ _)) ?_
      rintro r s2 ⟨rfl, rfl⟩
      simp only [↓AXq_nil, ↓AXq_cons, pval, DX, Nat.reduceBEq, ↓DN, UP, DF, qSh, qCv, qIA, qIx, qSl, qBu, qCe, qOn, reduceCtorEq, ↓reduceIte, nLT, nLE, nEQ, nAdd, nMul, nPow, nSub, zLT, zLE, zNat, RMsg1761, g0]
      refine acallk (eyeU64_set _ p _ (AS.set_objs_same _ _ _)) ?_
      rintro r s2 ⟨rfl, rfl⟩
      simp only [↓AXq_nil, ↓AXq_cons, pval, DX, Nat.reduceBEq, ↓DN, UP, DF, qSh, qCv, qIA, qIx, qSl, qBu, qCe, qOn, reduceCtorEq, ↓reduceIte, nLT, nLE, nEQ, nAdd, nMul, nPow, nSub, zLT, zLE, zNat, RMsg1761, g3, jv, jp, jp2]
      refine hK _ _ ?_
      clear hK K
      simp only [blockQ, thenQ, if_true, if_false]
      refine h2 _ _ _ _ _ _ _ _ _ (propR_one (by rw [← e1]; exact k1)) (AV.weak.refl _) rfl (by simp only [upd, g2, nEQ, ↓reduceIte]) (by simp only [upd, g3, nEQ, ↓reduceIte]) ?_
      have J2 := (J.setEye (eyeC (eyeNum 8 (eyeNum 8 (eyeText 1 16 q1.2).2).2).2)).setVar [.v (.int .i64 q1.1), .v (.int .i64 0), .sl 1 (eyeText 1 16 q1.2).1.length ((eyeText 1 16 q1.2).1.map byteV) .any, .v (.int .u64 (eyeNum 8 (eyeText 1 16 q1.2).2).1), .v (.int .u64 (eyeNum 8 (eyeNum 8 (eyeText 1 16 q1.2).2).2).1)]
      rw [k1] at J2 ⊢
      rw [← e1]
      exact J2
    · have f1 := notI (show ¬ ((q1.1 : Nat) : Int) = 1 by omega)
      by_cases k2 : q1.1 = 2
      · refine awp_reg_seq ?_
        intro K hK
        simp only [↓DN, UP, DF, qSh, qCv, qIA, qIx, qSl, qBu, qCe, qOn, reduceCtorEq, ↓reduceIte, nLT, nLE, nEQ, nAdd, nMul, nPow, nSub, zLT, zLE, zNat, RMsg1761, g3, jv]
        refine hK _ _ ?_
        clear hK K
        refine awp_block ?_
        refine awp_reg_seq ?_
        intro K hK
        simp only [↓DN, UP, DF, qSh, qCv, qIA, qIx, qSl, qBu, qCe, qOn, reduceCtorEq, ↓reduceIte, nLT, nLE, nEQ, nAdd, nMul, nPow, nSub, zLT, zLE, zNat, RMsg1761, f1]
        refine hK _ _ ?_
        clear hK K
        refine awp_cond_k ?_
        intro X Y hX hY
        simp only [↓DN, UP, DF, qSh, qCv, qIA, qIx, qSl, qBu, qCe, qOn, reduceCtorEq, ↓reduceIte, nLT, nLE, nEQ, nAdd, nMul, nPow, nSub, zLT, zLE, zNat, RMsg1761, DB]
        refine hY ?_
        clear hX hY X Y
        refine awp_reg_seq ?_
        intro K hK
        simp only [↓DN, UP, DF, qSh, qCv, qIA, qIx, qSl, qBu, qCe, qOn, reduceCtorEq, ↓reduceIte, nLT, nLE, nEQ, nAdd, nMul, nPow, nSub, zLT, zLE, zNat, RMsg1761, yesI (show ((q1.1 : Nat) : Int) = 2 by omega)]
        refine hK _ _ ?_
        clear hK K
        refine awp_cond_k ?_
        intro X Y hX hY
        simp only [↓DN, UP, DF, qSh, qCv, qIA, qIx, qSl, qBu, qCe, qOn, reduceCtorEq, ↓reduceIte, nLT, nLE, nEQ, nAdd, nMul, nPow, nSub, zLT, zLE, zNat, RMsg1761, DB]
        refine hX ?_
        clear hX hY X Y
        refine awp_reg_end ?_
        intro K hK
        simp only [↓DN, UP, DF, qSh, qCv, qIA, qIx, qSl, qBu, qCe, qOn, reduceCtorEq, ↓reduceIte, nLT, nLE, nEQ, nAdd, nMul, nPow, nSub, zLT, zLE, zNat, RMsg1761, g0]
        refine acallk (eyeU8_set _ p _ J.eye) ?_
        rintro r s2 ⟨rfl, rfl⟩
        simp only [↓AXq_nil, ↓AXq_cons, pval, DX, Nat.reduceBEq, ↓DN, UP, DF, qSh, qCv, qIA, qIx, qSl, qBu, qCe, qOn, reduceCtorEq, ↓reduceIte, nLT, nLE, nEQ, nAdd, nMul, nPow, nSub, zLT, zLE, zNat, RMsg1761, g0]
        refine acallk (eyeU64_set _ p _ (AS.set_objs_same _ _ _)) ?_
        rintro r s2 ⟨rfl, rfl⟩
        simp only [↓AXq_nil, ↓AXq_cons, pval, DX, Nat.reduceBEq, ↓DN, UP, DF, qSh, qCv, qIA, qIx, qSl, qBu, qCe, qOn, reduceCtorEq, ↓reduceIte, nLT, nLE, nEQ, nAdd, nMul, nPow, nSub, zLT, zLE, zNat, RMsg1761, g3, jv, jp, jp2]
        refine hK _ _ ?_
        clear hK K
        simp only [blockQ, thenQ, if_true, if_false]
        refine h2 _ _ _ _ _ _ _ _ _ (propR_two (by rw [← e1]; exact k2)) AV.weak_nil rfl (by simp only [upd, g2, nEQ, ↓reduceIte]) (by simp only [upd, g3, nEQ, ↓reduceIte]) ?_
        have J2 := (J.setEye (eyeC (eyeNum 8 (eyeNum 1 q1.2).2).2)).setVar [.v (.int .i64 q1.1), .v (.int .i64 (eyeNum 1 q1.2).1), .v (.slice none 0 0), .v (.int .u64 (eyeNum 8 (eyeNum 1 q1.2).2).1), .v (.int .u64 0)]
        rw [k2] at J2 ⊢
        rw [← e1]
        exact J2
      · have f2 := notI (show ¬ ((q1.1 : Nat) : Int) = 2 by omega)
        by_cases k3 : q1.1 = 3
        · refine awp_reg_seq ?_
          intro K hK
          simp only [↓DN, UP, DF, qSh, qCv, qIA, qIx, qSl, qBu, qCe, qOn, reduceCtorEq, ↓reduceIte, nLT, nLE, nEQ, nAdd, nMul, nPow, nSub, zLT, zLE, zNat, RMsg1761, g3, jv]
          refine hK _ _ ?_
          clear hK K
          refine awp_block ?_
          refine awp_reg_seq ?_
          intro K hK
          simp only [↓DN, UP, DF, qSh, qCv, qIA, qIx, qSl, qBu, qCe, qOn, reduceCtorEq, ↓reduceIte, nLT, nLE, nEQ, nAdd, nMul, nPow, nSub, zLT, zLE, zNat, RMsg1761, f1]
          refine hK _ _ ?_
          clear hK K
          refine awp_cond_k ?_
          intro X Y hX hY
          simp only [↓DN, UP, DF, qSh, qCv, qIA, qIx, qSl, qBu, qCe, qOn, reduceCtorEq, ↓reduceIte, nLT, nLE, nEQ, nAdd, nMul, nPow, nSub, zLT, zLE, zNat, RMsg1761, DB]
          refine hY ?_
          clear hX hY X Y
          refine awp_reg_seq ?_
          intro K hK
          simp only [↓DN, UP, DF, qSh, qCv, qIA, qIx, qSl, qBu, qCe, qOn, reduceCtorEq, ↓reduceIte, nLT, nLE, nEQ, nAdd, nMul, nPow, nSub, zLT, zLE, zNat, RMsg1761, f2]
          refine hK _ _ ?_
          clear hK K
          refine awp_cond_k ?_
          intro X Y hX hY
          simp only [↓DN, UP, DF, qSh, qCv, qIA, qIx, qSl, qBu, qCe, qOn, reduceCtorEq, ↓reduceIte, nLT, nLE, nEQ, nAdd, nMul, nPow, nSub, zLT, zLE, zNat, RMsg1761, DB]
          refine hY ?_
          clear hX hY X Y
          refine awp_reg_seq ?_
          intro K hK
          simp only [↓DN, UP, DF, qSh, qCv, qIA, qIx, qSl, qBu, qCe, qOn, reduceCtorEq, ↓reduceIte, nLT, nLE, nEQ, nAdd, nMul, nPow, nSub, zLT, zLE, zNat, RMsg1761, yesI (show ((q1.1 : Nat) : Int) = 3 by omega)]
          refine hK _ _ ?_
          clear hK K
          refine awp_cond_k ?_
          intro X Y hX hY
          simp only [↓DN, UP, DF, qSh, qCv, qIA, qIx, qSl, qBu, qCe, qOn, reduceCtorEq, ↓reduceIte, nLT, nLE, nEQ, nAdd, nMul, nPow, nSub, zLT, zLE, zNat, RMsg1761, DB]
          refine hX ?_
          clear hX hY X Y
          refine awp_reg_end ?_
          intro K hK
          simp only [↓DN, UP, DF, qSh, qCv, qIA, qIx, qSl, qBu, qCe, qOn, reduceCtorEq, ↓reduceIte, nLT, nLE, nEQ, nAdd, nMul, nPow, nSub, zLT, zLE, zNat, RMsg1761, g0]
          refine acallk (eyeU8_set _ p _ J.eye) ?_
          rintro r s2 ⟨rfl, rfl⟩
          simp only [↓AXq_nil, ↓AXq_cons, pval, DX, Nat.reduceBEq, ↓DN, UP, DF, qSh, qCv, qIA, qIx, qSl, qBu, qCe, qOn, reduceCtorEq, ↓reduceIte, nLT, nLE, nEQ, nAdd, nMul, nPow, nSub, zLT, zLE, zNat, RMsg1761, g3, jv, jp, jp2]
          refine hK _ _ ?_
          clear hK K
          simp only [blockQ, thenQ, if_true, if_false]
          refine h2 _ _ _ _ _ _ _ _ _ (propR_three (by rw [← e1]; exact k3)) AV.weak_nil rfl (by simp only [upd, g2, nEQ, ↓reduceIte]) (by simp only [upd, g3, nEQ, ↓reduceIte]) ?_
          have J2 := (J.setEye (eyeC (eyeNum 1 q1.2).2)).setVar [.v (.int .i64 q1.1), .v (.int .i64 (eyeNum 1 q1.2).1), .v (.slice none 0 0), .v (.int .u64 0), .v (.int .u64 0)]
          rw [k3] at J2 ⊢
          rw [← e1]
          exact J2
        · have f3 := notI (show ¬ ((q1.1 : Nat) : Int) = 3 by omega)
          refine awp_reg_seq ?_
          intro K hK
          simp only [↓DN, UP, DF, qSh, qCv, qIA, qIx, qSl, qBu, qCe, qOn, reduceCtorEq, ↓reduceIte, nLT, nLE, nEQ, nAdd, nMul, nPow, nSub, zLT, zLE, zNat, RMsg1761, g3, jv]
          refine hK _ _ ?_
          clear hK K
          refine awp_block ?_
          refine awp_reg_seq ?_
          intro K hK
          simp only [↓DN, UP, DF, qSh, qCv, qIA, qIx, qSl, qBu, qCe, qOn, reduceCtorEq, ↓reduceIte, nLT, nLE, nEQ, nAdd, nMul, nPow, nSub, zLT, zLE, zNat, RMsg1761, f1]
          refine hK _ _ ?_
          clear hK K
          refine awp_cond_k ?_
          intro X Y hX hY
          simp only [↓DN, UP, DF, qSh, qCv, qIA, qIx, qSl, qBu, qCe, qOn, reduceCtorEq, ↓reduceIte, nLT, nLE, nEQ, nAdd, nMul, nPow, nSub, zLT, zLE, zNat, RMsg1761, DB]
          refine hY ?_
          clear hX hY X Y
          refine awp_reg_seq ?_
          intro K hK
          simp only [↓DN, UP, DF, qSh, qCv, qIA, qIx, qSl, qBu, qCe, qOn, reduceCtorEq, ↓reduceIte, nLT, nLE, nEQ, nAdd, nMul, nPow, nSub, zLT, zLE, zNat, RMsg1761, f2]
          refine hK _ _ ?_
          clear hK K
          refine awp_cond_k ?_
          intro X Y hX hY
          simp only [↓DN, UP, DF, qSh, qCv, qIA, qIx, qSl, qBu, qCe, qOn, reduceCtorEq, ↓reduceIte, nLT, nLE, nEQ, nAdd, nMul, nPow, nSub, zLT, zLE, zNat, RMsg1761, DB]
          refine hY ?_
          clear hX hY X Y
          refine awp_reg_seq ?_
          intro K hK
          simp only [↓DN, UP, DF, qSh, qCv, qIA, qIx, qSl, qBu, qCe, qOn, reduceCtorEq, ↓reduceIte, nLT, nLE, nEQ, nAdd, nMul, nPow, nSub, zLT, zLE, zNat, RMsg1761, f3]
          refine hK _ _ ?_
          clear hK K
          refine awp_cond_k ?_
          intro X Y hX hY
          simp only [↓DN, UP, DF, qSh, qCv, qIA, qIx, qSl, qBu, qCe, qOn, reduceCtorEq, ↓reduceIte, nLT, nLE, nEQ, nAdd, nMul, nPow, nSub, zLT, zLE, zNat, RMsg1761, DB]
          refine hY ?_
          clear hX hY X Y
          refine awp_reg_end ?_
          intro K hK
          simp only [↓DN, UP, DF, qSh, qCv, qIA, qIx, qSl, qBu, qCe, qOn, reduceCtorEq, ↓reduceIte, nLT, nLE, nEQ, nAdd, nMul, nPow, nSub, zLT, zLE, zNat, RMsg1761, g0]
          refine acallk (eyeFail_set _ p _ 12 J.eye) ?_
          rintro r s2 ⟨rfl, rfl⟩
          simp only [↓AXq_nil, ↓AXq_cons, pval, DX, Nat.reduceBEq, ↓DN, UP, DF, qSh, qCv, qIA, qIx, qSl, qBu, qCe, qOn, reduceCtorEq, ↓reduceIte, nLT, nLE, nEQ, nAdd, nMul, nPow, nSub, zLT, zLE, zNat, RMsg1761]
          refine hK _ _ ?_
          clear hK K
          simp only [blockQ, thenQ, if_true, if_false]
          refine h2 _ _ _ _ _ _ _ _ _ (propR_else (by rw [← e1]; exact k1) (by rw [← e1]; exact k2) (by rw [← e1]; exact k3)) AV.weak_nil rfl (by simp only [upd, g2, nEQ, ↓reduceIte]) (by simp only [upd, g3, nEQ, ↓reduceIte]) ?_
          rw [← e1]
          exact J.setEye _
  clear hK1
  refine awp_reg_end ?_
  intro K hK
  simp only [↓DN, UP, DF, qSh, qCv, qIA, qIx, qSl, qBu, qCe, qOn, reduceCtorEq, ↓reduceIte, nLT, nLE, nEQ, nAdd, nMul, nPow, nSub, zLT, zLE, zNat, RMsg1761]
  refine acallk (eyeU8_set _ p st (by rw [AS.set_objs_ne _ hp2]; exact h)) ?_
  rintro r s1 ⟨rfl, rfl⟩
  rw [← e1]
  simp only [↓AXq_nil, ↓AXq_cons, pval, DX, Nat.reduceBEq, ↓DN, UP, DF, qSh, qCv, qIA, qIx, qSl, qBu, qCe, qOn, reduceCtorEq, ↓reduceIte, nLT, nLE, nEQ, nAdd, nMul, nPow, nSub, zLT, zLE, zNat, RMsg1761]
  intro o3 ho3
  have hp3 : o3 ≠ p := by
    rintro rfl
    simp at ho3
  have h32 : o3 ≠ o2 := by
    rintro rfl
    simp [hp2.symm] at ho3
  have ho30 : s.objs o3 = none := by simpa [hp3, h32] using ho3
  refine hK _ _ (h1 _ _ o3 (by simp only [upd, initE, nEQ, ↓reduceIte, List.getD_cons_zero]) (by simp only [upd, nEQ, ↓reduceIte]) (by simp only [upd, nEQ, ↓reduceIte]) ?_)
  refine ⟨AS.le_set (AS.le_set (AS.le_set (AS.drop_le s p) (AS.drop_objs_none ho2) _) (AS.drop_self _ _) _) (AS.drop_objs_none ho30) _, ?_, ?_, AS.set_objs_same _ _ _, ho2, ho30, hp2, hp3.symm, h32.symm⟩
  · rw [AS.set_objs_ne _ hp3.symm, AS.set_objs_same]
  · rw [AS.set_objs_ne _ h32.symm, AS.set_objs_ne _ hp2.symm, AS.set_objs_same, hz]

/-- A number that must not be above another one. -/
theorem count_calls (s : AS) (p : Nat) (st : EyeSt) (most : Nat) (h : s.objs p = some (eyeC st)) :
    ACalls Try.prog Γ 60 [.ptr p 0, .v (.int .i64 most)] s (fun r s' => r = .v (.int .i64 (capR most st).1) ∧ s' = s.set p (eyeC (capR most st).2)) := by
  refine acalls_body Try.func60 rfl Try.ntmps60 Try.results60 (by simp) ?_
  refine awp_reg_seq ?_
  intro K hK
  simp only [↓DN, UP, DF, qSh, qCv, qIA, qIx, qSl, qBu, qCe, qOn, reduceCtorEq, ↓reduceIte, nLT, nLE, nEQ, nAdd, nMul, nPow, nSub, zLT, zLE, zNat, RMsg1760]
  refine hK _ _ ?_
  clear hK K
  refine awp_reg_seq ?_
  intro K hK
  simp only [↓DN, UP, DF, qSh, qCv, qIA, qIx, qSl, qBu, qCe, qOn, reduceCtorEq, ↓reduceIte, nLT, nLE, nEQ, nAdd, nMul, nPow, nSub, zLT, zLE, zNat, RMsg1760]
  refine acallk (eyeU8_set _ p st h) ?_
  rintro r s1 ⟨rfl, rfl⟩
  simp only [↓AXq_nil, ↓AXq_cons, pval, DX, Nat.reduceBEq, ↓DN, UP, DF, qSh, qCv, qIA, qIx, qSl, qBu, qCe, qOn, reduceCtorEq, ↓reduceIte, nLT, nLE, nEQ, nAdd, nMul, nPow, nSub, zLT, zLE, zNat, RMsg1760]
  refine hK _ _ ?_
  clear hK K
  refine awp_seq_k ?_
  intro K2 hK2
  by_cases hm : most < (eyeNum 1 st).1
  · have hc : capR most st = ((eyeNum 1 st).1, eFail 12 (eyeNum 1 st).2) := by unfold capR; rw [if_pos hm]
    refine awp_reg_seq ?_
    intro K hK
    simp only [↓DN, UP, DF, qSh, qCv, qIA, qIx, qSl, qBu, qCe, qOn, reduceCtorEq, ↓reduceIte, nLT, nLE, nEQ, nAdd, nMul, nPow, nSub, zLT, zLE, zNat, RMsg1760, eye_lt_nat, decide_eq_true hm]
    refine hK _ _ ?_
    clear hK K
    refine awp_cond_k ?_
    intro X Y hX hY
    simp only [↓DN, UP, DF, qSh, qCv, qIA, qIx, qSl, qBu, qCe, qOn, reduceCtorEq, ↓reduceIte, nLT, nLE, nEQ, nAdd, nMul, nPow, nSub, zLT, zLE, zNat, RMsg1760, DB]
    refine hX ?_
    clear hX hY X Y
    refine awp_reg_end ?_
    intro K hK
    simp only [↓DN, UP, DF, qSh, qCv, qIA, qIx, qSl, qBu, qCe, qOn, reduceCtorEq, ↓reduceIte, nLT, nLE, nEQ, nAdd, nMul, nPow, nSub, zLT, zLE, zNat, RMsg1760]
    refine acallk (eyeFail_set _ p _ 12 (AS.set_objs_same _ _ _)) ?_
    rintro r s2 ⟨rfl, rfl⟩
    simp only [↓AXq_nil, ↓AXq_cons, pval, DX, Nat.reduceBEq, ↓DN, UP, DF, qSh, qCv, qIA, qIx, qSl, qBu, qCe, qOn, reduceCtorEq, ↓reduceIte, nLT, nLE, nEQ, nAdd, nMul, nPow, nSub, zLT, zLE, zNat, RMsg1760]
    refine hK _ _ (hK2 _ _ ?_)
    refine awp_reg_seq ?_
    intro K hK
    simp only [↓DN, UP, DF, qSh, qCv, qIA, qIx, qSl, qBu, qCe, qOn, reduceCtorEq, ↓reduceIte, nLT, nLE, nEQ, nAdd, nMul, nPow, nSub, zLT, zLE, zNat, RMsg1760]
    refine hK _ _ ?_
    clear hK K
    refine awp_ret ?_
    simp only [retQ, AEnds, aresL, ares, List.toList_toArray, ↓upd_same]; try simp only [↓DN, UP, DF, qSh, qCv, qIA, qIx, qSl, qBu, qCe, qOn, reduceCtorEq, ↓reduceIte, nLT, nLE, nEQ, nAdd, nMul, nPow, nSub, zLT, zLE, zNat, RMsg1760, DT]
    rw [hc]
    exact ⟨_, _, AV.weak.refl _, AS.le.refl _, rfl, rfl⟩
  · have hc : capR most st = eyeNum 1 st := by unfold capR; rw [if_neg hm]
    refine awp_reg_seq ?_
    intro K hK
    simp only [↓DN, UP, DF, qSh, qCv, qIA, qIx, qSl, qBu, qCe, qOn, reduceCtorEq, ↓reduceIte, nLT, nLE, nEQ, nAdd, nMul, nPow, nSub, zLT, zLE, zNat, RMsg1760, eye_lt_nat, decide_eq_false hm]
    refine hK _ _ ?_
    clear hK K
    refine awp_cond_k ?_
    intro X Y hX hY
    simp only [↓DN, UP, DF, qSh, qCv, qIA, qIx, qSl, qBu, qCe, qOn, reduceCtorEq, ↓reduceIte, nLT, nLE, nEQ, nAdd, nMul, nPow, nSub, zLT, zLE, zNat, RMsg1760, DB]
    refine hY ?_
    clear hX hY X Y
    refine awp_skip ?_
    refine hK2 _ _ ?_
    refine awp_reg_seq ?_
    intro K hK
    simp only [↓DN, UP, DF, qSh, qCv, qIA, qIx, qSl, qBu, qCe, qOn, reduceCtorEq, ↓reduceIte, nLT, nLE, nEQ, nAdd, nMul, nPow, nSub, zLT, zLE, zNat, RMsg1760]
    refine hK _ _ ?_
    clear hK K
    refine awp_ret ?_
    simp only [retQ, AEnds, aresL, ares, List.toList_toArray, ↓upd_same]; try simp only [↓DN, UP, DF, qSh, qCv, qIA, qIx, qSl, qBu, qCe, qOn, reduceCtorEq, ↓reduceIte, nLT, nLE, nEQ, nAdd, nMul, nPow, nSub, zLT, zLE, zNat, RMsg1760, DT]
    rw [hc]
    exact ⟨_, _, AV.weak.refl _, AS.le.refl _, rfl, rfl⟩

end Go.Proofs.Ytcnilmidfhpckaa


set_option autoImplicit false
namespace Go.Proofs.Ytcnilmidfhpckaa
open Go Go.AM Go.Proofs

theorem RMsg1822 : type_of% (And.intro (And.intro (And.intro (And.intro (And.intro (And.intro (And.intro @Try.underlying3 (And.intro T.c3 T.g3)) (And.intro T.b3 (And.intro T.z3 @Try.underlying4))) (And.intro (And.intro T.c4 (And.intro T.g4 T.b4)) (And.intro T.z4 (And.intro @Try.underlying5 T.c5)))) (And.intro (And.intro (And.intro T.g5 (And.intro T.b5 T.z5)) (And.intro @Try.underlying28 (And.intro T.c28 T.g28))) (And.intro (And.intro T.b28 (And.intro T.z28 T.s28)) (And.intro @Try.underlying32 (And.intro T.c32 T.g32))))) (And.intro (And.intro (And.intro (And.intro T.b32 (And.intro T.z32 @Try.underlying41)) (And.intro T.c41 (And.intro T.g41 T.b41))) (And.intro (And.intro T.z41 (And.intro T.s41 @Try.underlying42)) (And.intro T.c42 (And.intro T.g42 T.b42)))) (And.intro (And.intro (And.intro T.z42 (And.intro @Try.underlying43 T.c43)) (And.intro T.g43 (And.intro T.b43 T.z43))) (And.intro (And.intro T.s43 (And.intro @Try.underlying45 T.c45)) (And.intro (And.intro T.g45 T.b45) (And.intro T.z45 T.h45)))))) (And.intro (And.intro (And.intro (And.intro (And.intro @Try.underlying47 (And.intro T.c47 T.g47)) (And.intro T.b47 (And.intro T.z47 T.h47))) (And.intro (And.intro @Try.underlying80 (And.intro T.c80 T.g80)) (And.intro T.b80 (And.intro T.z80 T.h80)))) (And.intro (And.intro (And.intro @Try.underlying83 (And.intro T.c83 T.g83)) (And.intro T.b83 (And.intro T.z83 T.h83))) (And.intro (And.intro @Try.underlying98 (And.intro T.c98 T.g98)) (And.intro T.b98 (And.intro T.z98 T.p98))))) (And.intro (And.intro (And.intro (And.intro @Try.underlying145 (And.intro T.c145 T.g145)) (And.intro T.b145 (And.intro T.z145 T.h145))) (And.intro (And.intro T.f47_0 (And.intro T.f47_1 T.f47_2)) (And.intro T.f47_3 (And.intro T.f47_4 T.f47_5)))) (And.intro (And.intro (And.intro T.f47_6 (And.intro T.f47_7 T.k64)) (And.intro T.k57 (And.intro T.k58 T.k56))) (And.intro (And.intro T.k62 (And.intro T.k20 T.k63)) (And.intro (And.intro T.k59 T.k61) (And.intro T.k60 T.k55))))))) Try.ntmps22) :=
  (And.intro (And.intro (And.intro (And.intro (And.intro (And.intro (And.intro @Try.underlying3 (And.intro T.c3 T.g3)) (And.intro T.b3 (And.intro T.z3 @Try.underlying4))) (And.intro (And.intro T.c4 (And.intro T.g4 T.b4)) (And.intro T.z4 (And.intro @Try.underlying5 T.c5)))) (And.intro (And.intro (And.intro T.g5 (And.intro T.b5 T.z5)) (And.intro @Try.underlying28 (And.intro T.c28 T.g28))) (And.intro (And.intro T.b28 (And.intro T.z28 T.s28)) (And.intro @Try.underlying32 (And.intro T.c32 T.g32))))) (And.intro (And.intro (And.intro (And.intro T.b32 (And.intro T.z32 @Try.underlying41)) (And.intro T.c41 (And.intro T.g41 T.b41))) (And.intro (And.intro T.z41 (And.intro T.s41 @Try.underlying42)) (And.intro T.c42 (And.intro T.g42 T.b42)))) (And.intro (And.intro (And.intro T.z42 (And.intro @Try.underlying43 T.c43)) (And.intro T.g43 (And.intro T.b43 T.z43))) (And.intro (And.intro T.s43 (And.intro @Try.underlying45 T.c45)) (And.intro (And.intro T.g45 T.b45) (And.intro T.z45 T.h45)))))) (And.intro (And.intro (And.intro (And.intro (And.intro @Try.underlying47 (And.intro T.c47 T.g47)) (And.intro T.b47 (And.intro T.z47 T.h47))) (And.intro (And.intro @Try.underlying80 (And.intro T.c80 T.g80)) (And.intro T.b80 (And.intro T.z80 T.h80)))) (And.intro (And.intro (And.intro @Try.underlying83 (And.intro T.c83 T.g83)) (And.intro T.b83 (And.intro T.z83 T.h83))) (And.intro (And.intro @Try.underlying98 (And.intro T.c98 T.g98)) (And.intro T.b98 (And.intro T.z98 T.p98))))) (And.intro (And.intro (And.intro (And.intro @Try.underlying145 (And.intro T.c145 T.g145)) (And.intro T.b145 (And.intro T.z145 T.h145))) (And.intro (And.intro T.f47_0 (And.intro T.f47_1 T.f47_2)) (And.intro T.f47_3 (And.intro T.f47_4 T.f47_5)))) (And.intro (And.intro (And.intro T.f47_6 (And.intro T.f47_7 T.k64)) (And.intro T.k57 (And.intro T.k58 T.k56))) (And.intro (And.intro T.k62 (And.intro T.k20 T.k63)) (And.intro (And.intro T.k59 T.k61) (And.intro T.k60 T.k55))))))) Try.ntmps22)

variable {Γ : Nat → List AV}

theorem zrow_five (a b c d e : AV) : zrow 5 [a, b, c, d, e] = [a, b, c, d, e] := rfl
theorem noCommit_weak : (AV.agg [.v (.slice none 0 0), .v (.int .i64 0), .v (.int .i64 0), .v (.slice none 0 0), .v (.bool false), .v (.int .u64 0), .v (.slice none 0 0), .v (.slice none 0 0), .v (.slice none 0 0), .v (.slice none 0 0)]).weak (.agg noCommit.cells) :=
  AV.weak_agg (.cons AV.weak_nil (.cons (AV.weak.refl _) (.cons (AV.weak.refl _) (.cons AV.weak_nil (.cons (AV.weak.refl _) (.cons (AV.weak.refl _) (.cons AV.weak_nil (.cons AV.weak_nil (.cons AV.weak_nil (.cons AV.weak_nil .nil))))))))))
theorem eqOne (a : Nat) : (((a : Nat) : Int) == 1) = decide (a = 1) := by
  rw [Bool.eq_iff_iff]; simp only [beq_iff_eq, decide_eq_true_eq]; omega

set_option maxRecDepth 100000 in
set_option maxHeartbeats 16000000 in
theorem mread_calls (b : List UInt8) (hb : b.length ≤ 2 ^ 44) (s : AS) : ACalls Try.prog Γ 22 [bytesV b .any] s (fun r s' => r = .tup [.agg (mRead b).1.cells, .v (.int .i64 (mRead b).2)] ∧ s' = s) := by
  refine acalls_body Try.func22 rfl Try.ntmps22 Try.results22 (by simp) ?_
  obtain ⟨q0, e0⟩ : ∃ q, q = headR b := ⟨_, rfl⟩
  obtain ⟨qg, eg⟩ : ∃ q, q = eyeText 1 16 q0 := ⟨_, rfl⟩
  obtain ⟨qe, ee⟩ : ∃ q, q = eyeNum 8 qg.2 := ⟨_, rfl⟩
  obtain ⟨qs, es⟩ : ∃ q, q = eyeNum 1 qe.2 := ⟨_, rfl⟩
  obtain ⟨qn, en⟩ : ∃ q, q = capR 16 qs.2 := ⟨_, rfl⟩
  obtain ⟨qp, ep⟩ : ∃ q, q = propsR qn.1 qn.2 := ⟨_, rfl⟩
  obtain ⟨qh, eh⟩ : ∃ q, q = capR 1 qp.2 := ⟨_, rfl⟩
  obtain ⟨qa, ea⟩ : ∃ q, q = pathIf qh.1 qh.2 := ⟨_, rfl⟩
  obtain ⟨qc, ec⟩ : ∃ q, q = eyeText 1 32 qa.2 := ⟨_, rfl⟩
  obtain ⟨qm, em⟩ : ∃ q, q = eyeText 1 32 qc.2 := ⟨_, rfl⟩
  have hcap : ∀ k st, (capR k st).2.1.length ≤ st.1.length := by
    intro k st
    unfold capR
    simp only
    split
    · exact eyeNum_len _ _
    · exact eyeNum_len _ _
  have hhead : (headR b).1.length ≤ b.length := by
    unfold headR
    split
    · exact eyeNum_len 1 (b, 0)
    · exact eyeNum_len 1 (b, 0)
  have l0 : q0.1.length ≤ 2 ^ 44 := by rw [e0]; exact Nat.le_trans hhead hb
  have lg : qg.2.1.length ≤ 2 ^ 44 := by rw [eg]; exact Nat.le_trans (eyeText_len _ _ _).2 l0
  have le : qe.2.1.length ≤ 2 ^ 44 := by rw [ee]; exact Nat.le_trans (eyeNum_len _ _) lg
  have ls : qs.2.1.length ≤ 2 ^ 44 := by rw [es]; exact Nat.le_trans (eyeNum_len _ _) le
  have ln : qn.2.1.length ≤ 2 ^ 44 := by rw [en]; exact Nat.le_trans (hcap _ _) ls
  have lp : qp.2.1.length ≤ 2 ^ 44 := by rw [ep]; exact Nat.le_trans (propsR_left _ _) ln
  have lh : qh.2.1.length ≤ 2 ^ 44 := by rw [eh]; exact Nat.le_trans (hcap _ _) lp
  have la : qa.2.1.length ≤ 2 ^ 44 := by
    rw [ea]; unfold pathIf; split
    · exact Nat.le_trans (pathR_left _) lh
    · exact lh
  have lc : qc.2.1.length ≤ 2 ^ 44 := by rw [ec]; exact Nat.le_trans (eyeText_len _ _ _).2 la
  have kn : qn.1 < 256 := by rw [en]; exact eyeNum1_lt _
  have hrr : mRaw b = (⟨qg.1, iconv .i64 (qe.1 : Int), qs.1, qp.1, decide (qh.1 = 1), qa.1, qc.1, qm.1⟩, qm.2) := by subst em ec ea eh ep en es ee eg e0; rfl
  have hwf := mRaw_wf b
  rw [hrr] at hwf
  simp only at hwf
  refine awp_reg_seq ?_
  intro K hK
  simp only [↓DN, UP, DF, qSh, qCv, qIA, qIx, qSl, qBu, qCe, qOn, reduceCtorEq, ↓reduceIte, nLT, nLE, nEQ, nAdd, nMul, nPow, nSub, zLT, zLE, zNat, RMsg1822]
  intro o2 ho2
  refine hK _ _ ?_
  clear hK K
  refine awp_reg_seq ?_
  intro K hK
  simp only [↓DN, UP, DF, qSh, qCv, qIA, qIx, qSl, qBu, qCe, qOn, reduceCtorEq, ↓reduceIte, nLT, nLE, nEQ, nAdd, nMul, nPow, nSub, zLT, zLE, zNat, RMsg1822]
  refine acallk (open_set b _ (by omega)) ?_
  rintro r s1 ⟨p, hp, rfl, rfl⟩
  obtain ⟨hp2, hp0⟩ := AS.fresh_set hp
  simp only [↓AXq_nil, ↓AXq_cons, pval, DX, Nat.reduceBEq, ↓DN, UP, DF, qSh, qCv, qIA, qIx, qSl, qBu, qCe, qOn, reduceCtorEq, ↓reduceIte, nLT, nLE, nEQ, nAdd, nMul, nPow, nSub, zLT, zLE, zNat, RMsg1822]
  refine hK _ _ ?_
  clear hK K
  obtain ⟨z, hz⟩ : ∃ z : List AV, z = [.v (.slice none 0 0), .v (.int .i64 0), .v (.int .i64 0), .v (.slice none 0 0), .v (.bool false), .v (.int .u64 0), .v (.slice none 0 0), .v (.slice none 0 0), .v (.slice none 0 0), .v (.slice none 0 0)] := ⟨_, rfl⟩
  rw [← hz]
  refine awp_seq_k ?_
  intro K1 hK1
  have h1 : ∀ (E : Env), E 4 = .ptr p 0 → E 2 = .ptr o2 0 → K1 E ((s.set o2 z).set p (eyeC q0)) := by
    intro E g4 g2
    refine hK1 _ _ ?_
    clear hK1 K1
    refine awp_reg_seq ?_
    intro K hK
    simp only [↓DN, UP, DF, qSh, qCv, qIA, qIx, qSl, qBu, qCe, qOn, reduceCtorEq, ↓reduceIte, nLT, nLE, nEQ, nAdd, nMul, nPow, nSub, zLT, zLE, zNat, RMsg1822, g4]
    refine acallk (eyeShort_set _ p _ 16 (by have := l0; omega) (AS.set_objs_same _ _ _)) ?_
    rintro r s1 ⟨rfl, rfl⟩
    rw [← eg]
    simp only [↓AXq_nil, ↓AXq_cons, pval, DX, Nat.reduceBEq, ↓DN, UP, DF, qSh, qCv, qIA, qIx, qSl, qBu, qCe, qOn, reduceCtorEq, ↓reduceIte, nLT, nLE, nEQ, nAdd, nMul, nPow, nSub, zLT, zLE, zNat, RMsg1822, g4]
    refine acallk (eyeU64_set _ p _ (AS.set_objs_same _ _ _)) ?_
    rintro r s1 ⟨rfl, rfl⟩
    rw [← ee]
    simp only [↓AXq_nil, ↓AXq_cons, pval, DX, Nat.reduceBEq, ↓DN, UP, DF, qSh, qCv, qIA, qIx, qSl, qBu, qCe, qOn, reduceCtorEq, ↓reduceIte, nLT, nLE, nEQ, nAdd, nMul, nPow, nSub, zLT, zLE, zNat, RMsg1822, g4]
    refine acallk (eyeU8_set _ p _ (AS.set_objs_same _ _ _)) ?_
    rintro r s1 ⟨rfl, rfl⟩
    rw [← es]
    simp only [↓AXq_nil, ↓AXq_cons, pval, DX, Nat.reduceBEq, ↓DN, UP, DF, qSh, qCv, qIA, qIx, qSl, qBu, qCe, qOn, reduceCtorEq, ↓reduceIte, nLT, nLE, nEQ, nAdd, nMul, nPow, nSub, zLT, zLE, zNat, RMsg1822, g4]
    intro o5 ho5
    have h5p : o5 ≠ p := by
      rintro rfl
      simp at ho5
    have h52 : o5 ≠ o2 := by
      rintro rfl
      simp [hp2.symm] at ho5
    have h50 : s.objs o5 = none := by simpa [h5p, h52] using ho5
    refine hK _ _ ?_
    clear hK K
    have J : RdS (s.set p (eyeC (b, 0))) (((s.set o2 z).set p (eyeC qs.2)).set o5 [.sl 1 qg.1.length (qg.1.map byteV) .any, .v (.int .i64 (iconv .i64 (qe.1 : Int))), .v (.int .i64 qs.1), .v (.slice none 0 0), .v (.bool false), .v (.int .u64 0), .v (.slice none 0 0), .v (.slice none 0 0), .v (.slice none 0 0), .v (.slice none 0 0)]) p o2 o5 (eyeC qs.2) z [.sl 1 qg.1.length (qg.1.map byteV) .any, .v (.int .i64 (iconv .i64 (qe.1 : Int))), .v (.int .i64 qs.1), .v (.slice none 0 0), .v (.bool false), .v (.int .u64 0), .v (.slice none 0 0), .v (.slice none 0 0), .v (.slice none 0 0), .v (.slice none 0 0)] := by
      refine ⟨?_, ?_, ?_, AS.set_objs_same _ _ _, ?_, ?_, hp2, h5p.symm, h52.symm⟩
      · rw [AS.drop_set hp0]
        exact AS.le_set (AS.le_set (AS.le_set (AS.le.refl s) ho2 _) hp0 _) h50 _
      · rw [AS.set_objs_ne _ h5p.symm, AS.set_objs_same]
      · rw [AS.set_objs_ne _ h52.symm, AS.set_objs_ne _ hp2.symm, AS.set_objs_same]
      · rw [AS.set_objs_ne _ hp2.symm]; exact ho2
      · rw [AS.set_objs_ne _ h5p]; exact h50
    have g5 := rfl (a := o5)
    clear g5
    refine (fun (k : ∀ (E : Env) (s1 : AS), E 4 = .ptr p 0 → E 2 = .ptr o2 0 → E 5 = .ptr o5 0 → RdS (s.set p (eyeC (b, 0))) s1 p o2 o5 (eyeC qs.2) z [.sl 1 qg.1.length (qg.1.map byteV) .any, .v (.int .i64 (iconv .i64 (qe.1 : Int))), .v (.int .i64 qs.1), .v (.slice none 0 0), .v (.bool false), .v (.int .u64 0), .v (.slice none 0 0), .v (.slice none 0 0), .v (.slice none 0 0), .v (.slice none 0 0)] → _) => k _ _ (by simp only [upd, g4, nEQ, ↓reduceIte]) (by simp only [upd, g2, nEQ, ↓reduceIte]) (by simp only [upd, nEQ, ↓reduceIte]) J) ?_
    clear J g4 g2 E
    intro E s1 g4 g2 g5 J
    refine awp_seq_k ?_
    intro K2 hK2
    have h2 : ∀ (E : Env) (s1 : AS) (x : AV), E 4 = .ptr p 0 → E 2 = .ptr o2 0 → E 5 = .ptr o5 0 → RBuf 5 (s.set p (eyeC (b, 0))) s1 x qp.1.length (rowC PropV.cells qp.1) → RdS (s.set p (eyeC (b, 0))) s1 p o2 o5 (eyeC qp.2) z [.sl 1 qg.1.length (qg.1.map byteV) .any, .v (.int .i64 (iconv .i64 (qe.1 : Int))), .v (.int .i64 qs.1), x, .v (.bool false), .v (.int .u64 0), .v (.slice none 0 0), .v (.slice none 0 0), .v (.slice none 0 0), .v (.slice none 0 0)] → K2 E s1 := by
      clear J g4 g2 g5 E s1
      intro E s1 x g4 g2 g5 hx J
      refine hK2 _ _ ?_
      clear hK2 K2
      refine awp_tells (AS.tells_obj (cs' := [.sl 1 qg.1.length (qg.1.map byteV) .any, .v (.int .i64 (iconv .i64 (qe.1 : Int))), .v (.int .i64 qs.1), .sl 5 qp.1.length (rowC PropV.cells qp.1) .any, .v (.bool false), .v (.int .u64 0), .v (.slice none 0 0), .v (.slice none 0 0), .v (.slice none 0 0), .v (.slice none 0 0)]) J.var (.cons (AV.weak.refl _) (.cons (AV.weak.refl _) (.cons (AV.weak.refl _) (.cons hx.weak (AVs.weak.refl _)))))) ?_
      replace J := J.setVar [.sl 1 qg.1.length (qg.1.map byteV) .any, .v (.int .i64 (iconv .i64 (qe.1 : Int))), .v (.int .i64 qs.1), .sl 5 qp.1.length (rowC PropV.cells qp.1) .any, .v (.bool false), .v (.int .u64 0), .v (.slice none 0 0), .v (.slice none 0 0), .v (.slice none 0 0), .v (.slice none 0 0)]
      generalize s1.set o5 [.sl 1 qg.1.length (qg.1.map byteV) .any, .v (.int .i64 (iconv .i64 (qe.1 : Int))), .v (.int .i64 qs.1), .sl 5 qp.1.length (rowC PropV.cells qp.1) .any, .v (.bool false), .v (.int .u64 0), .v (.slice none 0 0), .v (.slice none 0 0), .v (.slice none 0 0), .v (.slice none 0 0)] = s1 at *
      clear hx x
      refine awp_seq_k ?_
      intro K3 hK3
      have h3 : ∀ (E : Env) (s1 : AS) (c1 c2 c3 : AV), AVs.weak [c1, c2, c3] qa.1.cells → E 4 = .ptr p 0 → E 2 = .ptr o2 0 → E 5 = .ptr o5 0 → RdS (s.set p (eyeC (b, 0))) s1 p o2 o5 (eyeC qa.2) z [.sl 1 qg.1.length (qg.1.map byteV) .any, .v (.int .i64 (iconv .i64 (qe.1 : Int))), .v (.int .i64 qs.1), .sl 5 qp.1.length (rowC PropV.cells qp.1) .any, .v (.bool (decide (qh.1 = 1))), c1, c2, c3, .v (.slice none 0 0), .v (.slice none 0 0)] → K3 E s1 := by
        clear J g4 g2 g5 E s1
        intro E s1 c1 c2 c3 hw g4 g2 g5 J
        refine hK3 _ _ ?_
        clear hK3 K3
        refine awp_tells (AS.tells_obj (cs' := [.sl 1 qg.1.length (qg.1.map byteV) .any, .v (.int .i64 (iconv .i64 (qe.1 : Int))), .v (.int .i64 qs.1), .sl 5 qp.1.length (rowC PropV.cells qp.1) .any, .v (.bool (decide (qh.1 = 1))), .v (.int .u64 qa.1.key), .sl 1 qa.1.parent.length (qa.1.parent.map byteV) .any, .sl 2 qa.1.steps.length (rowC StepV.cells qa.1.steps) .any, .v (.slice none 0 0), .v (.slice none 0 0)]) J.var (.cons (AV.weak.refl _) (.cons (AV.weak.refl _) (.cons (AV.weak.refl _) (.cons (AV.weak.refl _) (.cons (AV.weak.refl _) (AVs.weak.append (a := [c1, c2, c3]) (c := qa.1.cells) hw (AVs.weak.refl [.v (.slice none 0 0), .v (.slice none 0 0)])))))))) ?_
        replace J := J.setVar [.sl 1 qg.1.length (qg.1.map byteV) .any, .v (.int .i64 (iconv .i64 (qe.1 : Int))), .v (.int .i64 qs.1), .sl 5 qp.1.length (rowC PropV.cells qp.1) .any, .v (.bool (decide (qh.1 = 1))), .v (.int .u64 qa.1.key), .sl 1 qa.1.parent.length (qa.1.parent.map byteV) .any, .sl 2 qa.1.steps.length (rowC StepV.cells qa.1.steps) .any, .v (.slice none 0 0), .v (.slice none 0 0)]
        generalize s1.set o5 [.sl 1 qg.1.length (qg.1.map byteV) .any, .v (.int .i64 (iconv .i64 (qe.1 : Int))), .v (.int .i64 qs.1), .sl 5 qp.1.length (rowC PropV.cells qp.1) .any, .v (.bool (decide (qh.1 = 1))), .v (.int .u64 qa.1.key), .sl 1 qa.1.parent.length (qa.1.parent.map byteV) .any, .sl 2 qa.1.steps.length (rowC StepV.cells qa.1.steps) .any, .v (.slice none 0 0), .v (.slice none 0 0)] = s1 at *
        clear hw c1 c2 c3
        have jv := J.var
        have jp := J.p3
        have jp2 := J.p3.symm
        refine awp_reg_seq ?_
        intro K hK
        simp only [↓DN, UP, DF, qSh, qCv, qIA, qIx, qSl, qBu, qCe, qOn, reduceCtorEq, ↓reduceIte, nLT, nLE, nEQ, nAdd, nMul, nPow, nSub, zLT, zLE, zNat, RMsg1822, g4]
        refine acallk (eyeShort_set _ p _ 32 (by have := la; omega) J.eye) ?_
        rintro r s2 ⟨rfl, rfl⟩
        rw [← ec]
        simp only [↓AXq_nil, ↓AXq_cons, pval, DX, Nat.reduceBEq, ↓DN, UP, DF, qSh, qCv, qIA, qIx, qSl, qBu, qCe, qOn, reduceCtorEq, ↓reduceIte, nLT, nLE, nEQ, nAdd, nMul, nPow, nSub, zLT, zLE, zNat, RMsg1822, g4]
        refine acallk (eyeShort_set _ p _ 32 (by have := lc; omega) (AS.set_objs_same _ _ _)) ?_
        rintro r s2 ⟨rfl, rfl⟩
        rw [← em]
        simp only [↓AXq_nil, ↓AXq_cons, pval, DX, Nat.reduceBEq, ↓DN, UP, DF, qSh, qCv, qIA, qIx, qSl, qBu, qCe, qOn, reduceCtorEq, ↓reduceIte, nLT, nLE, nEQ, nAdd, nMul, nPow, nSub, zLT, zLE, zNat, RMsg1822, g5, jv, jp, jp2]
        refine hK _ _ ?_
        clear hK K
        have J2 := (J.setEye (eyeC qm.2)).setVar [.sl 1 qg.1.length (qg.1.map byteV) .any, .v (.int .i64 (iconv .i64 (qe.1 : Int))), .v (.int .i64 qs.1), .sl 5 qp.1.length (rowC PropV.cells qp.1) .any, .v (.bool (decide (qh.1 = 1))), .v (.int .u64 qa.1.key), .sl 1 qa.1.parent.length (qa.1.parent.map byteV) .any, .sl 2 qa.1.steps.length (rowC StepV.cells qa.1.steps) .any, .sl 1 qc.1.length (qc.1.map byteV) .any, .sl 1 qm.1.length (qm.1.map byteV) .any]
        clear J jv jp jp2
        generalize (s1.set p (eyeC qm.2)).set o5 [.sl 1 qg.1.length (qg.1.map byteV) .any, .v (.int .i64 (iconv .i64 (qe.1 : Int))), .v (.int .i64 qs.1), .sl 5 qp.1.length (rowC PropV.cells qp.1) .any, .v (.bool (decide (qh.1 = 1))), .v (.int .u64 qa.1.key), .sl 1 qa.1.parent.length (qa.1.parent.map byteV) .any, .sl 2 qa.1.steps.length (rowC StepV.cells qa.1.steps) .any, .sl 1 qc.1.length (qc.1.map byteV) .any, .sl 1 qm.1.length (qm.1.map byteV) .any] = s2 at *
        have jv := J2.var
        have jr := J2.res
        have jd := J2.d
        have jd2 := J2.d.symm
        rw [hz] at jr
        have hout : ∀ (c : List AV), s.le (s2.set o2 c) := by
          intro c
          have := (J2.setRes c).le
          rwa [AS.drop_set hp0] at this
        refine awp_seq_k ?_
        intro K4 hK4
        refine awp_reg_seq ?_
        intro K hK
        simp only [↓DN, UP, DF, qSh, qCv, qIA, qIx, qSl, qBu, qCe, qOn, reduceCtorEq, ↓reduceIte, nLT, nLE, nEQ, nAdd, nMul, nPow, nSub, zLT, zLE, zNat, RMsg1822, g4]
        refine acallk (eyeEnd_at _ p _ J2.eye) ?_
        rintro r s3 ⟨rfl, rfl⟩
        simp only [↓AXq_nil, ↓AXq_cons, pval, DX, Nat.reduceBEq, ↓DN, UP, DF, qSh, qCv, qIA, qIx, qSl, qBu, qCe, qOn, reduceCtorEq, ↓reduceIte, nLT, nLE, nEQ, nAdd, nMul, nPow, nSub, zLT, zLE, zNat, RMsg1822]
        refine hK _ _ ?_
        clear hK K
        by_cases he : eyeEnd qm.2 = 0
        · refine awp_reg_seq ?_
          intro K hK
          simp only [↓DN, UP, DF, qSh, qCv, qIA, qIx, qSl, qBu, qCe, qOn, reduceCtorEq, ↓reduceIte, nLT, nLE, nEQ, nAdd, nMul, nPow, nSub, zLT, zLE, zNat, RMsg1822, he, i64_ne_false 0 rfl]
          refine hK _ _ ?_
          clear hK K
          refine awp_cond_k ?_
          intro X Y hX hY
          simp only [↓DN, UP, DF, qSh, qCv, qIA, qIx, qSl, qBu, qCe, qOn, reduceCtorEq, ↓reduceIte, nLT, nLE, nEQ, nAdd, nMul, nPow, nSub, zLT, zLE, zNat, RMsg1822, DB]
          refine hY ?_
          clear hX hY X Y
          refine awp_skip ?_
          refine hK4 _ _ ?_
          clear hK4 K4
          refine awp_seq_k ?_
          intro K6 hK6
          refine awp_reg_seq ?_
          intro K hK
          simp only [↓DN, UP, DF, qSh, qCv, qIA, qIx, qSl, qBu, qCe, qOn, reduceCtorEq, ↓reduceIte, nLT, nLE, nEQ, nAdd, nMul, nPow, nSub, zLT, zLE, zNat, RMsg1822, g5, jv]
          refine acallk (mright_calls ⟨qg.1, iconv .i64 (qe.1 : Int), qs.1, qp.1, decide (qh.1 = 1), qa.1, qc.1, qm.1⟩ (fits_of_wf hwf) _) ?_
          rintro r s4 ⟨rfl, rfl⟩
          by_cases hr : CommitV.right ⟨qg.1, iconv .i64 (qe.1 : Int), qs.1, qp.1, decide (qh.1 = 1), qa.1, qc.1, qm.1⟩
          · rw [decide_eq_true hr]
            simp only [↓AXq_nil, ↓AXq_cons, pval, DX, Nat.reduceBEq, ↓DN, UP, DF, qSh, qCv, qIA, qIx, qSl, qBu, qCe, qOn, reduceCtorEq, ↓reduceIte, nLT, nLE, nEQ, nAdd, nMul, nPow, nSub, zLT, zLE, zNat, RMsg1822]
            refine hK _ _ ?_
            clear hK K
            refine awp_cond_k ?_
            intro X Y hX hY
            simp only [↓DN, UP, DF, qSh, qCv, qIA, qIx, qSl, qBu, qCe, qOn, reduceCtorEq, ↓reduceIte, nLT, nLE, nEQ, nAdd, nMul, nPow, nSub, zLT, zLE, zNat, RMsg1822, DB]
            refine hY ?_
            clear hX hY X Y
            refine awp_skip ?_
            refine hK6 _ _ ?_
            clear hK6 K6
            refine awp_reg_seq ?_
            intro K hK
            simp only [↓DN, UP, DF, qSh, qCv, qIA, qIx, qSl, qBu, qCe, qOn, reduceCtorEq, ↓reduceIte, nLT, nLE, nEQ, nAdd, nMul, nPow, nSub, zLT, zLE, zNat, RMsg1822, g5, g2, jv, jr, jd, jd2]
            refine hK _ _ ?_
            clear hK K
            refine awp_ret ?_
            refine aends_cell_tmp (o := o2) (off := 0) (by simp only [upd, g2, nEQ, ↓reduceIte]) (AS.set_objs_same _ _ _) (by rw [T.c47]; decide) (by simp only [↓DN, UP, DF, qSh, qCv, qIA, qIx, qSl, qBu, qCe, qOn, reduceCtorEq, ↓reduceIte, nLT, nLE, nEQ, nAdd, nMul, nPow, nSub, zLT, zLE, zNat, RMsg1822]; rfl) ?_
            rw [show mRead b = (⟨qg.1, iconv .i64 (qe.1 : Int), qs.1, qp.1, decide (qh.1 = 1), qa.1, qc.1, qm.1⟩, 0) from by unfold mRead; rw [hrr]; exact (if_pos he).trans (if_pos hr)]
            exact ⟨_, s, AV.weak.refl _, hout _, rfl, rfl⟩
          · rw [decide_eq_false hr]
            simp only [↓AXq_nil, ↓AXq_cons, pval, DX, Nat.reduceBEq, ↓DN, UP, DF, qSh, qCv, qIA, qIx, qSl, qBu, qCe, qOn, reduceCtorEq, ↓reduceIte, nLT, nLE, nEQ, nAdd, nMul, nPow, nSub, zLT, zLE, zNat, RMsg1822]
            refine hK _ _ ?_
            clear hK K
            refine awp_cond_k ?_
            intro X Y hX hY
            simp only [↓DN, UP, DF, qSh, qCv, qIA, qIx, qSl, qBu, qCe, qOn, reduceCtorEq, ↓reduceIte, nLT, nLE, nEQ, nAdd, nMul, nPow, nSub, zLT, zLE, zNat, RMsg1822, DB]
            refine hX ?_
            clear hX hY X Y
            refine awp_reg_seq ?_
            intro K hK
            simp only [↓DN, UP, DF, qSh, qCv, qIA, qIx, qSl, qBu, qCe, qOn, reduceCtorEq, ↓reduceIte, nLT, nLE, nEQ, nAdd, nMul, nPow, nSub, zLT, zLE, zNat, RMsg1822, g2, jr]
            refine hK _ _ ?_
            clear hK K
            refine awp_ret ?_
            try simp only [thenQ, blockQ]
            refine aends_cell_tmp (o := o2) (off := 0) (by simp only [upd, g2, nEQ, ↓reduceIte]) (AS.set_objs_same _ _ _) (by rw [T.c47]; decide) (by simp only [↓DN, UP, DF, qSh, qCv, qIA, qIx, qSl, qBu, qCe, qOn, reduceCtorEq, ↓reduceIte, nLT, nLE, nEQ, nAdd, nMul, nPow, nSub, zLT, zLE, zNat, RMsg1822]; rfl) ?_
            rw [show mRead b = (noCommit, 12) from by unfold mRead; rw [hrr]; exact (if_pos he).trans (if_neg hr)]
            exact ⟨_, s, AV.weak_tup2 noCommit_weak (AV.weak.refl _), hout _, rfl, rfl⟩
        · refine awp_reg_seq ?_
          intro K hK
          simp only [↓DN, UP, DF, qSh, qCv, qIA, qIx, qSl, qBu, qCe, qOn, reduceCtorEq, ↓reduceIte, nLT, nLE, nEQ, nAdd, nMul, nPow, nSub, zLT, zLE, zNat, RMsg1822, i64_ne_true _ he]
          refine hK _ _ ?_
          clear hK K
          refine awp_cond_k ?_
          intro X Y hX hY
          simp only [↓DN, UP, DF, qSh, qCv, qIA, qIx, qSl, qBu, qCe, qOn, reduceCtorEq, ↓reduceIte, nLT, nLE, nEQ, nAdd, nMul, nPow, nSub, zLT, zLE, zNat, RMsg1822, DB]
          refine hX ?_
          clear hX hY X Y
          refine awp_reg_seq ?_
          intro K hK
          simp only [↓DN, UP, DF, qSh, qCv, qIA, qIx, qSl, qBu, qCe, qOn, reduceCtorEq, ↓reduceIte, nLT, nLE, nEQ, nAdd, nMul, nPow, nSub, zLT, zLE, zNat, RMsg1822, g2, jr]
          refine hK _ _ ?_
          clear hK K
          refine awp_ret ?_
          try simp only [thenQ, blockQ]
          refine aends_cell_tmp (o := o2) (off := 0) (by simp only [upd, g2, nEQ, ↓reduceIte]) (AS.set_objs_same _ _ _) (by rw [T.c47]; decide) (by simp only [↓DN, UP, DF, qSh, qCv, qIA, qIx, qSl, qBu, qCe, qOn, reduceCtorEq, ↓reduceIte, nLT, nLE, nEQ, nAdd, nMul, nPow, nSub, zLT, zLE, zNat, RMsg1822]; rfl) ?_
          rw [show mRead b = (noCommit, eyeEnd qm.2) from by unfold mRead; rw [hrr]; exact if_neg he]
          exact ⟨_, s, AV.weak_tup2 noCommit_weak (AV.weak.refl _), hout _, rfl, rfl⟩
      clear hK3
      have jv := J.var
      have jp := J.p3
      have jp2 := J.p3.symm
      refine awp_reg_seq ?_
      intro K hK
      simp only [↓DN, UP, DF, qSh, qCv, qIA, qIx, qSl, qBu, qCe, qOn, reduceCtorEq, ↓reduceIte, nLT, nLE, nEQ, nAdd, nMul, nPow, nSub, zLT, zLE, zNat, RMsg1822, g4]
      refine acallk (count_calls _ p _ 1 J.eye) ?_
      rintro r s2 ⟨rfl, rfl⟩
      rw [← eh]
      simp only [↓AXq_nil, ↓AXq_cons, pval, DX, Nat.reduceBEq, ↓DN, UP, DF, qSh, qCv, qIA, qIx, qSl, qBu, qCe, qOn, reduceCtorEq, ↓reduceIte, nLT, nLE, nEQ, nAdd, nMul, nPow, nSub, zLT, zLE, zNat, RMsg1822, g5, jv, jp, jp2, eqOne]
      refine hK _ _ ?_
      clear hK K
      have J2 := (J.setEye (eyeC qh.2)).setVar [.sl 1 qg.1.length (qg.1.map byteV) .any, .v (.int .i64 (iconv .i64 (qe.1 : Int))), .v (.int .i64 qs.1), .sl 5 qp.1.length (rowC PropV.cells qp.1) .any, .v (.bool (decide (qh.1 = 1))), .v (.int .u64 0), .v (.slice none 0 0), .v (.slice none 0 0), .v (.slice none 0 0), .v (.slice none 0 0)]
      clear J jv
      generalize (s1.set p (eyeC qh.2)).set o5 [.sl 1 qg.1.length (qg.1.map byteV) .any, .v (.int .i64 (iconv .i64 (qe.1 : Int))), .v (.int .i64 qs.1), .sl 5 qp.1.length (rowC PropV.cells qp.1) .any, .v (.bool (decide (qh.1 = 1))), .v (.int .u64 0), .v (.slice none 0 0), .v (.slice none 0 0), .v (.slice none 0 0), .v (.slice none 0 0)] = s2 at *
      have jv := J2.var
      by_cases hk : qh.1 = 1
      · have hqa : qa = pathR qh.2 := by rw [ea]; exact if_pos hk
        refine awp_reg_seq ?_
        intro K hK
        simp only [↓DN, UP, DF, qSh, qCv, qIA, qIx, qSl, qBu, qCe, qOn, reduceCtorEq, ↓reduceIte, nLT, nLE, nEQ, nAdd, nMul, nPow, nSub, zLT, zLE, zNat, RMsg1822, g5, jv, decide_eq_true hk]
        refine hK _ _ ?_
        clear hK K
        refine awp_cond_k ?_
        intro X Y hX hY
        simp only [↓DN, UP, DF, qSh, qCv, qIA, qIx, qSl, qBu, qCe, qOn, reduceCtorEq, ↓reduceIte, nLT, nLE, nEQ, nAdd, nMul, nPow, nSub, zLT, zLE, zNat, RMsg1822, DB]
        refine hX ?_
        clear hX hY X Y
        refine awp_reg_end ?_
        intro K hK
        simp only [↓DN, UP, DF, qSh, qCv, qIA, qIx, qSl, qBu, qCe, qOn, reduceCtorEq, ↓reduceIte, nLT, nLE, nEQ, nAdd, nMul, nPow, nSub, zLT, zLE, zNat, RMsg1822, g4]
        refine acallk (pathRead_calls _ p _ lh J2.eye) ?_
        rintro r s3 ⟨rfl, rfl⟩
        rw [← hqa]
        simp only [↓AXq_nil, ↓AXq_cons, pval, DX, Nat.reduceBEq, ↓DN, UP, DF, qSh, qCv, qIA, qIx, qSl, qBu, qCe, qOn, reduceCtorEq, ↓reduceIte, nLT, nLE, nEQ, nAdd, nMul, nPow, nSub, zLT, zLE, zNat, RMsg1822, g5, jv, jp, jp2, PathV.cells]
        refine hK _ _ ?_
        refine h3 _ _ _ _ _ (AVs.weak.refl qa.1.cells) (by simp only [upd, g4, nEQ, ↓reduceIte]) (by simp only [upd, g2, nEQ, ↓reduceIte]) (by simp only [upd, g5, nEQ, ↓reduceIte]) ?_
        exact (J2.setEye (eyeC qa.2)).setVar _
      · have hqa : qa = (noPath, qh.2) := by rw [ea]; exact if_neg hk
        refine awp_reg_seq ?_
        intro K hK
        simp only [↓DN, UP, DF, qSh, qCv, qIA, qIx, qSl, qBu, qCe, qOn, reduceCtorEq, ↓reduceIte, nLT, nLE, nEQ, nAdd, nMul, nPow, nSub, zLT, zLE, zNat, RMsg1822, g5, jv, decide_eq_false hk]
        refine hK _ _ ?_
        clear hK K
        refine awp_cond_k ?_
        intro X Y hX hY
        simp only [↓DN, UP, DF, qSh, qCv, qIA, qIx, qSl, qBu, qCe, qOn, reduceCtorEq, ↓reduceIte, nLT, nLE, nEQ, nAdd, nMul, nPow, nSub, zLT, zLE, zNat, RMsg1822, DB]
        refine hY ?_
        clear hX hY X Y
        refine awp_skip ?_
        refine h3 _ _ _ _ _ ?_ (by simp only [upd, g4, nEQ, ↓reduceIte]) (by simp only [upd, g2, nEQ, ↓reduceIte]) (by simp only [upd, g5, nEQ, ↓reduceIte]) (?_ : RdS _ _ _ _ _ _ _ [.sl 1 qg.1.length (qg.1.map byteV) .any, .v (.int .i64 (iconv .i64 (qe.1 : Int))), .v (.int .i64 qs.1), .sl 5 qp.1.length (rowC PropV.cells qp.1) .any, .v (.bool (decide (qh.1 = 1))), .v (.int .u64 0), .v (.slice none 0 0), .v (.slice none 0 0), .v (.slice none 0 0), .v (.slice none 0 0)])
        · rw [hqa]
          exact .cons (AV.weak.refl _) (.cons AV.weak_nil (.cons AV.weak_nil .nil))
        · rw [hqa]
          exact J2
    clear hK2
    refine awp_reg_seq ?_
    intro K hK
    simp only [↓DN, UP, DF, qSh, qCv, qIA, qIx, qSl, qBu, qCe, qOn, reduceCtorEq, ↓reduceIte, nLT, nLE, nEQ, nAdd, nMul, nPow, nSub, zLT, zLE, zNat, RMsg1822, g4]
    refine acallk (count_calls _ p _ 16 J.eye) ?_
    rintro r s2 ⟨rfl, rfl⟩
    rw [← en]
    have J2 := J.setEye (eyeC qn.2)
    clear J
    generalize s1.set p (eyeC qn.2) = s2 at *
    simp only [↓AXq_nil, ↓AXq_cons, pval, DX, Nat.reduceBEq, ↓DN, UP, DF, qSh, qCv, qIA, qIx, qSl, qBu, qCe, qOn, reduceCtorEq, ↓reduceIte, nLT, nLE, nEQ, nAdd, nMul, nPow, nSub, zLT, zLE, zNat, RMsg1822]
    refine hK _ _ ?_
    clear hK K
    refine awp_block ?_
    refine awp_loop (fun E s2 => ∃ (i : Nat) (x : AV), i ≤ qn.1 ∧ E 25 = .v (.int .i64 i) ∧ E 24 = .v (.int .i64 qn.1) ∧ E 4 = .ptr p 0 ∧ E 2 = .ptr o2 0 ∧ E 5 = .ptr o5 0 ∧ RBuf 5 (s.set p (eyeC (b, 0))) s2 x (propsR i qn.2).1.length (rowC PropV.cells (propsR i qn.2).1) ∧
        RdS (s.set p (eyeC (b, 0))) s2 p o2 o5 (eyeC (propsR i qn.2).2) z [.sl 1 qg.1.length (qg.1.map byteV) .any, .v (.int .i64 (iconv .i64 (qe.1 : Int))), .v (.int .i64 qs.1), x, .v (.bool false), .v (.int .u64 0), .v (.slice none 0 0), .v (.slice none 0 0), .v (.slice none 0 0), .v (.slice none 0 0)])
      (fun E _ => match E 25 with | .v (.int _ i) => qn.1 - i.toNat | _ => 0) ?_ ?_
    · exact ⟨0, _, Nat.zero_le _, by simp only [upd, ↓reduceIte]; rfl, by simp only [upd, nEQ, ↓reduceIte], by simp only [upd, g4, nEQ, ↓reduceIte], by simp only [upd, g2, nEQ, ↓reduceIte], by simp only [upd, g5, nEQ, ↓reduceIte], RBuf.nil _ _ _, J2⟩
    · clear J2 g4 g2 g5 s2
      rintro E1 s4 ⟨i, x, hi, g25, g24, g4, g2, g5, hx, J⟩ -
      by_cases hi' : i < qn.1
      · refine awp_reg_seq ?_
        intro K hK
        simp only [↓DN, UP, DF, qSh, qCv, qIA, qIx, qSl, qBu, qCe, qOn, reduceCtorEq, ↓reduceIte, nLT, nLE, nEQ, nAdd, nMul, nPow, nSub, zLT, zLE, zNat, RMsg1822, g25, g24, eye_lt_nat, decide_eq_true hi']
        refine hK _ _ ?_
        clear hK K
        refine awp_seq_k ?_
        intro K7 hK7
        refine awp_cond_k ?_
        intro X Y hX hY
        simp only [↓DN, UP, DF, qSh, qCv, qIA, qIx, qSl, qBu, qCe, qOn, reduceCtorEq, ↓reduceIte, nLT, nLE, nEQ, nAdd, nMul, nPow, nSub, zLT, zLE, zNat, RMsg1822, DB]
        refine hX ?_
        clear hX hY X Y
        refine awp_skip ?_
        refine hK7 _ _ ?_
        clear hK7 K7
        refine awp_seq_k ?_
        intro K7 hK7
        refine awp_block ?_
        have hnext : ∀ (E2 : Env) (s5 : AS) (x2 : AV), E2 25 = .v (.int .i64 i) → E2 24 = .v (.int .i64 qn.1) → E2 4 = .ptr p 0 → E2 2 = .ptr o2 0 → E2 5 = .ptr o5 0 → RBuf 5 (s.set p (eyeC (b, 0))) s5 x2 (propsR (i + 1) qn.2).1.length (rowC PropV.cells (propsR (i + 1) qn.2).1) →
            RdS (s.set p (eyeC (b, 0))) s5 p o2 o5 (eyeC (propsR (i + 1) qn.2).2) z [.sl 1 qg.1.length (qg.1.map byteV) .any, .v (.int .i64 (iconv .i64 (qe.1 : Int))), .v (.int .i64 qs.1), x2, .v (.bool false), .v (.int .u64 0), .v (.slice none 0 0), .v (.slice none 0 0), .v (.slice none 0 0), .v (.slice none 0 0)] → K7 E2 s5 := by
          intro E2 s5 x2 f25 f24 f4 f2 f5 fx fJ
          refine hK7 _ _ ?_
          clear hK7 K7
          refine awp_reg_end ?_
          intro K hK
          simp only [↓DN, UP, DF, qSh, qCv, qIA, qIx, qSl, qBu, qCe, qOn, reduceCtorEq, ↓reduceIte, nLT, nLE, nEQ, nAdd, nMul, nPow, nSub, zLT, zLE, zNat, RMsg1822, f25, eye_succ i (by omega)]
          refine hK _ _ ?_
          clear hK K
          refine ⟨⟨i + 1, x2, by omega, by simp only [upd, ↓reduceIte], by simp only [upd, f24, nEQ, ↓reduceIte], by simp only [upd, f4, nEQ, ↓reduceIte], by simp only [upd, f2, nEQ, ↓reduceIte], by simp only [upd, f5, nEQ, ↓reduceIte], fx, fJ⟩, ?_⟩
          simp only [g25, upd, ↓reduceIte]
          omega
        clear hK7
        have li : (propsR i qn.2).2.1.length ≤ 2 ^ 44 := Nat.le_trans (propsR_left _ _) ln
        have hrow1 : (propsR (i + 1) qn.2) = (if (propR (propsR i qn.2).2).2.2 = 0 then (propsR i qn.2).1 ++ [(propR (propsR i qn.2).2).1] else (propsR i qn.2).1, (propR (propsR i qn.2).2).2) := rfl
        rw [hrow1] at hnext
        have hLl : (propsR i qn.2).1.length ≤ i := propsR_len _ _
        generalize (propsR i qn.2).1 = L at *
        generalize (propsR i qn.2).2 = sti at *
        simp only at hnext
        clear hrow1
        refine awp_reg_seq ?_
        intro K hK
        simp only [↓DN, UP, DF, qSh, qCv, qIA, qIx, qSl, qBu, qCe, qOn, reduceCtorEq, ↓reduceIte, nLT, nLE, nEQ, nAdd, nMul, nPow, nSub, zLT, zLE, zNat, RMsg1822, g4]
        refine acallk (readProp_calls _ p sti li J.eye) ?_
        rintro r s5 ⟨rfl, rfl⟩
        obtain ⟨qr, er⟩ : ∃ q, q = propR sti := ⟨_, rfl⟩
        rw [← er] at hnext ⊢
        clear er
        obtain ⟨⟨rk, rl, rn, ry, ri⟩, rst⟩ := qr
        simp only at hnext ⊢
        simp only [PropV.cells]
        have J5 := J.setEye (eyeC rst)
        have hx5 : RBuf 5 (s.set p (eyeC (b, 0))) (s4.set p (eyeC rst)) x L.length (rowC PropV.cells L) := hx
        clear J hx
        generalize s4.set p (eyeC rst) = s5 at *
        simp only [↓AXq_nil, ↓AXq_cons, pval, DX, Nat.reduceBEq, ↓DN, UP, DF, qSh, qCv, qIA, qIx, qSl, qBu, qCe, qOn, reduceCtorEq, ↓reduceIte, nLT, nLE, nEQ, nAdd, nMul, nPow, nSub, zLT, zLE, zNat, RMsg1822]
        intro o6 ho6
        have J6 := J5.setNew ho6 [.v (.int .i64 rk), .v (.int .i64 rl), .sl 1 rn.length (rn.map byteV) .any, .v (.int .u64 ry), .v (.int .u64 ri)]
        have hx6 : RBuf 5 (s.set p (eyeC (b, 0))) (s5.set o6 [.v (.int .i64 rk), .v (.int .i64 rl), .sl 1 rn.length (rn.map byteV) .any, .v (.int .u64 ry), .v (.int .u64 ri)]) x L.length (rowC PropV.cells L) := hx5
        clear J5 hx5
        refine hK _ _ ?_
        clear hK K
        generalize s5.set o6 [.v (.int .i64 rk), .v (.int .i64 rl), .sl 1 rn.length (rn.map byteV) .any, .v (.int .u64 ry), .v (.int .u64 ri)] = s6 at *
        refine awp_reg_seq ?_
        intro K hK
        simp only [↓DN, UP, DF, qSh, qCv, qIA, qIx, qSl, qBu, qCe, qOn, reduceCtorEq, ↓reduceIte, nLT, nLE, nEQ, nAdd, nMul, nPow, nSub, zLT, zLE, zNat, RMsg1822, g4]
        refine acallk (eyeErr_at _ p _ J6.rd.eye) ?_
        rintro r s7 ⟨rfl, rfl⟩
        have jv := J6.rd.var
        have jo := J6.obj
        have jd3 := J6.d3
        have jd3' := J6.d3.symm
        by_cases he : rst.2 = 0
        · rw [if_pos he] at hnext
          rw [he]
          simp only [↓AXq_nil, ↓AXq_cons, pval, DX, Nat.reduceBEq, ↓DN, UP, DF, qSh, qCv, qIA, qIx, qSl, qBu, qCe, qOn, reduceCtorEq, ↓reduceIte, nLT, nLE, nEQ, nAdd, nMul, nPow, nSub, zLT, zLE, zNat, RMsg1822, i64_eq_true 0 rfl]
          refine hK _ _ ?_
          clear hK K
          refine awp_cond_k ?_
          intro X Y hX hY
          simp only [↓DN, UP, DF, qSh, qCv, qIA, qIx, qSl, qBu, qCe, qOn, reduceCtorEq, ↓reduceIte, nLT, nLE, nEQ, nAdd, nMul, nPow, nSub, zLT, zLE, zNat, RMsg1822, DB]
          refine hX ?_
          clear hX hY X Y
          have hsn : rowC PropV.cells (L ++ [(⟨rk, rl, rn, ry, ri⟩ : PropV)]) = rowC PropV.cells L ++ [.v (.int .i64 rk), .v (.int .i64 rl), .sl 1 rn.length (rn.map byteV) .any, .v (.int .u64 ry), .v (.int .u64 ri)] := row_snoc _ _
          have hln : (L ++ [(⟨rk, rl, rn, ry, ri⟩ : PropV)]).length = L.length + 1 := by simp
          rw [hsn, hln] at hnext
          rcases hx6 with ⟨rfl, hi0, hL0⟩ | ⟨t, e, rfl, ht, ht0⟩
          · refine awp_reg_end ?_
            intro K hK
            simp only [↓DN, UP, DF, qSh, qCv, qIA, qIx, qSl, qBu, qCe, qOn, reduceCtorEq, ↓reduceIte, nLT, nLE, nEQ, nAdd, nMul, nPow, nSub, zLT, zLE, zNat, RMsg1822, g5, jv, jo, jd3, jd3', nilS, zrow_five]
            intro t ht
            have ht0 := J6.rd.own_none ht
            rw [hi0, hL0] at hnext
            refine hK _ _ (hnext _ _ (.sl 5 1 ([.v (.int .i64 rk), .v (.int .i64 rl), .sl 1 rn.length (rn.map byteV) .any, .v (.int .u64 ry), .v (.int .u64 ri)]) (.own t 0)) (by simp only [upd, g25, nEQ, ↓reduceIte]) (by simp only [upd, g24, nEQ, ↓reduceIte]) (by simp only [upd, g4, nEQ, ↓reduceIte]) (by simp only [upd, g2, nEQ, ↓reduceIte]) (by simp only [upd, g5, nEQ, ↓reduceIte]) (.inr ⟨t, 0, rfl, by simp [AS.set, AS.gain], ht0⟩) ((J6.rd.gain ht0 0).setVar _))
          · refine awp_reg_end ?_
            intro K hK
            simp only [↓DN, UP, DF, qSh, qCv, qIA, qIx, qSl, qBu, qCe, qOn, reduceCtorEq, ↓reduceIte, nLT, nLE, nEQ, nAdd, nMul, nPow, nSub, zLT, zLE, zNat, RMsg1822, g5, jv, jo, jd3, jd3', zrow_five, ht]
            refine ⟨by omega, by omega, ?_⟩
            refine hK _ _ (hnext _ _ (.sl 5 (L.length + 1) (rowC PropV.cells L ++ [.v (.int .i64 rk), .v (.int .i64 rl), .sl 1 rn.length (rn.map byteV) .any, .v (.int .u64 ry), .v (.int .u64 ri)]) (.own t (e + 1))) (by simp only [upd, g25, nEQ, ↓reduceIte]) (by simp only [upd, g24, nEQ, ↓reduceIte]) (by simp only [upd, g4, nEQ, ↓reduceIte]) (by simp only [upd, g2, nEQ, ↓reduceIte]) (by simp only [upd, g5, nEQ, ↓reduceIte]) (.inr ⟨t, e + 1, rfl, by simp [AS.set, AS.gain], ht0⟩) ((J6.rd.gain ht0 (e + 1)).setVar _))
        · rw [if_neg he] at hnext
          simp only [↓AXq_nil, ↓AXq_cons, pval, DX, Nat.reduceBEq, ↓DN, UP, DF, qSh, qCv, qIA, qIx, qSl, qBu, qCe, qOn, reduceCtorEq, ↓reduceIte, nLT, nLE, nEQ, nAdd, nMul, nPow, nSub, zLT, zLE, zNat, RMsg1822, i64_eq_false _ he]
          refine hK _ _ ?_
          clear hK K
          refine awp_cond_k ?_
          intro X Y hX hY
          simp only [↓DN, UP, DF, qSh, qCv, qIA, qIx, qSl, qBu, qCe, qOn, reduceCtorEq, ↓reduceIte, nLT, nLE, nEQ, nAdd, nMul, nPow, nSub, zLT, zLE, zNat, RMsg1822, DB]
          refine hY ?_
          clear hX hY X Y
          refine awp_skip ?_
          exact hnext _ _ _ (by simp only [upd, g25, nEQ, ↓reduceIte]) (by simp only [upd, g24, nEQ, ↓reduceIte]) (by simp only [upd, g4, nEQ, ↓reduceIte]) (by simp only [upd, g2, nEQ, ↓reduceIte]) (by simp only [upd, g5, nEQ, ↓reduceIte]) hx6 J6.rd
      · refine awp_reg_seq ?_
        intro K hK
        simp only [↓DN, UP, DF, qSh, qCv, qIA, qIx, qSl, qBu, qCe, qOn, reduceCtorEq, ↓reduceIte, nLT, nLE, nEQ, nAdd, nMul, nPow, nSub, zLT, zLE, zNat, RMsg1822, g25, g24, eye_lt_nat, decide_eq_false hi']
        refine hK _ _ ?_
        clear hK K
        refine awp_seq_k ?_
        intro K7 hK7
        refine awp_cond_k ?_
        intro X Y hX hY
        simp only [↓DN, UP, DF, qSh, qCv, qIA, qIx, qSl, qBu, qCe, qOn, reduceCtorEq, ↓reduceIte, nLT, nLE, nEQ, nAdd, nMul, nPow, nSub, zLT, zLE, zNat, RMsg1822, DB]
        refine hY ?_
        clear hX hY X Y
        refine awp_exit ?_
        simp only [thenQ, blockQ, if_true]
        obtain rfl : i = qn.1 := by omega
        rw [← ep] at hx J
        exact h2 _ _ _ (by simp only [upd, g4, nEQ, ↓reduceIte]) (by simp only [upd, g2, nEQ, ↓reduceIte]) (by simp only [upd, g5, nEQ, ↓reduceIte]) hx J
  clear hK1
  refine awp_reg_seq ?_
  intro K hK
  simp only [↓DN, UP, DF, qSh, qCv, qIA, qIx, qSl, qBu, qCe, qOn, reduceCtorEq, ↓reduceIte, nLT, nLE, nEQ, nAdd, nMul, nPow, nSub, zLT, zLE, zNat, RMsg1822]
  refine acallk (eyeU8_set _ p (b, 0) (AS.set_objs_same _ _ _)) ?_
  rintro r s1 ⟨rfl, rfl⟩
  by_cases hk : (eyeNum 1 (b, 0)).1 = 1
  · have hq : q0 = (eyeNum 1 (b, 0)).2 := by rw [e0]; exact if_pos hk
    rw [hq] at h1
    simp only [↓AXq_nil, ↓AXq_cons, pval, DX, Nat.reduceBEq, ↓DN, UP, DF, qSh, qCv, qIA, qIx, qSl, qBu, qCe, qOn, reduceCtorEq, ↓reduceIte, nLT, nLE, nEQ, nAdd, nMul, nPow, nSub, zLT, zLE, zNat, RMsg1822, eqI (show (((eyeNum 1 (b, 0)).1 : Nat) : Int) = 1 by omega)]
    refine hK _ _ ?_
    clear hK K
    refine awp_cond_k ?_
    intro X Y hX hY
    simp only [↓DN, UP, DF, qSh, qCv, qIA, qIx, qSl, qBu, qCe, qOn, reduceCtorEq, ↓reduceIte, nLT, nLE, nEQ, nAdd, nMul, nPow, nSub, zLT, zLE, zNat, RMsg1822, DB]
    refine hY ?_
    clear hX hY X Y
    refine awp_skip ?_
    exact h1 _ (by simp only [upd, nEQ, ↓reduceIte]) (by simp only [upd, nEQ, ↓reduceIte])
  · have hq : q0 = eFail 12 (eyeNum 1 (b, 0)).2 := by rw [e0]; exact if_neg hk
    rw [hq] at h1
    simp only [↓AXq_nil, ↓AXq_cons, pval, DX, Nat.reduceBEq, ↓DN, UP, DF, qSh, qCv, qIA, qIx, qSl, qBu, qCe, qOn, reduceCtorEq, ↓reduceIte, nLT, nLE, nEQ, nAdd, nMul, nPow, nSub, zLT, zLE, zNat, RMsg1822, neI (show ¬ (((eyeNum 1 (b, 0)).1 : Nat) : Int) = 1 by omega)]
    refine hK _ _ ?_
    clear hK K
    refine awp_cond_k ?_
    intro X Y hX hY
    simp only [↓DN, UP, DF, qSh, qCv, qIA, qIx, qSl, qBu, qCe, qOn, reduceCtorEq, ↓reduceIte, nLT, nLE, nEQ, nAdd, nMul, nPow, nSub, zLT, zLE, zNat, RMsg1822, DB]
    refine hX ?_
    clear hX hY X Y
    refine awp_reg_end ?_
    intro K hK
    simp only [↓DN, UP, DF, qSh, qCv, qIA, qIx, qSl, qBu, qCe, qOn, reduceCtorEq, ↓reduceIte, nLT, nLE, nEQ, nAdd, nMul, nPow, nSub, zLT, zLE, zNat, RMsg1822]
    refine acallk (eyeFail_set _ p _ 12 (AS.set_objs_same _ _ _)) ?_
    rintro r s2 ⟨rfl, rfl⟩
    simp only [↓AXq_nil, ↓AXq_cons, pval, DX, Nat.reduceBEq, ↓DN, UP, DF, qSh, qCv, qIA, qIx, qSl, qBu, qCe, qOn, reduceCtorEq, ↓reduceIte, nLT, nLE, nEQ, nAdd, nMul, nPow, nSub, zLT, zLE, zNat, RMsg1822]
    exact hK _ _ (h1 _ (by simp only [upd, nEQ, ↓reduceIte]) (by simp only [upd, nEQ, ↓reduceIte]))

end Go.Proofs.Ytcnilmidfhpckaa


