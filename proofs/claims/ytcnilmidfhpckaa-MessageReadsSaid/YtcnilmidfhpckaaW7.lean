/- Contracts of the program's functions, each walked once; the conditions stand in each theorem. -/
import Derived.Test.YtcnilmidfhpckaaW3
import Derived.Test.YtcnilmidfhpckaaAMp6
import Derived.Test.YtcnilmidfhpckaaW6
set_option linter.unusedSimpArgs false
set_option linter.unusedVariables false
open Nat renaming reduceLT → nLT, reduceLeDiff → nLE, reduceEqDiff → nEQ, reduceAdd → nAdd, reduceMul → nMul, reducePow → nPow, reduceSub → nSub
open Int renaming reduceLT → zLT, reduceLE → zLE, reduceToNat → zNat
open Go.AM renaming ashift → qSh, aconv → qCv, aindexAddr → qIA, aindex → qIx, aslice → qSl, abuiltin → qBu
open Go.AM.AV renaming cells → qCe, one → qOn
set_option autoImplicit false
namespace Go.AM
open Go

theorem some_neO {s : AS} {p o : Nat} {cs : List AV} (h : s.objs p = some cs) (k : s.objs o = none) : p ≠ o := by
  rintro rfl
  rw [h] at k
  cases k
theorem own_ne {s : AS} {t t' e : Nat} (h : s.own t = some e) (k : s.own t' = none) : t ≠ t' := by
  rintro rfl
  rw [h] at k
  cases k
/-- What an eye's reader knows of one more object. -/
structure Rd4 (s s1 : AS) (p o2 o3 o4 : Nat) (ce z cs ds : List AV) : Prop where
  rd : RdS s s1 p o2 o3 ce z cs
  obj : s1.objs o4 = some ds
  n4 : s.objs o4 = none
  p4 : p ≠ o4
  d2 : o2 ≠ o4
  d3 : o3 ≠ o4
theorem Rd4.setEye {s s1 : AS} {p o2 o3 o4 : Nat} {ce z cs ds : List AV} (h : Rd4 s s1 p o2 o3 o4 ce z cs ds) (ce' : List AV) : Rd4 s (s1.set p ce') p o2 o3 o4 ce' z cs ds :=
  ⟨h.rd.setEye ce', by rw [AS.set_objs_ne _ h.p4.symm]; exact h.obj, h.n4, h.p4, h.d2, h.d3⟩
theorem RdS.setNew {s s1 : AS} {p o2 o3 o4 : Nat} {ce z cs : List AV} (h : RdS s s1 p o2 o3 ce z cs) (h4 : s1.objs o4 = none) (ds : List AV) : Rd4 s (s1.set o4 ds) p o2 o3 o4 ce z cs ds := by
  have hp : p ≠ o4 := by rintro rfl; rw [h.eye] at h4; cases h4
  have h2 : o2 ≠ o4 := by rintro rfl; rw [h.res] at h4; cases h4
  have h3 : o3 ≠ o4 := by rintro rfl; rw [h.var] at h4; cases h4
  have hn : (s.drop p).objs o4 = none := by
    cases e : (s.drop p).objs o4 with
    | none => rfl
    | some x => have := h.le.objs _ _ e; rw [h4] at this; cases this
  have hn' : s.objs o4 = none := by simpa [AS.drop, upd, hp.symm] using hn
  refine ⟨⟨AS.le_set h.le hn _, ?_, ?_, ?_, h.n2, h.n3, h.p2, h.p3, h.d⟩, AS.set_objs_same _ _ _, hn', hp, h2, h3⟩
  · rw [AS.set_objs_ne _ hp]; exact h.eye
  · rw [AS.set_objs_ne _ h2]; exact h.res
  · rw [AS.set_objs_ne _ h3]; exact h.var
theorem Rd4.setObj {s s1 : AS} {p o2 o3 o4 : Nat} {ce z cs ds : List AV} (h : Rd4 s s1 p o2 o3 o4 ce z cs ds) (ds' : List AV) : Rd4 s (s1.set o4 ds') p o2 o3 o4 ce z cs ds' := by
  refine ⟨⟨AS.le_set h.rd.le (AS.drop_objs_none h.n4) _, ?_, ?_, ?_, h.rd.n2, h.rd.n3, h.rd.p2, h.rd.p3, h.rd.d⟩, AS.set_objs_same _ _ _, h.n4, h.p4, h.d2, h.d3⟩
  · rw [AS.set_objs_ne _ h.p4]; exact h.rd.eye
  · rw [AS.set_objs_ne _ h.d2]; exact h.rd.res
  · rw [AS.set_objs_ne _ h.d3]; exact h.rd.var
theorem Rd4.gain {s s1 : AS} {p o2 o3 o4 : Nat} {ce z cs ds : List AV} (h : Rd4 s s1 p o2 o3 o4 ce z cs ds) {t : Nat} (ht : s.own t = none) (e : Nat) : Rd4 s (s1.gain t e) p o2 o3 o4 ce z cs ds :=
  ⟨h.rd.gain ht e, h.obj, h.n4, h.p4, h.d2, h.d3⟩

theorem RdS.fresh {s s1 : AS} {p o2 o3 o5 : Nat} {ce z cs : List AV} (h : RdS s s1 p o2 o3 ce z cs) (h5 : s1.objs o5 = none) (ds : List AV) : RdS s (s1.set o5 ds) p o2 o3 ce z cs := (h.setNew h5 ds).rd
theorem Rd4.fresh {s s1 : AS} {p o2 o3 o4 o5 : Nat} {ce z cs ds : List AV} (h : Rd4 s s1 p o2 o3 o4 ce z cs ds) (h5 : s1.objs o5 = none) (es : List AV) : Rd4 s (s1.set o5 es) p o2 o3 o4 ce z cs ds :=
  ⟨h.rd.fresh h5 es, by rw [AS.set_objs_ne _ (some_neO h.obj h5)]; exact h.obj, h.n4, h.p4, h.d2, h.d3⟩
end Go.AM


set_option autoImplicit false
namespace Go.Proofs.Ytcnilmidfhpckaa
open Go Go.AM Go.Proofs

theorem RMsg1563 : type_of% (And.intro (And.intro (And.intro (And.intro (And.intro (And.intro (And.intro @Try.underlying3 T.c3) (And.intro T.g3 T.b3)) (And.intro (And.intro T.z3 @Try.underlying5) (And.intro T.c5 (And.intro T.g5 T.b5)))) (And.intro (And.intro (And.intro T.z5 @Try.underlying28) (And.intro T.c28 (And.intro T.g28 T.b28))) (And.intro (And.intro T.z28 T.s28) (And.intro @Try.underlying32 (And.intro T.c32 T.g32))))) (And.intro (And.intro (And.intro (And.intro T.b32 T.z32) (And.intro @Try.underlying42 (And.intro T.c42 T.g42))) (And.intro (And.intro T.b42 T.z42) (And.intro @Try.underlying43 (And.intro T.c43 T.g43)))) (And.intro (And.intro (And.intro T.b43 T.z43) (And.intro T.s43 (And.intro @Try.underlying45 T.c45))) (And.intro (And.intro T.g45 T.b45) (And.intro T.z45 (And.intro T.h45 @Try.underlying81)))))) (And.intro (And.intro (And.intro (And.intro (And.intro T.c81 T.g81) (And.intro T.b81 T.z81)) (And.intro (And.intro T.s81 @Try.underlying83) (And.intro T.c83 (And.intro T.g83 T.b83)))) (And.intro (And.intro (And.intro T.z83 T.h83) (And.intro @Try.underlying85 (And.intro T.c85 T.g85))) (And.intro (And.intro T.b85 T.z85) (And.intro T.h85 (And.intro @Try.underlying98 T.c98))))) (And.intro (And.intro (And.intro (And.intro T.g98 T.b98) (And.intro T.z98 (And.intro T.p98 @Try.underlying145))) (And.intro (And.intro T.c145 T.g145) (And.intro T.b145 (And.intro T.z145 T.h145)))) (And.intro (And.intro (And.intro T.f45_0 T.f45_1) (And.intro T.f45_2 (And.intro T.f83_0 T.f83_1))) (And.intro (And.intro T.k58 T.k62) (And.intro T.k103 (And.intro T.k59 T.k56))))))) Try.ntmps63) :=
  (And.intro (And.intro (And.intro (And.intro (And.intro (And.intro (And.intro @Try.underlying3 T.c3) (And.intro T.g3 T.b3)) (And.intro (And.intro T.z3 @Try.underlying5) (And.intro T.c5 (And.intro T.g5 T.b5)))) (And.intro (And.intro (And.intro T.z5 @Try.underlying28) (And.intro T.c28 (And.intro T.g28 T.b28))) (And.intro (And.intro T.z28 T.s28) (And.intro @Try.underlying32 (And.intro T.c32 T.g32))))) (And.intro (And.intro (And.intro (And.intro T.b32 T.z32) (And.intro @Try.underlying42 (And.intro T.c42 T.g42))) (And.intro (And.intro T.b42 T.z42) (And.intro @Try.underlying43 (And.intro T.c43 T.g43)))) (And.intro (And.intro (And.intro T.b43 T.z43) (And.intro T.s43 (And.intro @Try.underlying45 T.c45))) (And.intro (And.intro T.g45 T.b45) (And.intro T.z45 (And.intro T.h45 @Try.underlying81)))))) (And.intro (And.intro (And.intro (And.intro (And.intro T.c81 T.g81) (And.intro T.b81 T.z81)) (And.intro (And.intro T.s81 @Try.underlying83) (And.intro T.c83 (And.intro T.g83 T.b83)))) (And.intro (And.intro (And.intro T.z83 T.h83) (And.intro @Try.underlying85 (And.intro T.c85 T.g85))) (And.intro (And.intro T.b85 T.z85) (And.intro T.h85 (And.intro @Try.underlying98 T.c98))))) (And.intro (And.intro (And.intro (And.intro T.g98 T.b98) (And.intro T.z98 (And.intro T.p98 @Try.underlying145))) (And.intro (And.intro T.c145 T.g145) (And.intro T.b145 (And.intro T.z145 T.h145)))) (And.intro (And.intro (And.intro T.f45_0 T.f45_1) (And.intro T.f45_2 (And.intro T.f83_0 T.f83_1))) (And.intro (And.intro T.k58 T.k62) (And.intro T.k103 (And.intro T.k59 T.k56))))))) Try.ntmps63)

variable {Γ : Nat → List AV}

theorem zrow_two (a b : AV) : zrow 2 [a, b] = [a, b] := rfl
theorem path_weak {k : Nat} {pa : List UInt8} {l : List StepV} {x : AV} (h : x.weak (.sl 2 l.length (rowC StepV.cells l) .any)) :
    (AV.agg [.v (.int .u64 k), .sl 1 pa.length (pa.map byteV) .any, x]).weak (.agg (PathV.cells ⟨k, pa, l⟩)) :=
  AV.weak_agg (.cons (AV.weak.refl _) (.cons (AV.weak.refl _) (.cons h .nil)))
theorem noPath_weak : (AV.agg [.v (.int .u64 0), .v (.slice none 0 0), .v (.slice none 0 0)]).weak (.agg noPath.cells) :=
  AV.weak_agg (.cons (AV.weak.refl _) (.cons AV.weak_nil (.cons AV.weak_nil .nil)))

set_option maxRecDepth 100000 in
set_option maxHeartbeats 8000000 in
theorem pathRead_calls (s : AS) (p : Nat) (st : EyeSt) (hl : st.1.length ≤ 2 ^ 44) (h : s.objs p = some (eyeC st)) :
    ACalls Try.prog Γ 63 [.ptr p 0] s (fun r s' => r = .agg (pathR st).1.cells ∧ s' = s.set p (eyeC (pathR st).2)) := by
  refine acalls_body Try.func63 rfl Try.ntmps63 Try.results63 (by simp) ?_
  obtain ⟨q1, e1⟩ : ∃ q, q = eyeNum 8 st := ⟨_, rfl⟩
  obtain ⟨q2, e2⟩ : ∃ q, q = eyeText 1 32 q1.2 := ⟨_, rfl⟩
  obtain ⟨q3, e3⟩ : ∃ q, q = eyeNum 1 q2.2 := ⟨_, rfl⟩
  obtain ⟨q4, e4⟩ : ∃ q, q = rowR stepR q3.1 q3.2 := ⟨_, rfl⟩
  have l1 : q1.2.1.length ≤ 2 ^ 44 := by rw [e1]; exact Nat.le_trans (eyeNum_len _ _) hl
  have l2 : q2.2.1.length ≤ 2 ^ 44 := by rw [e2]; exact Nat.le_trans (eyeText_len _ _ _).2 l1
  have l3 : q3.2.1.length ≤ 2 ^ 44 := by rw [e3]; exact Nat.le_trans (eyeNum_len _ _) l2
  have k3 : q3.1 < 256 := by rw [e3]; exact eyeNum1_lt _
  have hrr : pathR st = (if q4.2.2 = 0 then ⟨q1.1, q2.1, q4.1⟩ else noPath, q4.2) := by subst e4 e3 e2 e1; rfl
  have q4l : q4.1.length = q3.1 := by rw [e4, rowR_len]
  refine awp_reg_seq ?_
  intro K hK
  simp only [↓DN, UP, DF, qSh, qCv, qIA, qIx, qSl, qBu, qCe, qOn, reduceCtorEq, ↓reduceIte, nLT, nLE, nEQ, nAdd, nMul, nPow, nSub, zLT, zLE, zNat, RMsg1563]
  intro o2 ho2
  have hp2 := some_neH h ho2
  refine hK _ _ ?_
  clear hK K
  obtain ⟨z, hz⟩ : ∃ z : List AV, z = [.v (.int .u64 0), .v (.slice none 0 0), .v (.slice none 0 0)] := ⟨_, rfl⟩
  refine awp_seq_k ?_
  intro K1 hK1
  have h1 : ∀ (E : Env) (s1 : AS) (o3 : Nat), E 0 = .ptr p 0 → E 2 = .ptr o2 0 → E 3 = .ptr o3 0 → RdS s s1 p o2 o3 (eyeC q2.2) z [.v (.int .u64 q1.1), bytesV q2.1 .any, .v (.slice none 0 0)] → K1 E s1 := by
    intro E s1 o3 g0 g2 g3 J
    refine hK1 _ _ ?_
    clear hK1 K1
    refine awp_seq_k ?_
    intro K2 hK2
    have h2 : ∀ (E : Env) (s1 : AS) (x : AV), E 0 = .ptr p 0 → E 2 = .ptr o2 0 → E 3 = .ptr o3 0 → RBuf 2 s s1 x q4.1.length (rowC StepV.cells q4.1) → RdS s s1 p o2 o3 (eyeC q4.2) z [.v (.int .u64 q1.1), bytesV q2.1 .any, x] → K2 E s1 := by
      clear J g0 g2 g3 E s1
      intro E s1 x g0 g2 g3 hx J
      refine hK2 _ _ ?_
      clear hK2 K2
      have jr := J.res
      have jv := J.var
      have jd := J.d
      have jd2 := J.d.symm
      have ox := hx.one
      have wx := hx.weak
      simp only [AV.one] at ox
      rw [hz] at jr
      refine awp_seq_k ?_
      intro K6 hK6
      refine awp_reg_seq ?_
      intro K hK
      simp only [↓DN, UP, DF, qSh, qCv, qIA, qIx, qSl, qBu, qCe, qOn, reduceCtorEq, ↓reduceIte, nLT, nLE, nEQ, nAdd, nMul, nPow, nSub, zLT, zLE, zNat, RMsg1563, g0]
      refine acallk (eyeErr_at _ p _ J.eye) ?_
      rintro r s2 ⟨rfl, rfl⟩
      by_cases he : q4.2.2 = 0
      · rw [he]
        simp only [↓AXq_nil, ↓AXq_cons, pval, DX, Nat.reduceBEq, ↓DN, UP, DF, qSh, qCv, qIA, qIx, qSl, qBu, qCe, qOn, reduceCtorEq, ↓reduceIte, nLT, nLE, nEQ, nAdd, nMul, nPow, nSub, zLT, zLE, zNat, RMsg1563, i64_ne_false 0 rfl]
        refine hK _ _ ?_
        clear hK K
        refine awp_cond_k ?_
        intro X Y hX hY
        simp only [↓DN, UP, DF, qSh, qCv, qIA, qIx, qSl, qBu, qCe, qOn, reduceCtorEq, ↓reduceIte, nLT, nLE, nEQ, nAdd, nMul, nPow, nSub, zLT, zLE, zNat, RMsg1563, DB]
        refine hY ?_
        clear hX hY X Y
        refine awp_skip ?_
        refine hK6 _ _ ?_
        clear hK6 K6
        refine awp_reg_seq ?_
        intro K hK
        simp only [↓DN, UP, DF, qSh, qCv, qIA, qIx, qSl, qBu, qCe, qOn, reduceCtorEq, ↓reduceIte, nLT, nLE, nEQ, nAdd, nMul, nPow, nSub, zLT, zLE, zNat, RMsg1563, g3, g2, jv, jr, jd, jd2, ox]
        refine hK _ _ ?_
        clear hK K
        refine awp_ret ?_
        refine aends_cell (o := o2) (off := 0) (by simp only [upd, g2, nEQ, ↓reduceIte]) (AS.set_objs_same _ _ _) (by rw [T.c45]; decide) (by simp only [↓DN, UP, DF, qSh, qCv, qIA, qIx, qSl, qBu, qCe, qOn, reduceCtorEq, ↓reduceIte, nLT, nLE, nEQ, nAdd, nMul, nPow, nSub, zLT, zLE, zNat, RMsg1563]; rfl) ?_
        rw [hrr, if_pos he]
        exact ⟨_, _, path_weak wx, (J.setRes _).out, rfl, rfl⟩
      · simp only [↓AXq_nil, ↓AXq_cons, pval, DX, Nat.reduceBEq, ↓DN, UP, DF, qSh, qCv, qIA, qIx, qSl, qBu, qCe, qOn, reduceCtorEq, ↓reduceIte, nLT, nLE, nEQ, nAdd, nMul, nPow, nSub, zLT, zLE, zNat, RMsg1563, i64_ne_true _ he]
        refine hK _ _ ?_
        clear hK K
        refine awp_cond_k ?_
        intro X Y hX hY
        simp only [↓DN, UP, DF, qSh, qCv, qIA, qIx, qSl, qBu, qCe, qOn, reduceCtorEq, ↓reduceIte, nLT, nLE, nEQ, nAdd, nMul, nPow, nSub, zLT, zLE, zNat, RMsg1563, DB]
        refine hX ?_
        clear hX hY X Y
        refine awp_reg_seq ?_
        intro K hK
        simp only [↓DN, UP, DF, qSh, qCv, qIA, qIx, qSl, qBu, qCe, qOn, reduceCtorEq, ↓reduceIte, nLT, nLE, nEQ, nAdd, nMul, nPow, nSub, zLT, zLE, zNat, RMsg1563, g3, g2, jv, jr, jd, jd2]
        refine hK _ _ ?_
        clear hK K
        refine awp_ret ?_
        try simp only [thenQ, blockQ]
        refine aends_cell (o := o2) (off := 0) (by simp only [upd, g2, nEQ, ↓reduceIte]) (AS.set_objs_same _ _ _) (by rw [T.c45]; decide) (by simp only [↓DN, UP, DF, qSh, qCv, qIA, qIx, qSl, qBu, qCe, qOn, reduceCtorEq, ↓reduceIte, nLT, nLE, nEQ, nAdd, nMul, nPow, nSub, zLT, zLE, zNat, RMsg1563]; rfl) ?_
        rw [hrr, if_neg he]
        exact ⟨_, _, noPath_weak, (J.setRes _).out, rfl, rfl⟩
    clear hK2
    refine awp_reg_seq ?_
    intro K hK
    simp only [↓DN, UP, DF, qSh, qCv, qIA, qIx, qSl, qBu, qCe, qOn, reduceCtorEq, ↓reduceIte, nLT, nLE, nEQ, nAdd, nMul, nPow, nSub, zLT, zLE, zNat, RMsg1563, g0]
    refine acallk (eyeU8_set _ p _ J.eye) ?_
    rintro r s2 ⟨rfl, rfl⟩
    rw [← e3]
    have J2 := J.setEye (eyeC q3.2)
    clear J
    generalize s1.set p (eyeC q3.2) = s2 at *
    simp only [↓AXq_nil, ↓AXq_cons, pval, DX, Nat.reduceBEq, ↓DN, UP, DF, qSh, qCv, qIA, qIx, qSl, qBu, qCe, qOn, reduceCtorEq, ↓reduceIte, nLT, nLE, nEQ, nAdd, nMul, nPow, nSub, zLT, zLE, zNat, RMsg1563]
    refine hK _ _ ?_
    clear hK K
    refine awp_block ?_
    refine awp_loop (fun E s2 => ∃ (i : Nat) (x : AV), i ≤ q3.1 ∧ E 12 = .v (.int .i64 i) ∧ E 11 = .v (.int .i64 q3.1) ∧ E 0 = .ptr p 0 ∧ E 2 = .ptr o2 0 ∧ E 3 = .ptr o3 0 ∧ RBuf 2 s s2 x i (rowC StepV.cells (rowR stepR i q3.2).1) ∧
        RdS s s2 p o2 o3 (eyeC (rowR stepR i q3.2).2) z [.v (.int .u64 q1.1), bytesV q2.1 .any, x])
      (fun E _ => match E 12 with | .v (.int _ i) => q3.1 - i.toNat | _ => 0) ?_ ?_
    · exact ⟨0, _, Nat.zero_le _, by simp only [upd, ↓reduceIte]; rfl, by simp only [upd, nEQ, ↓reduceIte], by simp only [upd, g0, nEQ, ↓reduceIte], by simp only [upd, g2, nEQ, ↓reduceIte], by simp only [upd, g3, nEQ, ↓reduceIte], RBuf.nil _ _ _, J2⟩
    · clear J2 g0 g2 g3 s2
      rintro E1 s4 ⟨i, x, hi, g12, g11, g0, g2, g3, hx, J⟩ -
      by_cases hi' : i < q3.1
      · refine awp_reg_seq ?_
        intro K hK
        simp only [↓DN, UP, DF, qSh, qCv, qIA, qIx, qSl, qBu, qCe, qOn, reduceCtorEq, ↓reduceIte, nLT, nLE, nEQ, nAdd, nMul, nPow, nSub, zLT, zLE, zNat, RMsg1563, g12, g11, eye_lt_nat, decide_eq_true hi']
        refine hK _ _ ?_
        clear hK K
        refine awp_seq_k ?_
        intro K7 hK7
        refine awp_cond_k ?_
        intro X Y hX hY
        simp only [↓DN, UP, DF, qSh, qCv, qIA, qIx, qSl, qBu, qCe, qOn, reduceCtorEq, ↓reduceIte, nLT, nLE, nEQ, nAdd, nMul, nPow, nSub, zLT, zLE, zNat, RMsg1563, DB]
        refine hX ?_
        clear hX hY X Y
        refine awp_skip ?_
        refine hK7 _ _ ?_
        clear hK7 K7
        refine awp_seq_k ?_
        intro K7 hK7
        refine awp_block ?_
        have hnext : ∀ (E2 : Env) (s5 : AS) (x1 x2 : AV), x1.weak x2 → E2 12 = .v (.int .i64 i) → E2 11 = .v (.int .i64 q3.1) → E2 0 = .ptr p 0 → E2 2 = .ptr o2 0 → E2 3 = .ptr o3 0 → RBuf 2 s s5 x2 (i + 1) (rowC StepV.cells (rowR stepR (i + 1) q3.2).1) →
            RdS s s5 p o2 o3 (eyeC (rowR stepR (i + 1) q3.2).2) z [.v (.int .u64 q1.1), bytesV q2.1 .any, x1] → K7 E2 s5 := by
          intro E2 s5 x1 x2 hw f12 f11 f0 f2 f3 fx fJ
          refine hK7 _ _ ?_
          clear hK7 K7
          refine awp_tells (AS.tells_obj fJ.var (.cons (AV.weak.refl _) (.cons (AV.weak.refl _) (.cons hw .nil)))) ?_
          replace fJ := fJ.setVar [.v (.int .u64 q1.1), bytesV q2.1 .any, x2]
          replace fx : RBuf 2 s (s5.set o3 [.v (.int .u64 q1.1), bytesV q2.1 .any, x2]) x2 (i + 1) (rowC StepV.cells (rowR stepR (i + 1) q3.2).1) := fx
          generalize s5.set o3 [.v (.int .u64 q1.1), bytesV q2.1 .any, x2] = s6 at *
          refine awp_reg_end ?_
          intro K hK
          simp only [↓DN, UP, DF, qSh, qCv, qIA, qIx, qSl, qBu, qCe, qOn, reduceCtorEq, ↓reduceIte, nLT, nLE, nEQ, nAdd, nMul, nPow, nSub, zLT, zLE, zNat, RMsg1563, f12, eye_succ i (by omega)]
          refine hK _ _ ?_
          clear hK K
          refine ⟨⟨i + 1, x2, by omega, by simp only [upd, ↓reduceIte], by simp only [upd, f11, nEQ, ↓reduceIte], by simp only [upd, f0, nEQ, ↓reduceIte], by simp only [upd, f2, nEQ, ↓reduceIte], by simp only [upd, f3, nEQ, ↓reduceIte], fx, fJ⟩, ?_⟩
          simp only [g12, upd, ↓reduceIte]
          omega
        clear hK7
        have hSt : ∀ n, (rowR stepR n q3.2).2.1.length ≤ 2 ^ 44 := fun n => Nat.le_trans (rowR_left stepR_left _ _) l3
        obtain ⟨sti, hsti⟩ : ∃ q, q = (rowR stepR i q3.2).2 := ⟨_, rfl⟩
        have li : sti.1.length ≤ 2 ^ 44 := by rw [hsti]; exact hSt i
        have hrow1 : (rowR stepR (i + 1) q3.2) = ((rowR stepR i q3.2).1 ++ [(stepR sti).1], (stepR sti).2) := by rw [hsti]; rfl
        rw [hrow1] at hnext
        rw [← hsti] at J
        obtain ⟨L, hL⟩ : ∃ q, q = (rowR stepR i q3.2).1 := ⟨_, rfl⟩
        have hLl : L.length = i := by rw [hL, rowR_len]
        rw [← hL] at hx hnext
        clear hrow1 hSt hL hsti
        obtain ⟨qa, ea⟩ : ∃ q, q = eyeNum 8 sti := ⟨_, rfl⟩
        obtain ⟨qb, eb⟩ : ∃ q, q = eyeNum 1 qa.2 := ⟨_, rfl⟩
        obtain ⟨qc, ec⟩ : ∃ q, q = rowR sealR qb.1 qb.2 := ⟨_, rfl⟩
        have la : qa.2.1.length ≤ 2 ^ 44 := by rw [ea]; exact Nat.le_trans (eyeNum_len _ _) li
        have lb : qb.2.1.length ≤ 2 ^ 44 := by rw [eb]; exact Nat.le_trans (eyeNum_len _ _) la
        have kb : qb.1 < 256 := by rw [eb]; exact eyeNum1_lt _
        have hcl : qc.1.length = qb.1 := by rw [ec, rowR_len]
        have hst : stepR sti = (⟨qa.1, qc.1⟩, qc.2) := by subst ec eb ea; rfl
        rw [hst] at hnext
        simp only at hnext
        clear hst
        refine awp_reg_seq ?_
        intro K hK
        simp only [↓DN, UP, DF, qSh, qCv, qIA, qIx, qSl, qBu, qCe, qOn, reduceCtorEq, ↓reduceIte, nLT, nLE, nEQ, nAdd, nMul, nPow, nSub, zLT, zLE, zNat, RMsg1563, g0]
        refine acallk (eyeU64_set _ p _ J.eye) ?_
        rintro r s5 ⟨rfl, rfl⟩
        rw [← ea]
        have J5 := J.setEye (eyeC qa.2)
        have hx5 : RBuf 2 s (s4.set p (eyeC qa.2)) x i (rowC StepV.cells L) := hx
        generalize s4.set p (eyeC qa.2) = s5 at *
        simp only [↓AXq_nil, ↓AXq_cons, pval, DX, Nat.reduceBEq, ↓DN, UP, DF, qSh, qCv, qIA, qIx, qSl, qBu, qCe, qOn, reduceCtorEq, ↓reduceIte, nLT, nLE, nEQ, nAdd, nMul, nPow, nSub, zLT, zLE, zNat, RMsg1563]
        intro o4 ho4
        have J6 := J5.setNew ho4 [.v (.int .u64 qa.1), .v (.slice none 0 0)]
        have hx6 : RBuf 2 s (s5.set o4 [.v (.int .u64 qa.1), .v (.slice none 0 0)]) x i (rowC StepV.cells L) := hx5
        have hJ6 : ∀ t, (s5.set o4 [.v (.int .u64 qa.1), .v (.slice none 0 0)]).own t = none → s.own t = none := fun t h => J6.rd.own_none h
        clear J5 hx5 hx J
        refine hK _ _ ?_
        clear hK K
        generalize s5.set o4 [.v (.int .u64 qa.1), .v (.slice none 0 0)] = s6 at *
        refine awp_seq_k ?_
        intro K8 hK8
        have h8 : ∀ (E : Env) (s7 : AS) (y : AV), E 12 = .v (.int .i64 i) → E 11 = .v (.int .i64 q3.1) → E 0 = .ptr p 0 → E 2 = .ptr o2 0 → E 3 = .ptr o3 0 → E 4 = .ptr o4 0 → RBuf 2 s s7 x i (rowC StepV.cells L) → RBuf 2 s6 s7 y qc.1.length (rowC SealV.cells qc.1) →
            Rd4 s s7 p o2 o3 o4 (eyeC qc.2) z [.v (.int .u64 q1.1), bytesV q2.1 .any, x] [.v (.int .u64 qa.1), y] → K8 E s7 := by
          clear J6 hx6 g12 g11 g0 g2 g3
          intro E s7 y g12 g11 g0 g2 g3 g4 hx hy J
          refine hK8 _ _ ?_
          clear hK8 K8
          have jv := J.rd.var
          have jo := J.obj
          have jd3 := J.d3
          have jd3' := J.d3.symm
          have oy := hy.one
          have wy := hy.weak
          simp only [AV.one] at oy
          have hwS : AVs.weak [.v (.int .u64 qa.1), y] (StepV.cells ⟨qa.1, qc.1⟩) := .cons (AV.weak.refl _) (.cons wy .nil)
          have hsn : rowC StepV.cells (L ++ [⟨qa.1, qc.1⟩]) = rowC StepV.cells L ++ StepV.cells ⟨qa.1, qc.1⟩ := row_snoc _ _
          rcases hx with ⟨rfl, hi0, hL0⟩ | ⟨t, e, rfl, ht, ht0⟩
          · refine awp_reg_end ?_
            intro K hK
            simp only [↓DN, UP, DF, qSh, qCv, qIA, qIx, qSl, qBu, qCe, qOn, reduceCtorEq, ↓reduceIte, nLT, nLE, nEQ, nAdd, nMul, nPow, nSub, zLT, zLE, zNat, RMsg1563, g3, g4, jv, jo, jd3, jd3', oy, nilS, zrow_two]
            intro t ht
            refine hK _ _ ?_
            clear hK K
            have ht0 := J.rd.own_none ht
            have hcl' : (rowC StepV.cells (L ++ [⟨qa.1, qc.1⟩])) = StepV.cells ⟨qa.1, qc.1⟩ := by rw [hsn, hL0]; rfl
            refine hnext _ _ _ (.sl 2 (i + 1) (rowC StepV.cells (L ++ [⟨qa.1, qc.1⟩])) (.own t 0)) ?_ (by simp only [upd, g12, nEQ, ↓reduceIte]) (by simp only [upd, g11, nEQ, ↓reduceIte]) (by simp only [upd, g0, nEQ, ↓reduceIte]) (by simp only [upd, g2, nEQ, ↓reduceIte]) (by simp only [upd, g3, nEQ, ↓reduceIte]) ?_ ((J.rd.gain ht0 0).setVar _)
            · rw [hcl', hi0]
              exact AV.weak_slc hwS
            · exact .inr ⟨t, 0, rfl, by simp [AS.set, AS.gain], ht0⟩
          · refine awp_reg_end ?_
            intro K hK
            simp only [↓DN, UP, DF, qSh, qCv, qIA, qIx, qSl, qBu, qCe, qOn, reduceCtorEq, ↓reduceIte, nLT, nLE, nEQ, nAdd, nMul, nPow, nSub, zLT, zLE, zNat, RMsg1563, g3, g4, jv, jo, jd3, jd3', oy, ht, zrow_two]
            refine ⟨by omega, by omega, ?_⟩
            refine hK _ _ ?_
            clear hK K
            refine hnext _ _ _ (.sl 2 (i + 1) (rowC StepV.cells (L ++ [⟨qa.1, qc.1⟩])) (.own t (e + 1))) ?_ (by simp only [upd, g12, nEQ, ↓reduceIte]) (by simp only [upd, g11, nEQ, ↓reduceIte]) (by simp only [upd, g0, nEQ, ↓reduceIte]) (by simp only [upd, g2, nEQ, ↓reduceIte]) (by simp only [upd, g3, nEQ, ↓reduceIte]) ?_ ((J.rd.gain ht0 (e + 1)).setVar _)
            · rw [hsn]
              exact AV.weak_slc (AVs.weak.append (AVs.weak.refl _) hwS)
            · exact .inr ⟨t, e + 1, rfl, by simp [AS.set, AS.gain], ht0⟩
        clear hK8 hnext
        refine awp_reg_seq ?_
        intro K hK
        simp only [↓DN, UP, DF, qSh, qCv, qIA, qIx, qSl, qBu, qCe, qOn, reduceCtorEq, ↓reduceIte, nLT, nLE, nEQ, nAdd, nMul, nPow, nSub, zLT, zLE, zNat, RMsg1563, g0]
        refine acallk (eyeU8_set _ p _ J6.rd.eye) ?_
        rintro r s7 ⟨rfl, rfl⟩
        rw [← eb]
        have J7 := J6.setEye (eyeC qb.2)
        simp only [↓AXq_nil, ↓AXq_cons, pval, DX, Nat.reduceBEq, ↓DN, UP, DF, qSh, qCv, qIA, qIx, qSl, qBu, qCe, qOn, reduceCtorEq, ↓reduceIte, nLT, nLE, nEQ, nAdd, nMul, nPow, nSub, zLT, zLE, zNat, RMsg1563]
        refine hK _ _ ?_
        clear hK K
        refine awp_block ?_
        refine awp_loop (fun E s8 => ∃ (j : Nat) (y : AV), j ≤ qb.1 ∧ E 19 = .v (.int .i64 j) ∧ E 18 = .v (.int .i64 qb.1) ∧ E 12 = .v (.int .i64 i) ∧ E 11 = .v (.int .i64 q3.1) ∧ E 0 = .ptr p 0 ∧ E 2 = .ptr o2 0 ∧ E 3 = .ptr o3 0 ∧ E 4 = .ptr o4 0 ∧
            (∀ t e, s6.own t = some e → s8.own t = some e) ∧ RBuf 2 s6 s8 y j (rowC SealV.cells (rowR sealR j qb.2).1) ∧ Rd4 s s8 p o2 o3 o4 (eyeC (rowR sealR j qb.2).2) z [.v (.int .u64 q1.1), bytesV q2.1 .any, x] [.v (.int .u64 qa.1), y])
          (fun E _ => match E 19 with | .v (.int _ j) => qb.1 - j.toNat | _ => 0) ?_ ?_
        · exact ⟨0, _, Nat.zero_le _, by simp only [upd, ↓reduceIte]; rfl, by simp only [upd, nEQ, ↓reduceIte], by simp only [upd, g12, nEQ, ↓reduceIte], by simp only [upd, g11, nEQ, ↓reduceIte], by simp only [upd, g0, nEQ, ↓reduceIte], by simp only [upd, g2, nEQ, ↓reduceIte], by simp only [upd, g3, nEQ, ↓reduceIte], by simp only [upd, nEQ, ↓reduceIte], fun t e h => h, RBuf.nil _ _ _, J7⟩
        · clear J7 J6 g12 g11 g0 g2 g3
          rintro E2 s8 ⟨j, y, hj, g19, g18, g12, g11, g0, g2, g3, g4, hown, hy, J⟩ -
          have jo := J.obj
          have jp := J.p4
          have jp2 := J.p4.symm
          by_cases hj' : j < qb.1
          · refine awp_reg_seq ?_
            intro K hK
            simp only [↓DN, UP, DF, qSh, qCv, qIA, qIx, qSl, qBu, qCe, qOn, reduceCtorEq, ↓reduceIte, nLT, nLE, nEQ, nAdd, nMul, nPow, nSub, zLT, zLE, zNat, RMsg1563, g19, g18, eye_lt_nat, decide_eq_true hj']
            refine hK _ _ ?_
            clear hK K
            refine awp_seq_k ?_
            intro K9 hK9
            refine awp_cond_k ?_
            intro X Y hX hY
            simp only [↓DN, UP, DF, qSh, qCv, qIA, qIx, qSl, qBu, qCe, qOn, reduceCtorEq, ↓reduceIte, nLT, nLE, nEQ, nAdd, nMul, nPow, nSub, zLT, zLE, zNat, RMsg1563, DB]
            refine hX ?_
            clear hX hY X Y
            refine awp_skip ?_
            refine hK9 _ _ ?_
            clear hK9 K9
            refine awp_seq_k ?_
            intro K9 hK9
            refine awp_block ?_
            have hnext : ∀ (E3 : Env) (s9 : AS) (y2 : AV), E3 19 = .v (.int .i64 j) → E3 18 = .v (.int .i64 qb.1) → E3 12 = .v (.int .i64 i) → E3 11 = .v (.int .i64 q3.1) → E3 0 = .ptr p 0 → E3 2 = .ptr o2 0 → E3 3 = .ptr o3 0 → E3 4 = .ptr o4 0 →
                (∀ t e, s6.own t = some e → s9.own t = some e) → RBuf 2 s6 s9 y2 (j + 1) (rowC SealV.cells (rowR sealR (j + 1) qb.2).1) → Rd4 s s9 p o2 o3 o4 (eyeC (rowR sealR (j + 1) qb.2).2) z [.v (.int .u64 q1.1), bytesV q2.1 .any, x] [.v (.int .u64 qa.1), y2] → K9 E3 s9 := by
              intro E3 s9 y2 f19 f18 f12 f11 f0 f2 f3 f4 fo fy fJ
              refine hK9 _ _ ?_
              clear hK9 K9
              refine awp_reg_end ?_
              intro K hK
              simp only [↓DN, UP, DF, qSh, qCv, qIA, qIx, qSl, qBu, qCe, qOn, reduceCtorEq, ↓reduceIte, nLT, nLE, nEQ, nAdd, nMul, nPow, nSub, zLT, zLE, zNat, RMsg1563, f19, eye_succ j (by omega)]
              refine hK _ _ ?_
              clear hK K
              refine ⟨⟨j + 1, y2, by omega, by simp only [upd, ↓reduceIte], by simp only [upd, f18, nEQ, ↓reduceIte], by simp only [upd, f12, nEQ, ↓reduceIte], by simp only [upd, f11, nEQ, ↓reduceIte], by simp only [upd, f0, nEQ, ↓reduceIte], by simp only [upd, f2, nEQ, ↓reduceIte], by simp only [upd, f3, nEQ, ↓reduceIte], by simp only [upd, f4, nEQ, ↓reduceIte], fo, fy, fJ⟩, ?_⟩
              simp only [g19, upd, ↓reduceIte]
              omega
            clear hK9
            have hlj : (rowR sealR j qb.2).2.1.length ≤ 2 ^ 44 := Nat.le_trans (rowR_left sealR_left _ _) lb
            have hrow1 : (rowR sealR (j + 1) qb.2) = ((rowR sealR j qb.2).1 ++ [(sealR (rowR sealR j qb.2).2).1], (sealR (rowR sealR j qb.2).2).2) := rfl
            rw [hrow1] at hnext
            have hMl : (rowR sealR j qb.2).1.length = j := rowR_len _ _
            generalize (rowR sealR j qb.2).1 = M at *
            generalize (rowR sealR j qb.2).2 = stj at *
            simp only [row_snoc] at hnext
            rcases hy with ⟨rfl, hj0, hM0⟩ | ⟨t, e, rfl, ht, ht0⟩
            · refine awp_mrk_end T.mixed [(o4, [.v (.int .u64 qa.1), nilS])] [3, 5] [1] [7] (by kernel_rfl) (by simp only [Pres_cons, Pres_nil, and_true]; simp [AS.set, upd, jo]) ?_
              intro K hK
              simp only [↓AXr_nil, ↓AXr_cons, gval, lval, fzGet_cons, fzGet_nil, Pres_cons, Pres_nil, List.any_cons, List.any_nil, List.contains_cons, List.contains_nil, Nat.reduceBEq, Bool.or_false, Bool.or_true, Bool.or_self, Bool.false_or, ↓DN, UP, DF, qSh, qCv, qIA, qIx, qSl, qBu, qCe, qOn, reduceCtorEq, ↓reduceIte, nLT, nLE, nEQ, nAdd, nMul, nPow, nSub, zLT, zLE, zNat, RMsg1563, g4, g0, nilS, jo, jp, jp2]
              refine acallk (hRead_calls _ p stj 48 hlj J.rd.eye) ?_
              rintro r s9 ⟨rfl, rfl⟩
              simp only [↓AXq_nil, ↓AXq_cons, pval, ↓AXr_nil, ↓AXr_cons, gval, lval, fzGet_cons, fzGet_nil, Pres_cons, Pres_nil, List.any_cons, List.any_nil, DX, Nat.reduceBEq, ↓DN, UP, DF, qSh, qCv, qIA, qIx, qSl, qBu, qCe, qOn, reduceCtorEq, ↓reduceIte, nLT, nLE, nEQ, nAdd, nMul, nPow, nSub, zLT, zLE, zNat, RMsg1563, g4, g0, jo, jp, jp2, zrow_two, nilS]
              intro t ht
              have ht0 := J.rd.own_none ht
              have hs6 : s6.own t = none := by
                cases e6 : s6.own t with
                | none => rfl
                | some e => have := hown t e e6; rw [ht] at this; cases this
              refine hK _ _ (hnext _ _ _ (by simp only [upd, g19, nEQ, ↓reduceIte]) (by simp only [upd, g18, nEQ, ↓reduceIte]) (by simp only [upd, g12, nEQ, ↓reduceIte]) (by simp only [upd, g11, nEQ, ↓reduceIte]) (by simp only [upd, g0, nEQ, ↓reduceIte]) (by simp only [upd, g2, nEQ, ↓reduceIte]) (by simp only [upd, g3, nEQ, ↓reduceIte]) (by simp only [upd, g4, nEQ, ↓reduceIte]) ?_ ?_ (((J.setEye _).gain ht0 0).setObj _))
              · intro t' e' h'
                have := own_ne h' hs6
                simp only [AS.set, AS.gain, upd, this, if_false]
                exact hown t' e' h'
              · exact .inr ⟨t, 0, by rw [hM0, hj0]; rfl, by simp [AS.set, AS.gain], hs6⟩
            · have hst0 : s.own t = none := hJ6 t ht0
              refine awp_mrk_end T.mixed [(o4, [.v (.int .u64 qa.1), .sl 2 j (rowC SealV.cells M) (.own t e)])] [3, 5] [1] [7] (by kernel_rfl) (by simp only [Pres_cons, Pres_nil, and_true]; simp [AS.set, upd, jo]) ?_
              intro K hK
              simp only [↓AXr_nil, ↓AXr_cons, gval, lval, fzGet_cons, fzGet_nil, Pres_cons, Pres_nil, List.any_cons, List.any_nil, List.contains_cons, List.contains_nil, Nat.reduceBEq, Bool.or_false, Bool.or_true, Bool.or_self, Bool.false_or, ↓DN, UP, DF, qSh, qCv, qIA, qIx, qSl, qBu, qCe, qOn, reduceCtorEq, ↓reduceIte, nLT, nLE, nEQ, nAdd, nMul, nPow, nSub, zLT, zLE, zNat, RMsg1563, g4, g0, jo, jp, jp2]
              refine acallk (hRead_calls _ p stj 48 hlj J.rd.eye) ?_
              rintro r s9 ⟨rfl, rfl⟩
              simp only [↓AXq_nil, ↓AXq_cons, pval, ↓AXr_nil, ↓AXr_cons, gval, lval, fzGet_cons, fzGet_nil, Pres_cons, Pres_nil, List.any_cons, List.any_nil, DX, Nat.reduceBEq, ↓DN, UP, DF, qSh, qCv, qIA, qIx, qSl, qBu, qCe, qOn, reduceCtorEq, ↓reduceIte, nLT, nLE, nEQ, nAdd, nMul, nPow, nSub, zLT, zLE, zNat, RMsg1563, g4, g0, jo, jp, jp2, zrow_two, ht]
              refine ⟨by omega, by omega, hK _ _ (hnext _ _ _ (by simp only [upd, g19, nEQ, ↓reduceIte]) (by simp only [upd, g18, nEQ, ↓reduceIte]) (by simp only [upd, g12, nEQ, ↓reduceIte]) (by simp only [upd, g11, nEQ, ↓reduceIte]) (by simp only [upd, g0, nEQ, ↓reduceIte]) (by simp only [upd, g2, nEQ, ↓reduceIte]) (by simp only [upd, g3, nEQ, ↓reduceIte]) (by simp only [upd, g4, nEQ, ↓reduceIte]) ?_ ?_ (((J.setEye _).gain hst0 (e + 1)).setObj _))⟩
              · intro t' e' h'
                have := own_ne h' ht0
                simp only [AS.set, AS.gain, upd, this, if_false]
                exact hown t' e' h'
              · exact .inr ⟨t, e + 1, rfl, by simp [AS.set, AS.gain], ht0⟩
          · refine awp_reg_seq ?_
            intro K hK
            simp only [↓DN, UP, DF, qSh, qCv, qIA, qIx, qSl, qBu, qCe, qOn, reduceCtorEq, ↓reduceIte, nLT, nLE, nEQ, nAdd, nMul, nPow, nSub, zLT, zLE, zNat, RMsg1563, g19, g18, eye_lt_nat, decide_eq_false hj']
            refine hK _ _ ?_
            clear hK K
            refine awp_seq_k ?_
            intro K9 hK9
            refine awp_cond_k ?_
            intro X Y hX hY
            simp only [↓DN, UP, DF, qSh, qCv, qIA, qIx, qSl, qBu, qCe, qOn, reduceCtorEq, ↓reduceIte, nLT, nLE, nEQ, nAdd, nMul, nPow, nSub, zLT, zLE, zNat, RMsg1563, DB]
            refine hY ?_
            clear hX hY X Y
            refine awp_exit ?_
            simp only [thenQ, blockQ, if_true]
            obtain rfl : j = qb.1 := by omega
            rw [← ec] at hy J
            rw [← hcl] at hy
            exact h8 _ _ _ (by simp only [upd, g12, nEQ, ↓reduceIte]) (by simp only [upd, g11, nEQ, ↓reduceIte]) (by simp only [upd, g0, nEQ, ↓reduceIte]) (by simp only [upd, g2, nEQ, ↓reduceIte]) (by simp only [upd, g3, nEQ, ↓reduceIte]) (by simp only [upd, g4, nEQ, ↓reduceIte]) (hx6.own fun t e h _ => hown t e h) hy J
      · refine awp_reg_seq ?_
        intro K hK
        simp only [↓DN, UP, DF, qSh, qCv, qIA, qIx, qSl, qBu, qCe, qOn, reduceCtorEq, ↓reduceIte, nLT, nLE, nEQ, nAdd, nMul, nPow, nSub, zLT, zLE, zNat, RMsg1563, g12, g11, eye_lt_nat, decide_eq_false hi']
        refine hK _ _ ?_
        clear hK K
        refine awp_seq_k ?_
        intro K7 hK7
        refine awp_cond_k ?_
        intro X Y hX hY
        simp only [↓DN, UP, DF, qSh, qCv, qIA, qIx, qSl, qBu, qCe, qOn, reduceCtorEq, ↓reduceIte, nLT, nLE, nEQ, nAdd, nMul, nPow, nSub, zLT, zLE, zNat, RMsg1563, DB]
        refine hY ?_
        clear hX hY X Y
        refine awp_exit ?_
        simp only [thenQ, blockQ, if_true]
        obtain rfl : i = q3.1 := by omega
        rw [← e4] at hx J
        rw [← q4l] at hx
        exact h2 _ _ _ (by simp only [upd, g0, nEQ, ↓reduceIte]) (by simp only [upd, g2, nEQ, ↓reduceIte]) (by simp only [upd, g3, nEQ, ↓reduceIte]) hx J
  clear hK1
  refine awp_reg_end ?_
  intro K hK
  simp only [↓DN, UP, DF, qSh, qCv, qIA, qIx, qSl, qBu, qCe, qOn, reduceCtorEq, ↓reduceIte, nLT, nLE, nEQ, nAdd, nMul, nPow, nSub, zLT, zLE, zNat, RMsg1563]
  refine acallk (eyeU64_set _ p st (by rw [AS.set_objs_ne _ hp2]; exact h)) ?_
  rintro r s1 ⟨rfl, rfl⟩
  rw [← e1]
  simp only [↓AXq_nil, ↓AXq_cons, pval, ↓AXr_nil, ↓AXr_cons, gval, lval, fzGet_cons, fzGet_nil, Pres_cons, Pres_nil, List.any_cons, List.any_nil, DX, Nat.reduceBEq, ↓DN, UP, DF, qSh, qCv, qIA, qIx, qSl, qBu, qCe, qOn, reduceCtorEq, ↓reduceIte, nLT, nLE, nEQ, nAdd, nMul, nPow, nSub, zLT, zLE, zNat, RMsg1563]
  refine acallk (eyeShort_set _ p _ 32 (by have := l1; omega) (AS.set_objs_same _ _ _)) ?_
  rintro r s1 ⟨rfl, rfl⟩
  rw [← e2]
  simp only [↓AXq_nil, ↓AXq_cons, pval, ↓AXr_nil, ↓AXr_cons, gval, lval, fzGet_cons, fzGet_nil, Pres_cons, Pres_nil, List.any_cons, List.any_nil, DX, Nat.reduceBEq, ↓DN, UP, DF, qSh, qCv, qIA, qIx, qSl, qBu, qCe, qOn, reduceCtorEq, ↓reduceIte, nLT, nLE, nEQ, nAdd, nMul, nPow, nSub, zLT, zLE, zNat, RMsg1563]
  intro o3 ho3
  have hp3 : o3 ≠ p := by
    rintro rfl
    simp at ho3
  have h32 : o3 ≠ o2 := by
    rintro rfl
    simp [hp2.symm] at ho3
  have ho30 : s.objs o3 = none := by simpa [hp3, h32] using ho3
  refine hK _ _ (h1 _ _ o3 (by simp only [upd, initE, nEQ, ↓reduceIte, List.getD_cons_zero]) (by simp only [upd, nEQ, ↓reduceIte]) (by simp only [upd, nEQ, ↓reduceIte]) ?_)
  refine ⟨AS.le_set (AS.le_set (AS.le_set (AS.drop_le s p) (AS.drop_objs_none ho2) _) (AS.drop_self _ _) _) (AS.drop_objs_none ho30) _, ?_, ?_, AS.set_objs_same _ _ _, ho2, ho30, hp2, hp3.symm, h32.symm⟩
  · rw [AS.set_objs_ne _ hp3.symm, AS.set_objs_same]
  · rw [AS.set_objs_ne _ h32.symm, AS.set_objs_ne _ hp2.symm, AS.set_objs_same, hz]

end Go.Proofs.Ytcnilmidfhpckaa


set_option autoImplicit false
namespace Go.Proofs.Ytcnilmidfhpckaa
open Go Go.AM Go.Proofs

theorem RMsg1672 : type_of% (And.intro (And.intro (And.intro (And.intro (And.intro (And.intro (And.intro @Try.underlying3 T.c3) (And.intro T.g3 (And.intro T.b3 T.z3))) (And.intro (And.intro @Try.underlying5 T.c5) (And.intro T.g5 (And.intro T.b5 T.z5)))) (And.intro (And.intro (And.intro @Try.underlying9 T.c9) (And.intro T.g9 (And.intro T.b9 T.z9))) (And.intro (And.intro @Try.underlying28 (And.intro T.c28 T.g28)) (And.intro T.b28 (And.intro T.z28 T.s28))))) (And.intro (And.intro (And.intro (And.intro @Try.underlying42 T.c42) (And.intro T.g42 (And.intro T.b42 T.z42))) (And.intro (And.intro @Try.underlying43 (And.intro T.c43 T.g43)) (And.intro T.b43 (And.intro T.z43 T.s43)))) (And.intro (And.intro (And.intro @Try.underlying45 T.c45) (And.intro T.g45 (And.intro T.b45 T.z45))) (And.intro (And.intro T.h45 (And.intro @Try.underlying81 T.c81)) (And.intro T.g81 (And.intro T.b81 T.z81)))))) (And.intro (And.intro (And.intro (And.intro (And.intro T.s81 @Try.underlying83) (And.intro T.c83 (And.intro T.g83 T.b83))) (And.intro (And.intro T.z83 (And.intro T.h83 @Try.underlying85)) (And.intro T.c85 (And.intro T.g85 T.b85)))) (And.intro (And.intro (And.intro T.z85 T.h85) (And.intro @Try.underlying111 (And.intro T.c111 T.g111))) (And.intro (And.intro T.b111 (And.intro T.z111 T.p111)) (And.intro @Try.underlying113 (And.intro T.c113 T.g113))))) (And.intro (And.intro (And.intro (And.intro T.b113 T.z113) (And.intro T.h113 (And.intro @Try.underlying150 T.c150))) (And.intro (And.intro T.g150 (And.intro T.b150 T.z150)) (And.intro T.h150 (And.intro T.f45_0 T.f45_1)))) (And.intro (And.intro (And.intro T.f45_2 T.f83_0) (And.intro T.f83_1 (And.intro T.f85_0 T.f85_1))) (And.intro (And.intro T.f113_1 (And.intro T.f150_0 T.f150_1)) (And.intro T.k71 (And.intro T.k69 T.k106))))))) Try.ntmps72) :=
  (And.intro (And.intro (And.intro (And.intro (And.intro (And.intro (And.intro @Try.underlying3 T.c3) (And.intro T.g3 (And.intro T.b3 T.z3))) (And.intro (And.intro @Try.underlying5 T.c5) (And.intro T.g5 (And.intro T.b5 T.z5)))) (And.intro (And.intro (And.intro @Try.underlying9 T.c9) (And.intro T.g9 (And.intro T.b9 T.z9))) (And.intro (And.intro @Try.underlying28 (And.intro T.c28 T.g28)) (And.intro T.b28 (And.intro T.z28 T.s28))))) (And.intro (And.intro (And.intro (And.intro @Try.underlying42 T.c42) (And.intro T.g42 (And.intro T.b42 T.z42))) (And.intro (And.intro @Try.underlying43 (And.intro T.c43 T.g43)) (And.intro T.b43 (And.intro T.z43 T.s43)))) (And.intro (And.intro (And.intro @Try.underlying45 T.c45) (And.intro T.g45 (And.intro T.b45 T.z45))) (And.intro (And.intro T.h45 (And.intro @Try.underlying81 T.c81)) (And.intro T.g81 (And.intro T.b81 T.z81)))))) (And.intro (And.intro (And.intro (And.intro (And.intro T.s81 @Try.underlying83) (And.intro T.c83 (And.intro T.g83 T.b83))) (And.intro (And.intro T.z83 (And.intro T.h83 @Try.underlying85)) (And.intro T.c85 (And.intro T.g85 T.b85)))) (And.intro (And.intro (And.intro T.z85 T.h85) (And.intro @Try.underlying111 (And.intro T.c111 T.g111))) (And.intro (And.intro T.b111 (And.intro T.z111 T.p111)) (And.intro @Try.underlying113 (And.intro T.c113 T.g113))))) (And.intro (And.intro (And.intro (And.intro T.b113 T.z113) (And.intro T.h113 (And.intro @Try.underlying150 T.c150))) (And.intro (And.intro T.g150 (And.intro T.b150 T.z150)) (And.intro T.h150 (And.intro T.f45_0 T.f45_1)))) (And.intro (And.intro (And.intro T.f45_2 T.f83_0) (And.intro T.f83_1 (And.intro T.f85_0 T.f85_1))) (And.intro (And.intro T.f113_1 (And.intro T.f150_0 T.f150_1)) (And.intro T.k71 (And.intro T.k69 T.k106))))))) Try.ntmps72)

variable {Γ : Nat → List AV}

set_option maxRecDepth 100000 in
set_option maxHeartbeats 8000000 in
theorem refPathRead_calls (s : AS) (p : Nat) (st : EyeSt) (hl : st.1.length ≤ 2 ^ 44) (h : s.objs p = some (reyeC st)) :
    ACalls Try.prog Γ 72 [.ptr p 0] s (fun r s' => r = .agg (pathR st).1.cells ∧ s' = s.set p (reyeC (pathR st).2)) := by
  refine acalls_body Try.func72 rfl Try.ntmps72 Try.results72 (by simp) ?_
  obtain ⟨q1, e1⟩ : ∃ q, q = eyeNum 8 st := ⟨_, rfl⟩
  obtain ⟨q2, e2⟩ : ∃ q, q = eyeText 1 32 q1.2 := ⟨_, rfl⟩
  obtain ⟨q3, e3⟩ : ∃ q, q = eyeNum 1 q2.2 := ⟨_, rfl⟩
  obtain ⟨q4, e4⟩ : ∃ q, q = rowR stepR q3.1 q3.2 := ⟨_, rfl⟩
  have l1 : q1.2.1.length ≤ 2 ^ 44 := by rw [e1]; exact Nat.le_trans (eyeNum_len _ _) hl
  have l2 : q2.2.1.length ≤ 2 ^ 44 := by rw [e2]; exact Nat.le_trans (eyeText_len _ _ _).2 l1
  have l3 : q3.2.1.length ≤ 2 ^ 44 := by rw [e3]; exact Nat.le_trans (eyeNum_len _ _) l2
  have k3 : q3.1 < 256 := by rw [e3]; exact eyeNum1_lt _
  have hrr : pathR st = (if q4.2.2 = 0 then ⟨q1.1, q2.1, q4.1⟩ else noPath, q4.2) := by subst e4 e3 e2 e1; rfl
  have q4l : q4.1.length = q3.1 := by rw [e4, rowR_len]
  refine awp_reg_seq ?_
  intro K hK
  simp only [↓DN, UP, DF, qSh, qCv, qIA, qIx, qSl, qBu, qCe, qOn, reduceCtorEq, ↓reduceIte, nLT, nLE, nEQ, nAdd, nMul, nPow, nSub, zLT, zLE, zNat, RMsg1672]
  intro o2 ho2
  have hp2 := some_neH h ho2
  refine hK _ _ ?_
  clear hK K
  obtain ⟨z, hz⟩ : ∃ z : List AV, z = [.v (.int .u64 0), .v (.slice none 0 0), .v (.slice none 0 0)] := ⟨_, rfl⟩
  refine awp_seq_k ?_
  intro K1 hK1
  have h1 : ∀ (E : Env) (s1 : AS) (o3 : Nat) (pb : AV), pb.weak (bytesV q2.1 .any) → E 0 = .ptr p 0 → E 2 = .ptr o2 0 → E 3 = .ptr o3 0 → RdS s s1 p o2 o3 (reyeC q2.2) z [.v (.int .u64 q1.1), pb, .v (.slice none 0 0)] → K1 E s1 := by
    intro E s1 o3 pb hpb g0 g2 g3 J
    refine hK1 _ _ ?_
    clear hK1 K1
    refine awp_tells (AS.tells_obj J.var (.cons (AV.weak.refl _) (.cons hpb (.cons (AV.weak.refl _) .nil)))) ?_
    replace J := J.setVar [.v (.int .u64 q1.1), bytesV q2.1 .any, .v (.slice none 0 0)]
    generalize s1.set o3 [.v (.int .u64 q1.1), bytesV q2.1 .any, .v (.slice none 0 0)] = s1 at *
    clear hpb
    refine awp_reg_seq ?_
    intro K hK
    simp only [↓DN, UP, DF, qSh, qCv, qIA, qIx, qSl, qBu, qCe, qOn, reduceCtorEq, ↓reduceIte, nLT, nLE, nEQ, nAdd, nMul, nPow, nSub, zLT, zLE, zNat, RMsg1672, g0]
    refine acallk (reyeNumber_set _ p _ 1 (by omega) (by omega) J.eye) ?_
    rintro r s2 ⟨rfl, rfl⟩
    rw [← e3]
    have J2 := J.setEye (reyeC q3.2)
    clear J
    generalize s1.set p (reyeC q3.2) = s2 at *
    simp only [↓AXq_nil, ↓AXq_cons, pval, DX, Nat.reduceBEq, ↓DN, UP, DF, qSh, qCv, qIA, qIx, qSl, qBu, qCe, qOn, reduceCtorEq, ↓reduceIte, nLT, nLE, nEQ, nAdd, nMul, nPow, nSub, zLT, zLE, zNat, RMsg1672, i64_conv (show q3.1 < 2 ^ 62 by omega)]
    refine hK _ _ ?_
    clear hK K
    refine awp_seq_k ?_
    intro K2 hK2
    have h2 : ∀ (E : Env) (s1 : AS) (x : AV), E 0 = .ptr p 0 → E 2 = .ptr o2 0 → E 3 = .ptr o3 0 → RBuf 2 s s1 x q4.1.length (rowC StepV.cells q4.1) → RdS s s1 p o2 o3 (reyeC q4.2) z [.v (.int .u64 q1.1), bytesV q2.1 .any, x] → K2 E s1 := by
      clear J2 g0 g2 g3 E s1
      intro E s1 x g0 g2 g3 hx J
      refine hK2 _ _ ?_
      clear hK2 K2
      have jr := J.res
      have jv := J.var
      have jd := J.d
      have jd2 := J.d.symm
      have ox := hx.one
      have wx := hx.weak
      simp only [AV.one] at ox
      rw [hz] at jr
      refine awp_seq_k ?_
      intro K6 hK6
      have je : s1.objs p = some [.v (.string ⟨q4.2.1.toArray⟩), .v (.int .i64 q4.2.2)] := J.eye
      by_cases he : q4.2.2 = 0
      · rw [he] at je
        refine awp_reg_seq ?_
        intro K hK
        simp only [↓DN, UP, DF, qSh, qCv, qIA, qIx, qSl, qBu, qCe, qOn, reduceCtorEq, ↓reduceIte, nLT, nLE, nEQ, nAdd, nMul, nPow, nSub, zLT, zLE, zNat, RMsg1672, g0, je, i64_ne_false 0 rfl]
        refine hK _ _ ?_
        clear hK K
        refine awp_cond_k ?_
        intro X Y hX hY
        simp only [↓DN, UP, DF, qSh, qCv, qIA, qIx, qSl, qBu, qCe, qOn, reduceCtorEq, ↓reduceIte, nLT, nLE, nEQ, nAdd, nMul, nPow, nSub, zLT, zLE, zNat, RMsg1672, DB]
        refine hY ?_
        clear hX hY X Y
        refine awp_skip ?_
        refine hK6 _ _ ?_
        clear hK6 K6
        refine awp_reg_seq ?_
        intro K hK
        simp only [↓DN, UP, DF, qSh, qCv, qIA, qIx, qSl, qBu, qCe, qOn, reduceCtorEq, ↓reduceIte, nLT, nLE, nEQ, nAdd, nMul, nPow, nSub, zLT, zLE, zNat, RMsg1672, g3, g2, jv, jr, jd, jd2, ox]
        refine hK _ _ ?_
        clear hK K
        refine awp_ret ?_
        refine aends_cell (o := o2) (off := 0) (by simp only [upd, g2, nEQ, ↓reduceIte]) (AS.set_objs_same _ _ _) (by rw [T.c45]; decide) (by simp only [↓DN, UP, DF, qSh, qCv, qIA, qIx, qSl, qBu, qCe, qOn, reduceCtorEq, ↓reduceIte, nLT, nLE, nEQ, nAdd, nMul, nPow, nSub, zLT, zLE, zNat, RMsg1672]; rfl) ?_
        rw [hrr, if_pos he]
        exact ⟨_, _, path_weak wx, (J.setRes _).out, rfl, rfl⟩
      · refine awp_reg_seq ?_
        intro K hK
        simp only [↓DN, UP, DF, qSh, qCv, qIA, qIx, qSl, qBu, qCe, qOn, reduceCtorEq, ↓reduceIte, nLT, nLE, nEQ, nAdd, nMul, nPow, nSub, zLT, zLE, zNat, RMsg1672, g0, je, i64_ne_true _ he]
        refine hK _ _ ?_
        clear hK K
        refine awp_cond_k ?_
        intro X Y hX hY
        simp only [↓DN, UP, DF, qSh, qCv, qIA, qIx, qSl, qBu, qCe, qOn, reduceCtorEq, ↓reduceIte, nLT, nLE, nEQ, nAdd, nMul, nPow, nSub, zLT, zLE, zNat, RMsg1672, DB]
        refine hX ?_
        clear hX hY X Y
        refine awp_reg_seq ?_
        intro K hK
        simp only [↓DN, UP, DF, qSh, qCv, qIA, qIx, qSl, qBu, qCe, qOn, reduceCtorEq, ↓reduceIte, nLT, nLE, nEQ, nAdd, nMul, nPow, nSub, zLT, zLE, zNat, RMsg1672, g3, g2, jv, jr, jd, jd2]
        refine hK _ _ ?_
        clear hK K
        refine awp_ret ?_
        try simp only [thenQ, blockQ]
        refine aends_cell (o := o2) (off := 0) (by simp only [upd, g2, nEQ, ↓reduceIte]) (AS.set_objs_same _ _ _) (by rw [T.c45]; decide) (by simp only [↓DN, UP, DF, qSh, qCv, qIA, qIx, qSl, qBu, qCe, qOn, reduceCtorEq, ↓reduceIte, nLT, nLE, nEQ, nAdd, nMul, nPow, nSub, zLT, zLE, zNat, RMsg1672]; rfl) ?_
        rw [hrr, if_neg he]
        exact ⟨_, _, noPath_weak, (J.setRes _).out, rfl, rfl⟩
    clear hK2
    refine awp_reg_seq ?_
    intro K hK
    simp only [↓DN, UP, DF, qSh, qCv, qIA, qIx, qSl, qBu, qCe, qOn, reduceCtorEq, ↓reduceIte, nLT, nLE, nEQ, nAdd, nMul, nPow, nSub, zLT, zLE, zNat, RMsg1672]
    refine hK _ _ ?_
    clear hK K
    refine awp_block ?_
    refine awp_loop (fun E s2 => ∃ (i : Nat) (x : AV), i ≤ q3.1 ∧ E 5 = .v (.int .i64 i) ∧ E 4 = .v (.int .i64 q3.1) ∧ E 0 = .ptr p 0 ∧ E 2 = .ptr o2 0 ∧ E 3 = .ptr o3 0 ∧ RBuf 2 s s2 x i (rowC StepV.cells (rowR stepR i q3.2).1) ∧
        RdS s s2 p o2 o3 (reyeC (rowR stepR i q3.2).2) z [.v (.int .u64 q1.1), bytesV q2.1 .any, x])
      (fun E _ => match E 5 with | .v (.int _ i) => q3.1 - i.toNat | _ => 0) ?_ ?_
    · exact ⟨0, _, Nat.zero_le _, by simp only [upd, ↓reduceIte]; rfl, by simp only [upd, nEQ, ↓reduceIte], by simp only [upd, g0, nEQ, ↓reduceIte], by simp only [upd, g2, nEQ, ↓reduceIte], by simp only [upd, g3, nEQ, ↓reduceIte], RBuf.nil _ _ _, J2⟩
    · clear J2 g0 g2 g3 s2
      rintro E1 s4 ⟨i, x, hi, g5, g4, g0, g2, g3, hx, J⟩ -
      refine awp_seq_k ?_
      intro K7 hK7
      by_cases hi' : i < q3.1
      · refine awp_reg_seq ?_
        intro K hK
        simp only [↓DN, UP, DF, qSh, qCv, qIA, qIx, qSl, qBu, qCe, qOn, reduceCtorEq, ↓reduceIte, nLT, nLE, nEQ, nAdd, nMul, nPow, nSub, zLT, zLE, zNat, RMsg1672, g5, g4, eye_lt_nat, decide_eq_true hi']
        refine hK _ _ ?_
        clear hK K
        refine awp_cond_k ?_
        intro X Y hX hY
        simp only [↓DN, UP, DF, qSh, qCv, qIA, qIx, qSl, qBu, qCe, qOn, reduceCtorEq, ↓reduceIte, nLT, nLE, nEQ, nAdd, nMul, nPow, nSub, zLT, zLE, zNat, RMsg1672, DB]
        refine hX ?_
        clear hX hY X Y
        refine awp_skip ?_
        refine hK7 _ _ ?_
        clear hK7 K7
        refine awp_seq_k ?_
        intro K7 hK7
        refine awp_block ?_
        have hnext : ∀ (E2 : Env) (s5 : AS) (x1 x2 : AV), x1.weak x2 → E2 5 = .v (.int .i64 i) → E2 4 = .v (.int .i64 q3.1) → E2 0 = .ptr p 0 → E2 2 = .ptr o2 0 → E2 3 = .ptr o3 0 → RBuf 2 s s5 x2 (i + 1) (rowC StepV.cells (rowR stepR (i + 1) q3.2).1) →
            RdS s s5 p o2 o3 (reyeC (rowR stepR (i + 1) q3.2).2) z [.v (.int .u64 q1.1), bytesV q2.1 .any, x1] → K7 E2 s5 := by
          intro E2 s5 x1 x2 hw f5 f4 f0 f2 f3 fx fJ
          refine hK7 _ _ ?_
          clear hK7 K7
          refine awp_tells (AS.tells_obj fJ.var (.cons (AV.weak.refl _) (.cons (AV.weak.refl _) (.cons hw .nil)))) ?_
          replace fJ := fJ.setVar [.v (.int .u64 q1.1), bytesV q2.1 .any, x2]
          replace fx : RBuf 2 s (s5.set o3 [.v (.int .u64 q1.1), bytesV q2.1 .any, x2]) x2 (i + 1) (rowC StepV.cells (rowR stepR (i + 1) q3.2).1) := fx
          generalize s5.set o3 [.v (.int .u64 q1.1), bytesV q2.1 .any, x2] = s6 at *
          refine awp_reg_end ?_
          intro K hK
          simp only [↓DN, UP, DF, qSh, qCv, qIA, qIx, qSl, qBu, qCe, qOn, reduceCtorEq, ↓reduceIte, nLT, nLE, nEQ, nAdd, nMul, nPow, nSub, zLT, zLE, zNat, RMsg1672, f5, eye_succ i (by omega)]
          refine hK _ _ ?_
          clear hK K
          refine ⟨⟨i + 1, x2, by omega, by simp only [upd, ↓reduceIte], by simp only [upd, f4, nEQ, ↓reduceIte], by simp only [upd, f0, nEQ, ↓reduceIte], by simp only [upd, f2, nEQ, ↓reduceIte], by simp only [upd, f3, nEQ, ↓reduceIte], fx, fJ⟩, ?_⟩
          simp only [g5, upd, ↓reduceIte]
          omega
        clear hK7
        have hSt : ∀ n, (rowR stepR n q3.2).2.1.length ≤ 2 ^ 44 := fun n => Nat.le_trans (rowR_left stepR_left _ _) l3
        obtain ⟨sti, hsti⟩ : ∃ q, q = (rowR stepR i q3.2).2 := ⟨_, rfl⟩
        have li : sti.1.length ≤ 2 ^ 44 := by rw [hsti]; exact hSt i
        have hrow1 : (rowR stepR (i + 1) q3.2) = ((rowR stepR i q3.2).1 ++ [(stepR sti).1], (stepR sti).2) := by rw [hsti]; rfl
        rw [hrow1] at hnext
        rw [← hsti] at J
        obtain ⟨L, hL⟩ : ∃ q, q = (rowR stepR i q3.2).1 := ⟨_, rfl⟩
        have hLl : L.length = i := by rw [hL, rowR_len]
        rw [← hL] at hx hnext
        clear hrow1 hSt hL hsti
        obtain ⟨qa, ea⟩ : ∃ q, q = eyeNum 8 sti := ⟨_, rfl⟩
        obtain ⟨qb, eb⟩ : ∃ q, q = eyeNum 1 qa.2 := ⟨_, rfl⟩
        obtain ⟨qc, ec⟩ : ∃ q, q = rowR sealR qb.1 qb.2 := ⟨_, rfl⟩
        have la : qa.2.1.length ≤ 2 ^ 44 := by rw [ea]; exact Nat.le_trans (eyeNum_len _ _) li
        have lb : qb.2.1.length ≤ 2 ^ 44 := by rw [eb]; exact Nat.le_trans (eyeNum_len _ _) la
        have kb : qb.1 < 256 := by rw [eb]; exact eyeNum1_lt _
        have hcl : qc.1.length = qb.1 := by rw [ec, rowR_len]
        have hst : stepR sti = (⟨qa.1, qc.1⟩, qc.2) := by subst ec eb ea; rfl
        rw [hst] at hnext
        simp only at hnext
        clear hst
        refine awp_reg_seq ?_
        intro K hK
        simp only [↓DN, UP, DF, qSh, qCv, qIA, qIx, qSl, qBu, qCe, qOn, reduceCtorEq, ↓reduceIte, nLT, nLE, nEQ, nAdd, nMul, nPow, nSub, zLT, zLE, zNat, RMsg1672, g0]
        refine acallk (reyeNumber_set _ p _ 8 (by omega) (by omega) J.eye) ?_
        rintro r s5 ⟨rfl, rfl⟩
        rw [← ea]
        have J5 := J.setEye (reyeC qa.2)
        have hx5 : RBuf 2 s (s4.set p (reyeC qa.2)) x i (rowC StepV.cells L) := hx
        generalize s4.set p (reyeC qa.2) = s5 at *
        simp only [↓AXq_nil, ↓AXq_cons, pval, DX, Nat.reduceBEq, ↓DN, UP, DF, qSh, qCv, qIA, qIx, qSl, qBu, qCe, qOn, reduceCtorEq, ↓reduceIte, nLT, nLE, nEQ, nAdd, nMul, nPow, nSub, zLT, zLE, zNat, RMsg1672]
        intro o4 ho4
        have J6 := J5.setNew ho4 [.v (.int .u64 qa.1), .v (.slice none 0 0)]
        have hx6 : RBuf 2 s (s5.set o4 [.v (.int .u64 qa.1), .v (.slice none 0 0)]) x i (rowC StepV.cells L) := hx5
        have hJ6 : ∀ t, (s5.set o4 [.v (.int .u64 qa.1), .v (.slice none 0 0)]).own t = none → s.own t = none := fun t h => J6.rd.own_none h
        clear J5 hx5 hx J
        refine hK _ _ ?_
        clear hK K
        generalize s5.set o4 [.v (.int .u64 qa.1), .v (.slice none 0 0)] = s6 at *
        refine awp_reg_seq ?_
        intro K hK
        simp only [↓DN, UP, DF, qSh, qCv, qIA, qIx, qSl, qBu, qCe, qOn, reduceCtorEq, ↓reduceIte, nLT, nLE, nEQ, nAdd, nMul, nPow, nSub, zLT, zLE, zNat, RMsg1672, g0]
        refine acallk (reyeNumber_set _ p _ 1 (by omega) (by omega) J6.rd.eye) ?_
        rintro r s7 ⟨rfl, rfl⟩
        rw [← eb]
        have J7 := J6.setEye (reyeC qb.2)
        simp only [↓AXq_nil, ↓AXq_cons, pval, DX, Nat.reduceBEq, ↓DN, UP, DF, qSh, qCv, qIA, qIx, qSl, qBu, qCe, qOn, reduceCtorEq, ↓reduceIte, nLT, nLE, nEQ, nAdd, nMul, nPow, nSub, zLT, zLE, zNat, RMsg1672, i64_conv (show qb.1 < 2 ^ 62 by omega)]
        refine hK _ _ ?_
        clear hK K
        refine awp_seq_k ?_
        intro K8 hK8
        have h8 : ∀ (E : Env) (s7 : AS) (y : AV), E 5 = .v (.int .i64 i) → E 4 = .v (.int .i64 q3.1) → E 0 = .ptr p 0 → E 2 = .ptr o2 0 → E 3 = .ptr o3 0 → E 6 = .ptr o4 0 → RBuf 2 s s7 x i (rowC StepV.cells L) → RBuf 2 s6 s7 y qc.1.length (rowC SealV.cells qc.1) →
            Rd4 s s7 p o2 o3 o4 (reyeC qc.2) z [.v (.int .u64 q1.1), bytesV q2.1 .any, x] [.v (.int .u64 qa.1), y] → K8 E s7 := by
          clear J7 J6 hx6 g5 g4 g0 g2 g3
          intro E s7 y g5 g4 g0 g2 g3 g6 hx hy J
          refine hK8 _ _ ?_
          clear hK8 K8
          have jv := J.rd.var
          have jo := J.obj
          have jd3 := J.d3
          have jd3' := J.d3.symm
          have oy := hy.one
          have wy := hy.weak
          simp only [AV.one] at oy
          have hwS : AVs.weak [.v (.int .u64 qa.1), y] (StepV.cells ⟨qa.1, qc.1⟩) := .cons (AV.weak.refl _) (.cons wy .nil)
          have hsn : rowC StepV.cells (L ++ [⟨qa.1, qc.1⟩]) = rowC StepV.cells L ++ StepV.cells ⟨qa.1, qc.1⟩ := row_snoc _ _
          rcases hx with ⟨rfl, hi0, hL0⟩ | ⟨t, e, rfl, ht, ht0⟩
          · refine awp_reg_end ?_
            intro K hK
            simp only [↓DN, UP, DF, qSh, qCv, qIA, qIx, qSl, qBu, qCe, qOn, reduceCtorEq, ↓reduceIte, nLT, nLE, nEQ, nAdd, nMul, nPow, nSub, zLT, zLE, zNat, RMsg1672, g3, g6, jv, jo, jd3, jd3', oy, nilS, zrow_two]
            intro t ht
            refine hK _ _ ?_
            clear hK K
            have ht0 := J.rd.own_none ht
            have hcl' : (rowC StepV.cells (L ++ [⟨qa.1, qc.1⟩])) = StepV.cells ⟨qa.1, qc.1⟩ := by rw [hsn, hL0]; rfl
            refine hnext _ _ _ (.sl 2 (i + 1) (rowC StepV.cells (L ++ [⟨qa.1, qc.1⟩])) (.own t 0)) ?_ (by simp only [upd, g5, nEQ, ↓reduceIte]) (by simp only [upd, g4, nEQ, ↓reduceIte]) (by simp only [upd, g0, nEQ, ↓reduceIte]) (by simp only [upd, g2, nEQ, ↓reduceIte]) (by simp only [upd, g3, nEQ, ↓reduceIte]) ?_ ((J.rd.gain ht0 0).setVar _)
            · rw [hcl', hi0]
              exact AV.weak_slc hwS
            · exact .inr ⟨t, 0, rfl, by simp [AS.set, AS.gain], ht0⟩
          · refine awp_reg_end ?_
            intro K hK
            simp only [↓DN, UP, DF, qSh, qCv, qIA, qIx, qSl, qBu, qCe, qOn, reduceCtorEq, ↓reduceIte, nLT, nLE, nEQ, nAdd, nMul, nPow, nSub, zLT, zLE, zNat, RMsg1672, g3, g6, jv, jo, jd3, jd3', oy, ht, zrow_two]
            refine ⟨by omega, by omega, ?_⟩
            refine hK _ _ ?_
            clear hK K
            refine hnext _ _ _ (.sl 2 (i + 1) (rowC StepV.cells (L ++ [⟨qa.1, qc.1⟩])) (.own t (e + 1))) ?_ (by simp only [upd, g5, nEQ, ↓reduceIte]) (by simp only [upd, g4, nEQ, ↓reduceIte]) (by simp only [upd, g0, nEQ, ↓reduceIte]) (by simp only [upd, g2, nEQ, ↓reduceIte]) (by simp only [upd, g3, nEQ, ↓reduceIte]) ?_ ((J.rd.gain ht0 (e + 1)).setVar _)
            · rw [hsn]
              exact AV.weak_slc (AVs.weak.append (AVs.weak.refl _) hwS)
            · exact .inr ⟨t, e + 1, rfl, by simp [AS.set, AS.gain], ht0⟩
        clear hK8 hnext
        refine awp_reg_seq ?_
        intro K hK
        simp only [↓DN, UP, DF, qSh, qCv, qIA, qIx, qSl, qBu, qCe, qOn, reduceCtorEq, ↓reduceIte, nLT, nLE, nEQ, nAdd, nMul, nPow, nSub, zLT, zLE, zNat, RMsg1672]
        refine hK _ _ ?_
        clear hK K
        refine awp_block ?_
        refine awp_loop (fun E s8 => ∃ (j : Nat) (y : AV), j ≤ qb.1 ∧ E 8 = .v (.int .i64 j) ∧ E 7 = .v (.int .i64 qb.1) ∧ E 5 = .v (.int .i64 i) ∧ E 4 = .v (.int .i64 q3.1) ∧ E 0 = .ptr p 0 ∧ E 2 = .ptr o2 0 ∧ E 3 = .ptr o3 0 ∧ E 6 = .ptr o4 0 ∧
            (∀ t e, s6.own t = some e → s8.own t = some e) ∧ RBuf 2 s6 s8 y j (rowC SealV.cells (rowR sealR j qb.2).1) ∧ Rd4 s s8 p o2 o3 o4 (reyeC (rowR sealR j qb.2).2) z [.v (.int .u64 q1.1), bytesV q2.1 .any, x] [.v (.int .u64 qa.1), y])
          (fun E _ => match E 8 with | .v (.int _ j) => qb.1 - j.toNat | _ => 0) ?_ ?_
        · exact ⟨0, _, Nat.zero_le _, by simp only [upd, ↓reduceIte]; rfl, by simp only [upd, nEQ, ↓reduceIte], by simp only [upd, g5, nEQ, ↓reduceIte], by simp only [upd, g4, nEQ, ↓reduceIte], by simp only [upd, g0, nEQ, ↓reduceIte], by simp only [upd, g2, nEQ, ↓reduceIte], by simp only [upd, g3, nEQ, ↓reduceIte], by simp only [upd, nEQ, ↓reduceIte], fun t e h => h, RBuf.nil _ _ _, J7⟩
        · clear J7 J6 g5 g4 g0 g2 g3
          rintro E2 s8 ⟨j, y, hj, g8, g7, g5, g4, g0, g2, g3, g6, hown, hy, J⟩ -
          refine awp_seq_k ?_
          intro K9 hK9
          by_cases hj' : j < qb.1
          · refine awp_reg_seq ?_
            intro K hK
            simp only [↓DN, UP, DF, qSh, qCv, qIA, qIx, qSl, qBu, qCe, qOn, reduceCtorEq, ↓reduceIte, nLT, nLE, nEQ, nAdd, nMul, nPow, nSub, zLT, zLE, zNat, RMsg1672, g8, g7, eye_lt_nat, decide_eq_true hj']
            refine hK _ _ ?_
            clear hK K
            refine awp_cond_k ?_
            intro X Y hX hY
            simp only [↓DN, UP, DF, qSh, qCv, qIA, qIx, qSl, qBu, qCe, qOn, reduceCtorEq, ↓reduceIte, nLT, nLE, nEQ, nAdd, nMul, nPow, nSub, zLT, zLE, zNat, RMsg1672, DB]
            refine hX ?_
            clear hX hY X Y
            refine awp_skip ?_
            refine hK9 _ _ ?_
            clear hK9 K9
            refine awp_seq_k ?_
            intro K9 hK9
            refine awp_block ?_
            have hnext : ∀ (E3 : Env) (s9 : AS) (y1 y2 : AV), y1.weak y2 → E3 8 = .v (.int .i64 j) → E3 7 = .v (.int .i64 qb.1) → E3 5 = .v (.int .i64 i) → E3 4 = .v (.int .i64 q3.1) → E3 0 = .ptr p 0 → E3 2 = .ptr o2 0 → E3 3 = .ptr o3 0 → E3 6 = .ptr o4 0 →
                (∀ t e, s6.own t = some e → s9.own t = some e) → RBuf 2 s6 s9 y2 (j + 1) (rowC SealV.cells (rowR sealR (j + 1) qb.2).1) → Rd4 s s9 p o2 o3 o4 (reyeC (rowR sealR (j + 1) qb.2).2) z [.v (.int .u64 q1.1), bytesV q2.1 .any, x] [.v (.int .u64 qa.1), y1] → K9 E3 s9 := by
              intro E3 s9 y1 y2 hw f8 f7 f5 f4 f0 f2 f3 f6 fo fy fJ
              refine hK9 _ _ ?_
              clear hK9 K9
              refine awp_tells (AS.tells_obj fJ.obj (.cons (AV.weak.refl _) (.cons hw .nil))) ?_
              replace fJ := fJ.setObj [.v (.int .u64 qa.1), y2]
              replace fy : RBuf 2 s6 (s9.set o4 [.v (.int .u64 qa.1), y2]) y2 (j + 1) (rowC SealV.cells (rowR sealR (j + 1) qb.2).1) := fy
              replace fo : ∀ t e, s6.own t = some e → (s9.set o4 [.v (.int .u64 qa.1), y2]).own t = some e := fo
              generalize s9.set o4 [.v (.int .u64 qa.1), y2] = s10 at *
              refine awp_reg_end ?_
              intro K hK
              simp only [↓DN, UP, DF, qSh, qCv, qIA, qIx, qSl, qBu, qCe, qOn, reduceCtorEq, ↓reduceIte, nLT, nLE, nEQ, nAdd, nMul, nPow, nSub, zLT, zLE, zNat, RMsg1672, f8, eye_succ j (by omega)]
              refine hK _ _ ?_
              clear hK K
              refine ⟨⟨j + 1, y2, by omega, by simp only [upd, ↓reduceIte], by simp only [upd, f7, nEQ, ↓reduceIte], by simp only [upd, f5, nEQ, ↓reduceIte], by simp only [upd, f4, nEQ, ↓reduceIte], by simp only [upd, f0, nEQ, ↓reduceIte], by simp only [upd, f2, nEQ, ↓reduceIte], by simp only [upd, f3, nEQ, ↓reduceIte], by simp only [upd, f6, nEQ, ↓reduceIte], fo, fy, fJ⟩, ?_⟩
              simp only [g8, upd, ↓reduceIte]
              omega
            clear hK9
            have hlj : (rowR sealR j qb.2).2.1.length ≤ 2 ^ 44 := Nat.le_trans (rowR_left sealR_left _ _) lb
            have hrow1 : (rowR sealR (j + 1) qb.2) = ((rowR sealR j qb.2).1 ++ [(sealR (rowR sealR j qb.2).2).1], (sealR (rowR sealR j qb.2).2).2) := rfl
            rw [hrow1] at hnext
            have hMl : (rowR sealR j qb.2).1.length = j := rowR_len _ _
            generalize (rowR sealR j qb.2).1 = M at *
            generalize (rowR sealR j qb.2).2 = stj at *
            simp only [row_snoc] at hnext
            refine awp_reg_seq ?_
            intro K hK
            simp only [↓DN, UP, DF, qSh, qCv, qIA, qIx, qSl, qBu, qCe, qOn, reduceCtorEq, ↓reduceIte, nLT, nLE, nEQ, nAdd, nMul, nPow, nSub, zLT, zLE, zNat, RMsg1672, g0]
            refine acallk (refHRead_calls _ p stj 48 hlj J.rd.eye) ?_
            rintro r s9 ⟨rfl, rfl⟩
            simp only [↓AXq_nil, ↓AXq_cons, pval, DX, Nat.reduceBEq, ↓DN, UP, DF, qSh, qCv, qIA, qIx, qSl, qBu, qCe, qOn, reduceCtorEq, ↓reduceIte, nLT, nLE, nEQ, nAdd, nMul, nPow, nSub, zLT, zLE, zNat, RMsg1672]
            intro o5 ho5
            have J9 := (J.setEye (reyeC (hRead 48 stj).2)).fresh ho5 [.v (.int .u64 (hRead 48 stj).1.1), .v (.string ⟨(hRead 48 stj).1.2.toArray⟩)]
            have h45 : o4 ≠ o5 := some_neO (J.setEye (reyeC (hRead 48 stj).2)).obj ho5
            have h5 := AS.set_objs_same (s8.set p (reyeC (hRead 48 stj).2)) o5 [.v (.int .u64 (hRead 48 stj).1.1), .v (.string ⟨(hRead 48 stj).1.2.toArray⟩)]
            have hown9 : ∀ t, ((s8.set p (reyeC (hRead 48 stj).2)).set o5 [.v (.int .u64 (hRead 48 stj).1.1), .v (.string ⟨(hRead 48 stj).1.2.toArray⟩)]).own t = s8.own t := fun t => rfl
            refine hK _ _ ?_
            clear hK K J
            generalize (s8.set p (reyeC (hRead 48 stj).2)).set o5 [.v (.int .u64 (hRead 48 stj).1.1), .v (.string ⟨(hRead 48 stj).1.2.toArray⟩)] = s9 at *
            have jo := J9.obj
            have h54 := h45.symm
            rcases hy with ⟨rfl, hj0, hM0⟩ | ⟨t, e, rfl, ht, ht0⟩
            · refine awp_reg_end ?_
              intro K hK
              simp only [↓DN, UP, DF, qSh, qCv, qIA, qIx, qSl, qBu, qCe, qOn, reduceCtorEq, ↓reduceIte, nLT, nLE, nEQ, nAdd, nMul, nPow, nSub, zLT, zLE, zNat, RMsg1672, g6, jo, h5, h45, h54, zrow_two, nilS]
              intro t ht
              have ht0 : s.own t = none := J9.rd.own_none ht
              have hs6 : s6.own t = none := by
                cases e6 : s6.own t with
                | none => rfl
                | some e => have := hown t e e6; rw [← hown9 t, ht] at this; cases this
              refine hK _ _ ?_
              clear hK K
              refine hnext _ _ _ (.sl 2 (j + 1) (rowC SealV.cells M ++ SealV.cells (sealR stj).1) (.own t 0)) ?_ (by simp only [upd, g8, nEQ, ↓reduceIte]) (by simp only [upd, g7, nEQ, ↓reduceIte]) (by simp only [upd, g5, nEQ, ↓reduceIte]) (by simp only [upd, g4, nEQ, ↓reduceIte]) (by simp only [upd, g0, nEQ, ↓reduceIte]) (by simp only [upd, g2, nEQ, ↓reduceIte]) (by simp only [upd, g3, nEQ, ↓reduceIte]) (by simp only [upd, g6, nEQ, ↓reduceIte]) ?_ ?_ ((J9.gain ht0 0).setObj _)
              · rw [hM0, hj0]
                exact AV.weak_slc (.cons (AV.weak.refl _) (.cons AV.weak_any .nil))
              · intro t' e' h'
                have := own_ne h' hs6
                simp only [AS.set, AS.gain, upd, this, if_false]
                rw [hown9]
                exact hown t' e' h'
              · exact .inr ⟨t, 0, rfl, by simp [AS.set, AS.gain], hs6⟩
            · have hst0 : s.own t = none := hJ6 t ht0
              rw [← hown9] at ht
              refine awp_reg_end ?_
              intro K hK
              simp only [↓DN, UP, DF, qSh, qCv, qIA, qIx, qSl, qBu, qCe, qOn, reduceCtorEq, ↓reduceIte, nLT, nLE, nEQ, nAdd, nMul, nPow, nSub, zLT, zLE, zNat, RMsg1672, g6, jo, h5, h45, h54, zrow_two, ht]
              refine ⟨by omega, by omega, ?_⟩
              refine hK _ _ ?_
              clear hK K
              refine hnext _ _ _ (.sl 2 (j + 1) (rowC SealV.cells M ++ SealV.cells (sealR stj).1) (.own t (e + 1))) ?_ (by simp only [upd, g8, nEQ, ↓reduceIte]) (by simp only [upd, g7, nEQ, ↓reduceIte]) (by simp only [upd, g5, nEQ, ↓reduceIte]) (by simp only [upd, g4, nEQ, ↓reduceIte]) (by simp only [upd, g0, nEQ, ↓reduceIte]) (by simp only [upd, g2, nEQ, ↓reduceIte]) (by simp only [upd, g3, nEQ, ↓reduceIte]) (by simp only [upd, g6, nEQ, ↓reduceIte]) ?_ ?_ ((J9.gain hst0 (e + 1)).setObj _)
              · exact AV.weak_slc (AVs.weak.append (AVs.weak.refl _) (.cons (AV.weak.refl _) (.cons AV.weak_any .nil)))
              · intro t' e' h'
                have := own_ne h' ht0
                simp only [AS.set, AS.gain, upd, this, if_false]
                rw [hown9]
                exact hown t' e' h'
              · exact .inr ⟨t, e + 1, rfl, by simp [AS.set, AS.gain], ht0⟩
          · refine awp_reg_seq ?_
            intro K hK
            simp only [↓DN, UP, DF, qSh, qCv, qIA, qIx, qSl, qBu, qCe, qOn, reduceCtorEq, ↓reduceIte, nLT, nLE, nEQ, nAdd, nMul, nPow, nSub, zLT, zLE, zNat, RMsg1672, g8, g7, eye_lt_nat, decide_eq_false hj']
            refine hK _ _ ?_
            clear hK K
            refine awp_cond_k ?_
            intro X Y hX hY
            simp only [↓DN, UP, DF, qSh, qCv, qIA, qIx, qSl, qBu, qCe, qOn, reduceCtorEq, ↓reduceIte, nLT, nLE, nEQ, nAdd, nMul, nPow, nSub, zLT, zLE, zNat, RMsg1672, DB]
            refine hY ?_
            clear hX hY X Y
            refine awp_exit ?_
            simp only [thenQ, blockQ, if_true]
            obtain rfl : j = qb.1 := by omega
            rw [← ec] at hy J
            rw [← hcl] at hy
            exact h8 _ _ _ (by simp only [upd, g5, nEQ, ↓reduceIte]) (by simp only [upd, g4, nEQ, ↓reduceIte]) (by simp only [upd, g0, nEQ, ↓reduceIte]) (by simp only [upd, g2, nEQ, ↓reduceIte]) (by simp only [upd, g3, nEQ, ↓reduceIte]) (by simp only [upd, g6, nEQ, ↓reduceIte]) (hx6.own fun t e h _ => hown t e h) hy J
      · refine awp_reg_seq ?_
        intro K hK
        simp only [↓DN, UP, DF, qSh, qCv, qIA, qIx, qSl, qBu, qCe, qOn, reduceCtorEq, ↓reduceIte, nLT, nLE, nEQ, nAdd, nMul, nPow, nSub, zLT, zLE, zNat, RMsg1672, g5, g4, eye_lt_nat, decide_eq_false hi']
        refine hK _ _ ?_
        clear hK K
        refine awp_cond_k ?_
        intro X Y hX hY
        simp only [↓DN, UP, DF, qSh, qCv, qIA, qIx, qSl, qBu, qCe, qOn, reduceCtorEq, ↓reduceIte, nLT, nLE, nEQ, nAdd, nMul, nPow, nSub, zLT, zLE, zNat, RMsg1672, DB]
        refine hY ?_
        clear hX hY X Y
        refine awp_exit ?_
        simp only [thenQ, blockQ, if_true]
        obtain rfl : i = q3.1 := by omega
        rw [← e4] at hx J
        rw [← q4l] at hx
        exact h2 _ _ _ (by simp only [upd, g0, nEQ, ↓reduceIte]) (by simp only [upd, g2, nEQ, ↓reduceIte]) (by simp only [upd, g3, nEQ, ↓reduceIte]) hx J
  clear hK1
  refine awp_reg_end ?_
  intro K hK
  simp only [↓DN, UP, DF, qSh, qCv, qIA, qIx, qSl, qBu, qCe, qOn, reduceCtorEq, ↓reduceIte, nLT, nLE, nEQ, nAdd, nMul, nPow, nSub, zLT, zLE, zNat, RMsg1672]
  refine acallk (reyeNumber_set _ p st 8 (by omega) (by omega) (by rw [AS.set_objs_ne _ hp2]; exact h)) ?_
  rintro r s1 ⟨rfl, rfl⟩
  rw [← e1]
  simp only [↓AXq_nil, ↓AXq_cons, pval, DX, Nat.reduceBEq, ↓DN, UP, DF, qSh, qCv, qIA, qIx, qSl, qBu, qCe, qOn, reduceCtorEq, ↓reduceIte, nLT, nLE, nEQ, nAdd, nMul, nPow, nSub, zLT, zLE, zNat, RMsg1672]
  refine acallk (reyeText_set _ p _ 1 32 (by omega) (by have := l1; omega) (AS.set_objs_same _ _ _)) ?_
  rintro r s1 ⟨rfl, rfl⟩
  rw [← e2]
  simp only [↓AXq_nil, ↓AXq_cons, pval, DX, Nat.reduceBEq, ↓DN, UP, DF, qSh, qCv, qIA, qIx, qSl, qBu, qCe, qOn, reduceCtorEq, ↓reduceIte, nLT, nLE, nEQ, nAdd, nMul, nPow, nSub, zLT, zLE, zNat, RMsg1672]
  intro o3 ho3
  have hp3 : o3 ≠ p := by
    rintro rfl
    simp at ho3
  have h32 : o3 ≠ o2 := by
    rintro rfl
    simp [hp2.symm] at ho3
  have ho30 : s.objs o3 = none := by simpa [hp3, h32] using ho3
  refine hK _ _ (h1 _ _ o3 (.sl 1 q2.1.length (q2.1.map byteV) .no) AV.weak_any (by simp only [upd, initE, nEQ, ↓reduceIte, List.getD_cons_zero]) (by simp only [upd, nEQ, ↓reduceIte]) (by simp only [upd, nEQ, ↓reduceIte]) ?_)
  refine ⟨AS.le_set (AS.le_set (AS.le_set (AS.drop_le s p) (AS.drop_objs_none ho2) _) (AS.drop_self _ _) _) (AS.drop_objs_none ho30) _, ?_, ?_, AS.set_objs_same _ _ _, ho2, ho30, hp2, hp3.symm, h32.symm⟩
  · rw [AS.set_objs_ne _ hp3.symm, AS.set_objs_same]
  · rw [AS.set_objs_ne _ h32.symm, AS.set_objs_ne _ hp2.symm, AS.set_objs_same, hz]

end Go.Proofs.Ytcnilmidfhpckaa


