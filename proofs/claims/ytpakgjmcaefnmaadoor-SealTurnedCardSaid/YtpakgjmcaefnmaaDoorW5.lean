/- Contracts of the program's functions, each walked once; the conditions stand in each theorem. -/
import Derived.Test.YtpakgjmcaefnmaaDoorAMp6
import Derived.Test.YtpakgjmcaefnmaaDoorW4
import Derived.Test.YtpakgjmcaefnmaaDoorAMp4
import Derived.Test.YtpakgjmcaefnmaaDoorAMp3
set_option linter.unusedSimpArgs false
set_option linter.unusedVariables false
open Nat renaming reduceLT → nLT, reduceLeDiff → nLE, reduceEqDiff → nEQ, reduceAdd → nAdd, reduceMul → nMul, reducePow → nPow, reduceSub → nSub
open Int renaming reduceLT → zLT, reduceLE → zLE, reduceToNat → zNat
set_option autoImplicit false
namespace Go.Proofs.YtpakgjmcaefnmaaDoor
open Go Go.AM Go.Proofs

theorem REye115 : type_of% (And.intro (And.intro (And.intro (And.intro (And.intro @Tryd.underlying5 (And.intro T.c5 T.g5)) (And.intro T.b5 (And.intro T.z5 @Tryd.underlying22))) (And.intro (And.intro T.c22 (And.intro T.g22 T.b22)) (And.intro T.z22 (And.intro T.s22 @Tryd.underlying91)))) (And.intro (And.intro (And.intro T.c91 (And.intro T.g91 T.b91)) (And.intro T.z91 (And.intro @Tryd.underlying155 T.c155))) (And.intro (And.intro T.g155 (And.intro T.b155 T.z155)) (And.intro (And.intro T.h155 T.f155_0) (And.intro T.f155_1 T.k128))))) Tryd.ntmps115) :=
  (And.intro (And.intro (And.intro (And.intro (And.intro @Tryd.underlying5 (And.intro T.c5 T.g5)) (And.intro T.b5 (And.intro T.z5 @Tryd.underlying22))) (And.intro (And.intro T.c22 (And.intro T.g22 T.b22)) (And.intro T.z22 (And.intro T.s22 @Tryd.underlying91)))) (And.intro (And.intro (And.intro T.c91 (And.intro T.g91 T.b91)) (And.intro T.z91 (And.intro @Tryd.underlying155 T.c155))) (And.intro (And.intro T.g155 (And.intro T.b155 T.z155)) (And.intro (And.intro T.h155 T.f155_0) (And.intro T.f155_1 T.k128))))) Tryd.ntmps115)
theorem REye158 : type_of% (And.intro (And.intro (And.intro (And.intro (And.intro @Tryd.underlying3 (And.intro T.c3 T.g3)) (And.intro (And.intro T.b3 T.z3) (And.intro @Tryd.underlying5 T.c5))) (And.intro (And.intro T.g5 (And.intro T.b5 T.z5)) (And.intro (And.intro @Tryd.underlying22 T.c22) (And.intro T.g22 T.b22)))) (And.intro (And.intro (And.intro T.z22 (And.intro T.s22 @Tryd.underlying91)) (And.intro (And.intro T.c91 T.g91) (And.intro T.b91 T.z91))) (And.intro (And.intro (And.intro @Tryd.underlying155 T.c155) (And.intro T.g155 T.b155)) (And.intro (And.intro T.z155 T.h155) (And.intro T.f155_0 T.f155_1))))) Tryd.ntmps158) :=
  (And.intro (And.intro (And.intro (And.intro (And.intro @Tryd.underlying3 (And.intro T.c3 T.g3)) (And.intro (And.intro T.b3 T.z3) (And.intro @Tryd.underlying5 T.c5))) (And.intro (And.intro T.g5 (And.intro T.b5 T.z5)) (And.intro (And.intro @Tryd.underlying22 T.c22) (And.intro T.g22 T.b22)))) (And.intro (And.intro (And.intro T.z22 (And.intro T.s22 @Tryd.underlying91)) (And.intro (And.intro T.c91 T.g91) (And.intro T.b91 T.z91))) (And.intro (And.intro (And.intro @Tryd.underlying155 T.c155) (And.intro T.g155 T.b155)) (And.intro (And.intro T.z155 T.h155) (And.intro T.f155_0 T.f155_1))))) Tryd.ntmps158)

variable {Γ : Nat → List AV}

set_option maxHeartbeats 400000 in
theorem open_calls (l : List UInt8) (s : AS) (hl : l.length ≤ 2 ^ 45) : ACalls Tryd.prog Γ 115 [bytesV l .any] s (fun r s' => ∃ p, r = .ptr p 0 ∧ EyeS s s' p (l, 0)) := by
  refine acalls_body Tryd.func115 rfl Tryd.ntmps115 Tryd.results115 (by simp) ?_
  refine awp_reg_seq ?_
  intro K hK
  simp only [↓DN, UP, DF, ashift, aconv, aindexAddr, aindex, aslice, abuiltin, AV.cells, AV.one, reduceCtorEq, ↓reduceIte, nLT, nLE, nEQ, nAdd, nMul, nPow, nSub, zLT, zLE, zNat, REye115]
  refine hK _ _ ?_
  clear hK K
  refine awp_reg_seq ?_
  intro K hK
  simp only [↓DN, UP, DF, ashift, aconv, aindexAddr, aindex, aslice, abuiltin, AV.cells, AV.one, reduceCtorEq, ↓reduceIte, nLT, nLE, nEQ, nAdd, nMul, nPow, nSub, zLT, zLE, zNat, REye115]
  refine acallk (cloneB_calls l s hl) ?_
  rintro r s' ⟨rfl, rfl⟩
  unfold bytesV
  simp only [↓AXq_nil, ↓AXq_cons, pval, DX, Nat.reduceBEq, ↓DN, UP, DF, ashift, aconv, aindexAddr, aindex, aslice, abuiltin, AV.cells, AV.one, reduceCtorEq, ↓reduceIte, nLT, nLE, nEQ, nAdd, nMul, nPow, nSub, zLT, zLE, zNat, REye115]
  intro p hp
  refine hK _ _ ?_
  refine awp_ret ?_
  simp only [retQ, AEnds, aresL, ares, List.toList_toArray, ↓upd_same]; try simp only [↓DN, UP, DF, ashift, aconv, aindexAddr, aindex, aslice, abuiltin, AV.cells, AV.one, reduceCtorEq, ↓reduceIte, nLT, nLE, nEQ, nAdd, nMul, nPow, nSub, zLT, zLE, zNat, REye115, DT]
  exact ⟨_, _, AV.weak.refl _, AS.le.refl _, p, rfl, AS.le_set (AS.le.refl _) hp _, hp, AS.set_objs_same _ _ _⟩

set_option maxHeartbeats 1000000 in
theorem next_calls (s0 s : AS) (p : Nat) (st : EyeSt) (n : Int) (h : EyeS s0 s p st) :
    ACalls Tryd.prog Γ 158 [.ptr p 0, .v (.int .i64 n)] s (fun r s' => r = bytesV (eyeNext n st).1 .any ∧ EyeS s0 s' p (eyeNext n st).2) := by
  refine acalls_body Tryd.func158 rfl Tryd.ntmps158 Tryd.results158 (by simp) ?_
  obtain ⟨l, er⟩ := st
  have hx := h.obj
  simp only [bytesV] at hx
  refine awp_reg_seq ?_
  intro K hK
  simp only [↓DN, UP, DF, ashift, aconv, aindexAddr, aindex, aslice, abuiltin, AV.cells, AV.one, reduceCtorEq, ↓reduceIte, nLT, nLE, nEQ, nAdd, nMul, nPow, nSub, zLT, zLE, zNat, REye158]
  refine hK _ _ ?_
  clear hK K
  refine awp_seq_k ?_
  intro K hK
  refine awp_block ?_
  by_cases h0 : er = 0
  · subst h0
    refine awp_reg_seq ?_
    intro K hK
    simp only [↓DN, UP, DF, ashift, aconv, aindexAddr, aindex, aslice, abuiltin, AV.cells, AV.one, reduceCtorEq, ↓reduceIte, nLT, nLE, nEQ, nAdd, nMul, nPow, nSub, zLT, zLE, zNat, REye158, hx, i64_ne_false 0 rfl]
    refine hK _ _ ?_
    clear hK K
    refine awp_cond_k ?_
    intro X Y hX hY
    simp only [↓DN, UP, DF, ashift, aconv, aindexAddr, aindex, aslice, abuiltin, AV.cells, AV.one, reduceCtorEq, ↓reduceIte, nLT, nLE, nEQ, nAdd, nMul, nPow, nSub, zLT, zLE, zNat, REye158, DB]
    refine hY ?_
    clear hX hY X Y
    by_cases h1 : n < 0
    · refine awp_reg_seq ?_
      intro K hK
      simp only [↓DN, UP, DF, ashift, aconv, aindexAddr, aindex, aslice, abuiltin, AV.cells, AV.one, reduceCtorEq, ↓reduceIte, nLT, nLE, nEQ, nAdd, nMul, nPow, nSub, zLT, zLE, zNat, REye158, decide_eq_true h1]
      refine hK _ _ ?_
      clear hK K
      refine awp_cond_k ?_
      intro X Y hX hY
      simp only [↓DN, UP, DF, ashift, aconv, aindexAddr, aindex, aslice, abuiltin, AV.cells, AV.one, reduceCtorEq, ↓reduceIte, nLT, nLE, nEQ, nAdd, nMul, nPow, nSub, zLT, zLE, zNat, REye158, DB]
      refine hX ?_
      clear hX hY X Y
      refine awp_reg_seq ?_
      intro K hK
      simp only [↓DN, UP, DF, ashift, aconv, aindexAddr, aindex, aslice, abuiltin, AV.cells, AV.one, reduceCtorEq, ↓reduceIte, nLT, nLE, nEQ, nAdd, nMul, nPow, nSub, zLT, zLE, zNat, REye158, hx]
      refine hK _ _ ?_
      clear hK K
      refine awp_reg_seq ?_
      intro K hK
      simp only [↓DN, UP, DF, ashift, aconv, aindexAddr, aindex, aslice, abuiltin, AV.cells, AV.one, reduceCtorEq, ↓reduceIte, nLT, nLE, nEQ, nAdd, nMul, nPow, nSub, zLT, zLE, zNat, REye158]
      refine hK _ _ ?_
      clear hK K
      refine awp_ret ?_
      simp only [retQ, AEnds, aresL, ares, List.toList_toArray, ↓upd_same]; try simp only [↓DN, UP, DF, ashift, aconv, aindexAddr, aindex, aslice, abuiltin, AV.cells, AV.one, reduceCtorEq, ↓reduceIte, nLT, nLE, nEQ, nAdd, nMul, nPow, nSub, zLT, zLE, zNat, REye158, DT]
      rw [eyeNext_neg h1]
      exact ⟨_, _, AV.weak_nil, AS.le.refl _, rfl, h.put⟩
    · refine awp_reg_seq ?_
      intro K hK
      simp only [↓DN, UP, DF, ashift, aconv, aindexAddr, aindex, aslice, abuiltin, AV.cells, AV.one, reduceCtorEq, ↓reduceIte, nLT, nLE, nEQ, nAdd, nMul, nPow, nSub, zLT, zLE, zNat, REye158, decide_eq_false h1]
      refine hK _ _ ?_
      clear hK K
      refine awp_cond_k ?_
      intro X Y hX hY
      simp only [↓DN, UP, DF, ashift, aconv, aindexAddr, aindex, aslice, abuiltin, AV.cells, AV.one, reduceCtorEq, ↓reduceIte, nLT, nLE, nEQ, nAdd, nMul, nPow, nSub, zLT, zLE, zNat, REye158, DB]
      refine hY ?_
      clear hX hY X Y
      by_cases h2 : (l.length : Int) < n
      · refine awp_reg_seq ?_
        intro K hK
        simp only [↓DN, UP, DF, ashift, aconv, aindexAddr, aindex, aslice, abuiltin, AV.cells, AV.one, reduceCtorEq, ↓reduceIte, nLT, nLE, nEQ, nAdd, nMul, nPow, nSub, zLT, zLE, zNat, REye158, hx, decide_eq_true h2]
        refine hK _ _ ?_
        clear hK K
        refine awp_cond_k ?_
        intro X Y hX hY
        simp only [↓DN, UP, DF, ashift, aconv, aindexAddr, aindex, aslice, abuiltin, AV.cells, AV.one, reduceCtorEq, ↓reduceIte, nLT, nLE, nEQ, nAdd, nMul, nPow, nSub, zLT, zLE, zNat, REye158, DB]
        refine hX ?_
        clear hX hY X Y
        refine awp_reg_seq ?_
        intro K hK
        simp only [↓DN, UP, DF, ashift, aconv, aindexAddr, aindex, aslice, abuiltin, AV.cells, AV.one, reduceCtorEq, ↓reduceIte, nLT, nLE, nEQ, nAdd, nMul, nPow, nSub, zLT, zLE, zNat, REye158, hx]
        refine hK _ _ ?_
        clear hK K
        refine awp_reg_seq ?_
        intro K hK
        simp only [↓DN, UP, DF, ashift, aconv, aindexAddr, aindex, aslice, abuiltin, AV.cells, AV.one, reduceCtorEq, ↓reduceIte, nLT, nLE, nEQ, nAdd, nMul, nPow, nSub, zLT, zLE, zNat, REye158]
        refine hK _ _ ?_
        clear hK K
        refine awp_ret ?_
        simp only [retQ, AEnds, aresL, ares, List.toList_toArray, ↓upd_same]; try simp only [↓DN, UP, DF, ashift, aconv, aindexAddr, aindex, aslice, abuiltin, AV.cells, AV.one, reduceCtorEq, ↓reduceIte, nLT, nLE, nEQ, nAdd, nMul, nPow, nSub, zLT, zLE, zNat, REye158, DT]
        rw [eyeNext_short h1 h2]
        exact ⟨_, _, AV.weak_nil, AS.le.refl _, rfl, h.put⟩
      · obtain ⟨m, rfl⟩ := Int.eq_ofNat_of_zero_le (Int.not_lt.1 h1)
        have hml : m ≤ l.length := by omega
        have hm0 : (0 : Int) ≤ (m : Int) := by omega
        have hml' : (m : Int) ≤ (l.length : Int) := by omega
        refine awp_reg_seq ?_
        intro K hK
        simp only [↓DN, UP, DF, ashift, aconv, aindexAddr, aindex, aslice, abuiltin, AV.cells, AV.one, reduceCtorEq, ↓reduceIte, nLT, nLE, nEQ, nAdd, nMul, nPow, nSub, zLT, zLE, zNat, REye158, hx, decide_eq_false h2]
        refine hK _ _ ?_
        clear hK K
        refine awp_cond_k ?_
        intro X Y hX hY
        simp only [↓DN, UP, DF, ashift, aconv, aindexAddr, aindex, aslice, abuiltin, AV.cells, AV.one, reduceCtorEq, ↓reduceIte, nLT, nLE, nEQ, nAdd, nMul, nPow, nSub, zLT, zLE, zNat, REye158, DB]
        refine hY ?_
        clear hX hY X Y
        refine awp_skip ?_
        simp only [thenQ, blockQ, if_true, if_false]
        refine hK _ _ ?_
        clear hK K
        refine awp_reg_seq ?_
        intro K hK
        simp only [↓DN, UP, DF, ashift, aconv, aindexAddr, aindex, aslice, abuiltin, AV.cells, AV.one, reduceCtorEq, ↓reduceIte, nLT, nLE, nEQ, nAdd, nMul, nPow, nSub, zLT, zLE, zNat, REye158, hx, hm0, hml', Int.le_refl]
        refine hK _ _ ?_
        clear hK K
        refine awp_reg_seq ?_
        intro K hK
        simp only [↓DN, UP, DF, ashift, aconv, aindexAddr, aindex, aslice, abuiltin, AV.cells, AV.one, reduceCtorEq, ↓reduceIte, nLT, nLE, nEQ, nAdd, nMul, nPow, nSub, zLT, zLE, zNat, REye158, hx, hm0, hml', Int.le_refl]
        refine hK _ _ ?_
        clear hK K
        refine awp_reg_seq ?_
        intro K hK
        simp only [↓DN, UP, DF, ashift, aconv, aindexAddr, aindex, aslice, abuiltin, AV.cells, AV.one, reduceCtorEq, ↓reduceIte, nLT, nLE, nEQ, nAdd, nMul, nPow, nSub, zLT, zLE, zNat, REye158]
        refine hK _ _ ?_
        clear hK K
        refine awp_ret ?_
        simp only [retQ, AEnds, aresL, ares, List.toList_toArray, ↓upd_same]; try simp only [↓DN, UP, DF, ashift, aconv, aindexAddr, aindex, aslice, abuiltin, AV.cells, AV.one, reduceCtorEq, ↓reduceIte, nLT, nLE, nEQ, nAdd, nMul, nPow, nSub, zLT, zLE, zNat, REye158, DT]
        rw [eyeNext_ok hml]
        refine ⟨_, _, AV.weak.refl _, AS.le.refl _, bytes_of ?_ rfl, h.put' ?_⟩
        · simp only [List.length_take]; omega
        · rw [bytes_of (m := l.drop m)]
          · simp only [List.length_drop]
          · rw [List.take_length]
  · refine awp_reg_seq ?_
    intro K hK
    simp only [↓DN, UP, DF, ashift, aconv, aindexAddr, aindex, aslice, abuiltin, AV.cells, AV.one, reduceCtorEq, ↓reduceIte, nLT, nLE, nEQ, nAdd, nMul, nPow, nSub, zLT, zLE, zNat, REye158, hx, i64_ne_true er h0]
    refine hK _ _ ?_
    clear hK K
    refine awp_cond_k ?_
    intro X Y hX hY
    simp only [↓DN, UP, DF, ashift, aconv, aindexAddr, aindex, aslice, abuiltin, AV.cells, AV.one, reduceCtorEq, ↓reduceIte, nLT, nLE, nEQ, nAdd, nMul, nPow, nSub, zLT, zLE, zNat, REye158, DB]
    refine hX ?_
    clear hX hY X Y
    refine awp_reg_seq ?_
    intro K hK
    simp only [↓DN, UP, DF, ashift, aconv, aindexAddr, aindex, aslice, abuiltin, AV.cells, AV.one, reduceCtorEq, ↓reduceIte, nLT, nLE, nEQ, nAdd, nMul, nPow, nSub, zLT, zLE, zNat, REye158]
    refine hK _ _ ?_
    clear hK K
    refine awp_ret ?_
    simp only [retQ, AEnds, aresL, ares, List.toList_toArray, ↓upd_same]; try simp only [↓DN, UP, DF, ashift, aconv, aindexAddr, aindex, aslice, abuiltin, AV.cells, AV.one, reduceCtorEq, ↓reduceIte, nLT, nLE, nEQ, nAdd, nMul, nPow, nSub, zLT, zLE, zNat, REye158, DT]
    rw [eyeNext_err h0]
    exact ⟨_, _, AV.weak_nil, AS.le.refl _, rfl, h⟩

end Go.Proofs.YtpakgjmcaefnmaaDoor


set_option autoImplicit false
namespace Go.Proofs.YtpakgjmcaefnmaaDoor
open Go Go.AM Go.Proofs

theorem REye2144 : type_of% (And.intro (And.intro (And.intro (And.intro (And.intro (And.intro @Tryd.underlying3 T.c3) (And.intro T.g3 T.b3)) (And.intro (And.intro T.z3 @Tryd.underlying5) (And.intro T.c5 (And.intro T.g5 T.b5)))) (And.intro (And.intro (And.intro T.z5 @Tryd.underlying22) (And.intro T.c22 (And.intro T.g22 T.b22))) (And.intro (And.intro T.z22 T.s22) (And.intro @Tryd.underlying63 (And.intro T.c63 T.g63))))) (And.intro (And.intro (And.intro (And.intro T.b63 T.z63) (And.intro @Tryd.underlying91 (And.intro T.c91 T.g91))) (And.intro (And.intro T.b91 T.z91) (And.intro @Tryd.underlying133 (And.intro T.c133 T.g133)))) (And.intro (And.intro (And.intro T.b133 T.z133) (And.intro T.p133 (And.intro @Tryd.underlying155 T.c155))) (And.intro (And.intro T.g155 T.b155) (And.intro T.z155 (And.intro T.h155 T.k158)))))) Tryd.ntmps144) :=
  (And.intro (And.intro (And.intro (And.intro (And.intro (And.intro @Tryd.underlying3 T.c3) (And.intro T.g3 T.b3)) (And.intro (And.intro T.z3 @Tryd.underlying5) (And.intro T.c5 (And.intro T.g5 T.b5)))) (And.intro (And.intro (And.intro T.z5 @Tryd.underlying22) (And.intro T.c22 (And.intro T.g22 T.b22))) (And.intro (And.intro T.z22 T.s22) (And.intro @Tryd.underlying63 (And.intro T.c63 T.g63))))) (And.intro (And.intro (And.intro (And.intro T.b63 T.z63) (And.intro @Tryd.underlying91 (And.intro T.c91 T.g91))) (And.intro (And.intro T.b91 T.z91) (And.intro @Tryd.underlying133 (And.intro T.c133 T.g133)))) (And.intro (And.intro (And.intro T.b133 T.z133) (And.intro T.p133 (And.intro @Tryd.underlying155 T.c155))) (And.intro (And.intro T.g155 T.b155) (And.intro T.z155 (And.intro T.h155 T.k158)))))) Tryd.ntmps144)

variable {Γ : Nat → List AV}

set_option maxHeartbeats 1000000 in
theorem eyeNumber_calls (s0 s : AS) (p : Nat) (st : EyeSt) (size : Nat) (hs : size ≤ 8) (h : EyeS s0 s p st) :
    ACalls Tryd.prog Γ 144 [.ptr p 0, .v (.int .i64 size)] s (fun r s' => r = .v (.int .u64 (eyeNum size st).1) ∧ EyeS s0 s' p (eyeNum size st).2) := by
  refine acalls_body Tryd.func144 rfl Tryd.ntmps144 Tryd.results144 (by simp) ?_
  obtain ⟨out, hout⟩ : ∃ out, out = (eyeNext size st).1 := ⟨_, rfl⟩
  have hlen : out.length ≤ 8 := by rw [hout]; exact Nat.le_trans (eyeNext_le _ _) hs
  refine awp_reg_seq ?_
  intro K hK
  simp only [↓DN, UP, DF, ashift, aconv, aindexAddr, aindex, aslice, abuiltin, AV.cells, AV.one, reduceCtorEq, ↓reduceIte, nLT, nLE, nEQ, nAdd, nMul, nPow, nSub, zLT, zLE, zNat, REye2144]
  refine hK _ _ ?_
  clear hK K
  refine awp_reg_seq ?_
  intro K hK
  simp only [↓DN, UP, DF, ashift, aconv, aindexAddr, aindex, aslice, abuiltin, AV.cells, AV.one, reduceCtorEq, ↓reduceIte, nLT, nLE, nEQ, nAdd, nMul, nPow, nSub, zLT, zLE, zNat, REye2144]
  refine hK _ _ ?_
  clear hK K
  refine awp_seq_k ?_
  intro K hK
  refine awp_reg_seq ?_
  intro K hK
  simp only [↓DN, UP, DF, ashift, aconv, aindexAddr, aindex, aslice, abuiltin, AV.cells, AV.one, reduceCtorEq, ↓reduceIte, nLT, nLE, nEQ, nAdd, nMul, nPow, nSub, zLT, zLE, zNat, REye2144]
  refine acallk (next_calls s0 s p st size h) ?_
  rintro r s2 ⟨rfl, he⟩
  rw [← hout]
  unfold bytesV
  simp only [↓AXq_nil, ↓AXq_cons, pval, DX, Nat.reduceBEq, ↓DN, UP, DF, ashift, aconv, aindexAddr, aindex, aslice, abuiltin, AV.cells, AV.one, reduceCtorEq, ↓reduceIte, nLT, nLE, nEQ, nAdd, nMul, nPow, nSub, zLT, zLE, zNat, REye2144]
  refine hK _ _ ?_
  clear hK K
  refine awp_block ?_
  refine awp_loop (fun E s3 => ∃ j y : Nat, j ≤ out.length ∧ E 10 = .sl 1 out.length (out.map byteV) .any ∧ E 11 = .v (.int .i64 out.length) ∧ E 12 = .v (.int .i64 j) ∧ E 5 = .v (.int .u64 y) ∧ y = beNat (out.take j) ∧ s3 = s2)
    (fun E _ => match E 12 with | .v (.int _ j) => out.length - j.toNat | _ => 0) ?_ ?_
  · exact ⟨0, 0, Nat.zero_le _, by simp only [upd, Nat.reduceEqDiff, ↓reduceIte], by simp only [upd, Nat.reduceEqDiff, ↓reduceIte], by simp only [upd, ↓reduceIte]; rfl, by simp only [upd, Nat.reduceEqDiff, ↓reduceIte]; rfl, rfl, rfl⟩
  · rintro E3 s3 ⟨j, y, hj, f10, f11, f12, f5, hy, rfl⟩ -
    by_cases hj' : j < out.length
    · have hy7 : y < 2 ^ 56 := by
        rw [hy]
        refine Nat.lt_of_lt_of_le (beNat_take_lt out j) ?_
        rw [show (2 : Nat) ^ 56 = 256 ^ 7 from by decide]
        exact Nat.pow_le_pow_right (by decide) (by omega)
      have hy2 : beNat (out.take (j + 1)) = y * 256 + out[j].toNat := by rw [List.take_succ_eq_append_getElem hj', beNat_snoc, ← hy]
      have hgj : (0 : Int) ≤ (j : Int) := by omega
      have hat := eat_byte hj'
      generalize hcc : out[j] = c at *
      refine awp_reg_seq ?_
      intro K hK
      simp only [↓DN, UP, DF, ashift, aconv, aindexAddr, aindex, aslice, abuiltin, AV.cells, AV.one, reduceCtorEq, ↓reduceIte, nLT, nLE, nEQ, nAdd, nMul, nPow, nSub, zLT, zLE, zNat, REye2144, f11, f12, eye_lt_nat, decide_eq_true hj']
      refine hK _ _ ?_
      clear hK K
      refine awp_seq_k ?_
      intro K5 hK5
      refine awp_cond_k ?_
      intro X Y hX hY
      simp only [↓DN, UP, DF, ashift, aconv, aindexAddr, aindex, aslice, abuiltin, AV.cells, AV.one, reduceCtorEq, ↓reduceIte, nLT, nLE, nEQ, nAdd, nMul, nPow, nSub, zLT, zLE, zNat, REye2144, DB]
      refine hX ?_
      clear hX hY X Y
      refine awp_skip ?_
      refine hK5 _ _ ?_
      clear hK5 K5
      refine awp_seq_k ?_
      intro K6 hK6
      refine awp_block ?_
      refine awp_reg_seq ?_
      intro K hK
      simp only [↓DN, UP, DF, ashift, aconv, aindexAddr, aindex, aslice, abuiltin, AV.cells, AV.one, reduceCtorEq, ↓reduceIte, nLT, nLE, nEQ, nAdd, nMul, nPow, nSub, zLT, zLE, zNat, REye2144, f10, f12, eye_lt_nat, hj', hgj, hat, byteV]
      refine hK _ _ ?_
      clear hK K
      refine awp_reg_end ?_
      intro K hK
      simp only [↓DN, UP, DF, ashift, aconv, aindexAddr, aindex, aslice, abuiltin, AV.cells, AV.one, reduceCtorEq, ↓reduceIte, nLT, nLE, nEQ, nAdd, nMul, nPow, nSub, zLT, zLE, zNat, REye2144, f5, beNat_step y c hy7]
      refine hK _ _ ?_
      clear hK K
      simp only [blockQ, thenQ, if_true, if_false]
      refine hK6 _ _ ?_
      clear hK6 K6
      refine awp_reg_end ?_
      intro K hK
      simp only [↓DN, UP, DF, ashift, aconv, aindexAddr, aindex, aslice, abuiltin, AV.cells, AV.one, reduceCtorEq, ↓reduceIte, nLT, nLE, nEQ, nAdd, nMul, nPow, nSub, zLT, zLE, zNat, REye2144, f12, eye_succ j (by omega)]
      refine hK _ _ ?_
      clear hK K
      refine ⟨⟨j + 1, y * 256 + c.toNat, by omega, by simp only [upd, f10, Nat.reduceEqDiff, ↓reduceIte], by simp only [upd, f11, Nat.reduceEqDiff, ↓reduceIte], by simp only [upd, ↓reduceIte], by simp only [upd, Nat.reduceEqDiff, ↓reduceIte], hy2.symm, rfl⟩, ?_⟩
      simp only [f12, upd, ↓reduceIte]
      omega
    · refine awp_reg_seq ?_
      intro K hK
      simp only [↓DN, UP, DF, ashift, aconv, aindexAddr, aindex, aslice, abuiltin, AV.cells, AV.one, reduceCtorEq, ↓reduceIte, nLT, nLE, nEQ, nAdd, nMul, nPow, nSub, zLT, zLE, zNat, REye2144, f11, f12, eye_lt_nat, decide_eq_false hj']
      refine hK _ _ ?_
      clear hK K
      refine awp_seq_k ?_
      intro K5 hK5
      refine awp_cond_k ?_
      intro X Y hX hY
      simp only [↓DN, UP, DF, ashift, aconv, aindexAddr, aindex, aslice, abuiltin, AV.cells, AV.one, reduceCtorEq, ↓reduceIte, nLT, nLE, nEQ, nAdd, nMul, nPow, nSub, zLT, zLE, zNat, REye2144, DB]
      refine hY ?_
      clear hX hY X Y
      refine awp_exit ?_
      simp only [thenQ, blockQ, if_true]
      refine hK _ _ ?_
      clear hK hK5 K K5
      refine awp_reg_seq ?_
      intro K hK
      simp only [↓DN, UP, DF, ashift, aconv, aindexAddr, aindex, aslice, abuiltin, AV.cells, AV.one, reduceCtorEq, ↓reduceIte, nLT, nLE, nEQ, nAdd, nMul, nPow, nSub, zLT, zLE, zNat, REye2144, f5]
      refine hK _ _ ?_
      clear hK K
      refine awp_ret ?_
      simp only [retQ, AEnds, aresL, ares, List.toList_toArray, ↓upd_same]; try simp only [↓DN, UP, DF, ashift, aconv, aindexAddr, aindex, aslice, abuiltin, AV.cells, AV.one, reduceCtorEq, ↓reduceIte, nLT, nLE, nEQ, nAdd, nMul, nPow, nSub, zLT, zLE, zNat, REye2144, DT]
      refine ⟨_, _, AV.weak.refl _, AS.le.refl _, ?_, he⟩
      rw [hy, List.take_of_length_le (by omega), hout]
      rfl

end Go.Proofs.YtpakgjmcaefnmaaDoor


set_option autoImplicit false
namespace Go.Proofs.YtpakgjmcaefnmaaDoor
open Go Go.AM Go.Proofs

theorem REye3146 : type_of% (And.intro (And.intro (And.intro (And.intro (And.intro (And.intro @Tryd.underlying3 T.c3) (And.intro T.g3 T.b3)) (And.intro (And.intro T.z3 @Tryd.underlying22) (And.intro T.c22 T.g22))) (And.intro (And.intro (And.intro T.b22 T.z22) (And.intro T.s22 @Tryd.underlying63)) (And.intro (And.intro T.c63 T.g63) (And.intro T.b63 (And.intro T.z63 @Tryd.underlying91))))) (And.intro (And.intro (And.intro (And.intro T.c91 T.g91) (And.intro T.b91 T.z91)) (And.intro (And.intro @Tryd.underlying133 T.c133) (And.intro T.g133 T.b133))) (And.intro (And.intro (And.intro T.z133 T.p133) (And.intro @Tryd.underlying155 T.c155)) (And.intro (And.intro T.g155 T.b155) (And.intro T.z155 (And.intro T.h155 T.k144)))))) Tryd.ntmps146) :=
  (And.intro (And.intro (And.intro (And.intro (And.intro (And.intro @Tryd.underlying3 T.c3) (And.intro T.g3 T.b3)) (And.intro (And.intro T.z3 @Tryd.underlying22) (And.intro T.c22 T.g22))) (And.intro (And.intro (And.intro T.b22 T.z22) (And.intro T.s22 @Tryd.underlying63)) (And.intro (And.intro T.c63 T.g63) (And.intro T.b63 (And.intro T.z63 @Tryd.underlying91))))) (And.intro (And.intro (And.intro (And.intro T.c91 T.g91) (And.intro T.b91 T.z91)) (And.intro (And.intro @Tryd.underlying133 T.c133) (And.intro T.g133 T.b133))) (And.intro (And.intro (And.intro T.z133 T.p133) (And.intro @Tryd.underlying155 T.c155)) (And.intro (And.intro T.g155 T.b155) (And.intro T.z155 (And.intro T.h155 T.k144)))))) Tryd.ntmps146)
variable {Γ : Nat → List AV}

theorem eyeU_conv (k : Nat) (hk : k ≤ 7) (st : EyeSt) : iconv .i64 ((eyeNum k st).1 : Int) = ((eyeNum k st).1 : Int) := by
  have := eyeNum_lt k st
  have h2 : 256 ^ k ≤ 256 ^ 7 := Nat.pow_le_pow_right (by decide) hk
  have h3 : (256 : Nat) ^ 7 = 72057594037927936 := by decide
  exact iconv_i64 (by omega)

set_option maxHeartbeats 400000 in
theorem eyeU32_calls (s0 s : AS) (p : Nat) (st : EyeSt) (h : EyeS s0 s p st) :
    ACalls Tryd.prog Γ 146 [.ptr p 0] s (fun r s' => r = .v (.int .i64 (eyeNum 4 st).1) ∧ EyeS s0 s' p (eyeNum 4 st).2) := by
  refine acalls_body Tryd.func146 rfl Tryd.ntmps146 Tryd.results146 (by simp) ?_
  refine awp_reg_seq ?_
  intro K hK
  simp only [↓DN, UP, DF, ashift, aconv, aindexAddr, aindex, aslice, abuiltin, AV.cells, AV.one, reduceCtorEq, ↓reduceIte, nLT, nLE, nEQ, nAdd, nMul, nPow, nSub, zLT, zLE, zNat, REye3146]
  refine hK _ _ ?_
  clear hK K
  refine awp_reg_seq ?_
  intro K hK
  simp only [↓DN, UP, DF, ashift, aconv, aindexAddr, aindex, aslice, abuiltin, AV.cells, AV.one, reduceCtorEq, ↓reduceIte, nLT, nLE, nEQ, nAdd, nMul, nPow, nSub, zLT, zLE, zNat, REye3146]
  refine acallk (eyeNumber_calls s0 s p st 4 (by omega) h) ?_
  rintro r s' ⟨rfl, he⟩
  simp only [↓AXq_nil, ↓AXq_cons, pval, DX, Nat.reduceBEq, ↓DN, UP, DF, ashift, aconv, aindexAddr, aindex, aslice, abuiltin, AV.cells, AV.one, reduceCtorEq, ↓reduceIte, nLT, nLE, nEQ, nAdd, nMul, nPow, nSub, zLT, zLE, zNat, REye3146, eyeU_conv 4 (by omega) st]
  refine hK _ _ ?_
  clear hK K
  refine awp_ret ?_
  simp only [retQ, AEnds, aresL, ares, List.toList_toArray, ↓upd_same]; try simp only [↓DN, UP, DF, ashift, aconv, aindexAddr, aindex, aslice, abuiltin, AV.cells, AV.one, reduceCtorEq, ↓reduceIte, nLT, nLE, nEQ, nAdd, nMul, nPow, nSub, zLT, zLE, zNat, REye3146, DT]
  exact ⟨_, _, AV.weak.refl _, AS.le.refl _, rfl, he⟩

end Go.Proofs.YtpakgjmcaefnmaaDoor


set_option autoImplicit false
namespace Go.Proofs.YtpakgjmcaefnmaaDoor
open Go Go.AM Go.Proofs

theorem RRef0195 : type_of% (And.intro (And.intro (And.intro (And.intro (And.intro @Tryd.underlying3 (And.intro T.c3 T.g3)) (And.intro T.b3 (And.intro T.z3 @Tryd.underlying5))) (And.intro (And.intro T.c5 (And.intro T.g5 T.b5)) (And.intro (And.intro T.z5 @Tryd.underlying9) (And.intro T.c9 T.g9)))) (And.intro (And.intro (And.intro T.b9 (And.intro T.z9 @Tryd.underlying22)) (And.intro T.c22 (And.intro T.g22 T.b22))) (And.intro (And.intro T.z22 (And.intro T.s22 @Tryd.underlying63)) (And.intro (And.intro T.c63 T.g63) (And.intro T.b63 T.z63))))) Tryd.ntmps95) :=
  (And.intro (And.intro (And.intro (And.intro (And.intro @Tryd.underlying3 (And.intro T.c3 T.g3)) (And.intro T.b3 (And.intro T.z3 @Tryd.underlying5))) (And.intro (And.intro T.c5 (And.intro T.g5 T.b5)) (And.intro (And.intro T.z5 @Tryd.underlying9) (And.intro T.c9 T.g9)))) (And.intro (And.intro (And.intro T.b9 (And.intro T.z9 @Tryd.underlying22)) (And.intro T.c22 (And.intro T.g22 T.b22))) (And.intro (And.intro T.z22 (And.intro T.s22 @Tryd.underlying63)) (And.intro (And.intro T.c63 T.g63) (And.intro T.b63 T.z63))))) Tryd.ntmps95)
theorem RRef01117 : type_of% (And.intro (And.intro (And.intro (And.intro (And.intro @Tryd.underlying3 T.c3) (And.intro T.g3 (And.intro T.b3 T.z3))) (And.intro (And.intro @Tryd.underlying5 T.c5) (And.intro T.g5 (And.intro T.b5 T.z5)))) (And.intro (And.intro (And.intro @Tryd.underlying9 T.c9) (And.intro T.g9 (And.intro T.b9 T.z9))) (And.intro (And.intro @Tryd.underlying63 T.c63) (And.intro T.g63 (And.intro T.b63 T.z63))))) Tryd.ntmps117) :=
  (And.intro (And.intro (And.intro (And.intro (And.intro @Tryd.underlying3 T.c3) (And.intro T.g3 (And.intro T.b3 T.z3))) (And.intro (And.intro @Tryd.underlying5 T.c5) (And.intro T.g5 (And.intro T.b5 T.z5)))) (And.intro (And.intro (And.intro @Tryd.underlying9 T.c9) (And.intro T.g9 (And.intro T.b9 T.z9))) (And.intro (And.intro @Tryd.underlying63 T.c63) (And.intro T.g63 (And.intro T.b63 T.z63))))) Tryd.ntmps117)

variable {Γ : Nat → List AV}

theorem n256 : ((256 : Int) = 0) = False := by simp
theorem num_byte (q : Nat) : iconv .u8 (irem (q : Int) 256) = ((UInt8.ofNat q).toNat : Int) := by
  rw [show (256 : Int) = ((256 : Nat) : Int) from rfl, irem_u, iconv_u rfl]
  simp [IntKind.bits]
theorem num_quo (n i : Nat) (h : n < 2 ^ 64) : iquo .u64 ((n / 256 ^ i : Nat) : Int) 256 = ((n / 256 ^ (i + 1) : Nat) : Int) := by
  have hq : n / 256 ^ i < 2 ^ IntKind.u64.bits := Nat.lt_of_le_of_lt (Nat.div_le_self _ _) h
  have := iquo_u (k := .u64) rfl (n / 256 ^ i) 256 hq
  rw [show (256 : Int) = ((256 : Nat) : Int) from rfl, this, Nat.div_div_eq_div_mul, Nat.pow_succ]
theorem byte_one (c : UInt8) : toBytes [AV.v (.int .u8 (c.toNat : Int))] = ByteArray.mk [c].toArray := toBytes_map [c]
theorem byte_is (c : UInt8) : isByte (AV.v (.int .u8 (c.toNat : Int))) = true := rfl

set_option maxHeartbeats 1000000 in
theorem refNumber_calls (n size : Nat) (hn : n < 2 ^ 64) (hs : size ≤ 8) (s : AS) :
    ACalls Tryd.prog Γ 95 [.v (.int .u64 n), .v (.int .i64 size)] s (fun r s' => r = .v (.string ⟨(be size n).toArray⟩) ∧ s' = s) := by
  refine acalls_body Tryd.func95 rfl Tryd.ntmps95 Tryd.results95 (by simp) ?_
  refine awp_reg_seq ?_
  intro K hK
  simp only [↓DN, UP, DF, ashift, aconv, aindexAddr, aindex, aslice, abuiltin, AV.cells, AV.one, reduceCtorEq, ↓reduceIte, nLT, nLE, nEQ, nAdd, nMul, nPow, nSub, zLT, zLE, zNat, RRef0195]
  refine hK _ _ ?_
  clear hK K
  refine awp_reg_seq ?_
  intro K hK
  simp only [↓DN, UP, DF, ashift, aconv, aindexAddr, aindex, aslice, abuiltin, AV.cells, AV.one, reduceCtorEq, ↓reduceIte, nLT, nLE, nEQ, nAdd, nMul, nPow, nSub, zLT, zLE, zNat, RRef0195]
  refine hK _ _ ?_
  clear hK K
  refine awp_seq_k ?_
  intro K hK
  refine awp_reg_seq ?_
  intro K hK
  simp only [↓DN, UP, DF, ashift, aconv, aindexAddr, aindex, aslice, abuiltin, AV.cells, AV.one, reduceCtorEq, ↓reduceIte, nLT, nLE, nEQ, nAdd, nMul, nPow, nSub, zLT, zLE, zNat, RRef0195]
  refine hK _ _ ?_
  clear hK K
  refine awp_block ?_
  refine awp_loop (fun E s1 => ∃ i : Nat, i ≤ size ∧ E 6 = .v (.int .i64 i) ∧ E 1 = .v (.int .i64 size) ∧ E 0 = .v (.int .u64 (n / 256 ^ i : Nat)) ∧ E 5 = .v (.string ⟨(be i n).toArray⟩) ∧ s1 = s)
    (fun E _ => match E 6 with | .v (.int _ i) => size - i.toNat | _ => 0) ?_ ?_
  · exact ⟨0, Nat.zero_le _, by simp [upd], by simp [upd, initE], by simp [upd, initE], by simp [upd, be], rfl⟩
  · rintro E1 s1 ⟨i, hi, h6, h1, h0, h5, rfl⟩ -
    refine awp_seq_k ?_
    intro K2 hK2
    by_cases hi' : i < size
    · refine awp_reg_seq ?_
      intro K hK
      simp only [↓DN, UP, DF, ashift, aconv, aindexAddr, aindex, aslice, abuiltin, AV.cells, AV.one, reduceCtorEq, ↓reduceIte, nLT, nLE, nEQ, nAdd, nMul, nPow, nSub, zLT, zLE, zNat, RRef0195, h6, h1, eye_lt_nat, decide_eq_true hi']
      refine hK _ _ ?_
      clear hK K
      refine awp_cond_k ?_
      intro X Y hX hY
      simp only [↓DN, UP, DF, ashift, aconv, aindexAddr, aindex, aslice, abuiltin, AV.cells, AV.one, reduceCtorEq, ↓reduceIte, nLT, nLE, nEQ, nAdd, nMul, nPow, nSub, zLT, zLE, zNat, RRef0195, DB]
      refine hX ?_
      clear hX hY X Y
      refine awp_skip ?_
      refine hK2 _ _ ?_
      clear hK2 K2
      refine awp_seq_k ?_
      intro K3 hK3
      refine awp_block ?_
      refine awp_reg_seq ?_
      intro K hK
      simp only [↓DN, UP, DF, ashift, aconv, aindexAddr, aindex, aslice, abuiltin, AV.cells, AV.one, reduceCtorEq, ↓reduceIte, nLT, nLE, nEQ, nAdd, nMul, nPow, nSub, zLT, zLE, zNat, RRef0195, h0, h5, n256, num_byte, byte_one, byte_is, List.replicate_succ, bs_size, bs_append, length_be, i64_room (show 1 + i < 2 ^ 62 by omega)]
      refine hK _ _ ?_
      clear hK K
      refine awp_reg_end ?_
      intro K hK
      simp only [↓DN, UP, DF, ashift, aconv, aindexAddr, aindex, aslice, abuiltin, AV.cells, AV.one, reduceCtorEq, ↓reduceIte, nLT, nLE, nEQ, nAdd, nMul, nPow, nSub, zLT, zLE, zNat, RRef0195, h0, n256, num_quo n i hn]
      refine hK _ _ ?_
      clear hK K
      simp only [blockQ, thenQ, if_true, if_false]
      refine hK3 _ _ ?_
      clear hK3 K3
      refine awp_reg_end ?_
      intro K hK
      simp only [↓DN, UP, DF, ashift, aconv, aindexAddr, aindex, aslice, abuiltin, AV.cells, AV.one, reduceCtorEq, ↓reduceIte, nLT, nLE, nEQ, nAdd, nMul, nPow, nSub, zLT, zLE, zNat, RRef0195, h6, eye_succ i (by omega)]
      refine hK _ _ ?_
      clear hK K
      refine ⟨⟨i + 1, by omega, by simp only [upd, ↓reduceIte], by simp only [upd, h1, Nat.reduceEqDiff, ↓reduceIte], by simp only [upd, Nat.reduceEqDiff, ↓reduceIte], ?_, rfl⟩, ?_⟩
      · simp only [upd, Nat.reduceEqDiff, ↓reduceIte, be, show 2 ^ (8 * i) = 256 ^ i from by rw [Nat.pow_mul]]
      · simp only [h6, upd, ↓reduceIte]
        omega
    · refine awp_reg_seq ?_
      intro K hK
      simp only [↓DN, UP, DF, ashift, aconv, aindexAddr, aindex, aslice, abuiltin, AV.cells, AV.one, reduceCtorEq, ↓reduceIte, nLT, nLE, nEQ, nAdd, nMul, nPow, nSub, zLT, zLE, zNat, RRef0195, h6, h1, eye_lt_nat, decide_eq_false hi']
      refine hK _ _ ?_
      clear hK K
      refine awp_cond_k ?_
      intro X Y hX hY
      simp only [↓DN, UP, DF, ashift, aconv, aindexAddr, aindex, aslice, abuiltin, AV.cells, AV.one, reduceCtorEq, ↓reduceIte, nLT, nLE, nEQ, nAdd, nMul, nPow, nSub, zLT, zLE, zNat, RRef0195, DB]
      refine hY ?_
      clear hX hY X Y
      refine awp_exit ?_
      simp only [thenQ, blockQ, if_true]
      refine hK _ _ ?_
      clear hK hK2 K K2
      refine awp_reg_seq ?_
      intro K hK
      simp only [↓DN, UP, DF, ashift, aconv, aindexAddr, aindex, aslice, abuiltin, AV.cells, AV.one, reduceCtorEq, ↓reduceIte, nLT, nLE, nEQ, nAdd, nMul, nPow, nSub, zLT, zLE, zNat, RRef0195, h5]
      refine hK _ _ ?_
      clear hK K
      refine awp_ret ?_
      simp only [retQ, AEnds, aresL, ares, List.toList_toArray, ↓upd_same]; try simp only [↓DN, UP, DF, ashift, aconv, aindexAddr, aindex, aslice, abuiltin, AV.cells, AV.one, reduceCtorEq, ↓reduceIte, nLT, nLE, nEQ, nAdd, nMul, nPow, nSub, zLT, zLE, zNat, RRef0195, DT]
      obtain rfl : i = size := by omega
      exact ⟨_, _, AV.weak.refl _, AS.le.refl _, rfl, rfl⟩

theorem val_step (y : Nat) (c : UInt8) (h : y < 2 ^ 56) : iadd .u64 (imul .u64 (y : Int) 256) (iconv .u64 (c.toNat : Int)) = ((y * 256 + c.toNat : Nat) : Int) := by
  have hc := c.toNat_lt
  rw [iconv_u64_nat _ (by omega), show (256 : Int) = ((256 : Nat) : Int) from rfl, imul_u rfl, Nat.mod_eq_of_lt (by simp only [IntKind.bits]; omega), iadd_u rfl, Nat.mod_eq_of_lt (by simp only [IntKind.bits]; omega)]

set_option maxHeartbeats 1000000 in
theorem value_calls (l : List UInt8) (hl : l.length ≤ 8) (s : AS) :
    ACalls Tryd.prog Γ 117 [.v (.string ⟨l.toArray⟩)] s (fun r s' => r = .v (.int .u64 (beNat l)) ∧ s' = s) := by
  refine acalls_body Tryd.func117 rfl Tryd.ntmps117 Tryd.results117 (by simp) ?_
  refine awp_reg_seq ?_
  intro K hK
  simp only [↓DN, UP, DF, ashift, aconv, aindexAddr, aindex, aslice, abuiltin, AV.cells, AV.one, reduceCtorEq, ↓reduceIte, nLT, nLE, nEQ, nAdd, nMul, nPow, nSub, zLT, zLE, zNat, RRef01117]
  refine hK _ _ ?_
  clear hK K
  refine awp_reg_seq ?_
  intro K hK
  simp only [↓DN, UP, DF, ashift, aconv, aindexAddr, aindex, aslice, abuiltin, AV.cells, AV.one, reduceCtorEq, ↓reduceIte, nLT, nLE, nEQ, nAdd, nMul, nPow, nSub, zLT, zLE, zNat, RRef01117]
  refine hK _ _ ?_
  clear hK K
  refine awp_seq_k ?_
  intro K hK
  refine awp_reg_seq ?_
  intro K hK
  simp only [↓DN, UP, DF, ashift, aconv, aindexAddr, aindex, aslice, abuiltin, AV.cells, AV.one, reduceCtorEq, ↓reduceIte, nLT, nLE, nEQ, nAdd, nMul, nPow, nSub, zLT, zLE, zNat, RRef01117]
  refine hK _ _ ?_
  clear hK K
  refine awp_block ?_
  refine awp_loop (fun E s1 => ∃ i x : Nat, i ≤ l.length ∧ E 0 = .v (.string ⟨l.toArray⟩) ∧ E 4 = .v (.int .i64 i) ∧ E 3 = .v (.int .u64 x) ∧ x = beNat (l.take i) ∧ s1 = s)
    (fun E _ => match E 4 with | .v (.int _ i) => l.length - i.toNat | _ => 0) ?_ ?_
  · exact ⟨0, 0, Nat.zero_le _, by simp [upd, initE], by simp [upd], by simp [upd], by simp [beNat], rfl⟩
  · rintro E1 s1 ⟨i, x, hi, h0, h4, h3, hx, rfl⟩ -
    refine awp_seq_k ?_
    intro K2 hK2
    by_cases hi' : i < l.length
    · have hx2 : beNat (l.take (i + 1)) = x * 256 + l[i].toNat := by rw [List.take_succ_eq_append_getElem hi', beNat_snoc, ← hx]
      have hx7 : x < 2 ^ 56 := by
        rw [hx]
        refine Nat.lt_of_lt_of_le (beNat_take_lt l i) ?_
        rw [show (2 : Nat) ^ 56 = 256 ^ 7 from by decide]
        exact Nat.pow_le_pow_right (by decide) (by omega)
      have hgi : (0 : Int) ≤ (i : Int) := by omega
      have hget := bs_get l i hi'
      generalize hcc : l[i] = c at *
      refine awp_reg_seq ?_
      intro K hK
      simp only [↓DN, UP, DF, ashift, aconv, aindexAddr, aindex, aslice, abuiltin, AV.cells, AV.one, reduceCtorEq, ↓reduceIte, nLT, nLE, nEQ, nAdd, nMul, nPow, nSub, zLT, zLE, zNat, RRef01117, h0, h4, bs_size, eye_lt_nat, decide_eq_true hi']
      refine hK _ _ ?_
      clear hK K
      refine awp_cond_k ?_
      intro X Y hX hY
      simp only [↓DN, UP, DF, ashift, aconv, aindexAddr, aindex, aslice, abuiltin, AV.cells, AV.one, reduceCtorEq, ↓reduceIte, nLT, nLE, nEQ, nAdd, nMul, nPow, nSub, zLT, zLE, zNat, RRef01117, DB]
      refine hX ?_
      clear hX hY X Y
      refine awp_skip ?_
      refine hK2 _ _ ?_
      clear hK2 K2
      refine awp_seq_k ?_
      intro K3 hK3
      refine awp_block ?_
      refine awp_reg_end ?_
      intro K hK
      simp only [↓DN, UP, DF, ashift, aconv, aindexAddr, aindex, aslice, abuiltin, AV.cells, AV.one, reduceCtorEq, ↓reduceIte, nLT, nLE, nEQ, nAdd, nMul, nPow, nSub, zLT, zLE, zNat, RRef01117, h0, h4, h3, hgi, hget, byteV, val_step x c hx7]
      refine hK _ _ ?_
      clear hK K
      simp only [blockQ, thenQ, if_true, if_false]
      refine hK3 _ _ ?_
      clear hK3 K3
      refine awp_reg_end ?_
      intro K hK
      simp only [↓DN, UP, DF, ashift, aconv, aindexAddr, aindex, aslice, abuiltin, AV.cells, AV.one, reduceCtorEq, ↓reduceIte, nLT, nLE, nEQ, nAdd, nMul, nPow, nSub, zLT, zLE, zNat, RRef01117, h4, eye_succ i (by omega)]
      refine hK _ _ ?_
      clear hK K
      refine ⟨⟨i + 1, _, by omega, by simp only [upd, h0, Nat.reduceEqDiff, ↓reduceIte], by simp only [upd, ↓reduceIte], by simp only [upd, Nat.reduceEqDiff, ↓reduceIte], hx2.symm, rfl⟩, ?_⟩
      simp only [h4, upd, ↓reduceIte]
      omega
    · refine awp_reg_seq ?_
      intro K hK
      simp only [↓DN, UP, DF, ashift, aconv, aindexAddr, aindex, aslice, abuiltin, AV.cells, AV.one, reduceCtorEq, ↓reduceIte, nLT, nLE, nEQ, nAdd, nMul, nPow, nSub, zLT, zLE, zNat, RRef01117, h0, h4, bs_size, eye_lt_nat, decide_eq_false hi']
      refine hK _ _ ?_
      clear hK K
      refine awp_cond_k ?_
      intro X Y hX hY
      simp only [↓DN, UP, DF, ashift, aconv, aindexAddr, aindex, aslice, abuiltin, AV.cells, AV.one, reduceCtorEq, ↓reduceIte, nLT, nLE, nEQ, nAdd, nMul, nPow, nSub, zLT, zLE, zNat, RRef01117, DB]
      refine hY ?_
      clear hX hY X Y
      refine awp_exit ?_
      simp only [thenQ, blockQ, if_true]
      refine hK _ _ ?_
      clear hK hK2 K K2
      refine awp_reg_seq ?_
      intro K hK
      simp only [↓DN, UP, DF, ashift, aconv, aindexAddr, aindex, aslice, abuiltin, AV.cells, AV.one, reduceCtorEq, ↓reduceIte, nLT, nLE, nEQ, nAdd, nMul, nPow, nSub, zLT, zLE, zNat, RRef01117, h3]
      refine hK _ _ ?_
      clear hK K
      refine awp_ret ?_
      simp only [retQ, AEnds, aresL, ares, List.toList_toArray, ↓upd_same]; try simp only [↓DN, UP, DF, ashift, aconv, aindexAddr, aindex, aslice, abuiltin, AV.cells, AV.one, reduceCtorEq, ↓reduceIte, nLT, nLE, nEQ, nAdd, nMul, nPow, nSub, zLT, zLE, zNat, RRef01117, DT]
      refine ⟨_, _, AV.weak.refl _, AS.le.refl _, ?_, rfl⟩
      rw [hx, List.take_of_length_le (by omega)]

end Go.Proofs.YtpakgjmcaefnmaaDoor


set_option autoImplicit false
namespace Go.AM

/-! ### The secrets of an epoch, in plain Lean -/
namespace Sch
def epochW : List UInt8 := [101, 112, 111, 99, 104]
def welcomeW : List UInt8 := [119, 101, 108, 99, 111, 109, 101]
def exporterW : List UInt8 := [101, 120, 112, 111, 114, 116, 101, 114]
def confirmW : List UInt8 := [99, 111, 110, 102, 105, 114, 109]
def memberW : List UInt8 := [109, 101, 109, 98, 101, 114, 115, 104, 105, 112]
def initW : List UInt8 := [105, 110, 105, 116]
def main (j : List UInt8) : List UInt8 := Mac.tag j (List.replicate 32 0)
def epoch (j c : List UInt8) : List UInt8 := Kdf.label (main j) epochW c 32
def of (j c : List UInt8) : List (List UInt8) := [j, Kdf.derive (main j) welcomeW, Kdf.derive (epoch j c) exporterW, Kdf.derive (epoch j c) confirmW, Kdf.derive (epoch j c) memberW, Kdf.derive (epoch j c) initW]
end Sch
end Go.AM


set_option autoImplicit false
namespace Go.AM
/-! ### The cipher, in plain Lean -/
namespace Aes
def dbl (a : UInt8) : UInt8 := (a <<< (1 : UInt8)) ^^^ ((27 : UInt8) &&& ((0 : UInt8) - (a >>> (7 : UInt8))))
/-- What is left of a product. -/
def gm : Nat → UInt8 → UInt8 → UInt8 → UInt8
  | 0, o, _, _ => o
  | f + 1, o, a, b => gm f (o ^^^ (a &&& ((0 : UInt8) - (b &&& 1)))) (dbl a) (b >>> 1)
theorem gm_zero : ∀ (f : Nat) (o a : UInt8), gm f o a 0 = o
  | 0, o, a => rfl
  | f + 1, o, a => by
    have e : o ^^^ (a &&& ((0 : UInt8) - ((0 : UInt8) &&& 1))) = o := by
      have : (0 : UInt8) - ((0 : UInt8) &&& 1) = 0 := by decide
      rw [this]; simp
    rw [gm, e, show (0 : UInt8) >>> 1 = 0 from by decide]
    exact gm_zero f o _
/-- What is left of a power. -/
def pw : Nat → UInt8 → UInt8 → Nat → UInt8
  | 0, o, _, _ => o
  | f + 1, o, a, n => pw f (if n % 2 = 1 then gm 8 0 o a else o) (gm 8 0 a a) (n / 2)
theorem pw_zero : ∀ (f : Nat) (o a : UInt8), pw f o a 0 = o
  | 0, _, _ => rfl
  | f + 1, o, a => by rw [pw]; exact pw_zero f o _
def inv (a : UInt8) : UInt8 := pw 8 1 a 254
def rot (x : UInt8) (i : Nat) : UInt8 := UInt8.ofNat (x.toNat * 2 ^ i) ||| UInt8.ofNat (x.toNat / 2 ^ (8 - i))
def boxP (x : UInt8) : Nat → UInt8
  | 0 => 99 ^^^ x
  | k + 1 => boxP x k ^^^ rot x (k + 1)
def box (c : UInt8) : UInt8 := boxP (inv c) 4

/-! The document's answer, with natural numbers. -/
def mulL (a b : Nat) : Nat → Nat → Nat
  | 0, p => p
  | f + 1, p => mulL a b f (if b / 2 ^ (7 - f) % 2 = 1 then p ^^^ (a * 2 ^ (7 - f)) else p)
def redL : Nat → Nat → Nat
  | 0, p => p
  | k + 1, p => redL k (if p / 2 ^ (8 + k) % 2 = 1 then p ^^^ (283 * 2 ^ k) else p)
def rmul (a b : Nat) : Nat := redL 7 (mulL a b 8 0)
def xp : Nat → Nat
  | 0 => 1
  | i + 1 => rmul (xp i) 3
def expS : Nat → List Nat
  | 0 => List.replicate 256 0
  | n + 1 => (expS n).set n (xp n)
def logS : Nat → List Nat
  | 0 => List.replicate 256 0
  | n + 1 => (logS n).set (xp n) n
def spin (v : Nat) : Nat := (v * 2 + v / 128) % 256
def outV (e l : List Nat) (c : Nat) : Nat :=
  let v := if 0 < c then e.getD ((255 - l.getD c 0) % 255) 0 else 0
  (((((99 ^^^ v) ^^^ spin v) ^^^ spin (spin v)) ^^^ spin (spin (spin v))) ^^^ spin (spin (spin (spin v))))
def expT : List Nat := [1, 3, 5, 15, 17, 51, 85, 255, 26, 46, 114, 150, 161, 248, 19, 53, 95, 225, 56, 72, 216, 115, 149, 164, 247, 2, 6, 10, 30, 34, 102, 170, 229, 52, 92, 228, 55, 89, 235, 38, 106, 190, 217, 112, 144, 171, 230, 49, 83, 245, 4, 12, 20, 60, 68, 204, 79, 209, 104, 184, 211, 110, 178, 205, 76, 212, 103, 169, 224, 59, 77, 215, 98, 166, 241, 8, 24, 40, 120, 136, 131, 158, 185, 208, 107, 189, 220, 127, 129, 152, 179, 206, 73, 219, 118, 154, 181, 196, 87, 249, 16, 48, 80, 240, 11, 29, 39, 105, 187, 214, 97, 163, 254, 25, 43, 125, 135, 146, 173, 236, 47, 113, 147, 174, 233, 32, 96, 160, 251, 22, 58, 78, 210, 109, 183, 194, 93, 231, 50, 86, 250, 21, 63, 65, 195, 94, 226, 61, 71, 201, 64, 192, 91, 237, 44, 116, 156, 191, 218, 117, 159, 186, 213, 100, 172, 239, 42, 126, 130, 157, 188, 223, 122, 142, 137, 128, 155, 182, 193, 88, 232, 35, 101, 175, 234, 37, 111, 177, 200, 67, 197, 84, 252, 31, 33, 99, 165, 244, 7, 9, 27, 45, 119, 153, 176, 203, 70, 202, 69, 207, 74, 222, 121, 139, 134, 145, 168, 227, 62, 66, 198, 81, 243, 14, 18, 54, 90, 238, 41, 123, 141, 140, 143, 138, 133, 148, 167, 242, 13, 23, 57, 75, 221, 124, 132, 151, 162, 253, 28, 36, 108, 180, 199, 82, 246, 0]
def logT : List Nat := [0, 0, 25, 1, 50, 2, 26, 198, 75, 199, 27, 104, 51, 238, 223, 3, 100, 4, 224, 14, 52, 141, 129, 239, 76, 113, 8, 200, 248, 105, 28, 193, 125, 194, 29, 181, 249, 185, 39, 106, 77, 228, 166, 114, 154, 201, 9, 120, 101, 47, 138, 5, 33, 15, 225, 36, 18, 240, 130, 69, 53, 147, 218, 142, 150, 143, 219, 189, 54, 208, 206, 148, 19, 92, 210, 241, 64, 70, 131, 56, 102, 221, 253, 48, 191, 6, 139, 98, 179, 37, 226, 152, 34, 136, 145, 16, 126, 110, 72, 195, 163, 182, 30, 66, 58, 107, 40, 84, 250, 133, 61, 186, 43, 121, 10, 21, 155, 159, 94, 202, 78, 212, 172, 229, 243, 115, 167, 87, 175, 88, 168, 80, 244, 234, 214, 116, 79, 174, 233, 213, 231, 230, 173, 232, 44, 215, 117, 122, 235, 22, 11, 245, 89, 203, 95, 176, 156, 169, 81, 160, 127, 12, 246, 111, 23, 196, 73, 236, 216, 67, 31, 45, 164, 118, 123, 183, 204, 187, 62, 90, 251, 96, 177, 134, 59, 82, 161, 108, 170, 85, 41, 157, 151, 178, 135, 144, 97, 190, 220, 252, 188, 149, 207, 205, 55, 63, 91, 209, 83, 57, 132, 60, 65, 162, 109, 71, 20, 42, 158, 93, 86, 242, 211, 171, 68, 17, 146, 217, 35, 32, 46, 137, 180, 124, 184, 38, 119, 153, 227, 165, 103, 74, 237, 222, 197, 49, 254, 24, 13, 99, 140, 128, 192, 247, 112, 7]
def sb : List UInt8 := [99, 124, 119, 123, 242, 107, 111, 197, 48, 1, 103, 43, 254, 215, 171, 118, 202, 130, 201, 125, 250, 89, 71, 240, 173, 212, 162, 175, 156, 164, 114, 192, 183, 253, 147, 38, 54, 63, 247, 204, 52, 165, 229, 241, 113, 216, 49, 21, 4, 199, 35, 195, 24, 150, 5, 154, 7, 18, 128, 226, 235, 39, 178, 117, 9, 131, 44, 26, 27, 110, 90, 160, 82, 59, 214, 179, 41, 227, 47, 132, 83, 209, 0, 237, 32, 252, 177, 91, 106, 203, 190, 57, 74, 76, 88, 207, 208, 239, 170, 251, 67, 77, 51, 133, 69, 249, 2, 127, 80, 60, 159, 168, 81, 163, 64, 143, 146, 157, 56, 245, 188, 182, 218, 33, 16, 255, 243, 210, 205, 12, 19, 236, 95, 151, 68, 23, 196, 167, 126, 61, 100, 93, 25, 115, 96, 129, 79, 220, 34, 42, 144, 136, 70, 238, 184, 20, 222, 94, 11, 219, 224, 50, 58, 10, 73, 6, 36, 92, 194, 211, 172, 98, 145, 149, 228, 121, 231, 200, 55, 109, 141, 213, 78, 169, 108, 86, 244, 234, 101, 122, 174, 8, 186, 120, 37, 46, 28, 166, 180, 198, 232, 221, 116, 31, 75, 189, 139, 138, 112, 62, 181, 102, 72, 3, 246, 14, 97, 53, 87, 185, 134, 193, 29, 158, 225, 248, 152, 17, 105, 217, 142, 148, 155, 30, 135, 233, 206, 85, 40, 223, 140, 161, 137, 13, 191, 230, 66, 104, 65, 153, 45, 15, 176, 84, 187, 22]
def S (x : UInt8) : UInt8 := sb.getD x.toNat 0
theorem sb_len : sb.length = 256 := by decide +kernel
theorem sb_box : ∀ i, i < 256 → box (UInt8.ofNat i) = sb.getD i 0 := by decide +kernel
theorem rmul_lt3 : ∀ x, x < 256 → rmul x 3 < 256 := by decide +kernel
theorem xp_lt : ∀ n, xp n < 256
  | 0 => by decide
  | n + 1 => rmul_lt3 _ (xp_lt n)
theorem xp_exp : ∀ n, n < 255 → xp n = expT.getD n 0 := by
  have h0 : xp 0 = expT.getD 0 0 := by decide
  have hs : ∀ n, n < 254 → rmul (expT.getD n 0) 3 = expT.getD (n + 1) 0 := by decide +kernel
  intro n
  induction n with
  | zero => intro _; exact h0
  | succ n ih => intro h; rw [xp, ih (by omega)]; exact hs n (by omega)
def expS' : Nat → List Nat
  | 0 => List.replicate 256 0
  | n + 1 => (expS' n).set n (expT.getD n 0)
def logS' : Nat → List Nat
  | 0 => List.replicate 256 0
  | n + 1 => (logS' n).set (expT.getD n 0) n
theorem expS_eq : ∀ n, n ≤ 255 → expS n = expS' n
  | 0, _ => rfl
  | n + 1, h => by rw [expS, expS', expS_eq n (by omega), xp_exp n (by omega)]
theorem logS_eq : ∀ n, n ≤ 255 → logS n = logS' n
  | 0, _ => rfl
  | n + 1, h => by rw [logS, logS', logS_eq n (by omega), xp_exp n (by omega)]
theorem exp_T : expS 255 = expT := by rw [expS_eq 255 (by omega)]; decide +kernel
theorem log_T : logS 255 = logT := by rw [logS_eq 255 (by omega)]; decide +kernel
theorem log_le : ∀ c, c < 256 → logT.getD c 0 ≤ 254 := by decide +kernel
theorem outV_sb : ∀ c, c < 256 → outV expT logT c = (sb.getD c 0).toNat := by decide +kernel
theorem rmul1 : ∀ x, x < 256 → rmul x 1 = x := by decide +kernel
theorem rmul2 : ∀ x, x < 256 → rmul x 2 = (dbl (UInt8.ofNat x)).toNat := by decide +kernel
theorem rmul3 : ∀ x, x < 256 → rmul x 3 = (dbl (UInt8.ofNat x) ^^^ UInt8.ofNat x).toNat := by decide +kernel

/-! Round keys. -/
def pwr : Nat → UInt8
  | 0 => 1
  | r + 1 => dbl (pwr r)
def nx (k : List UInt8) (p : UInt8) : List UInt8 :=
  match k with
  | [k0, k1, k2, k3, k4, k5, k6, k7, k8, k9, k10, k11, k12, k13, k14, k15] =>
    let a0 := (k0 ^^^ S k13) ^^^ p
    let a1 := k1 ^^^ S k14
    let a2 := k2 ^^^ S k15
    let a3 := k3 ^^^ S k12
    let b0 := k4 ^^^ a0
    let b1 := k5 ^^^ a1
    let b2 := k6 ^^^ a2
    let b3 := k7 ^^^ a3
    let c0 := k8 ^^^ b0
    let c1 := k9 ^^^ b1
    let c2 := k10 ^^^ b2
    let c3 := k11 ^^^ b3
    [a0, a1, a2, a3, b0, b1, b2, b3, c0, c1, c2, c3, k12 ^^^ c0, k13 ^^^ c1, k14 ^^^ c2, k15 ^^^ c3]
  | _ => []
def kr (key : List UInt8) : Nat → List UInt8
  | 0 => key
  | r + 1 => nx (kr key r) (pwr r)
theorem sixteen {α : Type} {l : List α} (h : l.length = 16) : ∃ k0 k1 k2 k3 k4 k5 k6 k7 k8 k9 k10 k11 k12 k13 k14 k15, l = [k0, k1, k2, k3, k4, k5, k6, k7, k8, k9, k10, k11, k12, k13, k14, k15] := by
  match l, h with
  | [k0, k1, k2, k3, k4, k5, k6, k7, k8, k9, k10, k11, k12, k13, k14, k15], _ => exact ⟨k0, k1, k2, k3, k4, k5, k6, k7, k8, k9, k10, k11, k12, k13, k14, k15, rfl⟩
theorem nx_len {k : List UInt8} (h : k.length = 16) (p : UInt8) : (nx k p).length = 16 := by
  obtain ⟨k0, k1, k2, k3, k4, k5, k6, k7, k8, k9, k10, k11, k12, k13, k14, k15, rfl⟩ := sixteen h
  rfl
theorem kr_len {key : List UInt8} (h : key.length = 16) : ∀ r, (kr key r).length = 16
  | 0 => h
  | r + 1 => nx_len (kr_len h r) _
theorem nx_low {k : List UInt8} (h : k.length = 16) (p : UInt8) (j : Nat) (hj : j < 4) : (nx k p).getD j 0 = if j = 0 then (k.getD j 0 ^^^ S (k.getD (12 + (j + 1) % 4) 0)) ^^^ p else k.getD j 0 ^^^ S (k.getD (12 + (j + 1) % 4) 0) := by
  obtain ⟨k0, k1, k2, k3, k4, k5, k6, k7, k8, k9, k10, k11, k12, k13, k14, k15, rfl⟩ := sixteen h
  rcases (show j = 0 ∨ j = 1 ∨ j = 2 ∨ j = 3 by omega) with rfl | rfl | rfl | rfl <;> rfl
theorem nx_high {k : List UInt8} (h : k.length = 16) (p : UInt8) (j : Nat) (h4 : 4 ≤ j) (hj : j < 16) : (nx k p).getD j 0 = k.getD j 0 ^^^ (nx k p).getD (j - 4) 0 := by
  obtain ⟨k0, k1, k2, k3, k4, k5, k6, k7, k8, k9, k10, k11, k12, k13, k14, k15, rfl⟩ := sixteen h
  rcases (show j = 4 ∨ j = 5 ∨ j = 6 ∨ j = 7 ∨ j = 8 ∨ j = 9 ∨ j = 10 ∨ j = 11 ∨ j = 12 ∨ j = 13 ∨ j = 14 ∨ j = 15 by omega) with rfl | rfl | rfl | rfl | rfl | rfl | rfl | rfl | rfl | rfl | rfl | rfl <;> rfl
/-- An octet of the round keys. -/
def ak (key : List UInt8) (n : Nat) : UInt8 := (kr key (n / 16)).getD (n % 16) 0
theorem ak_low {key : List UInt8} (h : key.length = 16) (r j : Nat) (hj : j < 4) : ak key (16 * (r + 1) + j) = if j = 0 then (ak key (16 * r + j) ^^^ S (ak key (16 * r + (12 + (j + 1) % 4)))) ^^^ pwr r else ak key (16 * r + j) ^^^ S (ak key (16 * r + (12 + (j + 1) % 4))) := by
  have e1 : (16 * (r + 1) + j) / 16 = r + 1 := by omega
  have e2 : (16 * (r + 1) + j) % 16 = j := by omega
  have e3 : (16 * r + j) / 16 = r := by omega
  have e4 : (16 * r + j) % 16 = j := by omega
  have e5 : (16 * r + (12 + (j + 1) % 4)) / 16 = r := by omega
  have e6 : (16 * r + (12 + (j + 1) % 4)) % 16 = 12 + (j + 1) % 4 := by omega
  simp only [ak, e1, e2, e3, e4, e5, e6]
  exact nx_low (kr_len h r) (pwr r) j hj
theorem ak_high {key : List UInt8} (h : key.length = 16) (r j : Nat) (h4 : 4 ≤ j) (hj : j < 16) : ak key (16 * (r + 1) + j) = ak key (16 * r + j) ^^^ ak key (16 * (r + 1) + (j - 4)) := by
  have e1 : (16 * (r + 1) + j) / 16 = r + 1 := by omega
  have e2 : (16 * (r + 1) + j) % 16 = j := by omega
  have e3 : (16 * r + j) / 16 = r := by omega
  have e4 : (16 * r + j) % 16 = j := by omega
  have e5 : (16 * (r + 1) + (j - 4)) / 16 = r + 1 := by omega
  have e6 : (16 * (r + 1) + (j - 4)) % 16 = j - 4 := by omega
  simp only [ak, e1, e2, e3, e4, e5, e6]
  exact nx_high (kr_len h r) (pwr r) j h4 hj
theorem ak_key {key : List UInt8} (n : Nat) (hn : n < 16) : ak key n = key.getD n 0 := by
  rw [ak, Nat.div_eq_of_lt hn, Nat.mod_eq_of_lt hn]; rfl

/-! Rounds. -/
def sh (b : List UInt8) (n : Nat) : UInt8 := S (b.getD (4 * ((n / 4 + n % 4) % 4) + n % 4) 0)
def mx (c : Nat → UInt8) (i : Nat) : UInt8 := (((dbl (c i) ^^^ dbl (c ((i + 1) % 4))) ^^^ c ((i + 1) % 4)) ^^^ c ((i + 2) % 4)) ^^^ c ((i + 3) % 4)
def rnd (b : List UInt8) (last : Bool) : List UInt8 := (List.range 16).map fun n => if last then sh b n else mx (fun i => sh b (4 * (n / 4) + i)) (n % 4)
def add (b k : List UInt8) : List UInt8 := (List.range 16).map fun n => b.getD n 0 ^^^ k.getD n 0
def state (key b : List UInt8) : Nat → List UInt8
  | 0 => add b (kr key 0)
  | r + 1 => add (rnd (state key b r) (r + 1 == 10)) (kr key (r + 1))
def block (key b : List UInt8) : List UInt8 := state key b 10
theorem rnd_len (b : List UInt8) (l : Bool) : (rnd b l).length = 16 := by simp [rnd]
theorem add_len (b k : List UInt8) : (add b k).length = 16 := by simp [add]
theorem state_len (key b : List UInt8) : ∀ r, (state key b r).length = 16
  | 0 => add_len _ _
  | r + 1 => add_len _ _
theorem block_len (key b : List UInt8) : (block key b).length = 16 := state_len key b 10
theorem range_get {α : Type} (f : Nat → α) (N n : Nat) (d : α) (h : n < N) : ((List.range N).map f).getD n d = f n := by
  simp [List.getD_eq_getElem?_getD, h]
theorem rnd_get (b : List UInt8) (l : Bool) (n : Nat) (h : n < 16) : (rnd b l).getD n 0 = if l then sh b n else mx (fun i => sh b (4 * (n / 4) + i)) (n % 4) := range_get _ _ _ _ h
theorem add_get (b k : List UInt8) (n : Nat) (h : n < 16) : (add b k).getD n 0 = b.getD n 0 ^^^ k.getD n 0 := range_get _ _ _ _ h

/-! The mask. -/
def first (nonce : List UInt8) : Nat := beNat (nonce.drop 12)
def ctr (nonce : List UInt8) (i : Nat) : List UInt8 := nonce.take 12 ++ be 4 ((first nonce + i) % 4294967296)
def maskB (key nonce : List UInt8) (p : Nat) : UInt8 := (block (key.take 16) (ctr nonce (p / 16))).getD (p % 16) 0
def mask (key nonce text : List UInt8) : List UInt8 := (List.range text.length).map fun p => text.getD p 0 ^^^ maskB key nonce p
theorem mask_len (key nonce text : List UInt8) : (mask key nonce text).length = text.length := by simp [mask]
theorem mask_get (key nonce text : List UInt8) (p : Nat) (h : p < text.length) : (mask key nonce text).getD p 0 = text.getD p 0 ^^^ maskB key nonce p := range_get _ _ _ _ h
theorem mask_back (key nonce text : List UInt8) : mask key nonce (mask key nonce text) = text := by
  apply List.ext_getElem
  · simp [mask]
  · intro p h1 h2
    have hp : p < text.length := h2
    have e := mask_get key nonce (mask key nonce text) p (by rw [mask_len]; exact hp)
    rw [mask_get key nonce text p hp, UInt8.xor_assoc, UInt8.xor_self, UInt8.xor_zero] at e
    rw [List.getD_eq_getElem?_getD, List.getElem?_eq_getElem h1, List.getD_eq_getElem?_getD, List.getElem?_eq_getElem h2] at e
    simpa using e
def tag (key nonce beside masked : List UInt8) : List UInt8 := (Mac.tag (key.drop 16) (be 4 beside.length ++ (beside ++ (nonce ++ masked)))).take 16
theorem tag_len (key nonce beside masked : List UInt8) : (tag key nonce beside masked).length = 16 := by simp [tag, Mac.tag_len]
def sealed (key nonce beside text : List UInt8) : List UInt8 := mask key nonce text ++ tag key nonce beside (mask key nonce text)
end Aes
end Go.AM


set_option autoImplicit false
namespace Go.Proofs.YtpakgjmcaefnmaaDoor
open Go Go.AM Go.Proofs

theorem RAes1166 : type_of% (And.intro (And.intro (And.intro @Tryd.underlying5 T.c5) (And.intro T.g5 (And.intro T.b5 T.z5))) Tryd.ntmps166) :=
  (And.intro (And.intro (And.intro @Tryd.underlying5 T.c5) (And.intro T.g5 (And.intro T.b5 T.z5))) Tryd.ntmps166)
theorem RAes1170 : type_of% (And.intro (And.intro (And.intro @Tryd.underlying5 (And.intro T.c5 T.g5)) (And.intro T.b5 (And.intro T.z5 T.k166))) Tryd.ntmps170) :=
  (And.intro (And.intro (And.intro @Tryd.underlying5 (And.intro T.c5 T.g5)) (And.intro T.b5 (And.intro T.z5 T.k166))) Tryd.ntmps170)

variable {Γ : Nat → List AV}

/-- An octet. -/
abbrev bV (x : UInt8) : AV := .v (.int .u8 (x.toNat : Int))
theorem u8_lt (x : UInt8) : x.toNat < 2 ^ IntKind.u8.bits := by simpa [IntKind.bits] using x.toNat_lt
theorem b_xor (a b : UInt8) : ixor .u8 (a.toNat : Int) (b.toNat : Int) = (((a ^^^ b).toNat : Nat) : Int) := by
  rw [ixor_u (k := .u8) rfl a.toNat b.toNat (u8_lt a) (u8_lt b), UInt8.toNat_xor]
theorem b_and (a b : UInt8) : iand .u8 (a.toNat : Int) (b.toNat : Int) = (((a &&& b).toNat : Nat) : Int) := by
  rw [iand_u (k := .u8) rfl a.toNat b.toNat (u8_lt a) (u8_lt b), UInt8.toNat_and]
theorem b_and27 (b : UInt8) : iand .u8 27 (b.toNat : Int) = ((((27 : UInt8) &&& b).toNat : Nat) : Int) := b_and 27 b
theorem b_and1 (b : UInt8) : iand .u8 (b.toNat : Int) 1 = (((b &&& (1 : UInt8)).toNat : Nat) : Int) := b_and b 1
theorem b_xor99 (b : UInt8) : ixor .u8 99 (b.toNat : Int) = ((((99 : UInt8) ^^^ b).toNat : Nat) : Int) := b_xor 99 b
theorem b_neg (a : UInt8) : ineg .u8 (a.toNat : Int) = ((((0 : UInt8) - a).toNat : Nat) : Int) := by
  have := a.toNat_lt
  rw [ineg, wrap_u rfl, UInt8.toNat_sub]
  simp only [IntKind.bits]
  rw [show (0 : UInt8).toNat = 0 from rfl]
  omega
theorem b_shl1 (a : UInt8) : ishl .u8 (a.toNat : Int) 1 = (((a <<< (1 : UInt8)).toNat : Nat) : Int) := by
  have := ishl_u (k := .u8) rfl a.toNat 1
  rw [show (1 : Int) = ((1 : Nat) : Int) from rfl, this, UInt8.toNat_shiftLeft]
  simp [IntKind.bits, Nat.shiftLeft_eq]
theorem b_shr1 (a : UInt8) : ishr .u8 (a.toNat : Int) 1 = (((a >>> (1 : UInt8)).toNat : Nat) : Int) := by
  have := ishr_u (k := .u8) a.toNat 1
  rw [show (1 : Int) = ((1 : Nat) : Int) from rfl, this, UInt8.toNat_shiftRight]
  simp [IntKind.bits, Nat.shiftRight_eq_div_pow]
theorem b_shr7 (a : UInt8) : ishr .u8 (a.toNat : Int) 7 = (((a >>> (7 : UInt8)).toNat : Nat) : Int) := by
  have := ishr_u (k := .u8) a.toNat 7
  rw [show (7 : Int) = ((7 : Nat) : Int) from rfl, this, UInt8.toNat_shiftRight]
  simp [IntKind.bits, Nat.shiftRight_eq_div_pow]
theorem shr1_half (b : UInt8) : (b >>> (1 : UInt8)).toNat = b.toNat / 2 := by
  rw [UInt8.toNat_shiftRight]
  simp [Nat.shiftRight_eq_div_pow]

set_option maxHeartbeats 400000 in
theorem double_calls (a : UInt8) (s : AS) : ACalls Tryd.prog Γ 166 [bV a] s (fun r s' => r = bV (Aes.dbl a) ∧ s' = s) := by
  refine acalls_body Tryd.func166 rfl Tryd.ntmps166 Tryd.results166 (by simp) ?_
  refine awp_reg_seq ?_
  intro K hK
  simp only [↓DN, UP, DF, ashift, aconv, aindexAddr, aindex, aslice, abuiltin, AV.cells, AV.one, reduceCtorEq, ↓reduceIte, nLT, nLE, nEQ, nAdd, nMul, nPow, nSub, zLT, zLE, zNat, RAes1166]
  refine hK _ _ ?_
  clear hK K
  refine awp_reg_seq ?_
  intro K hK
  simp only [↓DN, UP, DF, ashift, aconv, aindexAddr, aindex, aslice, abuiltin, AV.cells, AV.one, reduceCtorEq, ↓reduceIte, nLT, nLE, nEQ, nAdd, nMul, nPow, nSub, zLT, zLE, zNat, RAes1166, b_shl1, b_shr7, b_neg, b_and27, b_xor]
  refine hK _ _ ?_
  clear hK K
  refine awp_ret ?_
  simp only [retQ, AEnds, aresL, ares, List.toList_toArray, ↓upd_same]; try simp only [↓DN, UP, DF, ashift, aconv, aindexAddr, aindex, aslice, abuiltin, AV.cells, AV.one, reduceCtorEq, ↓reduceIte, nLT, nLE, nEQ, nAdd, nMul, nPow, nSub, zLT, zLE, zNat, RAes1166, DT]
  exact ⟨_, _, AV.weak.refl _, AS.le.refl _, rfl, rfl⟩

set_option maxHeartbeats 1000000 in
theorem aesMul_calls (x y : UInt8) (s : AS) : ACalls Tryd.prog Γ 170 [bV x, bV y] s (fun r s' => r = bV (Aes.gm 8 0 x y) ∧ s' = s) := by
  refine acalls_body Tryd.func170 rfl Tryd.ntmps170 Tryd.results170 (by simp) ?_
  refine awp_reg_seq ?_
  intro K hK
  simp only [↓DN, UP, DF, ashift, aconv, aindexAddr, aindex, aslice, abuiltin, AV.cells, AV.one, reduceCtorEq, ↓reduceIte, nLT, nLE, nEQ, nAdd, nMul, nPow, nSub, zLT, zLE, zNat, RAes1170]
  refine hK _ _ ?_
  clear hK K
  refine awp_reg_seq ?_
  intro K hK
  simp only [↓DN, UP, DF, ashift, aconv, aindexAddr, aindex, aslice, abuiltin, AV.cells, AV.one, reduceCtorEq, ↓reduceIte, nLT, nLE, nEQ, nAdd, nMul, nPow, nSub, zLT, zLE, zNat, RAes1170]
  refine hK _ _ ?_
  clear hK K
  refine awp_seq_k ?_
  intro K hK
  refine awp_block ?_
  refine awp_loop (fun E s1 => ∃ (f : Nat) (o a b : UInt8), E 5 = bV o ∧ E 0 = bV a ∧ E 1 = bV b ∧ b.toNat < 2 ^ f ∧ Aes.gm f o a b = Aes.gm 8 0 x y ∧ s1 = s)
    (fun E _ => match E 1 with | .v (.int _ i) => i.toNat | _ => 0) ?_ ?_
  · exact ⟨8, 0, x, y, by simp [upd], by simp [upd, initE], by simp [upd, initE], y.toNat_lt, rfl, rfl⟩
  · rintro E1 s1 ⟨f, o, a, b, h5, h0, h1, hb, hinv, rfl⟩ -
    refine awp_seq_k ?_
    intro K2 hK2
    by_cases hb0 : b.toNat = 0
    · refine awp_reg_seq ?_
      intro K hK
      simp only [↓DN, UP, DF, ashift, aconv, aindexAddr, aindex, aslice, abuiltin, AV.cells, AV.one, reduceCtorEq, ↓reduceIte, nLT, nLE, nEQ, nAdd, nMul, nPow, nSub, zLT, zLE, zNat, RAes1170, h1, decide_eq_false (show ¬ (0 : Int) < (b.toNat : Int) by omega)]
      refine hK _ _ ?_
      clear hK K
      refine awp_cond_k ?_
      intro X Y hX hY
      simp only [↓DN, UP, DF, ashift, aconv, aindexAddr, aindex, aslice, abuiltin, AV.cells, AV.one, reduceCtorEq, ↓reduceIte, nLT, nLE, nEQ, nAdd, nMul, nPow, nSub, zLT, zLE, zNat, RAes1170, DB]
      refine hY ?_
      clear hX hY X Y
      refine awp_exit ?_
      simp only [thenQ, blockQ, if_true]
      refine hK _ _ ?_
      clear hK hK2 K K2
      refine awp_reg_seq ?_
      intro K hK
      simp only [↓DN, UP, DF, ashift, aconv, aindexAddr, aindex, aslice, abuiltin, AV.cells, AV.one, reduceCtorEq, ↓reduceIte, nLT, nLE, nEQ, nAdd, nMul, nPow, nSub, zLT, zLE, zNat, RAes1170, h5]
      refine hK _ _ ?_
      clear hK K
      refine awp_ret ?_
      simp only [retQ, AEnds, aresL, ares, List.toList_toArray, ↓upd_same]; try simp only [↓DN, UP, DF, ashift, aconv, aindexAddr, aindex, aslice, abuiltin, AV.cells, AV.one, reduceCtorEq, ↓reduceIte, nLT, nLE, nEQ, nAdd, nMul, nPow, nSub, zLT, zLE, zNat, RAes1170, DT]
      refine ⟨_, _, AV.weak.refl _, AS.le.refl _, ?_, rfl⟩
      have e : b = 0 := UInt8.toNat_inj.1 (by rw [hb0]; rfl)
      rw [← hinv, e, Aes.gm_zero]
    · refine awp_reg_seq ?_
      intro K hK
      simp only [↓DN, UP, DF, ashift, aconv, aindexAddr, aindex, aslice, abuiltin, AV.cells, AV.one, reduceCtorEq, ↓reduceIte, nLT, nLE, nEQ, nAdd, nMul, nPow, nSub, zLT, zLE, zNat, RAes1170, h1, decide_eq_true (show (0 : Int) < (b.toNat : Int) by omega)]
      refine hK _ _ ?_
      clear hK K
      refine awp_cond_k ?_
      intro X Y hX hY
      simp only [↓DN, UP, DF, ashift, aconv, aindexAddr, aindex, aslice, abuiltin, AV.cells, AV.one, reduceCtorEq, ↓reduceIte, nLT, nLE, nEQ, nAdd, nMul, nPow, nSub, zLT, zLE, zNat, RAes1170, DB]
      refine hX ?_
      clear hX hY X Y
      refine awp_skip ?_
      refine hK2 _ _ ?_
      clear hK2 K2
      refine awp_seq_k ?_
      intro K3 hK3
      refine awp_block ?_
      refine awp_reg_seq ?_
      intro K hK
      simp only [↓DN, UP, DF, ashift, aconv, aindexAddr, aindex, aslice, abuiltin, AV.cells, AV.one, reduceCtorEq, ↓reduceIte, nLT, nLE, nEQ, nAdd, nMul, nPow, nSub, zLT, zLE, zNat, RAes1170, h5, h0, h1, b_and1, b_neg, b_and, b_xor]
      refine hK _ _ ?_
      clear hK K
      refine awp_reg_end ?_
      intro K hK
      simp only [↓DN, UP, DF, ashift, aconv, aindexAddr, aindex, aslice, abuiltin, AV.cells, AV.one, reduceCtorEq, ↓reduceIte, nLT, nLE, nEQ, nAdd, nMul, nPow, nSub, zLT, zLE, zNat, RAes1170, h0]
      refine acallk (double_calls a _) ?_
      rintro r s' ⟨rfl, rfl⟩
      simp only [↓AXq_nil, ↓AXq_cons, pval, DX, Nat.reduceBEq, ↓DN, UP, DF, ashift, aconv, aindexAddr, aindex, aslice, abuiltin, AV.cells, AV.one, reduceCtorEq, ↓reduceIte, nLT, nLE, nEQ, nAdd, nMul, nPow, nSub, zLT, zLE, zNat, RAes1170]
      refine hK _ _ ?_
      clear hK K
      simp only [blockQ, thenQ, if_true, if_false]
      refine hK3 _ _ ?_
      clear hK3 K3
      obtain ⟨g, rfl⟩ : ∃ g, f = g + 1 := ⟨f - 1, by
        cases f with
        | zero => simp at hb; omega
        | succ f => simp⟩
      refine awp_reg_end ?_
      intro K hK
      simp only [↓DN, UP, DF, ashift, aconv, aindexAddr, aindex, aslice, abuiltin, AV.cells, AV.one, reduceCtorEq, ↓reduceIte, nLT, nLE, nEQ, nAdd, nMul, nPow, nSub, zLT, zLE, zNat, RAes1170, h1, b_shr1]
      refine hK _ _ ?_
      clear hK K
      refine ⟨⟨g, o ^^^ (a &&& ((0 : UInt8) - (b &&& 1))), Aes.dbl a, b >>> 1, by simp only [upd, Nat.reduceEqDiff, ↓reduceIte], by simp only [upd, Nat.reduceEqDiff, ↓reduceIte], by simp only [upd, ↓reduceIte], ?_, hinv, rfl⟩, ?_⟩
      · rw [shr1_half]
        rw [Nat.pow_succ] at hb
        omega
      · simp only [h1, upd, ↓reduceIte, shr1_half]
        omega

end Go.Proofs.YtpakgjmcaefnmaaDoor


set_option autoImplicit false
namespace Go.Proofs.YtpakgjmcaefnmaaDoor
open Go Go.AM Go.Proofs

theorem RAes2168 : type_of% (And.intro (And.intro (And.intro (And.intro @Tryd.underlying3 T.c3) (And.intro T.g3 (And.intro T.b3 T.z3))) (And.intro (And.intro @Tryd.underlying5 (And.intro T.c5 T.g5)) (And.intro T.b5 (And.intro T.z5 T.k170)))) Tryd.ntmps168) :=
  (And.intro (And.intro (And.intro (And.intro @Tryd.underlying3 T.c3) (And.intro T.g3 (And.intro T.b3 T.z3))) (And.intro (And.intro @Tryd.underlying5 (And.intro T.c5 T.g5)) (And.intro T.b5 (And.intro T.z5 T.k170)))) Tryd.ntmps168)
theorem RAes2169 : type_of% (And.intro (And.intro (And.intro (And.intro @Tryd.underlying3 (And.intro T.c3 T.g3)) (And.intro (And.intro T.b3 T.z3) (And.intro @Tryd.underlying5 T.c5))) (And.intro (And.intro (And.intro T.g5 T.b5) (And.intro T.z5 @Tryd.underlying106)) (And.intro (And.intro T.c106 T.g106) (And.intro T.b106 T.z106)))) Tryd.ntmps169) :=
  (And.intro (And.intro (And.intro (And.intro @Tryd.underlying3 (And.intro T.c3 T.g3)) (And.intro (And.intro T.b3 T.z3) (And.intro @Tryd.underlying5 T.c5))) (And.intro (And.intro (And.intro T.g5 T.b5) (And.intro T.z5 @Tryd.underlying106)) (And.intro (And.intro T.c106 T.g106) (And.intro T.b106 T.z106)))) Tryd.ntmps169)
theorem RAes2165 : type_of% (And.intro (And.intro (And.intro (And.intro @Tryd.underlying3 (And.intro T.c3 T.g3)) (And.intro T.b3 (And.intro T.z3 @Tryd.underlying5))) (And.intro (And.intro T.c5 (And.intro T.g5 T.b5)) (And.intro T.z5 (And.intro T.k168 T.k169)))) Tryd.ntmps165) :=
  (And.intro (And.intro (And.intro (And.intro @Tryd.underlying3 (And.intro T.c3 T.g3)) (And.intro T.b3 (And.intro T.z3 @Tryd.underlying5))) (And.intro (And.intro T.c5 (And.intro T.g5 T.b5)) (And.intro T.z5 (And.intro T.k168 T.k169)))) Tryd.ntmps165)

variable {Γ : Nat → List AV}

theorem n_and1 : ∀ n : Nat, n < 256 → iand .i64 (n : Int) 1 = ((n % 2 : Nat) : Int) := by decide +kernel
theorem n_shr1 (n : Nat) : ishr .i64 (n : Int) 1 = ((n / 2 : Nat) : Int) := by
  have := ishr_u (k := .i64) n 1
  rw [show (1 : Int) = ((1 : Nat) : Int) from rfl, this]
  simp [IntKind.bits]
theorem one_beq : (((1 : Nat) : Int) == 1) = true := rfl
theorem zero_beq1 : (((0 : Nat) : Int) == 1) = false := rfl

set_option maxHeartbeats 1000000 in
theorem inverse_calls (x : UInt8) (s : AS) : ACalls Tryd.prog Γ 168 [bV x] s (fun r s' => r = bV (Aes.inv x) ∧ s' = s) := by
  refine acalls_body Tryd.func168 rfl Tryd.ntmps168 Tryd.results168 (by simp) ?_
  refine awp_reg_seq ?_
  intro K hK
  simp only [↓DN, UP, DF, ashift, aconv, aindexAddr, aindex, aslice, abuiltin, AV.cells, AV.one, reduceCtorEq, ↓reduceIte, nLT, nLE, nEQ, nAdd, nMul, nPow, nSub, zLT, zLE, zNat, RAes2168]
  refine hK _ _ ?_
  clear hK K
  refine awp_reg_seq ?_
  intro K hK
  simp only [↓DN, UP, DF, ashift, aconv, aindexAddr, aindex, aslice, abuiltin, AV.cells, AV.one, reduceCtorEq, ↓reduceIte, nLT, nLE, nEQ, nAdd, nMul, nPow, nSub, zLT, zLE, zNat, RAes2168]
  refine hK _ _ ?_
  clear hK K
  refine awp_seq_k ?_
  intro K hK
  refine awp_reg_seq ?_
  intro K hK
  simp only [↓DN, UP, DF, ashift, aconv, aindexAddr, aindex, aslice, abuiltin, AV.cells, AV.one, reduceCtorEq, ↓reduceIte, nLT, nLE, nEQ, nAdd, nMul, nPow, nSub, zLT, zLE, zNat, RAes2168]
  refine hK _ _ ?_
  clear hK K
  refine awp_block ?_
  refine awp_loop (fun E s1 => ∃ (f : Nat) (o a : UInt8) (n : Nat), E 3 = bV o ∧ E 0 = bV a ∧ E 4 = .v (.int .i64 n) ∧ n < 2 ^ f ∧ n < 256 ∧ Aes.pw f o a n = Aes.pw 8 1 x 254 ∧ s1 = s)
    (fun E _ => match E 4 with | .v (.int _ i) => i.toNat | _ => 0) ?_ ?_
  · exact ⟨8, 1, x, 254, by simp only [upd, Nat.reduceEqDiff, ↓reduceIte]; rfl, by simp only [upd, initE, Nat.reduceEqDiff, ↓reduceIte]; rfl, by simp only [upd, ↓reduceIte]; rfl, by decide, by decide, rfl, rfl⟩
  · rintro E1 s1 ⟨f, o, a, n, h3, h0, h4, hn, hn2, hinv, rfl⟩ -
    refine awp_seq_k ?_
    intro K2 hK2
    by_cases hn0 : n = 0
    · refine awp_reg_seq ?_
      intro K hK
      simp only [↓DN, UP, DF, ashift, aconv, aindexAddr, aindex, aslice, abuiltin, AV.cells, AV.one, reduceCtorEq, ↓reduceIte, nLT, nLE, nEQ, nAdd, nMul, nPow, nSub, zLT, zLE, zNat, RAes2168, h4, decide_eq_false (show ¬ (0 : Int) < (n : Int) by omega)]
      refine hK _ _ ?_
      clear hK K
      refine awp_cond_k ?_
      intro X Y hX hY
      simp only [↓DN, UP, DF, ashift, aconv, aindexAddr, aindex, aslice, abuiltin, AV.cells, AV.one, reduceCtorEq, ↓reduceIte, nLT, nLE, nEQ, nAdd, nMul, nPow, nSub, zLT, zLE, zNat, RAes2168, DB]
      refine hY ?_
      clear hX hY X Y
      refine awp_exit ?_
      simp only [thenQ, blockQ, if_true]
      refine hK _ _ ?_
      clear hK hK2 K K2
      refine awp_reg_seq ?_
      intro K hK
      simp only [↓DN, UP, DF, ashift, aconv, aindexAddr, aindex, aslice, abuiltin, AV.cells, AV.one, reduceCtorEq, ↓reduceIte, nLT, nLE, nEQ, nAdd, nMul, nPow, nSub, zLT, zLE, zNat, RAes2168, h3]
      refine hK _ _ ?_
      clear hK K
      refine awp_ret ?_
      simp only [retQ, AEnds, aresL, ares, List.toList_toArray, ↓upd_same]; try simp only [↓DN, UP, DF, ashift, aconv, aindexAddr, aindex, aslice, abuiltin, AV.cells, AV.one, reduceCtorEq, ↓reduceIte, nLT, nLE, nEQ, nAdd, nMul, nPow, nSub, zLT, zLE, zNat, RAes2168, DT]
      refine ⟨_, _, AV.weak.refl _, AS.le.refl _, ?_, rfl⟩
      rw [Aes.inv, ← hinv, hn0, Aes.pw_zero]
    · refine awp_reg_seq ?_
      intro K hK
      simp only [↓DN, UP, DF, ashift, aconv, aindexAddr, aindex, aslice, abuiltin, AV.cells, AV.one, reduceCtorEq, ↓reduceIte, nLT, nLE, nEQ, nAdd, nMul, nPow, nSub, zLT, zLE, zNat, RAes2168, h4, decide_eq_true (show (0 : Int) < (n : Int) by omega)]
      refine hK _ _ ?_
      clear hK K
      refine awp_cond_k ?_
      intro X Y hX hY
      simp only [↓DN, UP, DF, ashift, aconv, aindexAddr, aindex, aslice, abuiltin, AV.cells, AV.one, reduceCtorEq, ↓reduceIte, nLT, nLE, nEQ, nAdd, nMul, nPow, nSub, zLT, zLE, zNat, RAes2168, DB]
      refine hX ?_
      clear hX hY X Y
      refine awp_skip ?_
      refine hK2 _ _ ?_
      clear hK2 K2
      refine awp_seq_k ?_
      intro K3 hK3
      refine awp_block ?_
      refine awp_seq_k ?_
      intro K4 hK4
      obtain ⟨g, rfl⟩ : ∃ g, f = g + 1 := ⟨f - 1, by
        cases f with
        | zero => simp at hn; omega
        | succ f => simp⟩
      have hstep : Aes.pw (g + 1) o a n = Aes.pw g (if n % 2 = 1 then Aes.gm 8 0 o a else o) (Aes.gm 8 0 a a) (n / 2) := rfl
      have hgo : ∀ (E2 : Env) (o2 : UInt8), E2 3 = bV o2 → E2 0 = bV a → E2 4 = .v (.int .i64 n) → Aes.pw g o2 (Aes.gm 8 0 a a) (n / 2) = Aes.pw 8 1 x 254 → K4 E2 s1 := by
        intro E2 o2 e3 e0 e4 hinv2
        refine hK4 _ _ ?_
        clear hK4 K4
        refine awp_reg_end ?_
        intro K hK
        simp only [↓DN, UP, DF, ashift, aconv, aindexAddr, aindex, aslice, abuiltin, AV.cells, AV.one, reduceCtorEq, ↓reduceIte, nLT, nLE, nEQ, nAdd, nMul, nPow, nSub, zLT, zLE, zNat, RAes2168, e0]
        refine acallk (aesMul_calls a a s1) ?_
        rintro r s' ⟨rfl, rfl⟩
        simp only [↓AXq_nil, ↓AXq_cons, pval, DX, Nat.reduceBEq, ↓DN, UP, DF, ashift, aconv, aindexAddr, aindex, aslice, abuiltin, AV.cells, AV.one, reduceCtorEq, ↓reduceIte, nLT, nLE, nEQ, nAdd, nMul, nPow, nSub, zLT, zLE, zNat, RAes2168]
        refine hK _ _ ?_
        clear hK K
        simp only [blockQ, thenQ, if_true, if_false]
        refine hK3 _ _ ?_
        clear hK3 K3
        refine awp_reg_end ?_
        intro K hK
        simp only [↓DN, UP, DF, ashift, aconv, aindexAddr, aindex, aslice, abuiltin, AV.cells, AV.one, reduceCtorEq, ↓reduceIte, nLT, nLE, nEQ, nAdd, nMul, nPow, nSub, zLT, zLE, zNat, RAes2168, e4, n_shr1]
        refine hK _ _ ?_
        clear hK K
        refine ⟨⟨g, o2, Aes.gm 8 0 a a, n / 2, by simp only [upd, e3, Nat.reduceEqDiff, ↓reduceIte], by simp only [upd, Nat.reduceEqDiff, ↓reduceIte], by simp only [upd, ↓reduceIte], by rw [Nat.pow_succ] at hn; omega, by omega, hinv2, rfl⟩, ?_⟩
        simp only [h4, upd, ↓reduceIte]
        omega
      by_cases hodd : n % 2 = 1
      · refine awp_reg_seq ?_
        intro K hK
        simp only [↓DN, UP, DF, ashift, aconv, aindexAddr, aindex, aslice, abuiltin, AV.cells, AV.one, reduceCtorEq, ↓reduceIte, nLT, nLE, nEQ, nAdd, nMul, nPow, nSub, zLT, zLE, zNat, RAes2168, h4, n_and1 n hn2, hodd, one_beq]
        refine hK _ _ ?_
        clear hK K
        refine awp_cond_k ?_
        intro X Y hX hY
        simp only [↓DN, UP, DF, ashift, aconv, aindexAddr, aindex, aslice, abuiltin, AV.cells, AV.one, reduceCtorEq, ↓reduceIte, nLT, nLE, nEQ, nAdd, nMul, nPow, nSub, zLT, zLE, zNat, RAes2168, DB]
        refine hX ?_
        clear hX hY X Y
        refine awp_reg_end ?_
        intro K hK
        simp only [↓DN, UP, DF, ashift, aconv, aindexAddr, aindex, aslice, abuiltin, AV.cells, AV.one, reduceCtorEq, ↓reduceIte, nLT, nLE, nEQ, nAdd, nMul, nPow, nSub, zLT, zLE, zNat, RAes2168, h3, h0]
        refine acallk (aesMul_calls o a s1) ?_
        rintro r s' ⟨rfl, rfl⟩
        simp only [↓AXq_nil, ↓AXq_cons, pval, DX, Nat.reduceBEq, ↓DN, UP, DF, ashift, aconv, aindexAddr, aindex, aslice, abuiltin, AV.cells, AV.one, reduceCtorEq, ↓reduceIte, nLT, nLE, nEQ, nAdd, nMul, nPow, nSub, zLT, zLE, zNat, RAes2168]
        refine hK _ _ ?_
        clear hK K
        refine hgo _ (Aes.gm 8 0 o a) (by simp only [upd, ↓reduceIte]) (by simp only [upd, h0, Nat.reduceEqDiff, ↓reduceIte]) (by simp only [upd, h4, Nat.reduceEqDiff, ↓reduceIte]) ?_
        rw [← hinv, hstep, if_pos hodd]
      · have heven : n % 2 = 0 := by omega
        refine awp_reg_seq ?_
        intro K hK
        simp only [↓DN, UP, DF, ashift, aconv, aindexAddr, aindex, aslice, abuiltin, AV.cells, AV.one, reduceCtorEq, ↓reduceIte, nLT, nLE, nEQ, nAdd, nMul, nPow, nSub, zLT, zLE, zNat, RAes2168, h4, n_and1 n hn2, heven, zero_beq1]
        refine hK _ _ ?_
        clear hK K
        refine awp_cond_k ?_
        intro X Y hX hY
        simp only [↓DN, UP, DF, ashift, aconv, aindexAddr, aindex, aslice, abuiltin, AV.cells, AV.one, reduceCtorEq, ↓reduceIte, nLT, nLE, nEQ, nAdd, nMul, nPow, nSub, zLT, zLE, zNat, RAes2168, DB]
        refine hY ?_
        clear hX hY X Y
        refine awp_skip ?_
        refine hgo _ o (by simp only [upd, h3, Nat.reduceEqDiff, ↓reduceIte]) (by simp only [upd, h0, Nat.reduceEqDiff, ↓reduceIte]) (by simp only [upd, h4, Nat.reduceEqDiff, ↓reduceIte]) ?_
        rw [← hinv, hstep, if_neg hodd]

theorem rot8_count : ∀ k : Nat, k < 8 → iand .u64 (iconv .u64 (k : Int)) 7 = ((k : Nat) : Int) := by decide +kernel
theorem rot8_sub : ∀ k : Nat, k < 8 → isub .u64 8 ((k : Nat) : Int) = ((8 - k : Nat) : Int) := by decide +kernel
theorem rot8_val (x : UInt8) (k : Nat) (h0 : 0 < k) (h : k < 8) : ior .u8 (ishl .u8 (x.toNat : Int) ((k : Nat) : Int)) (ishr .u8 (x.toNat : Int) ((8 - k : Nat) : Int)) = (((Aes.rot x k).toNat : Nat) : Int) := by
  have hx := x.toNat_lt
  have hd : x.toNat / 2 ^ (8 - k) < 256 := Nat.lt_of_le_of_lt (Nat.div_le_self _ _) hx
  rw [ishl_u rfl, ishr_u]
  simp only [IntKind.bits]
  rw [Nat.min_eq_left (by omega), Nat.min_eq_left (by omega)]
  have e := ior_u (k := .u8) rfl (x.toNat * 2 ^ k % 2 ^ 8) (x.toNat / 2 ^ (8 - k)) (Nat.mod_lt _ (by decide)) hd
  rw [e]
  rw [Aes.rot, UInt8.toNat_or, UInt8.toNat_ofNat', UInt8.toNat_ofNat', Nat.mod_eq_of_lt hd]

set_option maxHeartbeats 1000000 in
theorem rotl8_calls (x : UInt8) (k : Nat) (h0 : 0 < k) (h : k < 8) (s : AS) :
    ACalls Tryd.prog Γ 169 [bV x, .v (.int .i64 (k : Int))] s (fun r s' => r = bV (Aes.rot x k) ∧ s' = s) := by
  refine acalls_body Tryd.func169 rfl Tryd.ntmps169 Tryd.results169 (by simp) ?_
  refine awp_reg_seq ?_
  intro K hK
  simp only [↓DN, UP, DF, ashift, aconv, aindexAddr, aindex, aslice, abuiltin, AV.cells, AV.one, reduceCtorEq, ↓reduceIte, nLT, nLE, nEQ, nAdd, nMul, nPow, nSub, zLT, zLE, zNat, RAes2169]
  refine hK _ _ ?_
  clear hK K
  refine awp_reg_seq ?_
  intro K hK
  simp only [↓DN, UP, DF, ashift, aconv, aindexAddr, aindex, aslice, abuiltin, AV.cells, AV.one, reduceCtorEq, ↓reduceIte, nLT, nLE, nEQ, nAdd, nMul, nPow, nSub, zLT, zLE, zNat, RAes2169, rot8_count k h]
  refine hK _ _ ?_
  clear hK K
  refine awp_reg_seq ?_
  intro K hK
  simp only [↓DN, UP, DF, ashift, aconv, aindexAddr, aindex, aslice, abuiltin, AV.cells, AV.one, reduceCtorEq, ↓reduceIte, nLT, nLE, nEQ, nAdd, nMul, nPow, nSub, zLT, zLE, zNat, RAes2169, nat_not_neg, rot8_sub k h, rot8_val x k h0 h]
  refine hK _ _ ?_
  clear hK K
  refine awp_ret ?_
  simp only [retQ, AEnds, aresL, ares, List.toList_toArray, ↓upd_same]; try simp only [↓DN, UP, DF, ashift, aconv, aindexAddr, aindex, aslice, abuiltin, AV.cells, AV.one, reduceCtorEq, ↓reduceIte, nLT, nLE, nEQ, nAdd, nMul, nPow, nSub, zLT, zLE, zNat, RAes2169, DT]
  exact ⟨_, s, AV.weak.refl _, AS.le.refl s, rfl, rfl⟩

set_option maxHeartbeats 1000000 in
theorem aesBox_calls (x : UInt8) (s : AS) : ACalls Tryd.prog Γ 165 [bV x] s (fun r s' => r = bV (Aes.box x) ∧ s' = s) := by
  refine acalls_body Tryd.func165 rfl Tryd.ntmps165 Tryd.results165 (by simp) ?_
  have hbox : Aes.box x = Aes.boxP (Aes.inv x) 4 := rfl
  have hi := fun s => inverse_calls (Γ := Γ) x s
  rw [hbox]
  generalize Aes.inv x = y at *
  refine awp_reg_seq ?_
  intro K hK
  simp only [↓DN, UP, DF, ashift, aconv, aindexAddr, aindex, aslice, abuiltin, AV.cells, AV.one, reduceCtorEq, ↓reduceIte, nLT, nLE, nEQ, nAdd, nMul, nPow, nSub, zLT, zLE, zNat, RAes2165]
  refine hK _ _ ?_
  clear hK K
  refine awp_reg_seq ?_
  intro K hK
  simp only [↓DN, UP, DF, ashift, aconv, aindexAddr, aindex, aslice, abuiltin, AV.cells, AV.one, reduceCtorEq, ↓reduceIte, nLT, nLE, nEQ, nAdd, nMul, nPow, nSub, zLT, zLE, zNat, RAes2165]
  refine acallk (hi _) ?_
  rintro r s1 ⟨rfl, rfl⟩
  simp only [↓AXq_nil, ↓AXq_cons, pval, DX, Nat.reduceBEq, ↓DN, UP, DF, ashift, aconv, aindexAddr, aindex, aslice, abuiltin, AV.cells, AV.one, reduceCtorEq, ↓reduceIte, nLT, nLE, nEQ, nAdd, nMul, nPow, nSub, zLT, zLE, zNat, RAes2165]
  refine hK _ _ ?_
  clear hK K
  refine awp_reg_seq ?_
  intro K hK
  simp only [↓DN, UP, DF, ashift, aconv, aindexAddr, aindex, aslice, abuiltin, AV.cells, AV.one, reduceCtorEq, ↓reduceIte, nLT, nLE, nEQ, nAdd, nMul, nPow, nSub, zLT, zLE, zNat, RAes2165, b_xor99]
  refine hK _ _ ?_
  clear hK K
  refine awp_seq_k ?_
  intro K hK
  refine awp_reg_seq ?_
  intro K hK
  simp only [↓DN, UP, DF, ashift, aconv, aindexAddr, aindex, aslice, abuiltin, AV.cells, AV.one, reduceCtorEq, ↓reduceIte, nLT, nLE, nEQ, nAdd, nMul, nPow, nSub, zLT, zLE, zNat, RAes2165]
  refine hK _ _ ?_
  clear hK K
  refine awp_block ?_
  refine awp_loop (fun E s2 => ∃ i : Nat, i ≤ 4 ∧ E 3 = bV y ∧ E 4 = bV (Aes.boxP y i) ∧ E 5 = .v (.int .i64 ((i + 1 : Nat) : Int)) ∧ s2 = s1)
    (fun E _ => match E 5 with | .v (.int _ i) => 5 - i.toNat | _ => 0) ?_ ?_
  · exact ⟨0, by omega, by simp only [upd, Nat.reduceEqDiff, ↓reduceIte], by simp only [upd, Nat.reduceEqDiff, ↓reduceIte]; rfl, by simp only [upd, ↓reduceIte]; rfl, rfl⟩
  · rintro E1 s2 ⟨i, hi', h3, h4, h5, rfl⟩ -
    refine awp_seq_k ?_
    intro K2 hK2
    by_cases hn : i < 4
    · refine awp_reg_seq ?_
      intro K hK
      simp only [↓DN, UP, DF, ashift, aconv, aindexAddr, aindex, aslice, abuiltin, AV.cells, AV.one, reduceCtorEq, ↓reduceIte, nLT, nLE, nEQ, nAdd, nMul, nPow, nSub, zLT, zLE, zNat, RAes2165, h5, decide_eq_true (show ((i + 1 : Nat) : Int) < 5 by omega)]
      refine hK _ _ ?_
      clear hK K
      refine awp_cond_k ?_
      intro X Y hX hY
      simp only [↓DN, UP, DF, ashift, aconv, aindexAddr, aindex, aslice, abuiltin, AV.cells, AV.one, reduceCtorEq, ↓reduceIte, nLT, nLE, nEQ, nAdd, nMul, nPow, nSub, zLT, zLE, zNat, RAes2165, DB]
      refine hX ?_
      clear hX hY X Y
      refine awp_skip ?_
      refine hK2 _ _ ?_
      clear hK2 K2
      refine awp_seq_k ?_
      intro K3 hK3
      refine awp_block ?_
      have hnext : Aes.boxP y (i + 1) = Aes.boxP y i ^^^ Aes.rot y (i + 1) := rfl
      generalize Aes.boxP y i = o at *
      refine awp_reg_end ?_
      intro K hK
      simp only [↓DN, UP, DF, ashift, aconv, aindexAddr, aindex, aslice, abuiltin, AV.cells, AV.one, reduceCtorEq, ↓reduceIte, nLT, nLE, nEQ, nAdd, nMul, nPow, nSub, zLT, zLE, zNat, RAes2165, h3, h4, h5]
      refine acallk (rotl8_calls y (i + 1) (by omega) (by omega) _) ?_
      rintro r s3 ⟨rfl, rfl⟩
      simp only [↓AXq_nil, ↓AXq_cons, pval, DX, Nat.reduceBEq, ↓DN, UP, DF, ashift, aconv, aindexAddr, aindex, aslice, abuiltin, AV.cells, AV.one, reduceCtorEq, ↓reduceIte, nLT, nLE, nEQ, nAdd, nMul, nPow, nSub, zLT, zLE, zNat, RAes2165, h3, h4, h5, b_xor]
      refine hK _ _ ?_
      clear hK K
      simp only [blockQ, thenQ, if_true, if_false]
      refine hK3 _ _ ?_
      clear hK3 K3
      refine awp_reg_end ?_
      intro K hK
      simp only [↓DN, UP, DF, ashift, aconv, aindexAddr, aindex, aslice, abuiltin, AV.cells, AV.one, reduceCtorEq, ↓reduceIte, nLT, nLE, nEQ, nAdd, nMul, nPow, nSub, zLT, zLE, zNat, RAes2165, h5, w_succ (i + 1) (by omega)]
      refine hK _ _ ?_
      clear hK K
      refine ⟨⟨i + 1, by omega, by simp only [upd, h3, Nat.reduceEqDiff, ↓reduceIte], by simp only [upd, Nat.reduceEqDiff, ↓reduceIte, hnext], by simp only [upd, ↓reduceIte], rfl⟩, ?_⟩
      simp only [h5, upd, ↓reduceIte]
      omega
    · obtain rfl : i = 4 := by omega
      refine awp_reg_seq ?_
      intro K hK
      simp only [↓DN, UP, DF, ashift, aconv, aindexAddr, aindex, aslice, abuiltin, AV.cells, AV.one, reduceCtorEq, ↓reduceIte, nLT, nLE, nEQ, nAdd, nMul, nPow, nSub, zLT, zLE, zNat, RAes2165, h5, decide_eq_false (show ¬ ((4 + 1 : Nat) : Int) < 5 by decide)]
      refine hK _ _ ?_
      clear hK K
      refine awp_cond_k ?_
      intro X Y hX hY
      simp only [↓DN, UP, DF, ashift, aconv, aindexAddr, aindex, aslice, abuiltin, AV.cells, AV.one, reduceCtorEq, ↓reduceIte, nLT, nLE, nEQ, nAdd, nMul, nPow, nSub, zLT, zLE, zNat, RAes2165, DB]
      refine hY ?_
      clear hX hY X Y
      refine awp_exit ?_
      simp only [thenQ, blockQ, if_true]
      refine hK _ _ ?_
      clear hK hK2 K K2
      refine awp_reg_seq ?_
      intro K hK
      simp only [↓DN, UP, DF, ashift, aconv, aindexAddr, aindex, aslice, abuiltin, AV.cells, AV.one, reduceCtorEq, ↓reduceIte, nLT, nLE, nEQ, nAdd, nMul, nPow, nSub, zLT, zLE, zNat, RAes2165, h4]
      refine hK _ _ ?_
      clear hK K
      refine awp_ret ?_
      simp only [retQ, AEnds, aresL, ares, List.toList_toArray, ↓upd_same]; try simp only [↓DN, UP, DF, ashift, aconv, aindexAddr, aindex, aslice, abuiltin, AV.cells, AV.one, reduceCtorEq, ↓reduceIte, nLT, nLE, nEQ, nAdd, nMul, nPow, nSub, zLT, zLE, zNat, RAes2165, DT]
      exact ⟨_, _, AV.weak.refl _, AS.le.refl _, rfl, rfl⟩

end Go.Proofs.YtpakgjmcaefnmaaDoor


