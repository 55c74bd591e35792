/- Contracts of the program's functions, each walked once; the conditions stand in each theorem. -/
import Derived.Test.YtpakgjmcaefnmaaPen3
import Derived.Test.YtpakgjmcaefnmaaPlCrc
set_option linter.unusedSimpArgs false
set_option linter.unusedVariables false
set_option autoImplicit false
namespace Go.Proofs.Ytpakgjmcaefnmaa
open Go Go.AM Go.Proofs

theorem RCrc22 : type_of% (And.intro (And.intro (And.intro (And.intro @Try.underlying3 (And.intro T.c3 T.g3)) (And.intro T.b3 (And.intro T.z3 @Try.underlying5))) (And.intro (And.intro T.c5 (And.intro T.g5 T.b5)) (And.intro (And.intro T.z5 @Try.underlying22) (And.intro T.c22 T.g22)))) (And.intro (And.intro (And.intro T.b22 (And.intro T.z22 T.s22)) (And.intro (And.intro @Try.underlying25 T.c25) (And.intro T.g25 T.b25))) (And.intro (And.intro T.z25 (And.intro @Try.underlying59 T.c59)) (And.intro (And.intro T.g59 T.b59) (And.intro T.z59 T.s59))))) :=
  (And.intro (And.intro (And.intro (And.intro @Try.underlying3 (And.intro T.c3 T.g3)) (And.intro T.b3 (And.intro T.z3 @Try.underlying5))) (And.intro (And.intro T.c5 (And.intro T.g5 T.b5)) (And.intro (And.intro T.z5 @Try.underlying22) (And.intro T.c22 T.g22)))) (And.intro (And.intro (And.intro T.b22 (And.intro T.z22 T.s22)) (And.intro (And.intro @Try.underlying25 T.c25) (And.intro T.g25 T.b25))) (And.intro (And.intro T.z25 (And.intro @Try.underlying59 T.c59)) (And.intro (And.intro T.g59 T.b59) (And.intro T.z59 T.s59)))))

variable {Γ : Nat → List AV}

/-- Parts: each a slice of bytes. -/
def IsBs (ps : List AV) (ls : List (List UInt8)) : Prop := ps.length = ls.length ∧ ∀ (i : Nat) (x : AV) (l : List UInt8), ps[i]? = some x → ls[i]? = some l → IsB x l ∧ l.length ≤ 2 ^ 61

theorem at_one {α : Type} {l : List α} {i : Nat} (h : i < l.length) : (l.drop i).take 1 = [l[i]] := by
  rw [List.drop_eq_getElem_cons h]
  rfl
theorem take_flatten_succ {α : Type} (ls : List (List α)) (i : Nat) (h : i < ls.length) : (ls.take (i + 1)).flatten = (ls.take i).flatten ++ ls[i] := by
  rw [List.take_succ_eq_append_getElem h, List.flatten_append, List.flatten_cons, List.flatten_nil, List.append_nil]
theorem i64_succ (i : Nat) (h : i < 2 ^ 62) : iadd .i64 (i : Int) 1 = ((i + 1 : Nat) : Int) := by
  rw [iadd_i64 (by omega)]
  rfl
theorem lt_nat {a b : Nat} : ((a : Int) < b) = (a < b) := by simp

set_option maxHeartbeats 1000000 in
theorem crcSum_calls (ps : List AV) (ls : List (List UInt8)) (sp : Sp) (h : IsBs ps ls) (hn : ps.length ≤ 2 ^ 61) (s : AS) :
    ACalls Try.prog Γ 22 [.sl 1 ps.length ps sp] s (fun r s' => r = .v (.int .u32 (crcSum ls.flatten : Nat)) ∧ s' = s) := by
  refine acalls_body Try.func22 rfl Try.ntmps22 Try.results22 (by simp) ?_
  obtain ⟨hlen, hall⟩ := h
  refine awp_reg_seq ?_
  intro K hK
  simp only [↓DN, UP, implies_true, forall_eq', ne_eq, if_true, if_false, aval, abin, aint, ashift, abool, astr, anil, aun, aconv, aindexAddr, aindex, optInt, aslice, abuiltin, asrc, afill, placeOf, asetAll, undef, aload, apart, AV.cells, AV.one, aeval, updO, upd, initE, gdst, thenQ, blockQ, srcOk, Array.isEmpty, List.isEmpty, bytesV, reduceCtorEq, ↓reduceIte, Nat.reduceLT, Nat.reduceLeDiff, Nat.reduceEqDiff, Nat.reduceAdd, Nat.reduceMul, Nat.reducePow, Nat.reduceSub, Int.reduceLT, Int.reduceLE, Int.reduceToNat, RCrc22, Try.ntmps22]
  refine hK _ _ ?_
  clear hK K
  refine awp_reg_seq ?_
  intro K hK
  simp only [↓DN, UP, implies_true, forall_eq', ne_eq, if_true, if_false, aval, abin, aint, ashift, abool, astr, anil, aun, aconv, aindexAddr, aindex, optInt, aslice, abuiltin, asrc, afill, placeOf, asetAll, undef, aload, apart, AV.cells, AV.one, aeval, updO, upd, initE, gdst, thenQ, blockQ, srcOk, Array.isEmpty, List.isEmpty, bytesV, reduceCtorEq, ↓reduceIte, Nat.reduceLT, Nat.reduceLeDiff, Nat.reduceEqDiff, Nat.reduceAdd, Nat.reduceMul, Nat.reducePow, Nat.reduceSub, Int.reduceLT, Int.reduceLE, Int.reduceToNat, RCrc22, Try.ntmps22]
  refine hK _ _ ?_
  clear hK K
  refine awp_seq_k ?_
  intro K hK
  refine awp_reg_seq ?_
  intro K hK
  simp only [↓DN, UP, implies_true, forall_eq', ne_eq, if_true, if_false, aval, abin, aint, ashift, abool, astr, anil, aun, aconv, aindexAddr, aindex, optInt, aslice, abuiltin, asrc, afill, placeOf, asetAll, undef, aload, apart, AV.cells, AV.one, aeval, updO, upd, initE, gdst, thenQ, blockQ, srcOk, Array.isEmpty, List.isEmpty, bytesV, reduceCtorEq, ↓reduceIte, Nat.reduceLT, Nat.reduceLeDiff, Nat.reduceEqDiff, Nat.reduceAdd, Nat.reduceMul, Nat.reducePow, Nat.reduceSub, Int.reduceLT, Int.reduceLE, Int.reduceToNat, RCrc22, Try.ntmps22]
  refine hK _ _ ?_
  clear hK K
  refine awp_block ?_
  refine awp_loop (fun E s1 => ∃ i x : Nat, i ≤ ps.length ∧ E 8 = .sl 1 ps.length ps sp ∧ E 9 = .v (.int .i64 ps.length) ∧ E 10 = .v (.int .i64 i) ∧ E 3 = .v (.int .u32 x) ∧ x = crcL (ls.take i).flatten 4294967295 ∧ s1 = s)
    (fun E _ => match E 10 with | .v (.int _ i) => ps.length - i.toNat | _ => 0) ?_ ?_
  · exact ⟨0, 4294967295, Nat.zero_le _, by simp [upd, initE], by simp [upd, initE], by simp [upd], by simp [upd], by simp [crcL], rfl⟩
  · rintro E1 s1 ⟨i, x, hi, h8, h9, h10, h3, hx, rfl⟩ -
    have hx32 : x < 4294967296 := by rw [hx]; exact crcL_lt _ _ (by decide)
    by_cases hi' : i < ps.length
    · have hil : i < ls.length := by omega
      obtain ⟨hb, hbl⟩ := hall i ps[i] ls[i] (by simp) (by simp)
      have hx2 : crcL (ls.take (i + 1)).flatten 4294967295 = crcL ls[i] x := by rw [take_flatten_succ ls i hil, crcL_append, hx]
      generalize hl : ls[i] = l at *
      generalize hp : ps[i] = q at *
      refine awp_reg_seq ?_
      intro K hK
      simp only [↓DN, UP, implies_true, forall_eq', ne_eq, if_true, if_false, aval, abin, aint, ashift, abool, astr, anil, aun, aconv, aindexAddr, aindex, optInt, aslice, abuiltin, asrc, afill, placeOf, asetAll, undef, aload, apart, AV.cells, AV.one, aeval, updO, upd, initE, gdst, thenQ, blockQ, srcOk, Array.isEmpty, List.isEmpty, bytesV, reduceCtorEq, ↓reduceIte, Nat.reduceLT, Nat.reduceLeDiff, Nat.reduceEqDiff, Nat.reduceAdd, Nat.reduceMul, Nat.reducePow, Nat.reduceSub, Int.reduceLT, Int.reduceLE, Int.reduceToNat, RCrc22, Try.ntmps22, h9, h10, lt_nat, decide_eq_true hi']
      refine hK _ _ ?_
      clear hK K
      refine awp_seq_k ?_
      intro K2 hK2
      refine awp_cond_k ?_
      intro X Y hX hY
      simp only [↓DN, UP, implies_true, forall_eq', ne_eq, if_true, if_false, aval, abin, aint, ashift, abool, astr, anil, aun, aconv, aindexAddr, aindex, optInt, aslice, abuiltin, asrc, afill, placeOf, asetAll, undef, aload, apart, AV.cells, AV.one, aeval, updO, upd, initE, gdst, thenQ, blockQ, srcOk, Array.isEmpty, List.isEmpty, bytesV, reduceCtorEq, ↓reduceIte, Nat.reduceLT, Nat.reduceLeDiff, Nat.reduceEqDiff, Nat.reduceAdd, Nat.reduceMul, Nat.reducePow, Nat.reduceSub, Int.reduceLT, Int.reduceLE, Int.reduceToNat, RCrc22, Try.ntmps22, Bool.not_true, Bool.not_false, Bool.false_eq_true, Bool.true_eq_false, false_imp_iff, true_imp_iff, decide_eq_true_eq, decide_eq_false_iff_not]
      refine hX ?_
      clear hX hY X Y
      refine awp_skip ?_
      refine hK2 _ _ ?_
      clear hK2 K2
      refine awp_seq_k ?_
      intro K3 hK3
      refine awp_block ?_
      have hge : (0 : Int) ≤ (i : Int) := by omega
      refine awp_reg_seq ?_
      intro K hK
      simp only [↓DN, UP, implies_true, forall_eq', ne_eq, if_true, if_false, aval, abin, aint, ashift, abool, astr, anil, aun, aconv, aindexAddr, aindex, optInt, aslice, abuiltin, asrc, afill, placeOf, asetAll, undef, aload, apart, AV.cells, AV.one, aeval, updO, upd, initE, gdst, thenQ, blockQ, srcOk, Array.isEmpty, List.isEmpty, bytesV, reduceCtorEq, ↓reduceIte, Nat.reduceLT, Nat.reduceLeDiff, Nat.reduceEqDiff, Nat.reduceAdd, Nat.reduceMul, Nat.reducePow, Nat.reduceSub, Int.reduceLT, Int.reduceLE, Int.reduceToNat, RCrc22, Try.ntmps22, h8, h10, lt_nat, hi', hge, at_one hi', hp]
      refine hK _ _ ?_
      clear hK K
      refine awp_reg_seq ?_
      intro K4 hK4
      have hmid : ∀ E2 : Env, E2 8 = .sl 1 ps.length ps sp → E2 9 = .v (.int .i64 ps.length) → E2 10 = .v (.int .i64 i) → E2 3 = .v (.int .u32 x) →
          (l = [] ∨ ∃ sp', E2 14 = .sl 1 l.length (l.map byteV) sp') → E2 15 = .v (.int .i64 l.length) → E2 16 = .v (.int .i64 (0 : Nat)) → K4 E2 s1 := by
        intro E2 e8 e9 e10 e3 e14 e15 e16
        refine hK4 _ _ ?_
        clear hK4 K4
        refine awp_block ?_
        refine awp_loop (fun E s2 => ∃ j y : Nat, j ≤ l.length ∧ E 8 = .sl 1 ps.length ps sp ∧ E 9 = .v (.int .i64 ps.length) ∧ E 10 = .v (.int .i64 i) ∧ (l = [] ∨ ∃ sp', E 14 = .sl 1 l.length (l.map byteV) sp') ∧ E 15 = .v (.int .i64 l.length) ∧ E 16 = .v (.int .i64 j) ∧ E 3 = .v (.int .u32 y) ∧ y = crcL (l.take j) x ∧ s2 = s1)
          (fun E _ => match E 16 with | .v (.int _ j) => l.length - j.toNat | _ => 0) ?_ ?_
        · exact ⟨0, x, Nat.zero_le _, e8, e9, e10, e14, e15, e16, e3, by simp [crcL], rfl⟩
        · rintro E3 s2 ⟨j, y, hj, f8, f9, f10, f14, f15, f16, f3, hy, rfl⟩ -
          have hy32 : y < 4294967296 := by rw [hy]; exact crcL_lt _ _ hx32
          by_cases hj' : j < l.length
          · obtain ⟨sp', f14⟩ : ∃ sp', E3 14 = .sl 1 l.length (l.map byteV) sp' := f14.resolve_left (fun e => by subst e; simp at hj')
            have hy2 : crcL (l.take (j + 1)) x = crcByte y l[j] := by rw [List.take_succ_eq_append_getElem hj', crcL_append, ← hy]; rfl
            have hgj : (0 : Int) ≤ (j : Int) := by omega
            have hat := eat_byte hj'
            generalize hcc : l[j] = c at *
            refine awp_reg_seq ?_
            intro K hK
            simp only [↓DN, UP, implies_true, forall_eq', ne_eq, if_true, if_false, aval, abin, aint, ashift, abool, astr, anil, aun, aconv, aindexAddr, aindex, optInt, aslice, abuiltin, asrc, afill, placeOf, asetAll, undef, aload, apart, AV.cells, AV.one, aeval, updO, upd, initE, gdst, thenQ, blockQ, srcOk, Array.isEmpty, List.isEmpty, bytesV, reduceCtorEq, ↓reduceIte, Nat.reduceLT, Nat.reduceLeDiff, Nat.reduceEqDiff, Nat.reduceAdd, Nat.reduceMul, Nat.reducePow, Nat.reduceSub, Int.reduceLT, Int.reduceLE, Int.reduceToNat, RCrc22, Try.ntmps22, f15, f16, lt_nat, decide_eq_true hj']
            refine hK _ _ ?_
            clear hK K
            refine awp_seq_k ?_
            intro K5 hK5
            refine awp_cond_k ?_
            intro X Y hX hY
            simp only [↓DN, UP, implies_true, forall_eq', ne_eq, if_true, if_false, aval, abin, aint, ashift, abool, astr, anil, aun, aconv, aindexAddr, aindex, optInt, aslice, abuiltin, asrc, afill, placeOf, asetAll, undef, aload, apart, AV.cells, AV.one, aeval, updO, upd, initE, gdst, thenQ, blockQ, srcOk, Array.isEmpty, List.isEmpty, bytesV, reduceCtorEq, ↓reduceIte, Nat.reduceLT, Nat.reduceLeDiff, Nat.reduceEqDiff, Nat.reduceAdd, Nat.reduceMul, Nat.reducePow, Nat.reduceSub, Int.reduceLT, Int.reduceLE, Int.reduceToNat, RCrc22, Try.ntmps22, Bool.not_true, Bool.not_false, Bool.false_eq_true, Bool.true_eq_false, false_imp_iff, true_imp_iff, decide_eq_true_eq, decide_eq_false_iff_not]
            refine hX ?_
            clear hX hY X Y
            refine awp_skip ?_
            refine hK5 _ _ ?_
            clear hK5 K5
            refine awp_seq_k ?_
            intro K6 hK6
            refine awp_block ?_
            refine awp_reg_seq ?_
            intro K hK
            simp only [↓DN, UP, implies_true, forall_eq', ne_eq, if_true, if_false, aval, abin, aint, ashift, abool, astr, anil, aun, aconv, aindexAddr, aindex, optInt, aslice, abuiltin, asrc, afill, placeOf, asetAll, undef, aload, apart, AV.cells, AV.one, aeval, updO, upd, initE, gdst, thenQ, blockQ, srcOk, Array.isEmpty, List.isEmpty, bytesV, reduceCtorEq, ↓reduceIte, Nat.reduceLT, Nat.reduceLeDiff, Nat.reduceEqDiff, Nat.reduceAdd, Nat.reduceMul, Nat.reducePow, Nat.reduceSub, Int.reduceLT, Int.reduceLE, Int.reduceToNat, RCrc22, Try.ntmps22, f14, f16, lt_nat, hj', hgj, hat, byteV]
            refine hK _ _ ?_
            clear hK K
            refine awp_reg_seq ?_
            intro K hK
            simp only [↓DN, UP, implies_true, forall_eq', ne_eq, if_true, if_false, aval, abin, aint, ashift, abool, astr, anil, aun, aconv, aindexAddr, aindex, optInt, aslice, abuiltin, asrc, afill, placeOf, asetAll, undef, aload, apart, AV.cells, AV.one, aeval, updO, upd, initE, gdst, thenQ, blockQ, srcOk, Array.isEmpty, List.isEmpty, bytesV, reduceCtorEq, ↓reduceIte, Nat.reduceLT, Nat.reduceLeDiff, Nat.reduceEqDiff, Nat.reduceAdd, Nat.reduceMul, Nat.reducePow, Nat.reduceSub, Int.reduceLT, Int.reduceLE, Int.reduceToNat, RCrc22, Try.ntmps22, f3, crc_xor y c hy32]
            refine hK _ _ ?_
            clear hK K
            refine awp_reg_seq ?_
            intro K hK
            simp only [↓DN, UP, implies_true, forall_eq', ne_eq, if_true, if_false, aval, abin, aint, ashift, abool, astr, anil, aun, aconv, aindexAddr, aindex, optInt, aslice, abuiltin, asrc, afill, placeOf, asetAll, undef, aload, apart, AV.cells, AV.one, aeval, updO, upd, initE, gdst, thenQ, blockQ, srcOk, Array.isEmpty, List.isEmpty, bytesV, reduceCtorEq, ↓reduceIte, Nat.reduceLT, Nat.reduceLeDiff, Nat.reduceEqDiff, Nat.reduceAdd, Nat.reduceMul, Nat.reducePow, Nat.reduceSub, Int.reduceLT, Int.reduceLE, Int.reduceToNat, RCrc22, Try.ntmps22]
            refine hK _ _ ?_
            clear hK K
            refine awp_block ?_
            refine awp_loop (fun E s3 => ∃ k z : Nat, k ≤ 8 ∧ E 24 = .v (.int .i64 k) ∧ E 3 = .v (.int .u32 z) ∧ z = crcBits k (y ^^^ c.toNat) ∧ s3 = s2)
              (fun E _ => match E 24 with | .v (.int _ k) => 8 - k.toNat | _ => 0) ?_ ?_
            · exact ⟨0, y ^^^ c.toNat, by omega, by simp [upd], by simp [upd], rfl, rfl⟩
            · rintro E4 s3 ⟨k, z, hk, g24, g3, hz, rfl⟩ fr
              have hz32 : z < 4294967296 := by rw [hz]; exact crcBits_lt _ _ (crcXor_lt hy32 c)
              by_cases hk' : k < 8
              · have hk2 : (k : Int) < 8 := by omega
                refine awp_reg_seq ?_
                intro K hK
                simp only [↓DN, UP, implies_true, forall_eq', ne_eq, if_true, if_false, aval, abin, aint, ashift, abool, astr, anil, aun, aconv, aindexAddr, aindex, optInt, aslice, abuiltin, asrc, afill, placeOf, asetAll, undef, aload, apart, AV.cells, AV.one, aeval, updO, upd, initE, gdst, thenQ, blockQ, srcOk, Array.isEmpty, List.isEmpty, bytesV, reduceCtorEq, ↓reduceIte, Nat.reduceLT, Nat.reduceLeDiff, Nat.reduceEqDiff, Nat.reduceAdd, Nat.reduceMul, Nat.reducePow, Nat.reduceSub, Int.reduceLT, Int.reduceLE, Int.reduceToNat, RCrc22, Try.ntmps22, g24, decide_eq_true hk2]
                refine hK _ _ ?_
                clear hK K
                refine awp_seq_k ?_
                intro K7 hK7
                refine awp_cond_k ?_
                intro X Y hX hY
                simp only [↓DN, UP, implies_true, forall_eq', ne_eq, if_true, if_false, aval, abin, aint, ashift, abool, astr, anil, aun, aconv, aindexAddr, aindex, optInt, aslice, abuiltin, asrc, afill, placeOf, asetAll, undef, aload, apart, AV.cells, AV.one, aeval, updO, upd, initE, gdst, thenQ, blockQ, srcOk, Array.isEmpty, List.isEmpty, bytesV, reduceCtorEq, ↓reduceIte, Nat.reduceLT, Nat.reduceLeDiff, Nat.reduceEqDiff, Nat.reduceAdd, Nat.reduceMul, Nat.reducePow, Nat.reduceSub, Int.reduceLT, Int.reduceLE, Int.reduceToNat, RCrc22, Try.ntmps22, Bool.not_true, Bool.not_false, Bool.false_eq_true, Bool.true_eq_false, false_imp_iff, true_imp_iff, decide_eq_true_eq, decide_eq_false_iff_not]
                refine hX ?_
                clear hX hY X Y
                refine awp_skip ?_
                refine hK7 _ _ ?_
                clear hK7 K7
                refine awp_seq_k ?_
                intro K8 hK8
                refine awp_block ?_
                refine awp_reg_end ?_
                intro K hK
                simp only [↓DN, UP, implies_true, forall_eq', ne_eq, if_true, if_false, aval, abin, aint, ashift, abool, astr, anil, aun, aconv, aindexAddr, aindex, optInt, aslice, abuiltin, asrc, afill, placeOf, asetAll, undef, aload, apart, AV.cells, AV.one, aeval, updO, upd, initE, gdst, thenQ, blockQ, srcOk, Array.isEmpty, List.isEmpty, bytesV, reduceCtorEq, ↓reduceIte, Nat.reduceLT, Nat.reduceLeDiff, Nat.reduceEqDiff, Nat.reduceAdd, Nat.reduceMul, Nat.reducePow, Nat.reduceSub, Int.reduceLT, Int.reduceLE, Int.reduceToNat, RCrc22, Try.ntmps22, g3, crc_bit z hz32]
                refine hK _ _ ?_
                clear hK K
                simp only [blockQ, thenQ, if_true, if_false]
                refine hK8 _ _ ?_
                clear hK8 K8
                refine awp_reg_end ?_
                intro K hK
                simp only [↓DN, UP, implies_true, forall_eq', ne_eq, if_true, if_false, aval, abin, aint, ashift, abool, astr, anil, aun, aconv, aindexAddr, aindex, optInt, aslice, abuiltin, asrc, afill, placeOf, asetAll, undef, aload, apart, AV.cells, AV.one, aeval, updO, upd, initE, gdst, thenQ, blockQ, srcOk, Array.isEmpty, List.isEmpty, bytesV, reduceCtorEq, ↓reduceIte, Nat.reduceLT, Nat.reduceLeDiff, Nat.reduceEqDiff, Nat.reduceAdd, Nat.reduceMul, Nat.reducePow, Nat.reduceSub, Int.reduceLT, Int.reduceLE, Int.reduceToNat, RCrc22, Try.ntmps22, g24, i64_succ k (by omega)]
                refine hK _ _ ?_
                clear hK K
                refine ⟨⟨k + 1, crcBit z, by omega, by simp only [upd, ↓reduceIte], by simp only [upd, Nat.reduceEqDiff, ↓reduceIte], by rw [crcBits_succ, hz], rfl⟩, ?_⟩
                simp only [g24, upd, ↓reduceIte]
                omega
              · have hk2 : ¬ (k : Int) < 8 := by omega
                refine awp_reg_seq ?_
                intro K hK
                simp only [↓DN, UP, implies_true, forall_eq', ne_eq, if_true, if_false, aval, abin, aint, ashift, abool, astr, anil, aun, aconv, aindexAddr, aindex, optInt, aslice, abuiltin, asrc, afill, placeOf, asetAll, undef, aload, apart, AV.cells, AV.one, aeval, updO, upd, initE, gdst, thenQ, blockQ, srcOk, Array.isEmpty, List.isEmpty, bytesV, reduceCtorEq, ↓reduceIte, Nat.reduceLT, Nat.reduceLeDiff, Nat.reduceEqDiff, Nat.reduceAdd, Nat.reduceMul, Nat.reducePow, Nat.reduceSub, Int.reduceLT, Int.reduceLE, Int.reduceToNat, RCrc22, Try.ntmps22, g24, decide_eq_false hk2]
                refine hK _ _ ?_
                clear hK K
                refine awp_seq_k ?_
                intro K7 hK7
                refine awp_cond_k ?_
                intro X Y hX hY
                simp only [↓DN, UP, implies_true, forall_eq', ne_eq, if_true, if_false, aval, abin, aint, ashift, abool, astr, anil, aun, aconv, aindexAddr, aindex, optInt, aslice, abuiltin, asrc, afill, placeOf, asetAll, undef, aload, apart, AV.cells, AV.one, aeval, updO, upd, initE, gdst, thenQ, blockQ, srcOk, Array.isEmpty, List.isEmpty, bytesV, reduceCtorEq, ↓reduceIte, Nat.reduceLT, Nat.reduceLeDiff, Nat.reduceEqDiff, Nat.reduceAdd, Nat.reduceMul, Nat.reducePow, Nat.reduceSub, Int.reduceLT, Int.reduceLE, Int.reduceToNat, RCrc22, Try.ntmps22, Bool.not_true, Bool.not_false, Bool.false_eq_true, Bool.true_eq_false, false_imp_iff, true_imp_iff, decide_eq_true_eq, decide_eq_false_iff_not]
                refine hY ?_
                clear hX hY X Y
                refine awp_exit ?_
                simp only [thenQ, blockQ, if_true]
                refine hK6 _ _ ?_
                clear hK6 hK7 K6 K7
                have w8 := fr 8 (by decide)
                have w9 := fr 9 (by decide)
                have w10 := fr 10 (by decide)
                have w14 := fr 14 (by decide)
                have w15 := fr 15 (by decide)
                have w16 := fr 16 (by decide)
                simp only [upd, Nat.reduceEqDiff, ↓reduceIte, f8, f9, f10, f14, f15, f16] at w8 w9 w10 w14 w15 w16
                refine awp_reg_end ?_
                intro K hK
                simp only [↓DN, UP, implies_true, forall_eq', ne_eq, if_true, if_false, aval, abin, aint, ashift, abool, astr, anil, aun, aconv, aindexAddr, aindex, optInt, aslice, abuiltin, asrc, afill, placeOf, asetAll, undef, aload, apart, AV.cells, AV.one, aeval, updO, upd, initE, gdst, thenQ, blockQ, srcOk, Array.isEmpty, List.isEmpty, bytesV, reduceCtorEq, ↓reduceIte, Nat.reduceLT, Nat.reduceLeDiff, Nat.reduceEqDiff, Nat.reduceAdd, Nat.reduceMul, Nat.reducePow, Nat.reduceSub, Int.reduceLT, Int.reduceLE, Int.reduceToNat, RCrc22, Try.ntmps22, w16, i64_succ j (by omega)]
                refine hK _ _ ?_
                clear hK K
                refine ⟨⟨j + 1, z, by omega, by simp only [upd, w8, Nat.reduceEqDiff, ↓reduceIte], by simp only [upd, w9, Nat.reduceEqDiff, ↓reduceIte], by simp only [upd, w10, Nat.reduceEqDiff, ↓reduceIte], .inr ⟨sp', by simp only [upd, w14, Nat.reduceEqDiff, ↓reduceIte]⟩, by simp only [upd, w15, Nat.reduceEqDiff, ↓reduceIte], by simp only [upd, ↓reduceIte], by simp only [upd, g3, Nat.reduceEqDiff, ↓reduceIte], ?_, rfl⟩, ?_⟩
                · have : k = 8 := by omega
                  subst this
                  rw [hy2, hz]
                  rfl
                · simp only [f16, upd, ↓reduceIte]
                  omega
          · refine awp_reg_seq ?_
            intro K hK
            simp only [↓DN, UP, implies_true, forall_eq', ne_eq, if_true, if_false, aval, abin, aint, ashift, abool, astr, anil, aun, aconv, aindexAddr, aindex, optInt, aslice, abuiltin, asrc, afill, placeOf, asetAll, undef, aload, apart, AV.cells, AV.one, aeval, updO, upd, initE, gdst, thenQ, blockQ, srcOk, Array.isEmpty, List.isEmpty, bytesV, reduceCtorEq, ↓reduceIte, Nat.reduceLT, Nat.reduceLeDiff, Nat.reduceEqDiff, Nat.reduceAdd, Nat.reduceMul, Nat.reducePow, Nat.reduceSub, Int.reduceLT, Int.reduceLE, Int.reduceToNat, RCrc22, Try.ntmps22, f15, f16, lt_nat, decide_eq_false hj']
            refine hK _ _ ?_
            clear hK K
            refine awp_seq_k ?_
            intro K5 hK5
            refine awp_cond_k ?_
            intro X Y hX hY
            simp only [↓DN, UP, implies_true, forall_eq', ne_eq, if_true, if_false, aval, abin, aint, ashift, abool, astr, anil, aun, aconv, aindexAddr, aindex, optInt, aslice, abuiltin, asrc, afill, placeOf, asetAll, undef, aload, apart, AV.cells, AV.one, aeval, updO, upd, initE, gdst, thenQ, blockQ, srcOk, Array.isEmpty, List.isEmpty, bytesV, reduceCtorEq, ↓reduceIte, Nat.reduceLT, Nat.reduceLeDiff, Nat.reduceEqDiff, Nat.reduceAdd, Nat.reduceMul, Nat.reducePow, Nat.reduceSub, Int.reduceLT, Int.reduceLE, Int.reduceToNat, RCrc22, Try.ntmps22, Bool.not_true, Bool.not_false, Bool.false_eq_true, Bool.true_eq_false, false_imp_iff, true_imp_iff, decide_eq_true_eq, decide_eq_false_iff_not]
            refine hY ?_
            clear hX hY X Y
            refine awp_exit ?_
            simp only [thenQ, blockQ, if_true]
            refine hK3 _ _ ?_
            clear hK3 hK5 K3 K5
            refine awp_reg_end ?_
            intro K hK
            simp only [↓DN, UP, implies_true, forall_eq', ne_eq, if_true, if_false, aval, abin, aint, ashift, abool, astr, anil, aun, aconv, aindexAddr, aindex, optInt, aslice, abuiltin, asrc, afill, placeOf, asetAll, undef, aload, apart, AV.cells, AV.one, aeval, updO, upd, initE, gdst, thenQ, blockQ, srcOk, Array.isEmpty, List.isEmpty, bytesV, reduceCtorEq, ↓reduceIte, Nat.reduceLT, Nat.reduceLeDiff, Nat.reduceEqDiff, Nat.reduceAdd, Nat.reduceMul, Nat.reducePow, Nat.reduceSub, Int.reduceLT, Int.reduceLE, Int.reduceToNat, RCrc22, Try.ntmps22, f10, i64_succ i (by omega)]
            refine hK _ _ ?_
            clear hK K
            refine ⟨⟨i + 1, y, by omega, by simp only [upd, f8, Nat.reduceEqDiff, ↓reduceIte], by simp only [upd, f9, Nat.reduceEqDiff, ↓reduceIte], by simp only [upd, ↓reduceIte], by simp only [upd, f3, Nat.reduceEqDiff, ↓reduceIte], ?_, rfl⟩, ?_⟩
            · rw [hx2, hy, List.take_of_length_le (by omega)]
            · simp only [h10, upd, ↓reduceIte]
              omega
      clear hK4
      rcases hb with ⟨rfl, rfl⟩ | ⟨sp', rfl⟩
      · unfold nilS
        simp only [↓AXq_nil, ↓AXq_cons, pval, List.contains_cons, List.contains_nil, Nat.reduceBEq, Bool.or_false, Bool.or_true, Bool.or_self, Bool.false_eq_true, Bool.false_or, ↓DN, UP, implies_true, forall_eq', ne_eq, if_true, if_false, aval, abin, aint, ashift, abool, astr, anil, aun, aconv, aindexAddr, aindex, optInt, aslice, abuiltin, asrc, afill, placeOf, asetAll, undef, aload, apart, AV.cells, AV.one, aeval, updO, upd, initE, gdst, thenQ, blockQ, srcOk, Array.isEmpty, List.isEmpty, bytesV, reduceCtorEq, ↓reduceIte, Nat.reduceLT, Nat.reduceLeDiff, Nat.reduceEqDiff, Nat.reduceAdd, Nat.reduceMul, Nat.reducePow, Nat.reduceSub, Int.reduceLT, Int.reduceLE, Int.reduceToNat, RCrc22, Try.ntmps22]
        exact hmid _ (by simp only [upd, h8, Nat.reduceEqDiff, ↓reduceIte]) (by simp only [upd, h9, Nat.reduceEqDiff, ↓reduceIte]) (by simp only [upd, h10, Nat.reduceEqDiff, ↓reduceIte]) (by simp only [upd, h3, Nat.reduceEqDiff, ↓reduceIte]) (.inl rfl) (by simp only [upd, Nat.reduceEqDiff, ↓reduceIte]; rfl) (by simp only [upd, ↓reduceIte]; rfl)
      · unfold bytesV
        simp only [↓AXq_nil, ↓AXq_cons, pval, List.contains_cons, List.contains_nil, Nat.reduceBEq, Bool.or_false, Bool.or_true, Bool.or_self, Bool.false_eq_true, Bool.false_or, ↓DN, UP, implies_true, forall_eq', ne_eq, if_true, if_false, aval, abin, aint, ashift, abool, astr, anil, aun, aconv, aindexAddr, aindex, optInt, aslice, abuiltin, asrc, afill, placeOf, asetAll, undef, aload, apart, AV.cells, AV.one, aeval, updO, upd, initE, gdst, thenQ, blockQ, srcOk, Array.isEmpty, List.isEmpty, bytesV, reduceCtorEq, ↓reduceIte, Nat.reduceLT, Nat.reduceLeDiff, Nat.reduceEqDiff, Nat.reduceAdd, Nat.reduceMul, Nat.reducePow, Nat.reduceSub, Int.reduceLT, Int.reduceLE, Int.reduceToNat, RCrc22, Try.ntmps22]
        exact hmid _ (by simp only [upd, h8, Nat.reduceEqDiff, ↓reduceIte]) (by simp only [upd, h9, Nat.reduceEqDiff, ↓reduceIte]) (by simp only [upd, h10, Nat.reduceEqDiff, ↓reduceIte]) (by simp only [upd, h3, Nat.reduceEqDiff, ↓reduceIte]) (.inr ⟨sp', by simp only [upd, Nat.reduceEqDiff, ↓reduceIte]⟩) (by simp only [upd, Nat.reduceEqDiff, ↓reduceIte]) (by simp only [upd, ↓reduceIte]; rfl)
    · refine awp_reg_seq ?_
      intro K hK
      simp only [↓DN, UP, implies_true, forall_eq', ne_eq, if_true, if_false, aval, abin, aint, ashift, abool, astr, anil, aun, aconv, aindexAddr, aindex, optInt, aslice, abuiltin, asrc, afill, placeOf, asetAll, undef, aload, apart, AV.cells, AV.one, aeval, updO, upd, initE, gdst, thenQ, blockQ, srcOk, Array.isEmpty, List.isEmpty, bytesV, reduceCtorEq, ↓reduceIte, Nat.reduceLT, Nat.reduceLeDiff, Nat.reduceEqDiff, Nat.reduceAdd, Nat.reduceMul, Nat.reducePow, Nat.reduceSub, Int.reduceLT, Int.reduceLE, Int.reduceToNat, RCrc22, Try.ntmps22, h9, h10, lt_nat, decide_eq_false hi']
      refine hK _ _ ?_
      clear hK K
      refine awp_seq_k ?_
      intro K2 hK2
      refine awp_cond_k ?_
      intro X Y hX hY
      simp only [↓DN, UP, implies_true, forall_eq', ne_eq, if_true, if_false, aval, abin, aint, ashift, abool, astr, anil, aun, aconv, aindexAddr, aindex, optInt, aslice, abuiltin, asrc, afill, placeOf, asetAll, undef, aload, apart, AV.cells, AV.one, aeval, updO, upd, initE, gdst, thenQ, blockQ, srcOk, Array.isEmpty, List.isEmpty, bytesV, reduceCtorEq, ↓reduceIte, Nat.reduceLT, Nat.reduceLeDiff, Nat.reduceEqDiff, Nat.reduceAdd, Nat.reduceMul, Nat.reducePow, Nat.reduceSub, Int.reduceLT, Int.reduceLE, Int.reduceToNat, RCrc22, Try.ntmps22, Bool.not_true, Bool.not_false, Bool.false_eq_true, Bool.true_eq_false, false_imp_iff, true_imp_iff, decide_eq_true_eq, decide_eq_false_iff_not]
      refine hY ?_
      clear hX hY X Y
      refine awp_exit ?_
      simp only [thenQ, blockQ, if_true]
      refine hK _ _ ?_
      clear hK hK2 K K2
      refine awp_reg_seq ?_
      intro K hK
      simp only [↓DN, UP, implies_true, forall_eq', ne_eq, if_true, if_false, aval, abin, aint, ashift, abool, astr, anil, aun, aconv, aindexAddr, aindex, optInt, aslice, abuiltin, asrc, afill, placeOf, asetAll, undef, aload, apart, AV.cells, AV.one, aeval, updO, upd, initE, gdst, thenQ, blockQ, srcOk, Array.isEmpty, List.isEmpty, bytesV, reduceCtorEq, ↓reduceIte, Nat.reduceLT, Nat.reduceLeDiff, Nat.reduceEqDiff, Nat.reduceAdd, Nat.reduceMul, Nat.reducePow, Nat.reduceSub, Int.reduceLT, Int.reduceLE, Int.reduceToNat, RCrc22, Try.ntmps22, h3, crc_not x hx32]
      refine hK _ _ ?_
      clear hK K
      refine awp_ret ?_
      simp only [retQ, AEnds, aresL, ares, List.toList_toArray, ↓upd_same]; try simp only [↓DN, UP, implies_true, forall_eq', ne_eq, if_true, if_false, aval, abin, aint, ashift, abool, astr, anil, aun, aconv, aindexAddr, aindex, optInt, aslice, abuiltin, asrc, afill, placeOf, asetAll, undef, aload, apart, AV.cells, AV.one, aeval, updO, upd, initE, gdst, thenQ, blockQ, srcOk, Array.isEmpty, List.isEmpty, bytesV, reduceCtorEq, ↓reduceIte, Nat.reduceLT, Nat.reduceLeDiff, Nat.reduceEqDiff, Nat.reduceAdd, Nat.reduceMul, Nat.reducePow, Nat.reduceSub, Int.reduceLT, Int.reduceLE, Int.reduceToNat, RCrc22, Try.ntmps22, atuple_nil, atuple_one, atuple_two, atuple_three, atuple_four, atuple_five]
      refine ⟨_, _, AV.weak.refl _, AS.le.refl _, ?_, rfl⟩
      rw [hx, crcSum, List.take_of_length_le (by omega)]

end Go.Proofs.Ytpakgjmcaefnmaa
