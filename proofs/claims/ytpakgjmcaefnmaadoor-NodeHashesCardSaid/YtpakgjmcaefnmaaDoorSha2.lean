/- Contracts of the program's functions, each walked once; the conditions stand in each theorem. -/
import Derived.Test.YtpakgjmcaefnmaaDoorSha1
set_option linter.unusedSimpArgs false
set_option linter.unusedVariables false
set_option autoImplicit false
namespace Go.Proofs.YtpakgjmcaefnmaaDoor
open Go Go.AM Go.Proofs

theorem RSha2126 : type_of% (And.intro (And.intro (And.intro (And.intro @Tryd.underlying3 (And.intro T.c3 T.g3)) (And.intro T.b3 (And.intro T.z3 @Tryd.underlying5))) (And.intro (And.intro T.c5 (And.intro T.g5 T.b5)) (And.intro (And.intro T.z5 @Tryd.underlying22) (And.intro T.c22 T.g22)))) (And.intro (And.intro (And.intro T.b22 (And.intro T.z22 T.s22)) (And.intro @Tryd.underlying99 (And.intro T.c99 T.g99))) (And.intro (And.intro T.b99 (And.intro T.z99 @Tryd.underlying138)) (And.intro (And.intro T.c138 T.g138) (And.intro T.b138 T.k152))))) :=
  (And.intro (And.intro (And.intro (And.intro @Tryd.underlying3 (And.intro T.c3 T.g3)) (And.intro T.b3 (And.intro T.z3 @Tryd.underlying5))) (And.intro (And.intro T.c5 (And.intro T.g5 T.b5)) (And.intro (And.intro T.z5 @Tryd.underlying22) (And.intro T.c22 T.g22)))) (And.intro (And.intro (And.intro T.b22 (And.intro T.z22 T.s22)) (And.intro @Tryd.underlying99 (And.intro T.c99 T.g99))) (And.intro (And.intro T.b99 (And.intro T.z99 @Tryd.underlying138)) (And.intro (And.intro T.c138 T.g138) (And.intro T.b138 T.k152)))))

variable {Γ : Nat → List AV}

/-- A row of words that is being filled. -/
def row (c : List UInt8) (i : Nat) : List AV := (Sha.sch c i).map wV ++ List.replicate (64 - i) (wV 0)
theorem row_zero (c : List UInt8) : row c 0 = List.replicate 64 (wV 0) := rfl
theorem row_full (c : List UInt8) : row c 64 = (Sha.sch c 64).map wV := by simp [row]
theorem row_len (c : List UInt8) (i : Nat) (h : i ≤ 64) : (row c i).length = 64 := by
  simp [row, Sha.sch_length]; omega
theorem drop_cons {α : Type} (l : List α) (j : Nat) (x : α) (h : l[j]? = some x) : List.drop j l = x :: List.drop (j + 1) l := by
  obtain ⟨h1, h2⟩ := List.getElem?_eq_some_iff.1 h
  rw [List.drop_eq_getElem_cons h1, h2]
theorem row_drop (c : List UInt8) (i j : Nat) (h : j < i) : List.drop j (row c i) = wV ((Sha.sch c i).getD j 0) :: List.drop (j + 1) (row c i) := by
  apply drop_cons
  have hl : j < (Sha.sch c i).length := by rw [Sha.sch_length]; exact h
  rw [row, List.getElem?_append_left (by simpa using hl), List.getElem?_map, List.getElem?_eq_getElem hl]
  simp [List.getD, List.getElem?_eq_getElem hl]
/-- .. with a part of the next word. -/
def rowP (c : List UInt8) (i v : Nat) : List AV := (row c i).set i (wV v)
theorem rowP_zero (c : List UInt8) (i : Nat) (h : i < 64) : rowP c i 0 = row c i := by
  unfold rowP
  apply List.ext_getElem?
  intro k
  by_cases e : k = i
  · subst e
    rw [List.getElem?_set_self (by rw [row_len c k (by omega)]; exact h), row, List.getElem?_append_right (by simp [Sha.sch_length])]
    simp [Sha.sch_length, List.getElem?_replicate]
    omega
  · rw [List.getElem?_set_ne (by omega)]
theorem rowP_drop (c : List UInt8) (i v : Nat) (h : i < 64) : List.drop i (rowP c i v) = wV v :: List.drop (i + 1) (rowP c i v) := by
  apply drop_cons
  rw [rowP, List.getElem?_set_self (by rw [row_len c i (by omega)]; exact h)]
theorem rowP_set (c : List UInt8) (i v u : Nat) : (rowP c i v).set i (wV u) = rowP c i u := by simp [rowP]
theorem rowP_len (c : List UInt8) (i v : Nat) (h : i ≤ 64) : (rowP c i v).length = 64 := by simp [rowP, row_len c i h]
theorem row_set (c : List UInt8) (i : Nat) (h : i < 64) : (row c i).set i (wV (Sha.word c (Sha.sch c i) i)) = row c (i + 1) := by
  apply List.ext_getElem?
  intro k
  by_cases e : k = i
  · subst e
    rw [List.getElem?_set_self (by rw [row_len c k (by omega)]; exact h), row, List.getElem?_append_left (by simp [Sha.sch_length])]
    simp [Sha.sch, Sha.sch_length, List.getElem?_append_right]
  · rw [List.getElem?_set_ne (by omega), row, row]
    by_cases hk : k < i
    · rw [List.getElem?_append_left (by simp [Sha.sch_length]; omega), List.getElem?_append_left (by simp [Sha.sch_length]; omega)]
      simp [Sha.sch, List.getElem?_append_left, Sha.sch_length, hk]
    · rw [List.getElem?_append_right (by simp [Sha.sch_length]; omega), List.getElem?_append_right (by simp [Sha.sch_length]; omega)]
      simp only [List.length_map, Sha.sch_length, List.getElem?_replicate]
      by_cases h2 : k < 64
      · rw [if_pos (by omega), if_pos (by omega)]
      · rw [if_neg (by omega), if_neg (by omega)]
/-- The octets of a word, the first k of them. -/
def partW (c : List UInt8) (i k : Nat) : Nat := ((c.drop (4 * i)).take k).foldl (fun x b => x * 256 + b.toNat) 0
theorem partW_zero (c : List UInt8) (i : Nat) : partW c i 0 = 0 := rfl
theorem partW_succ (c : List UInt8) (i k : Nat) (b : UInt8) (h : c[4 * i + k]? = some b) : partW c i (k + 1) = partW c i k * 256 + b.toNat := by
  unfold partW
  have : (c.drop (4 * i))[k]? = some b := by rw [List.getElem?_drop]; exact h
  obtain ⟨h1, h2⟩ := List.getElem?_eq_some_iff.1 this
  rw [List.take_succ_eq_append_getElem h1, List.foldl_append, h2]
  rfl
theorem partW_lt (c : List UInt8) (i k : Nat) (hk : k ≤ 3) : partW c i k < 16777216 := by
  have key : ∀ (l : List UInt8) (x : Nat), l.foldl (fun x b => x * 256 + b.toNat) x < (x + 1) * 256 ^ l.length := by
    intro l
    induction l with
    | nil => intro x; simp
    | cons b l ih =>
      intro x
      rw [List.foldl_cons]
      have h1 := ih (x * 256 + b.toNat)
      have hb := b.toNat_lt
      have h2 : (x * 256 + b.toNat + 1) * 256 ^ l.length ≤ ((x + 1) * 256) * 256 ^ l.length := Nat.mul_le_mul_right _ (by omega)
      rw [List.length_cons, Nat.pow_succ, Nat.mul_comm (256 ^ l.length), ← Nat.mul_assoc]
      omega
  have h := key ((c.drop (4 * i)).take k) 0
  have hl : ((c.drop (4 * i)).take k).length ≤ 3 := by simp; omega
  have : 256 ^ ((c.drop (4 * i)).take k).length ≤ 256 ^ 3 := Nat.pow_le_pow_right (by decide) hl
  unfold partW
  omega
theorem partW_word (c : List UInt8) (p : List Nat) (i : Nat) (hi : i < 16) (hc : c.length = 64) : partW c i 4 = Sha.word c p i := by
  have g : ∀ j, j < 4 → c[4 * i + j]? = some (c.getD (4 * i + j) 0) := fun j hj => by
    rw [List.getD_eq_getElem?_getD, List.getElem?_eq_getElem (by omega)]
    rfl
  rw [partW_succ c i 3 _ (g 3 (by omega)), partW_succ c i 2 _ (g 2 (by omega)), partW_succ c i 1 _ (g 1 (by omega)), partW_succ c i 0 _ (g 0 (by omega)), partW_zero]
  unfold Sha.word
  rw [if_pos hi]
  simp only [Sha.be32, Nat.add_zero, Nat.zero_mul, Nat.zero_add]
theorem w_shl8 (x : Nat) (b : UInt8) (h : x < 16777216) : ior .u32 (ishl .u32 (x : Int) 8) (iconv .u32 (b.toNat : Int)) = ((x * 256 + b.toNat : Nat) : Int) := by
  have hb := b.toNat_lt
  rw [show (8 : Int) = ((8 : Nat) : Int) from rfl, wshl x 8 (by decide), iconv_u rfl]
  have e1 : x * 2 ^ 8 % 4294967296 = x * 256 := by omega
  have e2 : b.toNat % 2 ^ IntKind.u32.bits = b.toNat := by simp only [IntKind.bits]; omega
  rw [e1, e2, wor _ _ (by omega) (by omega)]
  have := Nat.shiftLeft_add_eq_or_of_lt (b := b.toNat) (i := 8) (by omega) x
  rw [Nat.shiftLeft_eq] at this
  rw [show x * 256 = x * 2 ^ 8 from rfl, ← this]

theorem asetAll_at : ∀ (xs cs : List AV) (off : Nat), off + xs.length ≤ cs.length → asetAll cs off xs = cs.take off ++ xs ++ cs.drop (off + xs.length)
  | [], cs, off, _ => by simp [asetAll]
  | x :: xs, cs, off, h => by
    simp only [List.length_cons] at h
    rw [asetAll, asetAll_at xs _ _ (by simp; omega)]
    have e1 : List.take (off + 1) (cs.set off x) = List.take off cs ++ [x] := by
      rw [List.take_succ_eq_append_getElem (by simp; omega)]
      simp [List.take_set_of_le]
    have e2 : List.drop (off + 1 + xs.length) (cs.set off x) = List.drop (off + (xs.length + 1)) cs := by
      rw [List.drop_set_of_lt (by omega), show off + 1 + xs.length = off + (xs.length + 1) from by omega]
    rw [e1, e2]
    simp
theorem asetAll_whole (cs xs : List AV) (h : cs.length = xs.length) : asetAll cs 0 xs = xs := by
  rw [asetAll_at xs cs 0 (by omega)]
  simp [← h]
theorem z138 : zcells Tryd.prog 138 = some (List.replicate 64 (wV 0)) := by kernel_rfl
theorem all_wV (l : List Nat) : (l.map wV).all AV.one = true := by
  rw [List.all_eq_true]
  intro x hx
  obtain ⟨n, _, rfl⟩ := List.mem_map.1 hx
  rfl
theorem q64 : iquo .i64 ((64 : Nat) : Int) 4 = 16 := by decide
theorem w_succ (i : Nat) (h : i < 2 ^ 62) : iadd .i64 (i : Int) 1 = ((i + 1 : Nat) : Int) := by
  rw [iadd_i64 (by omega)]
  rfl
theorem i64_mul4 (i : Nat) (h : i < 64) : imul .i64 4 (i : Int) = ((4 * i : Nat) : Int) := by
  rw [imul_i64 (by omega)]
  omega
theorem i64_add (a b : Nat) (h : a + b < 9223372036854775808) : iadd .i64 (a : Int) (b : Int) = ((a + b : Nat) : Int) := by
  rw [iadd_i64 (by omega)]
  omega
theorem i64_add4 (a : Nat) (h : a < 2 ^ 62) : iadd .i64 (a : Int) 4 = ((a + 4 : Nat) : Int) := i64_add a 4 (by omega)
theorem i64_sub (a b : Nat) (hb : b ≤ a) (h : a < 9223372036854775808) : isub .i64 (a : Int) (b : Int) = ((a - b : Nat) : Int) := by
  rw [isub_i64 (by omega)]
  omega

set_option maxHeartbeats 2000000 in
set_option maxRecDepth 100000 in
theorem spread_calls (c : List UInt8) (hc : c.length = 64) (s : AS) :
    ACalls Tryd.prog Γ 126 [bytesV c .any] s (fun r s' => r = .agg ((Sha.sch c 64).map wV) ∧ s' = s) := by
  refine acalls_body Tryd.func126 rfl Tryd.ntmps126 Tryd.results126 (by simp) ?_
  refine awp_reg_seq ?_
  intro K hK
  simp only [↓DN, UP, implies_true, forall_eq', ne_eq, if_true, if_false, aval, abin, aint, ashift, abool, astr, anil, aun, aconv, aindexAddr, aindex, optInt, aslice, abuiltin, asrc, afill, placeOf, asetAll, undef, aload, apart, AV.cells, AV.one, aeval, updO, upd, initE, gdst, thenQ, blockQ, srcOk, Array.isEmpty, List.isEmpty, bytesV, reduceCtorEq, ↓reduceIte, Nat.reduceLT, Nat.reduceLeDiff, Nat.reduceEqDiff, Nat.reduceAdd, Nat.reduceMul, Nat.reducePow, Nat.reduceSub, Int.reduceLT, Int.reduceLE, Int.reduceToNat, RSha2126, Tryd.ntmps126, z138]
  intro o2 ho2
  refine hK _ _ ?_
  clear hK K
  refine awp_reg_seq ?_
  intro K hK
  simp only [↓DN, UP, implies_true, forall_eq', ne_eq, if_true, if_false, aval, abin, aint, ashift, abool, astr, anil, aun, aconv, aindexAddr, aindex, optInt, aslice, abuiltin, asrc, afill, placeOf, asetAll, undef, aload, apart, AV.cells, AV.one, aeval, updO, upd, initE, gdst, thenQ, blockQ, srcOk, Array.isEmpty, List.isEmpty, bytesV, reduceCtorEq, ↓reduceIte, Nat.reduceLT, Nat.reduceLeDiff, Nat.reduceEqDiff, Nat.reduceAdd, Nat.reduceMul, Nat.reducePow, Nat.reduceSub, Int.reduceLT, Int.reduceLE, Int.reduceToNat, RSha2126, Tryd.ntmps126, z138]
  intro o3 ho3
  refine hK _ _ ?_
  clear hK K
  obtain ⟨h32, ho3'⟩ := AS.fresh_set ho3
  clear ho3
  rw [← row_zero c]
  refine awp_seq_k ?_
  intro K hK
  refine awp_reg_seq ?_
  intro K hK
  simp only [↓DN, UP, implies_true, forall_eq', ne_eq, if_true, if_false, aval, abin, aint, ashift, abool, astr, anil, aun, aconv, aindexAddr, aindex, optInt, aslice, abuiltin, asrc, afill, placeOf, asetAll, undef, aload, apart, AV.cells, AV.one, aeval, updO, upd, initE, gdst, thenQ, blockQ, srcOk, Array.isEmpty, List.isEmpty, bytesV, reduceCtorEq, ↓reduceIte, Nat.reduceLT, Nat.reduceLeDiff, Nat.reduceEqDiff, Nat.reduceAdd, Nat.reduceMul, Nat.reducePow, Nat.reduceSub, Int.reduceLT, Int.reduceLE, Int.reduceToNat, RSha2126, Tryd.ntmps126]
  refine hK _ _ ?_
  clear hK K
  refine awp_block ?_
  have hcl : (bytesV c .any : AV) = .sl 1 64 (c.map byteV) .any := by rw [bytesV, hc]
  refine awp_loop (fun E s1 => ∃ i : Nat, i ≤ 64 ∧ E 0 = .sl 1 64 (c.map byteV) .any ∧ E 2 = .ptr o2 0 ∧ E 3 = .ptr o3 0 ∧ E 7 = .v (.int .i64 i) ∧ s1 = (s.set o2 (row c 0)).set o3 (row c i))
    (fun E _ => match E 7 with | .v (.int _ i) => 64 - i.toNat | _ => 0) ?_ ?_
  · exact ⟨0, by omega, by simp [upd, initE, hc], by simp [upd], by simp [upd], by simp [upd], rfl⟩
  · rintro E1 s1 ⟨i, hi, e0, e2, e3, e7, rfl⟩ -
    by_cases hi' : i < 64
    · have hi2 : (i : Int) < 64 := by omega
      have hi3 : (i : Int) < ((64 : Nat) : Int) := by omega
      refine awp_reg_seq ?_
      intro K hK
      simp only [↓DN, UP, implies_true, forall_eq', ne_eq, if_true, if_false, aval, abin, aint, ashift, abool, astr, anil, aun, aconv, aindexAddr, aindex, optInt, aslice, abuiltin, asrc, afill, placeOf, asetAll, undef, aload, apart, AV.cells, AV.one, aeval, updO, upd, initE, gdst, thenQ, blockQ, srcOk, Array.isEmpty, List.isEmpty, bytesV, reduceCtorEq, ↓reduceIte, Nat.reduceLT, Nat.reduceLeDiff, Nat.reduceEqDiff, Nat.reduceAdd, Nat.reduceMul, Nat.reducePow, Nat.reduceSub, Int.reduceLT, Int.reduceLE, Int.reduceToNat, RSha2126, Tryd.ntmps126, e7, decide_eq_true hi2]
      refine hK _ _ ?_
      clear hK K
      refine awp_seq_k ?_
      intro K2 hK2
      refine awp_cond_k ?_
      intro X Y hX hY
      simp only [↓DN, UP, implies_true, forall_eq', ne_eq, if_true, if_false, aval, abin, aint, ashift, abool, astr, anil, aun, aconv, aindexAddr, aindex, optInt, aslice, abuiltin, asrc, afill, placeOf, asetAll, undef, aload, apart, AV.cells, AV.one, aeval, updO, upd, initE, gdst, thenQ, blockQ, srcOk, Array.isEmpty, List.isEmpty, bytesV, reduceCtorEq, ↓reduceIte, Nat.reduceLT, Nat.reduceLeDiff, Nat.reduceEqDiff, Nat.reduceAdd, Nat.reduceMul, Nat.reducePow, Nat.reduceSub, Int.reduceLT, Int.reduceLE, Int.reduceToNat, RSha2126, Tryd.ntmps126, Bool.not_true, Bool.not_false, Bool.false_eq_true, Bool.true_eq_false, false_imp_iff, true_imp_iff, decide_eq_true_eq, decide_eq_false_iff_not]
      refine hX ?_
      clear hX hY X Y
      refine awp_skip ?_
      refine hK2 _ _ ?_
      clear hK2 K2
      refine awp_seq_k ?_
      intro K3 hK3
      refine awp_block ?_
      refine awp_reg_seq ?_
      intro K hK
      simp only [↓DN, UP, implies_true, forall_eq', ne_eq, if_true, if_false, aval, abin, aint, ashift, abool, astr, anil, aun, aconv, aindexAddr, aindex, optInt, aslice, abuiltin, asrc, afill, placeOf, asetAll, undef, aload, apart, AV.cells, AV.one, aeval, updO, upd, initE, gdst, thenQ, blockQ, srcOk, Array.isEmpty, List.isEmpty, bytesV, reduceCtorEq, ↓reduceIte, Nat.reduceLT, Nat.reduceLeDiff, Nat.reduceEqDiff, Nat.reduceAdd, Nat.reduceMul, Nat.reducePow, Nat.reduceSub, Int.reduceLT, Int.reduceLE, Int.reduceToNat, RSha2126, Tryd.ntmps126, e7]
      refine hK _ _ ?_
      clear hK K
      have hnext : ∀ E4 : Env, E4 0 = .sl 1 64 (c.map byteV) .any → E4 2 = .ptr o2 0 → E4 3 = .ptr o3 0 → E4 7 = .v (.int .i64 i) → K3 E4 ((s.set o2 (row c 0)).set o3 (row c (i + 1))) := by
        intro E4 f0 f2 f3 f7
        refine hK3 _ _ ?_
        clear hK3 K3
        refine awp_reg_end ?_
        intro K hK
        simp only [↓DN, UP, implies_true, forall_eq', ne_eq, if_true, if_false, aval, abin, aint, ashift, abool, astr, anil, aun, aconv, aindexAddr, aindex, optInt, aslice, abuiltin, asrc, afill, placeOf, asetAll, undef, aload, apart, AV.cells, AV.one, aeval, updO, upd, initE, gdst, thenQ, blockQ, srcOk, Array.isEmpty, List.isEmpty, bytesV, reduceCtorEq, ↓reduceIte, Nat.reduceLT, Nat.reduceLeDiff, Nat.reduceEqDiff, Nat.reduceAdd, Nat.reduceMul, Nat.reducePow, Nat.reduceSub, Int.reduceLT, Int.reduceLE, Int.reduceToNat, RSha2126, Tryd.ntmps126, f7, w_succ i (by omega)]
        refine hK _ _ ?_
        clear hK K
        refine ⟨⟨i + 1, by omega, by simp only [upd, f0, Nat.reduceEqDiff, ↓reduceIte], by simp only [upd, f2, Nat.reduceEqDiff, ↓reduceIte], by simp only [upd, f3, Nat.reduceEqDiff, ↓reduceIte], by simp only [upd, ↓reduceIte], rfl⟩, ?_⟩
        simp only [e7, upd, ↓reduceIte]
        omega
      clear hK3
      refine awp_seq_k ?_
      intro K4 hK4
      by_cases h16 : i < 16
      · have hlt16 : (i : Int) < 16 := by omega
        refine awp_reg_seq ?_
        intro K hK
        simp only [↓DN, UP, implies_true, forall_eq', ne_eq, if_true, if_false, aval, abin, aint, ashift, abool, astr, anil, aun, aconv, aindexAddr, aindex, optInt, aslice, abuiltin, asrc, afill, placeOf, asetAll, undef, aload, apart, AV.cells, AV.one, aeval, updO, upd, initE, gdst, thenQ, blockQ, srcOk, Array.isEmpty, List.isEmpty, bytesV, reduceCtorEq, ↓reduceIte, Nat.reduceLT, Nat.reduceLeDiff, Nat.reduceEqDiff, Nat.reduceAdd, Nat.reduceMul, Nat.reducePow, Nat.reduceSub, Int.reduceLT, Int.reduceLE, Int.reduceToNat, RSha2126, Tryd.ntmps126, e0, e7, q64]
        refine hK _ _ ?_
        clear hK K
        refine awp_cond_k ?_
        intro X Y hX hY
        simp only [↓DN, UP, implies_true, forall_eq', ne_eq, if_true, if_false, aval, abin, aint, ashift, abool, astr, anil, aun, aconv, aindexAddr, aindex, optInt, aslice, abuiltin, asrc, afill, placeOf, asetAll, undef, aload, apart, AV.cells, AV.one, aeval, updO, upd, initE, gdst, thenQ, blockQ, srcOk, Array.isEmpty, List.isEmpty, bytesV, reduceCtorEq, ↓reduceIte, Nat.reduceLT, Nat.reduceLeDiff, Nat.reduceEqDiff, Nat.reduceAdd, Nat.reduceMul, Nat.reducePow, Nat.reduceSub, Int.reduceLT, Int.reduceLE, Int.reduceToNat, RSha2126, Tryd.ntmps126, Bool.not_true, Bool.not_false, Bool.false_eq_true, Bool.true_eq_false, false_imp_iff, true_imp_iff, decide_eq_true_eq, decide_eq_false_iff_not]
        refine ⟨fun _ => hX ?_, fun h => absurd hlt16 h⟩
        clear hX hY X Y
        have hlo : (0 : Int) ≤ ((4 * i : Nat) : Int) := by omega
        have hlh : ((4 * i : Nat) : Int) ≤ ((4 * i + 4 : Nat) : Int) := by omega
        have hh64 : ((4 * i + 4 : Nat) : Int) ≤ ((64 : Nat) : Int) := by omega
        refine awp_seq_k ?_
        intro K5 hK5
        refine awp_reg_seq ?_
        intro K hK
        simp only [↓DN, UP, implies_true, forall_eq', ne_eq, if_true, if_false, aval, abin, aint, ashift, abool, astr, anil, aun, aconv, aindexAddr, aindex, optInt, aslice, abuiltin, asrc, afill, placeOf, asetAll, undef, aload, apart, AV.cells, AV.one, aeval, updO, upd, initE, gdst, thenQ, blockQ, srcOk, Array.isEmpty, List.isEmpty, bytesV, reduceCtorEq, ↓reduceIte, Nat.reduceLT, Nat.reduceLeDiff, Nat.reduceEqDiff, Nat.reduceAdd, Nat.reduceMul, Nat.reducePow, Nat.reduceSub, Int.reduceLT, Int.reduceLE, Int.reduceToNat, RSha2126, Tryd.ntmps126, e0, e7, i64_mul4 i hi', i64_add4 (4 * i) (by omega), hlo, hlh, hh64, Nat.add_sub_cancel_left]
        refine hK _ _ ?_
        clear hK K
        refine awp_block ?_
        obtain ⟨Xs, hXs⟩ : ∃ Xs, Xs = List.map byteV (List.drop (4 * i) (List.take (4 * i + 4) c)) := ⟨_, rfl⟩
        have hXk : ∀ k, k < 4 → List.take 1 (List.drop k Xs) = [byteV (c.getD (4 * i + k) 0)] := by
          intro k hk
          have : Xs[k]? = some (byteV (c.getD (4 * i + k) 0)) := by
            rw [hXs, List.getElem?_map, List.getElem?_drop, List.getElem?_take, if_pos (by omega), List.getElem?_eq_getElem (by omega)]
            simp only [Option.map_some, List.getD, List.getElem?_eq_getElem (show 4 * i + k < c.length by omega), Option.getD_some]
          rw [drop_cons _ _ _ this]
          rfl
        rw [← hXs]
        refine awp_loop (fun E s2 => ∃ k : Nat, k ≤ 4 ∧ E 0 = .sl 1 64 (c.map byteV) .any ∧ E 2 = .ptr o2 0 ∧ E 3 = .ptr o3 0 ∧ E 7 = .v (.int .i64 i) ∧ E 4 = .v (.int .i64 i) ∧ E 21 = .sl 1 4 Xs .any ∧ E 22 = .v (.int .i64 4) ∧ E 23 = .v (.int .i64 k) ∧ s2 = (s.set o2 (row c 0)).set o3 (rowP c i (partW c i k)))
          (fun E _ => match E 23 with | .v (.int _ k) => 4 - k.toNat | _ => 0) ?_ ?_
        · refine ⟨0, by omega, by simp only [upd, e0, Nat.reduceEqDiff, ↓reduceIte], by simp only [upd, e2, Nat.reduceEqDiff, ↓reduceIte], by simp only [upd, e3, Nat.reduceEqDiff, ↓reduceIte], by simp only [upd, e7, Nat.reduceEqDiff, ↓reduceIte], by simp only [upd, Nat.reduceEqDiff, ↓reduceIte], by simp only [upd, Nat.reduceEqDiff, ↓reduceIte], by simp only [upd, Nat.reduceEqDiff, ↓reduceIte]; rfl, by simp only [upd, ↓reduceIte]; rfl, by rw [partW_zero, rowP_zero c i hi']⟩
        · rintro E2 s2 ⟨k, hk, g0, g2, g3, g7, g4, g21, g22, g23, rfl⟩ -
          by_cases hk' : k < 4
          · have hk2 : (k : Int) < 4 := by omega
            have hk0 : (0 : Int) ≤ (k : Int) := by omega
            have hk3 : (k : Int) < ((4 : Nat) : Int) := by omega
            have hi0 : (0 : Int) ≤ (i : Int) := by omega
            refine awp_reg_seq ?_
            intro K hK
            simp only [↓DN, UP, implies_true, forall_eq', ne_eq, if_true, if_false, aval, abin, aint, ashift, abool, astr, anil, aun, aconv, aindexAddr, aindex, optInt, aslice, abuiltin, asrc, afill, placeOf, asetAll, undef, aload, apart, AV.cells, AV.one, aeval, updO, upd, initE, gdst, thenQ, blockQ, srcOk, Array.isEmpty, List.isEmpty, bytesV, reduceCtorEq, ↓reduceIte, Nat.reduceLT, Nat.reduceLeDiff, Nat.reduceEqDiff, Nat.reduceAdd, Nat.reduceMul, Nat.reducePow, Nat.reduceSub, Int.reduceLT, Int.reduceLE, Int.reduceToNat, RSha2126, Tryd.ntmps126, g23, g22, decide_eq_true hk2]
            refine hK _ _ ?_
            clear hK K
            refine awp_seq_k ?_
            intro K6 hK6
            refine awp_cond_k ?_
            intro X Y hX hY
            simp only [↓DN, UP, implies_true, forall_eq', ne_eq, if_true, if_false, aval, abin, aint, ashift, abool, astr, anil, aun, aconv, aindexAddr, aindex, optInt, aslice, abuiltin, asrc, afill, placeOf, asetAll, undef, aload, apart, AV.cells, AV.one, aeval, updO, upd, initE, gdst, thenQ, blockQ, srcOk, Array.isEmpty, List.isEmpty, bytesV, reduceCtorEq, ↓reduceIte, Nat.reduceLT, Nat.reduceLeDiff, Nat.reduceEqDiff, Nat.reduceAdd, Nat.reduceMul, Nat.reducePow, Nat.reduceSub, Int.reduceLT, Int.reduceLE, Int.reduceToNat, RSha2126, Tryd.ntmps126, Bool.not_true, Bool.not_false, Bool.false_eq_true, Bool.true_eq_false, false_imp_iff, true_imp_iff, decide_eq_true_eq, decide_eq_false_iff_not]
            refine hX ?_
            clear hX hY X Y
            refine awp_skip ?_
            refine hK6 _ _ ?_
            clear hK6 K6
            refine awp_seq_k ?_
            intro K7 hK7
            refine awp_block ?_
            obtain ⟨b, hb⟩ : ∃ b, b = c.getD (4 * i + k) 0 := ⟨_, rfl⟩
            have hbk : c[4 * i + k]? = some b := by
              rw [hb, List.getD_eq_getElem?_getD, List.getElem?_eq_getElem (by omega)]
              rfl
            have hXk' := hXk k hk'
            rw [← hb] at hXk'
            refine awp_reg_seq ?_
            intro K hK
            simp only [↓DN, UP, implies_true, forall_eq', ne_eq, if_true, if_false, aval, abin, aint, ashift, abool, astr, anil, aun, aconv, aindexAddr, aindex, optInt, aslice, abuiltin, asrc, afill, placeOf, asetAll, undef, aload, apart, AV.cells, AV.one, aeval, updO, upd, initE, gdst, thenQ, blockQ, srcOk, Array.isEmpty, List.isEmpty, bytesV, reduceCtorEq, ↓reduceIte, Nat.reduceLT, Nat.reduceLeDiff, Nat.reduceEqDiff, Nat.reduceAdd, Nat.reduceMul, Nat.reducePow, Nat.reduceSub, Int.reduceLT, Int.reduceLE, Int.reduceToNat, RSha2126, Tryd.ntmps126, g21, g23, hk0, hk2, hk3, hXk']
            refine hK _ _ ?_
            clear hK K
            obtain ⟨v, hv⟩ : ∃ v, v = partW c i k := ⟨_, rfl⟩
            have hv3 : v < 16777216 := by rw [hv]; exact partW_lt c i k (by omega)
            rw [← hv]
            have hd := rowP_drop c i v hi'
            have hset : (rowP c i v).set i (wV (v * 256 + b.toNat)) = rowP c i (partW c i (k + 1)) := by rw [rowP_set, partW_succ c i k b hbk, hv]
            have hlen := rowP_len c i v hi
            obtain ⟨R, hR⟩ : ∃ R, R = rowP c i v := ⟨_, rfl⟩
            rw [← hR] at hd hset hlen ⊢
            refine awp_reg_end ?_
            intro K hK
            simp only [↓DN, UP, implies_true, forall_eq', ne_eq, if_true, if_false, aval, abin, aint, ashift, abool, astr, anil, aun, aconv, aindexAddr, aindex, optInt, aslice, abuiltin, asrc, afill, placeOf, asetAll, undef, aload, apart, AV.cells, AV.one, aeval, updO, upd, initE, gdst, thenQ, blockQ, srcOk, Array.isEmpty, List.isEmpty, bytesV, reduceCtorEq, ↓reduceIte, Nat.reduceLT, Nat.reduceLeDiff, Nat.reduceEqDiff, Nat.reduceAdd, Nat.reduceMul, Nat.reducePow, Nat.reduceSub, Int.reduceLT, Int.reduceLE, Int.reduceToNat, RSha2126, Tryd.ntmps126, g3, g4, hi0, hi2, hi3, hd, byteV, w_shl8 v b hv3, hset, hlen, hi']
            refine ⟨by omega, hK _ _ ?_⟩
            clear hK K
            simp only [blockQ, thenQ, if_true, if_false]
            refine hK7 _ _ ?_
            clear hK7 K7
            refine awp_reg_end ?_
            intro K hK
            simp only [↓DN, UP, implies_true, forall_eq', ne_eq, if_true, if_false, aval, abin, aint, ashift, abool, astr, anil, aun, aconv, aindexAddr, aindex, optInt, aslice, abuiltin, asrc, afill, placeOf, asetAll, undef, aload, apart, AV.cells, AV.one, aeval, updO, upd, initE, gdst, thenQ, blockQ, srcOk, Array.isEmpty, List.isEmpty, bytesV, reduceCtorEq, ↓reduceIte, Nat.reduceLT, Nat.reduceLeDiff, Nat.reduceEqDiff, Nat.reduceAdd, Nat.reduceMul, Nat.reducePow, Nat.reduceSub, Int.reduceLT, Int.reduceLE, Int.reduceToNat, RSha2126, Tryd.ntmps126, g23, w_succ k (by omega)]
            refine hK _ _ ?_
            clear hK K
            refine ⟨⟨k + 1, by omega, by simp only [upd, g0, Nat.reduceEqDiff, ↓reduceIte], by simp only [upd, g2, Nat.reduceEqDiff, ↓reduceIte], by simp only [upd, g3, Nat.reduceEqDiff, ↓reduceIte], by simp only [upd, g7, Nat.reduceEqDiff, ↓reduceIte], by simp only [upd, g4, Nat.reduceEqDiff, ↓reduceIte], by simp only [upd, g21, Nat.reduceEqDiff, ↓reduceIte], by simp only [upd, g22, Nat.reduceEqDiff, ↓reduceIte], by simp only [upd, ↓reduceIte], rfl⟩, ?_⟩
            simp only [g23, upd, ↓reduceIte]
            omega
          · have hk2 : ¬ (k : Int) < 4 := by omega
            obtain rfl : k = 4 := by omega
            refine awp_reg_seq ?_
            intro K hK
            simp only [↓DN, UP, implies_true, forall_eq', ne_eq, if_true, if_false, aval, abin, aint, ashift, abool, astr, anil, aun, aconv, aindexAddr, aindex, optInt, aslice, abuiltin, asrc, afill, placeOf, asetAll, undef, aload, apart, AV.cells, AV.one, aeval, updO, upd, initE, gdst, thenQ, blockQ, srcOk, Array.isEmpty, List.isEmpty, bytesV, reduceCtorEq, ↓reduceIte, Nat.reduceLT, Nat.reduceLeDiff, Nat.reduceEqDiff, Nat.reduceAdd, Nat.reduceMul, Nat.reducePow, Nat.reduceSub, Int.reduceLT, Int.reduceLE, Int.reduceToNat, RSha2126, Tryd.ntmps126, g23, g22, decide_eq_false hk2]
            refine hK _ _ ?_
            clear hK K
            refine awp_seq_k ?_
            intro K6 hK6
            refine awp_cond_k ?_
            intro X Y hX hY
            simp only [↓DN, UP, implies_true, forall_eq', ne_eq, if_true, if_false, aval, abin, aint, ashift, abool, astr, anil, aun, aconv, aindexAddr, aindex, optInt, aslice, abuiltin, asrc, afill, placeOf, asetAll, undef, aload, apart, AV.cells, AV.one, aeval, updO, upd, initE, gdst, thenQ, blockQ, srcOk, Array.isEmpty, List.isEmpty, bytesV, reduceCtorEq, ↓reduceIte, Nat.reduceLT, Nat.reduceLeDiff, Nat.reduceEqDiff, Nat.reduceAdd, Nat.reduceMul, Nat.reducePow, Nat.reduceSub, Int.reduceLT, Int.reduceLE, Int.reduceToNat, RSha2126, Tryd.ntmps126, Bool.not_true, Bool.not_false, Bool.false_eq_true, Bool.true_eq_false, false_imp_iff, true_imp_iff, decide_eq_true_eq, decide_eq_false_iff_not]
            refine hY ?_
            clear hX hY X Y
            refine awp_exit ?_
            simp only [thenQ, blockQ, if_true]
            clear hK6 K6
            refine hK5 _ _ ?_
            clear hK5 K5
            refine awp_exit ?_
            simp only [thenQ, blockQ, if_true]
            rw [partW_word c (Sha.sch c i) i h16 hc]
            have : rowP c i (Sha.word c (Sha.sch c i) i) = row c (i + 1) := row_set c i hi'
            rw [this]
            exact hnext _ (by simp only [upd, g0, Nat.reduceEqDiff, ↓reduceIte]) (by simp only [upd, g2, Nat.reduceEqDiff, ↓reduceIte]) (by simp only [upd, g3, Nat.reduceEqDiff, ↓reduceIte]) (by simp only [upd, g7, Nat.reduceEqDiff, ↓reduceIte])
      · have hlt16 : ¬ (i : Int) < 16 := by omega
        have hi0 : (0 : Int) ≤ (i : Int) := by omega
        refine awp_reg_seq ?_
        intro K hK
        simp only [↓DN, UP, implies_true, forall_eq', ne_eq, if_true, if_false, aval, abin, aint, ashift, abool, astr, anil, aun, aconv, aindexAddr, aindex, optInt, aslice, abuiltin, asrc, afill, placeOf, asetAll, undef, aload, apart, AV.cells, AV.one, aeval, updO, upd, initE, gdst, thenQ, blockQ, srcOk, Array.isEmpty, List.isEmpty, bytesV, reduceCtorEq, ↓reduceIte, Nat.reduceLT, Nat.reduceLeDiff, Nat.reduceEqDiff, Nat.reduceAdd, Nat.reduceMul, Nat.reducePow, Nat.reduceSub, Int.reduceLT, Int.reduceLE, Int.reduceToNat, RSha2126, Tryd.ntmps126, e0, e7, q64]
        refine hK _ _ ?_
        clear hK K
        refine awp_cond_k ?_
        intro X Y hX hY
        simp only [↓DN, UP, implies_true, forall_eq', ne_eq, if_true, if_false, aval, abin, aint, ashift, abool, astr, anil, aun, aconv, aindexAddr, aindex, optInt, aslice, abuiltin, asrc, afill, placeOf, asetAll, undef, aload, apart, AV.cells, AV.one, aeval, updO, upd, initE, gdst, thenQ, blockQ, srcOk, Array.isEmpty, List.isEmpty, bytesV, reduceCtorEq, ↓reduceIte, Nat.reduceLT, Nat.reduceLeDiff, Nat.reduceEqDiff, Nat.reduceAdd, Nat.reduceMul, Nat.reducePow, Nat.reduceSub, Int.reduceLT, Int.reduceLE, Int.reduceToNat, RSha2126, Tryd.ntmps126, Bool.not_true, Bool.not_false, Bool.false_eq_true, Bool.true_eq_false, false_imp_iff, true_imp_iff, decide_eq_true_eq, decide_eq_false_iff_not]
        refine ⟨fun h => absurd h hlt16, fun _ => hY ?_⟩
        clear hX hY X Y
        refine awp_skip ?_
        refine hK4 _ _ ?_
        clear hK4 K4
        have n2 : (0 : Int) ≤ ((i - 2 : Nat) : Int) := by omega
        have n7 : (0 : Int) ≤ ((i - 7 : Nat) : Int) := by omega
        have n15 : (0 : Int) ≤ ((i - 15 : Nat) : Int) := by omega
        have n16 : (0 : Int) ≤ ((i - 16 : Nat) : Int) := by omega
        have m2 : ((i - 2 : Nat) : Int) < ((64 : Nat) : Int) := by omega
        have m7 : ((i - 7 : Nat) : Int) < ((64 : Nat) : Int) := by omega
        have m15 : ((i - 15 : Nat) : Int) < ((64 : Nat) : Int) := by omega
        have m16 : ((i - 16 : Nat) : Int) < ((64 : Nat) : Int) := by omega
        have s2 : isub .i64 (i : Int) 2 = ((i - 2 : Nat) : Int) := i64_sub i 2 (by omega) (by omega)
        have s7 : isub .i64 (i : Int) 7 = ((i - 7 : Nat) : Int) := i64_sub i 7 (by omega) (by omega)
        have s15 : isub .i64 (i : Int) 15 = ((i - 15 : Nat) : Int) := i64_sub i 15 (by omega) (by omega)
        have s16 : isub .i64 (i : Int) 16 = ((i - 16 : Nat) : Int) := i64_sub i 16 (by omega) (by omega)
        have d2 := row_drop c i (i - 2) (by omega)
        have d7 := row_drop c i (i - 7) (by omega)
        have d15 := row_drop c i (i - 15) (by omega)
        have d16 := row_drop c i (i - 16) (by omega)
        have hw : Sha.word c (Sha.sch c i) i = Sha.add32 (Sha.add32 (Sha.add32 (Sha.sig2 ((Sha.sch c i).getD (i - 2) 0) 17 19 10) ((Sha.sch c i).getD (i - 7) 0)) (Sha.sig2 ((Sha.sch c i).getD (i - 15) 0) 7 18 3)) ((Sha.sch c i).getD (i - 16) 0) := by rw [Sha.word, if_neg h16]
        have hset := row_set c i hi'
        rw [hw] at hset
        have hlen := row_len c i hi
        have l2 := Sha.sch_getD_lt c i (i - 2)
        have l15 := Sha.sch_getD_lt c i (i - 15)
        generalize (Sha.sch c i).getD (i - 2) 0 = x2 at *
        generalize (Sha.sch c i).getD (i - 7) 0 = x7 at *
        generalize (Sha.sch c i).getD (i - 15) 0 = x15 at *
        generalize (Sha.sch c i).getD (i - 16) 0 = x16 at *
        obtain ⟨R, hR⟩ : ∃ R, R = row c i := ⟨_, rfl⟩
        rw [← hR] at d2 d7 d15 d16 hset hlen ⊢
        refine awp_mrk_end T.mixed [(o3, R)] [5, 15] [4, 9, 14, 20] [23] (by kernel_rfl) (by simp only [Pres_cons, Pres_nil, and_true]; simp [AS.set, upd]) ?_
        intro K hK
        simp only [↓AXr_nil, ↓AXr_cons, gval, lval, fzGet_cons, fzGet_nil, Pres_cons, Pres_nil, List.any_cons, List.any_nil, List.contains_cons, List.contains_nil, Nat.reduceBEq, Bool.or_false, Bool.or_true, Bool.or_self, Bool.false_or, ↓DN, UP, implies_true, forall_eq', ne_eq, if_true, if_false, aval, abin, aint, ashift, abool, astr, anil, aun, aconv, aindexAddr, aindex, optInt, aslice, abuiltin, asrc, afill, placeOf, asetAll, undef, aload, apart, AV.cells, AV.one, aeval, updO, upd, initE, gdst, thenQ, blockQ, srcOk, Array.isEmpty, List.isEmpty, bytesV, reduceCtorEq, ↓reduceIte, Nat.reduceLT, Nat.reduceLeDiff, Nat.reduceEqDiff, Nat.reduceAdd, Nat.reduceMul, Nat.reducePow, Nat.reduceSub, Int.reduceLT, Int.reduceLE, Int.reduceToNat, RSha2126, Tryd.ntmps126, e3, e7, hi0, hi3, n2, n7, n15, n16, m2, m7, m15, m16, s2, s7, s15, s16, d2, d7, d15, d16, h32]
        refine acallk (shifted_calls x2 17 19 10 l2 (by omega) (by omega) (by omega) (by omega) (by omega) (by omega) _) ?_
        rintro r sa ⟨rfl, rfl⟩
        simp only [↓AXq_nil, ↓AXq_cons, pval, ↓AXr_nil, ↓AXr_cons, gval, lval, fzGet_cons, fzGet_nil, Pres_cons, Pres_nil, List.any_cons, List.any_nil, List.contains_cons, List.contains_nil, Nat.reduceBEq, Bool.or_false, Bool.or_true, Bool.or_self, Bool.false_or, List.contains_cons, List.contains_nil, Nat.reduceBEq, Bool.or_false, Bool.or_true, Bool.or_self, Bool.false_eq_true, Bool.false_or, ↓DN, UP, implies_true, forall_eq', ne_eq, if_true, if_false, aval, abin, aint, ashift, abool, astr, anil, aun, aconv, aindexAddr, aindex, optInt, aslice, abuiltin, asrc, afill, placeOf, asetAll, undef, aload, apart, AV.cells, AV.one, aeval, updO, upd, initE, gdst, thenQ, blockQ, srcOk, Array.isEmpty, List.isEmpty, bytesV, reduceCtorEq, ↓reduceIte, Nat.reduceLT, Nat.reduceLeDiff, Nat.reduceEqDiff, Nat.reduceAdd, Nat.reduceMul, Nat.reducePow, Nat.reduceSub, Int.reduceLT, Int.reduceLE, Int.reduceToNat, RSha2126, Tryd.ntmps126, e3, e7, hi0, hi3, n2, n7, n15, n16, m2, m7, m15, m16, s2, s7, s15, s16, d2, d7, d15, d16, h32, wadd]
        refine acallk (shifted_calls x15 7 18 3 l15 (by omega) (by omega) (by omega) (by omega) (by omega) (by omega) _) ?_
        rintro r sb ⟨rfl, rfl⟩
        simp only [↓AXq_nil, ↓AXq_cons, pval, ↓AXr_nil, ↓AXr_cons, gval, lval, fzGet_cons, fzGet_nil, Pres_cons, Pres_nil, List.any_cons, List.any_nil, List.contains_cons, List.contains_nil, Nat.reduceBEq, Bool.or_false, Bool.or_true, Bool.or_self, Bool.false_or, List.contains_cons, List.contains_nil, Nat.reduceBEq, Bool.or_false, Bool.or_true, Bool.or_self, Bool.false_eq_true, Bool.false_or, ↓DN, UP, implies_true, forall_eq', ne_eq, if_true, if_false, aval, abin, aint, ashift, abool, astr, anil, aun, aconv, aindexAddr, aindex, optInt, aslice, abuiltin, asrc, afill, placeOf, asetAll, undef, aload, apart, AV.cells, AV.one, aeval, updO, upd, initE, gdst, thenQ, blockQ, srcOk, Array.isEmpty, List.isEmpty, bytesV, reduceCtorEq, ↓reduceIte, Nat.reduceLT, Nat.reduceLeDiff, Nat.reduceEqDiff, Nat.reduceAdd, Nat.reduceMul, Nat.reducePow, Nat.reduceSub, Int.reduceLT, Int.reduceLE, Int.reduceToNat, RSha2126, Tryd.ntmps126, e3, e7, hi0, hi3, n2, n7, n15, n16, m2, m7, m15, m16, s2, s7, s15, s16, d2, d7, d15, d16, h32, wadd, hset, hlen]
        refine ⟨by omega, hK _ _ ?_⟩
        clear hK K
        simp only [blockQ, thenQ, if_true, if_false]
        exact hnext _ (by simp only [upd, e0, Nat.reduceEqDiff, ↓reduceIte]) (by simp only [upd, e2, Nat.reduceEqDiff, ↓reduceIte]) (by simp only [upd, e3, Nat.reduceEqDiff, ↓reduceIte]) (by simp only [upd, e7, Nat.reduceEqDiff, ↓reduceIte])
    · have hi2 : ¬ (i : Int) < 64 := by omega
      obtain rfl : i = 64 := by omega
      refine awp_reg_seq ?_
      intro K hK
      simp only [↓DN, UP, implies_true, forall_eq', ne_eq, if_true, if_false, aval, abin, aint, ashift, abool, astr, anil, aun, aconv, aindexAddr, aindex, optInt, aslice, abuiltin, asrc, afill, placeOf, asetAll, undef, aload, apart, AV.cells, AV.one, aeval, updO, upd, initE, gdst, thenQ, blockQ, srcOk, Array.isEmpty, List.isEmpty, bytesV, reduceCtorEq, ↓reduceIte, Nat.reduceLT, Nat.reduceLeDiff, Nat.reduceEqDiff, Nat.reduceAdd, Nat.reduceMul, Nat.reducePow, Nat.reduceSub, Int.reduceLT, Int.reduceLE, Int.reduceToNat, RSha2126, Tryd.ntmps126, e7, decide_eq_false hi2]
      refine hK _ _ ?_
      clear hK K
      refine awp_seq_k ?_
      intro K2 hK2
      refine awp_cond_k ?_
      intro X Y hX hY
      simp only [↓DN, UP, implies_true, forall_eq', ne_eq, if_true, if_false, aval, abin, aint, ashift, abool, astr, anil, aun, aconv, aindexAddr, aindex, optInt, aslice, abuiltin, asrc, afill, placeOf, asetAll, undef, aload, apart, AV.cells, AV.one, aeval, updO, upd, initE, gdst, thenQ, blockQ, srcOk, Array.isEmpty, List.isEmpty, bytesV, reduceCtorEq, ↓reduceIte, Nat.reduceLT, Nat.reduceLeDiff, Nat.reduceEqDiff, Nat.reduceAdd, Nat.reduceMul, Nat.reducePow, Nat.reduceSub, Int.reduceLT, Int.reduceLE, Int.reduceToNat, RSha2126, Tryd.ntmps126, Bool.not_true, Bool.not_false, Bool.false_eq_true, Bool.true_eq_false, false_imp_iff, true_imp_iff, decide_eq_true_eq, decide_eq_false_iff_not]
      refine hY ?_
      clear hX hY X Y
      refine awp_exit ?_
      simp only [thenQ, blockQ, if_true]
      clear hK2 K2
      refine hK _ _ ?_
      clear hK K
      rw [row_full c]
      have hwl : ((Sha.sch c 64).map wV).length = 64 := by simp [Sha.sch_length]
      have hall := all_wV (Sha.sch c 64)
      have htk : List.take 64 ((Sha.sch c 64).map wV) = (Sha.sch c 64).map wV := List.take_of_length_le (by omega)
      obtain ⟨X, hX⟩ : ∃ X, X = (Sha.sch c 64).map wV := ⟨_, rfl⟩
      rw [← hX] at hwl hall htk ⊢
      refine awp_reg_seq ?_
      intro K hK
      simp only [↓DN, UP, implies_true, forall_eq', ne_eq, if_true, if_false, aval, abin, aint, ashift, abool, astr, anil, aun, aconv, aindexAddr, aindex, optInt, aslice, abuiltin, asrc, afill, placeOf, asetAll, undef, aload, apart, AV.cells, AV.one, aeval, updO, upd, initE, gdst, thenQ, blockQ, srcOk, Array.isEmpty, List.isEmpty, bytesV, reduceCtorEq, ↓reduceIte, Nat.reduceLT, Nat.reduceLeDiff, Nat.reduceEqDiff, Nat.reduceAdd, Nat.reduceMul, Nat.reducePow, Nat.reduceSub, Int.reduceLT, Int.reduceLE, Int.reduceToNat, RSha2126, Tryd.ntmps126, e2, e3, hwl, htk, hall, h32, h32.symm]
      have hr0 : (row c 0).length = 64 := row_len c 0 (by omega)
      rw [asetAll_whole (row c 0) X (by omega)]
      refine ⟨by omega, hK _ _ ?_⟩
      clear hK K
      refine awp_ret ?_
      refine aends_cell (v := .agg X) (o := o2) (off := 0) (by simp only [upd, e2, Nat.reduceEqDiff, ↓reduceIte]) (AS.set_objs_same _ _ _) (by rw [T.c138]; decide) (by simp only [↓DN, UP, implies_true, forall_eq', ne_eq, if_true, if_false, aval, abin, aint, ashift, abool, astr, anil, aun, aconv, aindexAddr, aindex, optInt, aslice, abuiltin, asrc, afill, placeOf, asetAll, undef, aload, apart, AV.cells, AV.one, aeval, updO, upd, initE, gdst, thenQ, blockQ, srcOk, Array.isEmpty, List.isEmpty, bytesV, reduceCtorEq, ↓reduceIte, Nat.reduceLT, Nat.reduceLeDiff, Nat.reduceEqDiff, Nat.reduceAdd, Nat.reduceMul, Nat.reducePow, Nat.reduceSub, Int.reduceLT, Int.reduceLE, Int.reduceToNat, RSha2126, Tryd.ntmps126, hwl, htk]) ?_
      exact ⟨_, s, AV.weak.refl _, AS.le_set (AS.le_set (AS.le_set (AS.le.refl s) ho2 _) ho3' _) ho2 _, rfl, rfl⟩

end Go.Proofs.YtpakgjmcaefnmaaDoor


