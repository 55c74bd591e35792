/- Contracts of the program's functions, each walked once; the conditions stand in each theorem. -/
import Derived.Test.YtooeklnbdgoneaaDoorW7
import Derived.Test.YtooeklnbdgoneaaDoorAMp6
import Derived.Test.YtooeklnbdgoneaaDoorW4
import Derived.Test.YtooeklnbdgoneaaDoorAMp5
import Derived.Test.YtooeklnbdgoneaaDoorAMp3
import Derived.Test.YtooeklnbdgoneaaDoorRows
import Derived.Test.YtooeklnbdgoneaaDoorW1
import Derived.ProofKit
import Derived.LaidMore
import Derived.MakeChecks
import Derived.OpenShut
set_option linter.unusedSimpArgs false
set_option linter.unusedVariables false
open Nat renaming reduceLT → nLT, reduceLeDiff → nLE, reduceEqDiff → nEQ, reduceAdd → nAdd, reduceMul → nMul, reducePow → nPow, reduceSub → nSub
open Int renaming reduceLT → zLT, reduceLE → zLE, reduceToNat → zNat
set_option autoImplicit false
namespace Go.AM
open Go

/-! ### Pens: octets put, whether bad or not -/
theorem penNum_raw (k n : Nat) (st : List UInt8 × Bool) : penNum k n st = penRaw (be k n) st := rfl
theorem penSmall_raw {k n : Nat} (h : n < 256 ^ k) (st : List UInt8 × Bool) : penSmall k (n : Int) st = penRaw (be k n) st := by
  have e : (256 : Nat) ^ k = 2 ^ (8 * k) := by rw [Nat.pow_mul]
  have hh : (n : Int) < 2 ^ (8 * k) := by
    rw [e] at h
    exact_mod_cast h
  unfold penSmall
  rw [if_pos ⟨by omega, hh⟩]
  simp only [Int.toNat_natCast, penNum_raw]
theorem penRaw_raw (a b : List UInt8) (st : List UInt8 × Bool) : penRaw a (penRaw b st) = penRaw (b ++ a) st := by
  unfold penRaw
  by_cases h : st.2 = true
  · simp [h]
  · simp [h]
theorem penText_raw {k : Nat} {m : List UInt8} (h : m.length < 256 ^ k) (st : List UInt8 × Bool) : penText k m st = penRaw (be k m.length ++ m) st := by
  unfold penText
  rw [penSmall_raw h, penRaw_raw]
/-! ### A node's octets, and back -/
def intsText (l : List Int) : List UInt8 := (l.map fun x => be 1 x.toNat).flatten
def NodeV.text (N : NodeV) : List UInt8 :=
  if N.kind = 0 then be 1 0
  else if N.kind = 1 then be 1 1 ++ (be 1 N.name.length ++ N.name) ++ be 8 N.key ++ (be 1 N.parent.length ++ N.parent)
  else be 1 2 ++ be 8 N.key ++ (be 1 N.parent.length ++ N.parent) ++ be 1 N.unm.length ++ intsText N.unm

theorem rising_at {l : List Int} (h : Rising l) : ∀ i, i < l.length → (i : Int) ≤ l.getD i 0
  | 0, k => (h 0 k).1
  | i + 1, k => by
    have := rising_at h i (by omega)
    have h3 := (h (i + 1) k).2.2 (by omega)
    simp only [Nat.add_sub_cancel] at h3
    omega
theorem rising_len {l : List Int} (h : Rising l) : l.length ≤ 32 := by
  by_cases k : l.length = 0
  · omega
  · have h1 := rising_at h (l.length - 1) (by omega)
    have h2 := (h (l.length - 1) (by omega)).2.1
    omega
theorem intsText_len : ∀ (l : List Int), (intsText l).length = l.length
  | [] => rfl
  | x :: l => by
    have := intsText_len l
    simp only [intsText, List.map_cons, List.flatten_cons, List.length_append, length_be, List.length_cons] at *
    omega
theorem node_kind {N : NodeV} (h : N.right) : N.kind = 0 ∨ N.kind = 1 ∨ N.kind = 2 := by
  unfold NodeV.right at h
  split at h
  · left; assumption
  · split at h
    · right; left; assumption
    · split at h
      · right; right; assumption
      · exact h.elim

theorem NodeV.text_len {N : NodeV} (h : N.right) : N.text.length ≤ 100 := by
  obtain ⟨k, m, y, p, u⟩ := N
  rcases node_kind h with hk | hk | hk
  · simp only at hk
    simp [NodeV.text, hk]
  · obtain ⟨h1, h2, ⟨h3, h4, h5⟩, h6⟩ := (right_one hk).1 h
    simp only at hk h1 h2 h3 h4 h5 h6
    simp [NodeV.text, hk]
    omega
  · obtain ⟨h1, ⟨h3, h4, h5⟩, h6⟩ := (right_two hk).1 h
    simp only at hk h1 h3 h4 h5 h6
    have hu := rising_len h6
    simp [NodeV.text, hk, intsText_len]
    omega

/-! ### A reader: an eye at p, the result at o2, the variable at o3 -/
structure RdS (s s1 : AS) (p o2 o3 : Nat) (ce z cs : List AV) : Prop where
  le : (s.drop p).le s1
  eye : s1.objs p = some ce
  res : s1.objs o2 = some z
  var : s1.objs o3 = some cs
  n2 : s.objs o2 = none
  n3 : s.objs o3 = none
  p2 : p ≠ o2
  p3 : p ≠ o3
  d : o2 ≠ o3
theorem RdS.gain {s s1 : AS} {p o2 o3 : Nat} {ce z cs : List AV} (h : RdS s s1 p o2 o3 ce z cs) {t : Nat} (ht : s.own t = none) (e : Nat) : RdS s (s1.gain t e) p o2 o3 ce z cs :=
  ⟨AS.le_gain h.le (by simpa [AS.drop] using ht) e, h.eye, h.res, h.var, h.n2, h.n3, h.p2, h.p3, h.d⟩
theorem RdS.out {s s1 : AS} {p o2 o3 : Nat} {ce z cs : List AV} (h : RdS s s1 p o2 o3 ce z cs) : (s.set p ce).le s1 := AS.set_le_of h.le h.eye
theorem RdS.own_none {s s1 : AS} {p o2 o3 : Nat} {ce z cs : List AV} (h : RdS s s1 p o2 o3 ce z cs) {t : Nat} (ht : s1.own t = none) : s.own t = none := by
  cases h0 : s.own t with
  | none => rfl
  | some e =>
    have := h.le.own t e (by simpa [AS.drop] using h0)
    rw [ht] at this
    cases this
/-- A slice of whole numbers that grows. -/
def IBuf (s0 s : AS) (x : AV) (l : List Int) : Prop := (x = nilS ∧ l = []) ∨ ∃ t e, x = intsV l (.own t e) ∧ s.own t = some e ∧ s0.own t = none
theorem IBuf.weak {s0 s : AS} {x : AV} {l : List Int} (h : IBuf s0 s x l) : x.weak (intsV l .any) := by
  rcases h with ⟨rfl, rfl⟩ | ⟨t, e, rfl, _, _⟩
  · exact AV.weak_nil
  · exact AV.weak_any
end Go.AM


set_option autoImplicit false
namespace Go.Proofs.YtooeklnbdgoneaaDoor
open Go Go.AM Go.Proofs

theorem RVau120 : type_of% (And.intro (And.intro (And.intro (And.intro (And.intro (And.intro @Tryd.underlying3 T.c3) (And.intro T.g3 (And.intro T.b3 T.z3))) (And.intro (And.intro @Tryd.underlying4 T.c4) (And.intro T.g4 (And.intro T.b4 T.z4)))) (And.intro (And.intro (And.intro @Tryd.underlying5 T.c5) (And.intro T.g5 (And.intro T.b5 T.z5))) (And.intro (And.intro @Tryd.underlying22 (And.intro T.c22 T.g22)) (And.intro T.b22 (And.intro T.z22 T.s22))))) (And.intro (And.intro (And.intro (And.intro @Tryd.underlying41 T.c41) (And.intro T.g41 (And.intro T.b41 T.z41))) (And.intro (And.intro @Tryd.underlying61 T.c61) (And.intro T.g61 (And.intro T.b61 T.z61)))) (And.intro (And.intro (And.intro T.p61 @Tryd.underlying105) (And.intro T.c105 (And.intro T.g105 T.b105))) (And.intro (And.intro T.z105 (And.intro T.h105 T.k36)) (And.intro T.k57 (And.intro T.k56 T.k34)))))) Tryd.ntmps20) :=
  (And.intro (And.intro (And.intro (And.intro (And.intro (And.intro @Tryd.underlying3 T.c3) (And.intro T.g3 (And.intro T.b3 T.z3))) (And.intro (And.intro @Tryd.underlying4 T.c4) (And.intro T.g4 (And.intro T.b4 T.z4)))) (And.intro (And.intro (And.intro @Tryd.underlying5 T.c5) (And.intro T.g5 (And.intro T.b5 T.z5))) (And.intro (And.intro @Tryd.underlying22 (And.intro T.c22 T.g22)) (And.intro T.b22 (And.intro T.z22 T.s22))))) (And.intro (And.intro (And.intro (And.intro @Tryd.underlying41 T.c41) (And.intro T.g41 (And.intro T.b41 T.z41))) (And.intro (And.intro @Tryd.underlying61 T.c61) (And.intro T.g61 (And.intro T.b61 T.z61)))) (And.intro (And.intro (And.intro T.p61 @Tryd.underlying105) (And.intro T.c105 (And.intro T.g105 T.b105))) (And.intro (And.intro T.z105 (And.intro T.h105 T.k36)) (And.intro T.k57 (And.intro T.k56 T.k34)))))) Tryd.ntmps20)

variable {Γ : Nat → List AV}

def ctxOk (g : List UInt8) (e : Int) : Prop := g.length ≤ 16 ∧ 0 ≤ e ∧ e ≤ 1048576
theorem ctx_len (g : List UInt8) (e : Nat) : (Vault.ctx g e).length = 9 + g.length := by
  simp [Vault.ctx]; omega

set_option maxHeartbeats 400000 in
theorem context_ok (g : List UInt8) (e : Nat) (hg : g.length ≤ 16) (he : e ≤ 1048576) (s : AS) :
    ACalls Tryd.prog Γ 20 [bytesV g .any, .v (.int .i64 e)] s (fun r s' => r = bytesV (Vault.ctx g e) .any ∧ s' = s) := by
  refine acalls_body Tryd.func20 rfl Tryd.ntmps20 Tryd.results20 (by simp) ?_
  have hu : iconv .u64 (e : Int) = (e : Int) := u64_conv (by omega)
  have hpen : penNum 8 e (penText 1 g ([], false)) = (Vault.ctx g e, false) := by
    rw [penNum_raw, penText_raw (by omega), penRaw_raw]
    simp [penRaw, Vault.ctx]
  refine awp_reg_seq ?_
  intro K hK
  simp only [↓DN, UP, DF, ashift, aconv, aindexAddr, aindex, aslice, abuiltin, AV.cells, AV.one, reduceCtorEq, ↓reduceIte, nLT, nLE, nEQ, nAdd, nMul, nPow, nSub, zLT, zLE, zNat, RVau120]
  refine hK _ _ ?_
  clear hK K
  refine awp_seq_k ?_
  intro K hK
  refine awp_reg_seq ?_
  intro K hK
  simp only [↓DN, UP, DF, ashift, aconv, aindexAddr, aindex, aslice, abuiltin, AV.cells, AV.one, reduceCtorEq, ↓reduceIte, nLT, nLE, nEQ, nAdd, nMul, nPow, nSub, zLT, zLE, zNat, RVau120, show decide ((16 : Int) < (g.length : Int)) = false from decide_eq_false (by omega), show decide ((e : Int) < 0) = false from decide_eq_false (by omega), show decide ((1048576 : Int) < (e : Int)) = false from decide_eq_false (by omega)]
  refine hK _ _ ?_
  clear hK K
  refine awp_cond_k ?_
  intro X Y hX hY
  simp only [↓DN, UP, DF, ashift, aconv, aindexAddr, aindex, aslice, abuiltin, AV.cells, AV.one, reduceCtorEq, ↓reduceIte, nLT, nLE, nEQ, nAdd, nMul, nPow, nSub, zLT, zLE, zNat, RVau120, DB]
  refine hY ?_
  clear hX hY X Y
  refine awp_skip ?_
  refine hK _ _ ?_
  clear hK K
  refine awp_reg_seq ?_
  intro K hK
  simp only [↓DN, UP, DF, ashift, aconv, aindexAddr, aindex, aslice, abuiltin, AV.cells, AV.one, reduceCtorEq, ↓reduceIte, nLT, nLE, nEQ, nAdd, nMul, nPow, nSub, zLT, zLE, zNat, RVau120]
  refine acallk (new_calls s) ?_
  rintro r s1 ⟨p, rfl, h1⟩
  simp only [↓AXq_nil, ↓AXq_cons, pval, DX, Nat.reduceBEq, ↓DN, UP, DF, ashift, aconv, aindexAddr, aindex, aslice, abuiltin, AV.cells, AV.one, reduceCtorEq, ↓reduceIte, nLT, nLE, nEQ, nAdd, nMul, nPow, nSub, zLT, zLE, zNat, RVau120]
  refine hK _ _ ?_
  clear hK K
  refine awp_reg_seq ?_
  intro K hK
  simp only [↓DN, UP, DF, ashift, aconv, aindexAddr, aindex, aslice, abuiltin, AV.cells, AV.one, reduceCtorEq, ↓reduceIte, nLT, nLE, nEQ, nAdd, nMul, nPow, nSub, zLT, zLE, zNat, RVau120]
  refine acallk (penShort_calls s s1 p _ _ g (IsB.any g) (by simp; omega) h1) ?_
  rintro r s2 ⟨rfl, h2⟩
  simp only [↓AXq_nil, ↓AXq_cons, pval, DX, Nat.reduceBEq, ↓DN, UP, DF, ashift, aconv, aindexAddr, aindex, aslice, abuiltin, AV.cells, AV.one, reduceCtorEq, ↓reduceIte, nLT, nLE, nEQ, nAdd, nMul, nPow, nSub, zLT, zLE, zNat, RVau120]
  refine hK _ _ ?_
  clear hK K
  refine awp_reg_seq ?_
  intro K hK
  simp only [↓DN, UP, DF, ashift, aconv, aindexAddr, aindex, aslice, abuiltin, AV.cells, AV.one, reduceCtorEq, ↓reduceIte, nLT, nLE, nEQ, nAdd, nMul, nPow, nSub, zLT, zLE, zNat, RVau120, hu]
  refine acallk (penU64_calls s s2 p _ e (by omega) (by have := Kdf.text_len 1 g ([], false); simp at this; omega) h2) ?_
  rintro r s3 ⟨rfl, h3⟩
  rw [hpen] at h3
  simp only [↓AXq_nil, ↓AXq_cons, pval, DX, Nat.reduceBEq, ↓DN, UP, DF, ashift, aconv, aindexAddr, aindex, aslice, abuiltin, AV.cells, AV.one, reduceCtorEq, ↓reduceIte, nLT, nLE, nEQ, nAdd, nMul, nPow, nSub, zLT, zLE, zNat, RVau120]
  refine hK _ _ ?_
  clear hK K
  refine awp_reg_seq ?_
  intro K hK
  simp only [↓DN, UP, DF, ashift, aconv, aindexAddr, aindex, aslice, abuiltin, AV.cells, AV.one, reduceCtorEq, ↓reduceIte, nLT, nLE, nEQ, nAdd, nMul, nPow, nSub, zLT, zLE, zNat, RVau120]
  refine acallk (penBytes_calls s s3 p _ (by rw [ctx_len]; omega) h3) ?_
  rintro r s4 ⟨rfl, rfl⟩
  simp only [↓AXq_nil, ↓AXq_cons, pval, DX, Nat.reduceBEq, ↓DN, UP, DF, ashift, aconv, aindexAddr, aindex, aslice, abuiltin, AV.cells, AV.one, reduceCtorEq, ↓reduceIte, nLT, nLE, nEQ, nAdd, nMul, nPow, nSub, zLT, zLE, zNat, RVau120]
  refine hK _ _ ?_
  clear hK K
  refine awp_reg_seq ?_
  intro K hK
  simp only [↓DN, UP, DF, ashift, aconv, aindexAddr, aindex, aslice, abuiltin, AV.cells, AV.one, reduceCtorEq, ↓reduceIte, nLT, nLE, nEQ, nAdd, nMul, nPow, nSub, zLT, zLE, zNat, RVau120]
  refine hK _ _ ?_
  clear hK K
  refine awp_ret ?_
  simp only [retQ, AEnds, aresL, ares, List.toList_toArray, ↓upd_same]; try simp only [↓DN, UP, DF, ashift, aconv, aindexAddr, aindex, aslice, abuiltin, AV.cells, AV.one, reduceCtorEq, ↓reduceIte, nLT, nLE, nEQ, nAdd, nMul, nPow, nSub, zLT, zLE, zNat, RVau120, DT]
  exact ⟨_, s, AV.weak.refl _, h3.le, rfl, rfl⟩

end Go.Proofs.YtooeklnbdgoneaaDoor


set_option autoImplicit false
namespace Go.Proofs.YtooeklnbdgoneaaDoor
open Go Go.AM Go.Proofs

theorem RVau250 : type_of% (And.intro (And.intro (And.intro (And.intro (And.intro @Tryd.underlying3 T.c3) (And.intro T.g3 (And.intro T.b3 T.z3))) (And.intro (And.intro @Tryd.underlying5 (And.intro T.c5 T.g5)) (And.intro T.b5 (And.intro T.z5 @Tryd.underlying9)))) (And.intro (And.intro (And.intro T.c9 T.g9) (And.intro T.b9 (And.intro T.z9 @Tryd.underlying22))) (And.intro (And.intro T.c22 (And.intro T.g22 T.b22)) (And.intro T.z22 (And.intro T.s22 T.k81))))) Tryd.ntmps50) :=
  (And.intro (And.intro (And.intro (And.intro (And.intro @Tryd.underlying3 T.c3) (And.intro T.g3 (And.intro T.b3 T.z3))) (And.intro (And.intro @Tryd.underlying5 (And.intro T.c5 T.g5)) (And.intro T.b5 (And.intro T.z5 @Tryd.underlying9)))) (And.intro (And.intro (And.intro T.c9 T.g9) (And.intro T.b9 (And.intro T.z9 @Tryd.underlying22))) (And.intro (And.intro T.c22 (And.intro T.g22 T.b22)) (And.intro T.z22 (And.intro T.s22 T.k81))))) Tryd.ntmps50)
theorem RVau221 : type_of% (And.intro (And.intro (And.intro (And.intro @Tryd.underlying3 T.c3) (And.intro T.g3 (And.intro T.b3 T.z3))) (And.intro (And.intro @Tryd.underlying9 T.c9) (And.intro T.g9 (And.intro T.b9 T.z9)))) Tryd.ntmps21) :=
  (And.intro (And.intro (And.intro (And.intro @Tryd.underlying3 T.c3) (And.intro T.g3 (And.intro T.b3 T.z3))) (And.intro (And.intro @Tryd.underlying9 T.c9) (And.intro T.g9 (And.intro T.b9 T.z9)))) Tryd.ntmps21)
theorem RVau224 : type_of% (And.intro (And.intro (And.intro (And.intro (And.intro @Tryd.underlying3 T.c3) (And.intro T.g3 T.b3)) (And.intro (And.intro T.z3 @Tryd.underlying9) (And.intro T.c9 T.g9))) (And.intro (And.intro (And.intro T.b9 T.z9) (And.intro @Tryd.underlying41 T.c41)) (And.intro (And.intro T.g41 T.b41) (And.intro T.z41 (And.intro T.k58 T.k59))))) Tryd.ntmps24) :=
  (And.intro (And.intro (And.intro (And.intro (And.intro @Tryd.underlying3 T.c3) (And.intro T.g3 T.b3)) (And.intro (And.intro T.z3 @Tryd.underlying9) (And.intro T.c9 T.g9))) (And.intro (And.intro (And.intro T.b9 T.z9) (And.intro @Tryd.underlying41 T.c41)) (And.intro (And.intro T.g41 T.b41) (And.intro T.z41 (And.intro T.k58 T.k59))))) Tryd.ntmps24)
theorem RVau222 : type_of% (And.intro (And.intro (And.intro @Tryd.underlying3 T.c3) (And.intro T.g3 (And.intro T.b3 T.z3))) Tryd.ntmps22) :=
  (And.intro (And.intro (And.intro @Tryd.underlying3 T.c3) (And.intro T.g3 (And.intro T.b3 T.z3))) Tryd.ntmps22)
theorem RVau223 : type_of% (And.intro (And.intro (And.intro @Tryd.underlying3 T.c3) (And.intro T.g3 (And.intro T.b3 T.z3))) Tryd.ntmps23) :=
  (And.intro (And.intro (And.intro @Tryd.underlying3 T.c3) (And.intro T.g3 (And.intro T.b3 T.z3))) Tryd.ntmps23)

variable {Γ : Nat → List AV}

theorem vk_len (key : List UInt8) : (Vault.vk key).length = 48 := by
  rw [Vault.vk, Kdf.label, show Kdf.fits Vault.wrapW [] 48 = true from by decide, if_pos rfl]
  exact Kdf.expand_len _ _ _
theorem vn_fits (c : List UInt8) (hc : c.length ≤ 65535) : Kdf.fits Vault.nonceW c 16 = true := by
  simp [Kdf.fits, Vault.nonceW]
  omega
theorem vn_len (key c : List UInt8) (hc : c.length ≤ 65535) : (Vault.vn key c).length = 16 := by
  rw [Vault.vn, Kdf.label, vn_fits c hc, if_pos rfl]
  exact Kdf.expand_len _ _ _

set_option maxHeartbeats 400000 in
theorem vkeys_calls (hG0 : Γ 0 = stC Sha.H0) (hG : Γ 1 = Sha.K.map wV) (key c : List UInt8) (hk : key.length ≤ 2 ^ 36) (hc : c.length ≤ 60000) (s : AS) :
    ACalls Tryd.prog Γ 50 [bytesV key .any, bytesV c .any] s (fun r s' => r = .tup [bytesV (Vault.vk key) .any, bytesV (Vault.vn key c) .any] ∧ s' = s) := by
  refine acalls_body Tryd.func50 rfl Tryd.ntmps50 Tryd.results50 (by simp) ?_
  have h1 := fun s => label_calls (Γ := Γ) hG0 hG key Vault.wrapW [] 48 hk (by decide) (by decide) (by decide) s
  have h2 := fun s => label_calls (Γ := Γ) hG0 hG key Vault.nonceW c 16 hk (by decide) (by omega) (by decide) s
  change ∀ s, ACalls _ _ _ _ s (fun r s' => r = .tup [bytesV (Vault.vk key) .any, _] ∧ s' = s) at h1
  change ∀ s, ACalls _ _ _ _ s (fun r s' => r = .tup [bytesV (Vault.vn key c) .any, _] ∧ s' = s) at h2
  generalize Vault.vk key = k at *
  generalize Vault.vn key c = n at *
  refine awp_reg_seq ?_
  intro K hK
  simp only [↓DN, UP, DF, ashift, aconv, aindexAddr, aindex, aslice, abuiltin, AV.cells, AV.one, reduceCtorEq, ↓reduceIte, nLT, nLE, nEQ, nAdd, nMul, nPow, nSub, zLT, zLE, zNat, RVau250]
  refine hK _ _ ?_
  clear hK K
  refine awp_reg_seq ?_
  intro K hK
  simp only [↓DN, UP, DF, ashift, aconv, aindexAddr, aindex, aslice, abuiltin, AV.cells, AV.one, reduceCtorEq, ↓reduceIte, nLT, nLE, nEQ, nAdd, nMul, nPow, nSub, zLT, zLE, zNat, RVau250]
  refine acallk (ACalls.weaks (AVs.weak.cons (AV.weak.refl _) (AVs.weak.cons (AV.weak.refl _) (AVs.weak.cons (AV.weak_nil (sz := 1)) (AVs.weak.refl _)))) (h1 s)) ?_
  rintro r s1 ⟨rfl, rfl⟩
  simp only [↓AXq_nil, ↓AXq_cons, pval, DX, Nat.reduceBEq, ↓DN, UP, DF, ashift, aconv, aindexAddr, aindex, aslice, abuiltin, AV.cells, AV.one, reduceCtorEq, ↓reduceIte, nLT, nLE, nEQ, nAdd, nMul, nPow, nSub, zLT, zLE, zNat, RVau250]
  refine hK _ _ ?_
  clear hK K
  refine awp_reg_seq ?_
  intro K hK
  simp only [↓DN, UP, DF, ashift, aconv, aindexAddr, aindex, aslice, abuiltin, AV.cells, AV.one, reduceCtorEq, ↓reduceIte, nLT, nLE, nEQ, nAdd, nMul, nPow, nSub, zLT, zLE, zNat, RVau250]
  refine acallk (h2 _) ?_
  rintro r s2 ⟨rfl, rfl⟩
  simp only [↓AXq_nil, ↓AXq_cons, pval, DX, Nat.reduceBEq, ↓DN, UP, DF, ashift, aconv, aindexAddr, aindex, aslice, abuiltin, AV.cells, AV.one, reduceCtorEq, ↓reduceIte, nLT, nLE, nEQ, nAdd, nMul, nPow, nSub, zLT, zLE, zNat, RVau250]
  refine hK _ _ ?_
  clear hK K
  refine awp_reg_seq ?_
  intro K hK
  simp only [↓DN, UP, DF, ashift, aconv, aindexAddr, aindex, aslice, abuiltin, AV.cells, AV.one, reduceCtorEq, ↓reduceIte, nLT, nLE, nEQ, nAdd, nMul, nPow, nSub, zLT, zLE, zNat, RVau250]
  refine hK _ _ ?_
  clear hK K
  refine awp_ret ?_
  simp only [retQ, AEnds, aresL, ares, List.toList_toArray, ↓upd_same]; try simp only [↓DN, UP, DF, ashift, aconv, aindexAddr, aindex, aslice, abuiltin, AV.cells, AV.one, reduceCtorEq, ↓reduceIte, nLT, nLE, nEQ, nAdd, nMul, nPow, nSub, zLT, zLE, zNat, RVau250, DT]
  exact ⟨_, _, AV.weak.refl _, AS.le.refl _, rfl, rfl⟩

theorem refIs17_calls (g : List UInt8) (e : Int) (s : AS) : ACalls Tryd.prog Γ 21 [.v (.string ⟨g.toArray⟩), .v (.int .i64 e)] s (fun r s' => (∃ b, r = .v (.bool b) ∧ (b = true ↔ ctxOk g e)) ∧ s' = s) := by
  refine acalls_body Tryd.func21 rfl Tryd.ntmps21 Tryd.results21 (by simp) ?_
  unfold ctxOk
  refine awp_reg_seq ?_
  intro K hK
  simp only [↓DN, UP, DF, ashift, aconv, aindexAddr, aindex, aslice, abuiltin, AV.cells, AV.one, reduceCtorEq, ↓reduceIte, nLT, nLE, nEQ, nAdd, nMul, nPow, nSub, zLT, zLE, zNat, RVau221]
  refine hK _ _ ?_
  clear hK K
  rcases ff3 (decide ((g.length : Int) ≤ 16)) (decide (0 ≤ e)) (decide (e ≤ 1048576)) with hd | hd | hd | hd
  all_goals
    refine awp_reg_seq ?_
    intro K hK
    simp only [↓DN, UP, DF, ashift, aconv, aindexAddr, aindex, aslice, abuiltin, AV.cells, AV.one, reduceCtorEq, ↓reduceIte, nLT, nLE, nEQ, nAdd, nMul, nPow, nSub, zLT, zLE, zNat, RVau221, hd]
    refine hK _ _ ?_
    clear hK K
    refine awp_ret ?_
    simp only [retQ, AEnds, aresL, ares, List.toList_toArray, ↓upd_same]; try simp only [↓DN, UP, DF, ashift, aconv, aindexAddr, aindex, aslice, abuiltin, AV.cells, AV.one, reduceCtorEq, ↓reduceIte, nLT, nLE, nEQ, nAdd, nMul, nPow, nSub, zLT, zLE, zNat, RVau221, DT]
    refine ⟨_, _, AV.weak.refl _, AS.le.refl _, ⟨_, rfl, ?_⟩, rfl⟩
    simp only [decide_eq_true_eq, decide_eq_false_iff_not] at hd
    simp only [Bool.false_eq_true, false_iff, true_iff]
    omega

theorem refContext17_calls (g : List UInt8) (e : Nat) (hg : g.length ≤ 16) (he : e ≤ 1048576) (s : AS) :
    ACalls Tryd.prog Γ 24 [.v (.string ⟨g.toArray⟩), .v (.int .i64 e)] s (fun r s' => r = .v (.string ⟨(Vault.ctx g e).toArray⟩) ∧ s' = s) := by
  refine acalls_body Tryd.func24 rfl Tryd.ntmps24 Tryd.results24 (by simp) ?_
  have hu : iconv .u64 (e : Int) = (e : Int) := u64_conv (by omega)
  refine awp_reg_seq ?_
  intro K hK
  simp only [↓DN, UP, DF, ashift, aconv, aindexAddr, aindex, aslice, abuiltin, AV.cells, AV.one, reduceCtorEq, ↓reduceIte, nLT, nLE, nEQ, nAdd, nMul, nPow, nSub, zLT, zLE, zNat, RVau224]
  refine hK _ _ ?_
  clear hK K
  refine awp_reg_seq ?_
  intro K hK
  simp only [↓DN, UP, DF, ashift, aconv, aindexAddr, aindex, aslice, abuiltin, AV.cells, AV.one, reduceCtorEq, ↓reduceIte, nLT, nLE, nEQ, nAdd, nMul, nPow, nSub, zLT, zLE, zNat, RVau224]
  refine acallk (refText_calls g 1 (by omega) (by decide) s) ?_
  rintro r s1 ⟨rfl, rfl⟩
  simp only [↓AXq_nil, ↓AXq_cons, pval, DX, Nat.reduceBEq, ↓DN, UP, DF, ashift, aconv, aindexAddr, aindex, aslice, abuiltin, AV.cells, AV.one, reduceCtorEq, ↓reduceIte, nLT, nLE, nEQ, nAdd, nMul, nPow, nSub, zLT, zLE, zNat, RVau224, hu]
  refine acallk (refNumber_calls e 8 (by omega) (by decide) s1) ?_
  rintro r s2 ⟨rfl, rfl⟩
  simp only [↓AXq_nil, ↓AXq_cons, pval, DX, Nat.reduceBEq, ↓DN, UP, DF, ashift, aconv, aindexAddr, aindex, aslice, abuiltin, AV.cells, AV.one, reduceCtorEq, ↓reduceIte, nLT, nLE, nEQ, nAdd, nMul, nPow, nSub, zLT, zLE, zNat, RVau224, i64_room (show (be 1 g.length).length + g.length + (be 8 e).length < 2 ^ 62 by simp; omega)]
  refine hK _ _ ?_
  clear hK K
  refine awp_ret ?_
  simp only [retQ, AEnds, aresL, ares, List.toList_toArray, ↓upd_same]; try simp only [↓DN, UP, DF, ashift, aconv, aindexAddr, aindex, aslice, abuiltin, AV.cells, AV.one, reduceCtorEq, ↓reduceIte, nLT, nLE, nEQ, nAdd, nMul, nPow, nSub, zLT, zLE, zNat, RVau224, DT]
  refine ⟨_, _, AV.weak.refl _, AS.le.refl _, ?_, rfl⟩
  simp [Vault.ctx]

theorem bucket_calls (t p : Int) (s : AS) : ACalls Tryd.prog Γ 22 [.v (.int .i64 t), .v (.int .i64 p)] s (fun r s' => r = .v (.int .i64 (if t < 0 then 0 else if p < 1 then t else iquo .i64 t p)) ∧ s' = s) := by
  refine acalls_body Tryd.func22 rfl Tryd.ntmps22 Tryd.results22 (by simp) ?_
  refine awp_reg_seq ?_
  intro K hK
  simp only [↓DN, UP, DF, ashift, aconv, aindexAddr, aindex, aslice, abuiltin, AV.cells, AV.one, reduceCtorEq, ↓reduceIte, nLT, nLE, nEQ, nAdd, nMul, nPow, nSub, zLT, zLE, zNat, RVau222]
  refine hK _ _ ?_
  clear hK K
  refine awp_seq_k ?_
  intro K hK
  refine awp_block ?_
  by_cases h1 : t < 0
  · refine awp_reg_seq ?_
    intro K hK
    simp only [↓DN, UP, DF, ashift, aconv, aindexAddr, aindex, aslice, abuiltin, AV.cells, AV.one, reduceCtorEq, ↓reduceIte, nLT, nLE, nEQ, nAdd, nMul, nPow, nSub, zLT, zLE, zNat, RVau222, decide_eq_true h1]
    refine hK _ _ ?_
    clear hK K
    refine awp_cond_k ?_
    intro X Y hX hY
    simp only [↓DN, UP, DF, ashift, aconv, aindexAddr, aindex, aslice, abuiltin, AV.cells, AV.one, reduceCtorEq, ↓reduceIte, nLT, nLE, nEQ, nAdd, nMul, nPow, nSub, zLT, zLE, zNat, RVau222, DB]
    refine hX ?_
    clear hX hY X Y
    refine awp_reg_seq ?_
    intro K hK
    simp only [↓DN, UP, DF, ashift, aconv, aindexAddr, aindex, aslice, abuiltin, AV.cells, AV.one, reduceCtorEq, ↓reduceIte, nLT, nLE, nEQ, nAdd, nMul, nPow, nSub, zLT, zLE, zNat, RVau222]
    refine hK _ _ ?_
    clear hK K
    refine awp_ret ?_
    try simp only [thenQ, blockQ]
    simp only [retQ, AEnds, aresL, ares, List.toList_toArray, ↓upd_same]; try simp only [↓DN, UP, DF, ashift, aconv, aindexAddr, aindex, aslice, abuiltin, AV.cells, AV.one, reduceCtorEq, ↓reduceIte, nLT, nLE, nEQ, nAdd, nMul, nPow, nSub, zLT, zLE, zNat, RVau222, DT]
    exact ⟨_, _, AV.weak.refl _, AS.le.refl _, by rw [if_pos h1], rfl⟩
  · refine awp_reg_seq ?_
    intro K hK
    simp only [↓DN, UP, DF, ashift, aconv, aindexAddr, aindex, aslice, abuiltin, AV.cells, AV.one, reduceCtorEq, ↓reduceIte, nLT, nLE, nEQ, nAdd, nMul, nPow, nSub, zLT, zLE, zNat, RVau222, decide_eq_false h1]
    refine hK _ _ ?_
    clear hK K
    refine awp_cond_k ?_
    intro X Y hX hY
    simp only [↓DN, UP, DF, ashift, aconv, aindexAddr, aindex, aslice, abuiltin, AV.cells, AV.one, reduceCtorEq, ↓reduceIte, nLT, nLE, nEQ, nAdd, nMul, nPow, nSub, zLT, zLE, zNat, RVau222, DB]
    refine hY ?_
    clear hX hY X Y
    by_cases h2 : p < 1
    · refine awp_reg_seq ?_
      intro K hK
      simp only [↓DN, UP, DF, ashift, aconv, aindexAddr, aindex, aslice, abuiltin, AV.cells, AV.one, reduceCtorEq, ↓reduceIte, nLT, nLE, nEQ, nAdd, nMul, nPow, nSub, zLT, zLE, zNat, RVau222, decide_eq_true h2]
      refine hK _ _ ?_
      clear hK K
      refine awp_cond_k ?_
      intro X Y hX hY
      simp only [↓DN, UP, DF, ashift, aconv, aindexAddr, aindex, aslice, abuiltin, AV.cells, AV.one, reduceCtorEq, ↓reduceIte, nLT, nLE, nEQ, nAdd, nMul, nPow, nSub, zLT, zLE, zNat, RVau222, DB]
      refine hX ?_
      clear hX hY X Y
      refine awp_reg_seq ?_
      intro K hK
      simp only [↓DN, UP, DF, ashift, aconv, aindexAddr, aindex, aslice, abuiltin, AV.cells, AV.one, reduceCtorEq, ↓reduceIte, nLT, nLE, nEQ, nAdd, nMul, nPow, nSub, zLT, zLE, zNat, RVau222]
      refine hK _ _ ?_
      clear hK K
      refine awp_ret ?_
      try simp only [thenQ, blockQ]
      simp only [retQ, AEnds, aresL, ares, List.toList_toArray, ↓upd_same]; try simp only [↓DN, UP, DF, ashift, aconv, aindexAddr, aindex, aslice, abuiltin, AV.cells, AV.one, reduceCtorEq, ↓reduceIte, nLT, nLE, nEQ, nAdd, nMul, nPow, nSub, zLT, zLE, zNat, RVau222, DT]
      exact ⟨_, _, AV.weak.refl _, AS.le.refl _, by rw [if_neg h1, if_pos h2], rfl⟩
    · refine awp_reg_seq ?_
      intro K hK
      simp only [↓DN, UP, DF, ashift, aconv, aindexAddr, aindex, aslice, abuiltin, AV.cells, AV.one, reduceCtorEq, ↓reduceIte, nLT, nLE, nEQ, nAdd, nMul, nPow, nSub, zLT, zLE, zNat, RVau222, decide_eq_false h2]
      refine hK _ _ ?_
      clear hK K
      refine awp_cond_k ?_
      intro X Y hX hY
      simp only [↓DN, UP, DF, ashift, aconv, aindexAddr, aindex, aslice, abuiltin, AV.cells, AV.one, reduceCtorEq, ↓reduceIte, nLT, nLE, nEQ, nAdd, nMul, nPow, nSub, zLT, zLE, zNat, RVau222, DB]
      refine hY ?_
      clear hX hY X Y
      refine awp_skip ?_
      simp only [blockQ, thenQ, if_true, if_false]
      refine hK _ _ ?_
      clear hK K
      refine awp_reg_seq ?_
      intro K hK
      simp only [↓DN, UP, DF, ashift, aconv, aindexAddr, aindex, aslice, abuiltin, AV.cells, AV.one, reduceCtorEq, ↓reduceIte, nLT, nLE, nEQ, nAdd, nMul, nPow, nSub, zLT, zLE, zNat, RVau222, show ¬ p = 0 from by omega]
      refine hK _ _ ?_
      clear hK K
      refine awp_ret ?_
      simp only [retQ, AEnds, aresL, ares, List.toList_toArray, ↓upd_same]; try simp only [↓DN, UP, DF, ashift, aconv, aindexAddr, aindex, aslice, abuiltin, AV.cells, AV.one, reduceCtorEq, ↓reduceIte, nLT, nLE, nEQ, nAdd, nMul, nPow, nSub, zLT, zLE, zNat, RVau222, DT]
      exact ⟨_, _, AV.weak.refl _, AS.le.refl _, by rw [if_neg h1, if_neg h2], rfl⟩
theorem refBucket_calls (t p : Int) (s : AS) : ACalls Tryd.prog Γ 23 [.v (.int .i64 t), .v (.int .i64 p)] s (fun r s' => r = .v (.int .i64 (if t < 0 then 0 else if p < 1 then t else iquo .i64 t p)) ∧ s' = s) := by
  refine acalls_body Tryd.func23 rfl Tryd.ntmps23 Tryd.results23 (by simp) ?_
  refine awp_reg_seq ?_
  intro K hK
  simp only [↓DN, UP, DF, ashift, aconv, aindexAddr, aindex, aslice, abuiltin, AV.cells, AV.one, reduceCtorEq, ↓reduceIte, nLT, nLE, nEQ, nAdd, nMul, nPow, nSub, zLT, zLE, zNat, RVau223]
  refine hK _ _ ?_
  clear hK K
  refine awp_seq_k ?_
  intro K hK
  by_cases h1 : t < 0
  · refine awp_reg_seq ?_
    intro K hK
    simp only [↓DN, UP, DF, ashift, aconv, aindexAddr, aindex, aslice, abuiltin, AV.cells, AV.one, reduceCtorEq, ↓reduceIte, nLT, nLE, nEQ, nAdd, nMul, nPow, nSub, zLT, zLE, zNat, RVau223, decide_eq_true h1]
    refine hK _ _ ?_
    clear hK K
    refine awp_cond_k ?_
    intro X Y hX hY
    simp only [↓DN, UP, DF, ashift, aconv, aindexAddr, aindex, aslice, abuiltin, AV.cells, AV.one, reduceCtorEq, ↓reduceIte, nLT, nLE, nEQ, nAdd, nMul, nPow, nSub, zLT, zLE, zNat, RVau223, DB]
    refine hX ?_
    clear hX hY X Y
    refine awp_reg_seq ?_
    intro K hK
    simp only [↓DN, UP, DF, ashift, aconv, aindexAddr, aindex, aslice, abuiltin, AV.cells, AV.one, reduceCtorEq, ↓reduceIte, nLT, nLE, nEQ, nAdd, nMul, nPow, nSub, zLT, zLE, zNat, RVau223]
    refine hK _ _ ?_
    clear hK K
    refine awp_ret ?_
    try simp only [thenQ, blockQ]
    simp only [retQ, AEnds, aresL, ares, List.toList_toArray, ↓upd_same]; try simp only [↓DN, UP, DF, ashift, aconv, aindexAddr, aindex, aslice, abuiltin, AV.cells, AV.one, reduceCtorEq, ↓reduceIte, nLT, nLE, nEQ, nAdd, nMul, nPow, nSub, zLT, zLE, zNat, RVau223, DT]
    exact ⟨_, _, AV.weak.refl _, AS.le.refl _, by rw [if_pos h1], rfl⟩
  · refine awp_reg_seq ?_
    intro K hK
    simp only [↓DN, UP, DF, ashift, aconv, aindexAddr, aindex, aslice, abuiltin, AV.cells, AV.one, reduceCtorEq, ↓reduceIte, nLT, nLE, nEQ, nAdd, nMul, nPow, nSub, zLT, zLE, zNat, RVau223, decide_eq_false h1]
    refine hK _ _ ?_
    clear hK K
    refine awp_cond_k ?_
    intro X Y hX hY
    simp only [↓DN, UP, DF, ashift, aconv, aindexAddr, aindex, aslice, abuiltin, AV.cells, AV.one, reduceCtorEq, ↓reduceIte, nLT, nLE, nEQ, nAdd, nMul, nPow, nSub, zLT, zLE, zNat, RVau223, DB]
    refine hY ?_
    clear hX hY X Y
    refine awp_skip ?_
    refine hK _ _ ?_
    clear hK K
    refine awp_seq_k ?_
    intro K hK
    by_cases h2 : p < 1
    · refine awp_reg_seq ?_
      intro K hK
      simp only [↓DN, UP, DF, ashift, aconv, aindexAddr, aindex, aslice, abuiltin, AV.cells, AV.one, reduceCtorEq, ↓reduceIte, nLT, nLE, nEQ, nAdd, nMul, nPow, nSub, zLT, zLE, zNat, RVau223, decide_eq_true h2]
      refine hK _ _ ?_
      clear hK K
      refine awp_cond_k ?_
      intro X Y hX hY
      simp only [↓DN, UP, DF, ashift, aconv, aindexAddr, aindex, aslice, abuiltin, AV.cells, AV.one, reduceCtorEq, ↓reduceIte, nLT, nLE, nEQ, nAdd, nMul, nPow, nSub, zLT, zLE, zNat, RVau223, DB]
      refine hX ?_
      clear hX hY X Y
      refine awp_reg_seq ?_
      intro K hK
      simp only [↓DN, UP, DF, ashift, aconv, aindexAddr, aindex, aslice, abuiltin, AV.cells, AV.one, reduceCtorEq, ↓reduceIte, nLT, nLE, nEQ, nAdd, nMul, nPow, nSub, zLT, zLE, zNat, RVau223]
      refine hK _ _ ?_
      clear hK K
      refine awp_ret ?_
      try simp only [thenQ, blockQ]
      simp only [retQ, AEnds, aresL, ares, List.toList_toArray, ↓upd_same]; try simp only [↓DN, UP, DF, ashift, aconv, aindexAddr, aindex, aslice, abuiltin, AV.cells, AV.one, reduceCtorEq, ↓reduceIte, nLT, nLE, nEQ, nAdd, nMul, nPow, nSub, zLT, zLE, zNat, RVau223, DT]
      exact ⟨_, _, AV.weak.refl _, AS.le.refl _, by rw [if_neg h1, if_pos h2], rfl⟩
    · refine awp_reg_seq ?_
      intro K hK
      simp only [↓DN, UP, DF, ashift, aconv, aindexAddr, aindex, aslice, abuiltin, AV.cells, AV.one, reduceCtorEq, ↓reduceIte, nLT, nLE, nEQ, nAdd, nMul, nPow, nSub, zLT, zLE, zNat, RVau223, decide_eq_false h2]
      refine hK _ _ ?_
      clear hK K
      refine awp_cond_k ?_
      intro X Y hX hY
      simp only [↓DN, UP, DF, ashift, aconv, aindexAddr, aindex, aslice, abuiltin, AV.cells, AV.one, reduceCtorEq, ↓reduceIte, nLT, nLE, nEQ, nAdd, nMul, nPow, nSub, zLT, zLE, zNat, RVau223, DB]
      refine hY ?_
      clear hX hY X Y
      refine awp_skip ?_
      refine hK _ _ ?_
      clear hK K
      refine awp_reg_seq ?_
      intro K hK
      simp only [↓DN, UP, DF, ashift, aconv, aindexAddr, aindex, aslice, abuiltin, AV.cells, AV.one, reduceCtorEq, ↓reduceIte, nLT, nLE, nEQ, nAdd, nMul, nPow, nSub, zLT, zLE, zNat, RVau223, show ¬ p = 0 from by omega]
      refine hK _ _ ?_
      clear hK K
      refine awp_ret ?_
      simp only [retQ, AEnds, aresL, ares, List.toList_toArray, ↓upd_same]; try simp only [↓DN, UP, DF, ashift, aconv, aindexAddr, aindex, aslice, abuiltin, AV.cells, AV.one, reduceCtorEq, ↓reduceIte, nLT, nLE, nEQ, nAdd, nMul, nPow, nSub, zLT, zLE, zNat, RVau223, DT]
      exact ⟨_, _, AV.weak.refl _, AS.le.refl _, by rw [if_neg h1, if_neg h2], rfl⟩

end Go.Proofs.YtooeklnbdgoneaaDoor


set_option autoImplicit false
namespace Go.Proofs.YtooeklnbdgoneaaDoor
open Go Go.AM Go.Proofs



variable {Γ : Nat → List AV}



theorem len48 {n : Nat} (h : n = 48) : ((n : Int) != 48) = false := by subst h; rfl
end Go.Proofs.YtooeklnbdgoneaaDoor


set_option autoImplicit false
namespace Go.Proofs.YtooeklnbdgoneaaDoor
open Go Go.AM Go.Proofs

theorem RVau316 : type_of% (And.intro (And.intro (And.intro (And.intro (And.intro @Tryd.underlying3 T.c3) (And.intro T.g3 T.b3)) (And.intro (And.intro T.z3 @Tryd.underlying5) (And.intro T.c5 (And.intro T.g5 T.b5)))) (And.intro (And.intro (And.intro T.z5 @Tryd.underlying22) (And.intro T.c22 (And.intro T.g22 T.b22))) (And.intro (And.intro T.z22 T.s22) (And.intro T.k50 (And.intro T.k51 T.k20))))) Tryd.ntmps16) :=
  (And.intro (And.intro (And.intro (And.intro (And.intro @Tryd.underlying3 T.c3) (And.intro T.g3 T.b3)) (And.intro (And.intro T.z3 @Tryd.underlying5) (And.intro T.c5 (And.intro T.g5 T.b5)))) (And.intro (And.intro (And.intro T.z5 @Tryd.underlying22) (And.intro T.c22 (And.intro T.g22 T.b22))) (And.intro (And.intro T.z22 T.s22) (And.intro T.k50 (And.intro T.k51 T.k20))))) Tryd.ntmps16)
theorem RVau318 : type_of% (And.intro (And.intro (And.intro (And.intro (And.intro @Tryd.underlying3 T.c3) (And.intro T.g3 T.b3)) (And.intro (And.intro T.z3 @Tryd.underlying5) (And.intro T.c5 (And.intro T.g5 T.b5)))) (And.intro (And.intro (And.intro T.z5 @Tryd.underlying22) (And.intro T.c22 (And.intro T.g22 T.b22))) (And.intro (And.intro T.z22 T.s22) (And.intro T.k50 (And.intro T.k54 T.k20))))) Tryd.ntmps18) :=
  (And.intro (And.intro (And.intro (And.intro (And.intro @Tryd.underlying3 T.c3) (And.intro T.g3 T.b3)) (And.intro (And.intro T.z3 @Tryd.underlying5) (And.intro T.c5 (And.intro T.g5 T.b5)))) (And.intro (And.intro (And.intro T.z5 @Tryd.underlying22) (And.intro T.c22 (And.intro T.g22 T.b22))) (And.intro (And.intro T.z22 T.s22) (And.intro T.k50 (And.intro T.k54 T.k20))))) Tryd.ntmps18)
variable {Γ : Nat → List AV}

theorem len32 {n : Nat} (h : n = 32) : ((n : Int) != 32) = false := by subst h; rfl
set_option maxHeartbeats 1000000 in
theorem wrap_ok (hG0 : Γ 0 = stC Sha.H0) (hG : Γ 1 = Sha.K.map wV) (key g t : List UInt8) (e : Nat) (hg : g.length ≤ 16) (he : e ≤ 1048576) (hk : key.length = 32) (ht : t.length = 32) (s : AS) :
    ACalls Tryd.prog Γ 16 [bytesV key .any, bytesV g .any, .v (.int .i64 e), bytesV t .any] s (fun r s' => r = .tup [bytesV (Aes.sealed (Vault.vk key) (Vault.vn key (Vault.ctx g e)) (Vault.ctx g e) t) .any, .v (.int .i64 ((0 : Nat) : Int))] ∧ s' = s) := by
  refine acalls_body Tryd.func16 rfl Tryd.ntmps16 Tryd.results16 (by simp) ?_
  have hc := fun s => context_ok (Γ := Γ) g e hg he s
  have hcl := ctx_len g e
  have hkl := vk_len key
  have hnl := vn_len key (Vault.ctx g e) (by omega)
  have hks := fun s => vkeys_calls (Γ := Γ) hG0 hG key (Vault.ctx g e) (by omega) (by omega) s
  have hs := fun s => seal_calls (Γ := Γ) hG0 hG (Vault.vk key) (Vault.vn key (Vault.ctx g e)) (Vault.ctx g e) t (by omega) (by omega) s
  simp only [show sealT (Vault.vk key) (Vault.vn key (Vault.ctx g e)) (Vault.ctx g e) t = Aes.sealed (Vault.vk key) (Vault.vn key (Vault.ctx g e)) (Vault.ctx g e) t from by unfold sealT; rw [if_pos ⟨hkl, hnl⟩], show sealE (Vault.vk key) (Vault.vn key (Vault.ctx g e)) = 0 from by unfold sealE; rw [if_pos ⟨hkl, hnl⟩]] at hs
  generalize Vault.vn key (Vault.ctx g e) = n at *
  generalize Vault.ctx g e = c at *
  generalize Vault.vk key = k at *
  have hc0 : c.length ≠ 0 := by omega
  generalize Aes.sealed k n c t = z at *
  refine awp_reg_seq ?_
  intro K hK
  simp only [↓DN, UP, DF, ashift, aconv, aindexAddr, aindex, aslice, abuiltin, AV.cells, AV.one, reduceCtorEq, ↓reduceIte, nLT, nLE, nEQ, nAdd, nMul, nPow, nSub, zLT, zLE, zNat, RVau316]
  refine hK _ _ ?_
  clear hK K
  refine awp_reg_seq ?_
  intro K hK
  simp only [↓DN, UP, DF, ashift, aconv, aindexAddr, aindex, aslice, abuiltin, AV.cells, AV.one, reduceCtorEq, ↓reduceIte, nLT, nLE, nEQ, nAdd, nMul, nPow, nSub, zLT, zLE, zNat, RVau316]
  refine acallk (hc s) ?_
  rintro r s1 ⟨rfl, rfl⟩
  simp only [↓AXq_nil, ↓AXq_cons, pval, DX, Nat.reduceBEq, ↓DN, UP, DF, ashift, aconv, aindexAddr, aindex, aslice, abuiltin, AV.cells, AV.one, reduceCtorEq, ↓reduceIte, nLT, nLE, nEQ, nAdd, nMul, nPow, nSub, zLT, zLE, zNat, RVau316]
  refine hK _ _ ?_
  clear hK K
  refine awp_seq_k ?_
  intro K hK
  refine awp_reg_seq ?_
  intro K hK
  simp only [↓DN, UP, DF, ashift, aconv, aindexAddr, aindex, aslice, abuiltin, AV.cells, AV.one, reduceCtorEq, ↓reduceIte, nLT, nLE, nEQ, nAdd, nMul, nPow, nSub, zLT, zLE, zNat, RVau316, hc0, len32 hk, len32 ht]
  refine hK _ _ ?_
  clear hK K
  refine awp_cond_k ?_
  intro X Y hX hY
  simp only [↓DN, UP, DF, ashift, aconv, aindexAddr, aindex, aslice, abuiltin, AV.cells, AV.one, reduceCtorEq, ↓reduceIte, nLT, nLE, nEQ, nAdd, nMul, nPow, nSub, zLT, zLE, zNat, RVau316, DB]
  refine hY ?_
  clear hX hY X Y
  refine awp_skip ?_
  refine hK _ _ ?_
  clear hK K
  refine awp_reg_seq ?_
  intro K hK
  simp only [↓DN, UP, DF, ashift, aconv, aindexAddr, aindex, aslice, abuiltin, AV.cells, AV.one, reduceCtorEq, ↓reduceIte, nLT, nLE, nEQ, nAdd, nMul, nPow, nSub, zLT, zLE, zNat, RVau316]
  refine acallk (hks _) ?_
  rintro r s2 ⟨rfl, rfl⟩
  simp only [↓AXq_nil, ↓AXq_cons, pval, DX, Nat.reduceBEq, ↓DN, UP, DF, ashift, aconv, aindexAddr, aindex, aslice, abuiltin, AV.cells, AV.one, reduceCtorEq, ↓reduceIte, nLT, nLE, nEQ, nAdd, nMul, nPow, nSub, zLT, zLE, zNat, RVau316]
  refine hK _ _ ?_
  clear hK K
  refine awp_reg_seq ?_
  intro K hK
  simp only [↓DN, UP, DF, ashift, aconv, aindexAddr, aindex, aslice, abuiltin, AV.cells, AV.one, reduceCtorEq, ↓reduceIte, nLT, nLE, nEQ, nAdd, nMul, nPow, nSub, zLT, zLE, zNat, RVau316]
  refine acallk (hs _) ?_
  rintro r s3 ⟨rfl, rfl⟩
  simp only [↓AXq_nil, ↓AXq_cons, pval, DX, Nat.reduceBEq, ↓DN, UP, DF, ashift, aconv, aindexAddr, aindex, aslice, abuiltin, AV.cells, AV.one, reduceCtorEq, ↓reduceIte, nLT, nLE, nEQ, nAdd, nMul, nPow, nSub, zLT, zLE, zNat, RVau316]
  refine hK _ _ ?_
  clear hK K
  refine awp_ret ?_
  simp only [retQ, AEnds, aresL, ares, List.toList_toArray, ↓upd_same]; try simp only [↓DN, UP, DF, ashift, aconv, aindexAddr, aindex, aslice, abuiltin, AV.cells, AV.one, reduceCtorEq, ↓reduceIte, nLT, nLE, nEQ, nAdd, nMul, nPow, nSub, zLT, zLE, zNat, RVau316, DT]
  exact ⟨_, _, AV.weak.refl _, AS.le.refl _, rfl, rfl⟩

set_option maxHeartbeats 1000000 in
theorem unwrap_ok (hG0 : Γ 0 = stC Sha.H0) (hG : Γ 1 = Sha.K.map wV) (key g t : List UInt8) (e : Nat) (hg : g.length ≤ 16) (he : e ≤ 1048576) (hk : key.length = 32) (ht : t.length = 48) (s : AS) :
    ACalls Tryd.prog Γ 18 [bytesV key .any, bytesV g .any, .v (.int .i64 e), bytesV t .any] s (fun r s' => r = .tup [bytesV (openedT (Vault.vk key) (Vault.vn key (Vault.ctx g e)) (Vault.ctx g e) t) .any, .v (.int .i64 ((openedE (Vault.vk key) (Vault.vn key (Vault.ctx g e)) (Vault.ctx g e) t : Nat) : Int))] ∧ s' = s) := by
  refine acalls_body Tryd.func18 rfl Tryd.ntmps18 Tryd.results18 (by simp) ?_
  have hc := fun s => context_ok (Γ := Γ) g e hg he s
  have hcl := ctx_len g e
  have hkl := vk_len key
  have hnl := vn_len key (Vault.ctx g e) (by omega)
  have hks := fun s => vkeys_calls (Γ := Γ) hG0 hG key (Vault.ctx g e) (by omega) (by omega) s
  have hs := fun s => open_seal_calls (Γ := Γ) hG0 hG (Vault.vk key) (Vault.vn key (Vault.ctx g e)) (Vault.ctx g e) t (by omega) (by omega) s
  simp only [show opT (Vault.vk key) (Vault.vn key (Vault.ctx g e)) (Vault.ctx g e) t = openedT (Vault.vk key) (Vault.vn key (Vault.ctx g e)) (Vault.ctx g e) t from by unfold opT; rw [if_pos ⟨hkl, hnl⟩], show opE (Vault.vk key) (Vault.vn key (Vault.ctx g e)) (Vault.ctx g e) t = openedE (Vault.vk key) (Vault.vn key (Vault.ctx g e)) (Vault.ctx g e) t from by unfold opE; rw [if_pos ⟨hkl, hnl⟩]] at hs
  generalize Vault.vn key (Vault.ctx g e) = n at *
  generalize Vault.ctx g e = c at *
  generalize Vault.vk key = k at *
  have hc0 : c.length ≠ 0 := by omega
  generalize openedT k n c t = z at *
  generalize openedE k n c t = y at *
  refine awp_reg_seq ?_
  intro K hK
  simp only [↓DN, UP, DF, ashift, aconv, aindexAddr, aindex, aslice, abuiltin, AV.cells, AV.one, reduceCtorEq, ↓reduceIte, nLT, nLE, nEQ, nAdd, nMul, nPow, nSub, zLT, zLE, zNat, RVau318]
  refine hK _ _ ?_
  clear hK K
  refine awp_reg_seq ?_
  intro K hK
  simp only [↓DN, UP, DF, ashift, aconv, aindexAddr, aindex, aslice, abuiltin, AV.cells, AV.one, reduceCtorEq, ↓reduceIte, nLT, nLE, nEQ, nAdd, nMul, nPow, nSub, zLT, zLE, zNat, RVau318]
  refine acallk (hc s) ?_
  rintro r s1 ⟨rfl, rfl⟩
  simp only [↓AXq_nil, ↓AXq_cons, pval, DX, Nat.reduceBEq, ↓DN, UP, DF, ashift, aconv, aindexAddr, aindex, aslice, abuiltin, AV.cells, AV.one, reduceCtorEq, ↓reduceIte, nLT, nLE, nEQ, nAdd, nMul, nPow, nSub, zLT, zLE, zNat, RVau318]
  refine hK _ _ ?_
  clear hK K
  refine awp_seq_k ?_
  intro K hK
  refine awp_reg_seq ?_
  intro K hK
  simp only [↓DN, UP, DF, ashift, aconv, aindexAddr, aindex, aslice, abuiltin, AV.cells, AV.one, reduceCtorEq, ↓reduceIte, nLT, nLE, nEQ, nAdd, nMul, nPow, nSub, zLT, zLE, zNat, RVau318, hc0, len32 hk, len48 ht]
  refine hK _ _ ?_
  clear hK K
  refine awp_cond_k ?_
  intro X Y hX hY
  simp only [↓DN, UP, DF, ashift, aconv, aindexAddr, aindex, aslice, abuiltin, AV.cells, AV.one, reduceCtorEq, ↓reduceIte, nLT, nLE, nEQ, nAdd, nMul, nPow, nSub, zLT, zLE, zNat, RVau318, DB]
  refine hY ?_
  clear hX hY X Y
  refine awp_skip ?_
  refine hK _ _ ?_
  clear hK K
  refine awp_reg_seq ?_
  intro K hK
  simp only [↓DN, UP, DF, ashift, aconv, aindexAddr, aindex, aslice, abuiltin, AV.cells, AV.one, reduceCtorEq, ↓reduceIte, nLT, nLE, nEQ, nAdd, nMul, nPow, nSub, zLT, zLE, zNat, RVau318]
  refine acallk (hks _) ?_
  rintro r s2 ⟨rfl, rfl⟩
  simp only [↓AXq_nil, ↓AXq_cons, pval, DX, Nat.reduceBEq, ↓DN, UP, DF, ashift, aconv, aindexAddr, aindex, aslice, abuiltin, AV.cells, AV.one, reduceCtorEq, ↓reduceIte, nLT, nLE, nEQ, nAdd, nMul, nPow, nSub, zLT, zLE, zNat, RVau318]
  refine hK _ _ ?_
  clear hK K
  refine awp_reg_seq ?_
  intro K hK
  simp only [↓DN, UP, DF, ashift, aconv, aindexAddr, aindex, aslice, abuiltin, AV.cells, AV.one, reduceCtorEq, ↓reduceIte, nLT, nLE, nEQ, nAdd, nMul, nPow, nSub, zLT, zLE, zNat, RVau318]
  refine acallk (hs _) ?_
  rintro r s3 ⟨rfl, rfl⟩
  simp only [↓AXq_nil, ↓AXq_cons, pval, DX, Nat.reduceBEq, ↓DN, UP, DF, ashift, aconv, aindexAddr, aindex, aslice, abuiltin, AV.cells, AV.one, reduceCtorEq, ↓reduceIte, nLT, nLE, nEQ, nAdd, nMul, nPow, nSub, zLT, zLE, zNat, RVau318]
  refine hK _ _ ?_
  clear hK K
  refine awp_ret ?_
  simp only [retQ, AEnds, aresL, ares, List.toList_toArray, ↓upd_same]; try simp only [↓DN, UP, DF, ashift, aconv, aindexAddr, aindex, aslice, abuiltin, AV.cells, AV.one, reduceCtorEq, ↓reduceIte, nLT, nLE, nEQ, nAdd, nMul, nPow, nSub, zLT, zLE, zNat, RVau318, DT]
  exact ⟨_, _, AV.weak.refl _, AS.le.refl _, rfl, rfl⟩

end Go.Proofs.YtooeklnbdgoneaaDoor


set_option autoImplicit false
namespace Go.Proofs.YtooeklnbdgoneaaDoor
open Go Go.AM Go.Proofs

theorem RVau415 : type_of% (And.intro (And.intro (And.intro (And.intro (And.intro @Tryd.underlying3 (And.intro T.c3 T.g3)) (And.intro T.b3 (And.intro T.z3 @Tryd.underlying5))) (And.intro (And.intro T.c5 (And.intro T.g5 T.b5)) (And.intro T.z5 (And.intro @Tryd.underlying22 T.c22)))) (And.intro (And.intro (And.intro T.g22 (And.intro T.b22 T.z22)) (And.intro T.s22 (And.intro @Tryd.underlying28 T.c28))) (And.intro (And.intro T.g28 (And.intro T.b28 T.z28)) (And.intro (And.intro T.h28 T.f28_0) (And.intro T.f28_1 T.f28_2))))) Tryd.ntmps15) :=
  (And.intro (And.intro (And.intro (And.intro (And.intro @Tryd.underlying3 (And.intro T.c3 T.g3)) (And.intro T.b3 (And.intro T.z3 @Tryd.underlying5))) (And.intro (And.intro T.c5 (And.intro T.g5 T.b5)) (And.intro T.z5 (And.intro @Tryd.underlying22 T.c22)))) (And.intro (And.intro (And.intro T.g22 (And.intro T.b22 T.z22)) (And.intro T.s22 (And.intro @Tryd.underlying28 T.c28))) (And.intro (And.intro T.g28 (And.intro T.b28 T.z28)) (And.intro (And.intro T.h28 T.f28_0) (And.intro T.f28_1 T.f28_2))))) Tryd.ntmps15)
theorem RVau414 : type_of% (And.intro (And.intro (And.intro (And.intro (And.intro @Tryd.underlying3 (And.intro T.c3 T.g3)) (And.intro (And.intro T.b3 T.z3) (And.intro @Tryd.underlying5 T.c5))) (And.intro (And.intro T.g5 (And.intro T.b5 T.z5)) (And.intro (And.intro @Tryd.underlying9 T.c9) (And.intro T.g9 T.b9)))) (And.intro (And.intro (And.intro T.z9 (And.intro @Tryd.underlying22 T.c22)) (And.intro (And.intro T.g22 T.b22) (And.intro T.z22 T.s22))) (And.intro (And.intro (And.intro @Tryd.underlying30 T.c30) (And.intro T.g30 T.b30)) (And.intro (And.intro T.z30 T.k22) (And.intro T.k16 T.k18))))) Tryd.ntmps14) :=
  (And.intro (And.intro (And.intro (And.intro (And.intro @Tryd.underlying3 (And.intro T.c3 T.g3)) (And.intro (And.intro T.b3 T.z3) (And.intro @Tryd.underlying5 T.c5))) (And.intro (And.intro T.g5 (And.intro T.b5 T.z5)) (And.intro (And.intro @Tryd.underlying9 T.c9) (And.intro T.g9 T.b9)))) (And.intro (And.intro (And.intro T.z9 (And.intro @Tryd.underlying22 T.c22)) (And.intro (And.intro T.g22 T.b22) (And.intro T.z22 T.s22))) (And.intro (And.intro (And.intro @Tryd.underlying30 T.c30) (And.intro T.g30 T.b30)) (And.intro (And.intro T.z30 T.k22) (And.intro T.k16 T.k18))))) Tryd.ntmps14)

variable {Γ : Nat → List AV}

theorem AS.le_set_drop {s s1 : AS} (h : s.le s1) {o : Nat} (hn : s.objs o = none) (cs : List AV) : s.le ((s1.set o cs).drop o) := by
  refine ⟨fun o' cs' h' => ?_, fun t e h' => h.2 t e h'⟩
  have hne : o' ≠ o := by rintro rfl; rw [hn] at h'; cases h'
  show (if o' = o then none else (s1.set o cs).objs o') = some cs'
  rw [if_neg hne, AS.set_objs_ne _ hne]
  exact h.1 o' cs' h'

/-- What the example's secret is wrapped to. -/
def w17 : List UInt8 := Aes.sealed (Vault.vk Vault.key0) (Vault.vn Vault.key0 (Vault.ctx Vault.group0 3)) (Vault.ctx Vault.group0 3) Vault.text0
theorem w17_len : w17.length = 48 := sealed_len _ _ _ _
theorem w17_is : w17 = Vault.m3 ++ Vault.t3 := by
  unfold w17
  rw [Vault.n3_is, Vault.k0_is, Aes.sealed, Vault.m3_is, Vault.t3_is]
theorem w17_four : openedE (Vault.vk Vault.key0) (Vault.vn Vault.key0 (Vault.ctx Vault.group0 4)) (Vault.ctx Vault.group0 4) w17 = 14 := by
  rw [Vault.n4_is, Vault.k0_is]
  unfold openedE
  rw [if_neg (by rw [w17_len]; decide), w17_len, w17_is, show (Vault.m3 ++ Vault.t3).take (48 - 16) = Vault.m3 from rfl, show (Vault.m3 ++ Vault.t3).drop (48 - 16) = Vault.t3 from rfl, if_neg Vault.t4_not]

abbrev caseC17 (k g t : List UInt8) (e : Int) : List AV := [bytesV k .any, bytesV g .any, bytesV t .any, .v (.int .i64 e)]

set_option maxHeartbeats 1000000 in
theorem small17_calls (k g t : List UInt8) (e : Int) (s : AS) : ACalls Tryd.prog Γ 15 [.agg (caseC17 k g t e)] s (fun r s' => ∃ v, r = .v (.bool v) ∧ s' = s ∧ (v = true → k.length ≤ 60 ∧ g.length ≤ 40 ∧ t.length ≤ 100)) := by
  refine acalls_body Tryd.func15 rfl Tryd.ntmps15 Tryd.results15 (by simp) ?_
  unfold caseC17
  refine awp_reg_frz 1 (by simp [dsts]) ?_
  intro K hK
  simp only [↓AXq_nil, ↓AXq_cons, pval, DX, Nat.reduceBEq, ↓DN, UP, DF, ashift, aconv, aindexAddr, aindex, aslice, abuiltin, AV.cells, AV.one, reduceCtorEq, ↓reduceIte, nLT, nLE, nEQ, nAdd, nMul, nPow, nSub, zLT, zLE, zNat, RVau415]
  intro o ho
  refine hK _ _ o _ (by simp only [upd, Nat.reduceEqDiff, ↓reduceIte]) ho ?_
  clear hK K ho
  rcases ff3 (decide ((k.length : Int) ≤ 60)) (decide ((g.length : Int) ≤ 40)) (decide ((t.length : Int) ≤ 100)) with hd | hd | hd | hd
  all_goals
    refine awp_reg_seq ?_
    intro K hK
    simp only [↓DN, UP, DF, ashift, aconv, aindexAddr, aindex, aslice, abuiltin, AV.cells, AV.one, reduceCtorEq, ↓reduceIte, nLT, nLE, nEQ, nAdd, nMul, nPow, nSub, zLT, zLE, zNat, RVau415, hd]
    refine hK _ _ ?_
    clear hK K
    refine awp_ret ?_
    simp only [retQ, AEnds, aresL, ares, List.toList_toArray, ↓upd_same]; try simp only [↓DN, UP, DF, ashift, aconv, aindexAddr, aindex, aslice, abuiltin, AV.cells, AV.one, reduceCtorEq, ↓reduceIte, nLT, nLE, nEQ, nAdd, nMul, nPow, nSub, zLT, zLE, zNat, RVau415, DT]
    refine ⟨_, _, AV.weak.refl _, AS.le.refl _, _, rfl, rfl, ?_⟩
    intro ht
    try cases ht
  · simp only [decide_eq_true_eq, decide_eq_false_iff_not] at hd
    omega

set_option maxHeartbeats 4000000 in
set_option maxRecDepth 100000 in
theorem awake17_calls (hG0 : Γ 0 = stC Sha.H0) (hG : Γ 1 = Sha.K.map wV) (s : AS) :
    ACalls Tryd.prog Γ 14 [] s (fun r s' => r = .v (.bool true) ∧ s' = s) := by
  refine gcalls_body Tryd.func14 rfl Tryd.ntmps14 Tryd.results14 (by simp) ?_
  have c1 := fun s => wrap_ok (Γ := Γ) hG0 hG Vault.key0 Vault.group0 Vault.text0 3 (by decide) (by decide) (by decide) (by decide) s
  have c2 := fun s => unwrap_ok (Γ := Γ) hG0 hG Vault.key0 Vault.group0 w17 3 (by decide) (by decide) (by decide) w17_len s
  have c3 := fun s => unwrap_ok (Γ := Γ) hG0 hG Vault.key0 Vault.group0 w17 4 (by decide) (by decide) (by decide) w17_len s
  have c4 := fun s => bucket_calls (Γ := Γ) 25 10 s
  rw [w17_four] at c3
  change ∀ s, ACalls _ _ _ _ s (fun r s' => r = .tup [bytesV w17 .any, .v (.int .i64 ((0 : Nat) : Int))] ∧ s' = s) at c1
  have o1 : openedT (Vault.vk Vault.key0) (Vault.vn Vault.key0 (Vault.ctx Vault.group0 3)) (Vault.ctx Vault.group0 3) w17 = Vault.text0 := opened_sealedT _ _ _ _
  have o2 : openedE (Vault.vk Vault.key0) (Vault.vn Vault.key0 (Vault.ctx Vault.group0 3)) (Vault.ctx Vault.group0 3) w17 = 0 := opened_sealedE _ _ _ _
  rw [o1, o2] at c2
  generalize openedT (Vault.vk Vault.key0) (Vault.vn Vault.key0 (Vault.ctx Vault.group0 4)) (Vault.ctx Vault.group0 4) w17 = u at *
  have hwl := w17_len
  generalize w17 = w at *
  clear o1 o2
  have htl : Vault.text0.length = 32 := rfl
  have hkl : Vault.key0.length = 32 := rfl
  have hrep1 : ∀ x : AV, List.replicate 1 x = [x] := fun _ => rfl
  refine gwp_seq_k ?_
  intro K1 hK1
  refine awp_reg_end ?_
  intro K hK
  simp only [↓DN, UP, DF, ashift, aconv, aindexAddr, aindex, aslice, abuiltin, AV.cells, AV.one, reduceCtorEq, ↓reduceIte, nLT, nLE, nEQ, nAdd, nMul, nPow, nSub, zLT, zLE, zNat, RVau414]
  refine hK _ _ ?_
  clear hK K
  simp only [thenQ]
  refine hK1 _ _ ?_
  clear hK1 K1
  refine gwp_seq_k ?_
  intro K1 hK1
  have rep32 : ∀ x : AV, List.replicate 32 x = [x, x, x, x, x, x, x, x, x, x, x, x, x, x, x, x, x, x, x, x, x, x, x, x, x, x, x, x, x, x, x, x] := fun _ => rfl
  have hT0 : ([.v (.int .u8 97), .v (.int .u8 32), .v (.int .u8 115), .v (.int .u8 101), .v (.int .u8 99), .v (.int .u8 114), .v (.int .u8 101), .v (.int .u8 116), .v (.int .u8 32), .v (.int .u8 111), .v (.int .u8 102), .v (.int .u8 32), .v (.int .u8 116), .v (.int .u8 119), .v (.int .u8 111), .v (.int .u8 32), .v (.int .u8 97), .v (.int .u8 110), .v (.int .u8 100), .v (.int .u8 32), .v (.int .u8 116), .v (.int .u8 104), .v (.int .u8 105), .v (.int .u8 114), .v (.int .u8 116), .v (.int .u8 121), .v (.int .u8 32), .v (.int .u8 98), .v (.int .u8 121), .v (.int .u8 116), .v (.int .u8 101), .v (.int .u8 115)] : List AV) = Vault.text0.map byteV := rfl
  refine awp_reg_end ?_
  intro K hK
  simp only [↓DN, UP, DF, ashift, aconv, aindexAddr, aindex, aslice, abuiltin, AV.cells, AV.one, reduceCtorEq, ↓reduceIte, nLT, nLE, nEQ, nAdd, nMul, nPow, nSub, zLT, zLE, zNat, RVau414, rep32, hT0]
  refine ⟨by decide, by decide, fun o ho => ?_⟩
  refine hK _ _ ?_
  clear hK K
  simp only [thenQ]
  refine hK1 _ _ ?_
  clear hK1 K1
  refine gwp_freeze (d := 1) (o := o) (n := 32) (cap := 32) (by simp only [upd, Nat.reduceEqDiff, ↓reduceIte]) (AS.set_objs_same _ _ _) (by simp) ?_
  refine gwp_env (fun E s' => E 1 = bytesV Vault.key0 .any ∧ E 2 = .sl 1 32 (Vault.text0.map byteV) .new ∧ s.le s') ⟨by simp only [upd, Nat.reduceEqDiff, ↓reduceIte]; rfl, by simp only [upd, Nat.reduceEqDiff, ↓reduceIte], AS.le_set_drop (AS.le.refl _) ho _⟩ ?_
  rintro E s1 ⟨e1, e2, hle⟩
  refine AWp.g ?_
  have hg0 : ([.v (.int .u8 103)] : List AV) = Vault.group0.map byteV := rfl
  refine awp_reg_seq ?_
  intro K hK
  simp only [↓DN, UP, DF, ashift, aconv, aindexAddr, aindex, aslice, abuiltin, AV.cells, AV.one, reduceCtorEq, ↓reduceIte, nLT, nLE, nEQ, nAdd, nMul, nPow, nSub, zLT, zLE, zNat, RVau414, e1, e2, hrep1, hg0]
  refine acallk (ACalls.weaks (AVs.weak.cons (AV.weak.refl _) (AVs.weak.cons (AV.weak_any) (AVs.weak.cons (AV.weak.refl _) (AVs.weak.cons (AV.weak_any) AVs.weak.nil)))) (c1 _)) ?_
  rintro r s2 ⟨rfl, rfl⟩
  simp only [↓AXq_nil, ↓AXq_cons, pval, DX, Nat.reduceBEq, ↓DN, UP, DF, ashift, aconv, aindexAddr, aindex, aslice, abuiltin, AV.cells, AV.one, reduceCtorEq, ↓reduceIte, nLT, nLE, nEQ, nAdd, nMul, nPow, nSub, zLT, zLE, zNat, RVau414]
  refine hK _ _ ?_
  clear hK K
  refine awp_reg_seq ?_
  intro K hK
  simp only [↓DN, UP, DF, ashift, aconv, aindexAddr, aindex, aslice, abuiltin, AV.cells, AV.one, reduceCtorEq, ↓reduceIte, nLT, nLE, nEQ, nAdd, nMul, nPow, nSub, zLT, zLE, zNat, RVau414, e1, e2, hrep1, hg0]
  refine acallk (ACalls.weaks (AVs.weak.cons (AV.weak.refl _) (AVs.weak.cons (AV.weak_any) (AVs.weak.refl _))) (c2 _)) ?_
  rintro r s3 ⟨rfl, rfl⟩
  simp only [↓AXq_nil, ↓AXq_cons, pval, DX, Nat.reduceBEq, ↓DN, UP, DF, ashift, aconv, aindexAddr, aindex, aslice, abuiltin, AV.cells, AV.one, reduceCtorEq, ↓reduceIte, nLT, nLE, nEQ, nAdd, nMul, nPow, nSub, zLT, zLE, zNat, RVau414]
  refine hK _ _ ?_
  clear hK K
  refine awp_reg_seq ?_
  intro K hK
  simp only [↓DN, UP, DF, ashift, aconv, aindexAddr, aindex, aslice, abuiltin, AV.cells, AV.one, reduceCtorEq, ↓reduceIte, nLT, nLE, nEQ, nAdd, nMul, nPow, nSub, zLT, zLE, zNat, RVau414, e1, e2, hrep1, hg0]
  refine acallk (ACalls.weaks (AVs.weak.cons (AV.weak.refl _) (AVs.weak.cons (AV.weak_any) (AVs.weak.refl _))) (c3 _)) ?_
  rintro r s4 ⟨rfl, rfl⟩
  simp only [↓AXq_nil, ↓AXq_cons, pval, DX, Nat.reduceBEq, ↓DN, UP, DF, ashift, aconv, aindexAddr, aindex, aslice, abuiltin, AV.cells, AV.one, reduceCtorEq, ↓reduceIte, nLT, nLE, nEQ, nAdd, nMul, nPow, nSub, zLT, zLE, zNat, RVau414]
  refine hK _ _ ?_
  clear hK K
  refine awp_reg_seq ?_
  intro K hK
  simp only [↓DN, UP, DF, ashift, aconv, aindexAddr, aindex, aslice, abuiltin, AV.cells, AV.one, reduceCtorEq, ↓reduceIte, nLT, nLE, nEQ, nAdd, nMul, nPow, nSub, zLT, zLE, zNat, RVau414]
  refine acallk (c4 _) ?_
  rintro r s5 ⟨rfl, rfl⟩
  have hq : (if (25 : Int) < 0 then (0 : Int) else if (10 : Int) < 1 then 25 else iquo .i64 25 10) = 2 := by decide
  rw [hq]
  simp only [↓AXq_nil, ↓AXq_cons, pval, DX, Nat.reduceBEq, ↓DN, UP, DF, ashift, aconv, aindexAddr, aindex, aslice, abuiltin, AV.cells, AV.one, reduceCtorEq, ↓reduceIte, nLT, nLE, nEQ, nAdd, nMul, nPow, nSub, zLT, zLE, zNat, RVau414, e2, show (((0 : Nat) : Int) == 0) = true from rfl, show (((14 : Nat) : Int) == 14) = true from rfl, hwl, show (((48 : Nat) : Int) == 48) = true from rfl]
  refine hK _ _ ?_
  clear hK K
  refine awp_ret ?_
  simp only [retQ, AEnds, aresL, ares, List.toList_toArray, ↓upd_same]; try simp only [↓DN, UP, DF, ashift, aconv, aindexAddr, aindex, aslice, abuiltin, AV.cells, AV.one, reduceCtorEq, ↓reduceIte, nLT, nLE, nEQ, nAdd, nMul, nPow, nSub, zLT, zLE, zNat, RVau414, DT]
  refine ⟨_, s, AV.weak.refl _, hle, ?_, rfl⟩
  try rfl

end Go.Proofs.YtooeklnbdgoneaaDoor


set_option autoImplicit false
namespace Go.AM
open Go

theorem IsTy.record {avs : List AV} (h : IsTy (.struct (.cons tyI (.cons tyB (.cons tyI (.cons tyI (.cons tyI (.cons tyB (.cons tyB (.cons tyB (.cons tyB .nil)))))))))) avs) : ∃ R : Rec, avs = R.cells := by
  obtain ⟨x1, y1, rfl, t1, h⟩ := isF_cons (isTy_struct h)
  obtain ⟨x2, y2, rfl, t2, h⟩ := isF_cons h
  obtain ⟨x3, y3, rfl, t3, h⟩ := isF_cons h
  obtain ⟨x4, y4, rfl, t4, h⟩ := isF_cons h
  obtain ⟨x5, y5, rfl, t5, h⟩ := isF_cons h
  obtain ⟨x6, y6, rfl, t6, h⟩ := isF_cons h
  obtain ⟨x7, y7, rfl, t7, h⟩ := isF_cons h
  obtain ⟨x8, y8, rfl, t8, h⟩ := isF_cons h
  obtain ⟨x9, y9, rfl, t9, h⟩ := isF_cons h
  obtain rfl := isF_nil h
  obtain ⟨n1, rfl, _⟩ := isTy_int t1
  obtain ⟨l2, rfl, _⟩ := t2.bytes
  obtain ⟨n3, rfl, _⟩ := isTy_int t3
  obtain ⟨n4, rfl, _⟩ := isTy_int t4
  obtain ⟨n5, rfl, _⟩ := isTy_int t5
  obtain ⟨l6, rfl, _⟩ := t6.bytes
  obtain ⟨l7, rfl, _⟩ := t7.bytes
  obtain ⟨l8, rfl, _⟩ := t8.bytes
  obtain ⟨l9, rfl, _⟩ := t9.bytes
  exact ⟨⟨n1, l2, n3, n4, n5, l6, l7, l8, l9⟩, rfl⟩
end Go.AM


set_option autoImplicit false
namespace Go.Proofs.YtooeklnbdgoneaaDoor
open Go Go.AM Go.Proofs



theorem case17 {avs : List AV} (h : IsTy (.struct (.cons tyB (.cons tyB (.cons tyB (.cons tyI .nil))))) avs) : ∃ k g t : List UInt8, ∃ e : Int, avs = caseC17 k g t e := by
  obtain ⟨x1, y1, rfl, t1, h⟩ := isF_cons (isTy_struct h)
  obtain ⟨x2, y2, rfl, t2, h⟩ := isF_cons h
  obtain ⟨x3, y3, rfl, t3, h⟩ := isF_cons h
  obtain ⟨x4, y4, rfl, t4, h⟩ := isF_cons h
  obtain rfl := isF_nil h
  obtain ⟨l1, rfl, _⟩ := t1.bytes
  obtain ⟨l2, rfl, _⟩ := t2.bytes
  obtain ⟨l3, rfl, _⟩ := t3.bytes
  obtain ⟨n, rfl, _⟩ := t4
  exact ⟨l1, l2, l3, n, rfl⟩


end Go.Proofs.YtooeklnbdgoneaaDoor


set_option autoImplicit false
namespace Go.Proofs.YtooeklnbdgoneaaDoor
open Go Go.AM Go.Proofs

theorem RVau620 : type_of% (And.intro (And.intro (And.intro (And.intro (And.intro (And.intro @Tryd.underlying3 T.c3) (And.intro T.g3 (And.intro T.b3 T.z3))) (And.intro (And.intro @Tryd.underlying4 T.c4) (And.intro T.g4 (And.intro T.b4 T.z4)))) (And.intro (And.intro (And.intro @Tryd.underlying5 T.c5) (And.intro T.g5 (And.intro T.b5 T.z5))) (And.intro (And.intro @Tryd.underlying22 (And.intro T.c22 T.g22)) (And.intro T.b22 (And.intro T.z22 T.s22))))) (And.intro (And.intro (And.intro (And.intro @Tryd.underlying41 T.c41) (And.intro T.g41 (And.intro T.b41 T.z41))) (And.intro (And.intro @Tryd.underlying61 T.c61) (And.intro T.g61 (And.intro T.b61 T.z61)))) (And.intro (And.intro (And.intro T.p61 @Tryd.underlying105) (And.intro T.c105 (And.intro T.g105 T.b105))) (And.intro (And.intro T.z105 (And.intro T.h105 T.k36)) (And.intro T.k56 (And.intro T.k34 T.k57)))))) Tryd.ntmps20) :=
  (And.intro (And.intro (And.intro (And.intro (And.intro (And.intro @Tryd.underlying3 T.c3) (And.intro T.g3 (And.intro T.b3 T.z3))) (And.intro (And.intro @Tryd.underlying4 T.c4) (And.intro T.g4 (And.intro T.b4 T.z4)))) (And.intro (And.intro (And.intro @Tryd.underlying5 T.c5) (And.intro T.g5 (And.intro T.b5 T.z5))) (And.intro (And.intro @Tryd.underlying22 (And.intro T.c22 T.g22)) (And.intro T.b22 (And.intro T.z22 T.s22))))) (And.intro (And.intro (And.intro (And.intro @Tryd.underlying41 T.c41) (And.intro T.g41 (And.intro T.b41 T.z41))) (And.intro (And.intro @Tryd.underlying61 T.c61) (And.intro T.g61 (And.intro T.b61 T.z61)))) (And.intro (And.intro (And.intro T.p61 @Tryd.underlying105) (And.intro T.c105 (And.intro T.g105 T.b105))) (And.intro (And.intro T.z105 (And.intro T.h105 T.k36)) (And.intro T.k56 (And.intro T.k34 T.k57)))))) Tryd.ntmps20)
theorem RVau66 : type_of% (And.intro (And.intro (And.intro (And.intro (And.intro (And.intro @Tryd.underlying3 T.c3) (And.intro T.g3 (And.intro T.b3 T.z3))) (And.intro (And.intro @Tryd.underlying4 (And.intro T.c4 T.g4)) (And.intro T.b4 (And.intro T.z4 @Tryd.underlying5)))) (And.intro (And.intro (And.intro T.c5 (And.intro T.g5 T.b5)) (And.intro T.z5 (And.intro @Tryd.underlying9 T.c9))) (And.intro (And.intro T.g9 (And.intro T.b9 T.z9)) (And.intro @Tryd.underlying22 (And.intro T.c22 T.g22))))) (And.intro (And.intro (And.intro (And.intro T.b22 T.z22) (And.intro T.s22 (And.intro @Tryd.underlying28 T.c28))) (And.intro (And.intro T.g28 (And.intro T.b28 T.z28)) (And.intro T.h28 (And.intro @Tryd.underlying35 T.c35)))) (And.intro (And.intro (And.intro T.g35 (And.intro T.b35 T.z35)) (And.intro T.f28_1 (And.intro T.f28_3 T.k20))) (And.intro (And.intro T.k21 (And.intro T.k24 T.k22)) (And.intro T.k14 (And.intro T.k23 T.k15)))))) Tryd.ntmps6) :=
  (And.intro (And.intro (And.intro (And.intro (And.intro (And.intro @Tryd.underlying3 T.c3) (And.intro T.g3 (And.intro T.b3 T.z3))) (And.intro (And.intro @Tryd.underlying4 (And.intro T.c4 T.g4)) (And.intro T.b4 (And.intro T.z4 @Tryd.underlying5)))) (And.intro (And.intro (And.intro T.c5 (And.intro T.g5 T.b5)) (And.intro T.z5 (And.intro @Tryd.underlying9 T.c9))) (And.intro (And.intro T.g9 (And.intro T.b9 T.z9)) (And.intro @Tryd.underlying22 (And.intro T.c22 T.g22))))) (And.intro (And.intro (And.intro (And.intro T.b22 T.z22) (And.intro T.s22 (And.intro @Tryd.underlying28 T.c28))) (And.intro (And.intro T.g28 (And.intro T.b28 T.z28)) (And.intro T.h28 (And.intro @Tryd.underlying35 T.c35)))) (And.intro (And.intro (And.intro T.g35 (And.intro T.b35 T.z35)) (And.intro T.f28_1 (And.intro T.f28_3 T.k20))) (And.intro (And.intro T.k21 (And.intro T.k24 T.k22)) (And.intro T.k14 (And.intro T.k23 T.k15)))))) Tryd.ntmps6)

variable {Γ : Nat → List AV}

set_option maxHeartbeats 400000 in
theorem context_badW (g : List UInt8) (e : Int) (h : ¬ ctxOk g e) (s : AS) :
    ACalls Tryd.prog Γ 20 [bytesV g .any, .v (.int .i64 e)] s (fun r s' => r = bytesV [] .any ∧ s' = s) := by
  refine acalls_body Tryd.func20 rfl Tryd.ntmps20 Tryd.results20 (by simp) ?_
  refine awp_reg_seq ?_
  intro K hK
  simp only [↓DN, UP, DF, ashift, aconv, aindexAddr, aindex, aslice, abuiltin, AV.cells, AV.one, reduceCtorEq, ↓reduceIte, nLT, nLE, nEQ, nAdd, nMul, nPow, nSub, zLT, zLE, zNat, RVau620]
  refine hK _ _ ?_
  clear hK K
  refine awp_seq_k ?_
  intro K hK
  rcases tt3 (decide ((16 : Int) < (g.length : Int))) (decide (e < 0)) (decide ((1048576 : Int) < e)) with hd | hd | hd | hd
  · refine awp_reg_seq ?_
    intro K hK
    simp only [↓DN, UP, DF, ashift, aconv, aindexAddr, aindex, aslice, abuiltin, AV.cells, AV.one, reduceCtorEq, ↓reduceIte, nLT, nLE, nEQ, nAdd, nMul, nPow, nSub, zLT, zLE, zNat, RVau620, hd]
    refine hK _ _ ?_
    clear hK K
    refine awp_cond_k ?_
    intro X Y hX hY
    simp only [↓DN, UP, DF, ashift, aconv, aindexAddr, aindex, aslice, abuiltin, AV.cells, AV.one, reduceCtorEq, ↓reduceIte, nLT, nLE, nEQ, nAdd, nMul, nPow, nSub, zLT, zLE, zNat, RVau620, DB]
    refine hX ?_
    clear hX hY X Y
    refine awp_reg_seq ?_
    intro K hK
    simp only [↓DN, UP, DF, ashift, aconv, aindexAddr, aindex, aslice, abuiltin, AV.cells, AV.one, reduceCtorEq, ↓reduceIte, nLT, nLE, nEQ, nAdd, nMul, nPow, nSub, zLT, zLE, zNat, RVau620]
    refine hK _ _ ?_
    clear hK K
    refine awp_ret ?_
    try simp only [thenQ, blockQ]
    simp only [retQ, AEnds, aresL, ares, List.toList_toArray, ↓upd_same]; try simp only [↓DN, UP, DF, ashift, aconv, aindexAddr, aindex, aslice, abuiltin, AV.cells, AV.one, reduceCtorEq, ↓reduceIte, nLT, nLE, nEQ, nAdd, nMul, nPow, nSub, zLT, zLE, zNat, RVau620, DT]
    exact ⟨_, s, AV.weak_nil, AS.le.refl _, rfl, rfl⟩
  · refine awp_reg_seq ?_
    intro K hK
    simp only [↓DN, UP, DF, ashift, aconv, aindexAddr, aindex, aslice, abuiltin, AV.cells, AV.one, reduceCtorEq, ↓reduceIte, nLT, nLE, nEQ, nAdd, nMul, nPow, nSub, zLT, zLE, zNat, RVau620, hd]
    refine hK _ _ ?_
    clear hK K
    refine awp_cond_k ?_
    intro X Y hX hY
    simp only [↓DN, UP, DF, ashift, aconv, aindexAddr, aindex, aslice, abuiltin, AV.cells, AV.one, reduceCtorEq, ↓reduceIte, nLT, nLE, nEQ, nAdd, nMul, nPow, nSub, zLT, zLE, zNat, RVau620, DB]
    refine hX ?_
    clear hX hY X Y
    refine awp_reg_seq ?_
    intro K hK
    simp only [↓DN, UP, DF, ashift, aconv, aindexAddr, aindex, aslice, abuiltin, AV.cells, AV.one, reduceCtorEq, ↓reduceIte, nLT, nLE, nEQ, nAdd, nMul, nPow, nSub, zLT, zLE, zNat, RVau620]
    refine hK _ _ ?_
    clear hK K
    refine awp_ret ?_
    try simp only [thenQ, blockQ]
    simp only [retQ, AEnds, aresL, ares, List.toList_toArray, ↓upd_same]; try simp only [↓DN, UP, DF, ashift, aconv, aindexAddr, aindex, aslice, abuiltin, AV.cells, AV.one, reduceCtorEq, ↓reduceIte, nLT, nLE, nEQ, nAdd, nMul, nPow, nSub, zLT, zLE, zNat, RVau620, DT]
    exact ⟨_, s, AV.weak_nil, AS.le.refl _, rfl, rfl⟩
  · refine awp_reg_seq ?_
    intro K hK
    simp only [↓DN, UP, DF, ashift, aconv, aindexAddr, aindex, aslice, abuiltin, AV.cells, AV.one, reduceCtorEq, ↓reduceIte, nLT, nLE, nEQ, nAdd, nMul, nPow, nSub, zLT, zLE, zNat, RVau620, hd]
    refine hK _ _ ?_
    clear hK K
    refine awp_cond_k ?_
    intro X Y hX hY
    simp only [↓DN, UP, DF, ashift, aconv, aindexAddr, aindex, aslice, abuiltin, AV.cells, AV.one, reduceCtorEq, ↓reduceIte, nLT, nLE, nEQ, nAdd, nMul, nPow, nSub, zLT, zLE, zNat, RVau620, DB]
    refine hX ?_
    clear hX hY X Y
    refine awp_reg_seq ?_
    intro K hK
    simp only [↓DN, UP, DF, ashift, aconv, aindexAddr, aindex, aslice, abuiltin, AV.cells, AV.one, reduceCtorEq, ↓reduceIte, nLT, nLE, nEQ, nAdd, nMul, nPow, nSub, zLT, zLE, zNat, RVau620]
    refine hK _ _ ?_
    clear hK K
    refine awp_ret ?_
    try simp only [thenQ, blockQ]
    simp only [retQ, AEnds, aresL, ares, List.toList_toArray, ↓upd_same]; try simp only [↓DN, UP, DF, ashift, aconv, aindexAddr, aindex, aslice, abuiltin, AV.cells, AV.one, reduceCtorEq, ↓reduceIte, nLT, nLE, nEQ, nAdd, nMul, nPow, nSub, zLT, zLE, zNat, RVau620, DT]
    exact ⟨_, s, AV.weak_nil, AS.le.refl _, rfl, rfl⟩
  · exact absurd (by simp only [decide_eq_false_iff_not] at hd; unfold ctxOk; omega) h

instance (g : List UInt8) (e : Int) : Decidable (ctxOk g e) := by unfold ctxOk; infer_instance
def ctxL (g : List UInt8) (e : Int) : List UInt8 := if ctxOk g e then Vault.ctx g e.toNat else []
theorem context_calls (g : List UInt8) (e : Int) (s : AS) :
    ACalls Tryd.prog Γ 20 [bytesV g .any, .v (.int .i64 e)] s (fun r s' => r = bytesV (ctxL g e) .any ∧ s' = s) := by
  by_cases h : ctxOk g e
  · rw [ctxL, if_pos h]
    obtain ⟨h1, h2, h3⟩ := h
    obtain ⟨m, rfl⟩ : ∃ m : Nat, e = (m : Int) := ⟨e.toNat, by omega⟩
    exact context_ok g m h1 (by omega) s
  · rw [ctxL, if_neg h]
    exact context_badW g e h s
theorem ctx_inj {g1 g2 : List UInt8} {n1 n2 : Nat} (h1 : n1 ≤ 1048576) (h2 : n2 ≤ 1048576) (h : Vault.ctx g1 n1 = Vault.ctx g2 n2) : g1 = g2 ∧ n1 = n2 := by
  have hl := congrArg List.length h
  rw [ctx_len, ctx_len] at hl
  unfold Vault.ctx at h
  obtain ⟨a, b⟩ := List.append_inj h (by simp; omega)
  obtain ⟨_, c⟩ := List.append_inj a (by simp)
  refine ⟨c, ?_⟩
  have := congrArg beNat b
  rwa [beNat_be 8 n1 (by omega), beNat_be 8 n2 (by omega)] at this
theorem ctx_same {g1 g2 : List UInt8} {e1 e2 : Int} (h : ctxOk g1 e1) : (ctxL g1 e1 = ctxL g2 e2) ↔ (g1 = g2 ∧ e1 = e2) := by
  constructor
  · intro hq
    by_cases h2 : ctxOk g2 e2
    · rw [ctxL, ctxL, if_pos h, if_pos h2] at hq
      obtain ⟨_, a, b⟩ := h
      obtain ⟨_, a2, b2⟩ := h2
      obtain ⟨p, q⟩ := ctx_inj (by omega) (by omega) hq
      exact ⟨p, by omega⟩
    · rw [ctxL, ctxL, if_pos h, if_neg h2] at hq
      have := congrArg List.length hq
      rw [ctx_len] at this
      simp at this
  · rintro ⟨rfl, rfl⟩; rfl

set_option maxHeartbeats 4000000 in
set_option maxRecDepth 100000 in
theorem vaultContexts_calls (hG0 : Γ 0 = stC Sha.H0) (hG : Γ 1 = Sha.K.map wV) (k1 g1 t1 : List UInt8) (e1 : Int) (k2 g2 t2 : List UInt8) (e2 : Int) (n m : Int) (s : AS) :
    ACalls Tryd.prog Γ 6 [.agg (caseC17 k1 g1 t1 e1), .agg (caseC17 k2 g2 t2 e2), .agg [.v (.int .i64 n), .v (.int .i64 m)]] s (fun r s' => r = .v (.bool true)) := by
  refine acalls_body Tryd.func6 rfl Tryd.ntmps6 Tryd.results6 (by simp) ?_
  have hsm1 := fun s => small17_calls (Γ := Γ) k1 g1 t1 e1 s
  have hsm2 := fun s => small17_calls (Γ := Γ) k2 g2 t2 e2 s
  unfold caseC17 at *
  refine awp_reg_frz3 3 4 5 (by simp [dsts]) (by simp [dsts]) (by simp [dsts]) (by decide) (by decide) (by decide) ?_
  intro K hK
  simp only [↓AXq_nil, ↓AXq_cons, pval, DX, Nat.reduceBEq, ↓DN, UP, DF, ashift, aconv, aindexAddr, aindex, aslice, abuiltin, AV.cells, AV.one, reduceCtorEq, ↓reduceIte, nLT, nLE, nEQ, nAdd, nMul, nPow, nSub, zLT, zLE, zNat, RVau66]
  intro o1 ho1 o2 ho2 o3 ho3
  refine hK _ _ o1 o2 o3 _ _ _ (by simp only [upd, Nat.reduceEqDiff, ↓reduceIte]) (by simp only [upd, Nat.reduceEqDiff, ↓reduceIte]) (by simp only [upd, Nat.reduceEqDiff, ↓reduceIte]) ho1 (by rw [AS.set_objs_eq]; exact ho2) (by rw [AS.set_objs_eq, AS.set_objs_eq]; exact ho3) ?_
  clear hK K ho1 ho2 ho3
  refine awp_seq_k ?_
  intro K hK
  refine awp_reg_seq ?_
  intro K hK
  simp only [↓DN, UP, DF, ashift, aconv, aindexAddr, aindex, aslice, abuiltin, AV.cells, AV.one, reduceCtorEq, ↓reduceIte, nLT, nLE, nEQ, nAdd, nMul, nPow, nSub, zLT, zLE, zNat, RVau66]
  refine acallk (awake17_calls hG0 hG _) ?_
  rintro r s1 ⟨rfl, rfl⟩
  simp only [↓AXq_nil, ↓AXq_cons, pval, DX, Nat.reduceBEq, ↓DN, UP, DF, ashift, aconv, aindexAddr, aindex, aslice, abuiltin, AV.cells, AV.one, reduceCtorEq, ↓reduceIte, nLT, nLE, nEQ, nAdd, nMul, nPow, nSub, zLT, zLE, zNat, RVau66]
  refine acallk (hsm1 _) ?_
  rintro r s2 ⟨v, rfl, rfl, hv⟩
  cases v with
  | false =>
    simp only [↓AXq_nil, ↓AXq_cons, pval, DX, Nat.reduceBEq, ↓DN, UP, DF, ashift, aconv, aindexAddr, aindex, aslice, abuiltin, AV.cells, AV.one, reduceCtorEq, ↓reduceIte, nLT, nLE, nEQ, nAdd, nMul, nPow, nSub, zLT, zLE, zNat, RVau66]
    refine hK _ _ ?_
    clear hK K
    refine awp_cond_k ?_
    intro X Y hX hY
    simp only [↓DN, UP, DF, ashift, aconv, aindexAddr, aindex, aslice, abuiltin, AV.cells, AV.one, reduceCtorEq, ↓reduceIte, nLT, nLE, nEQ, nAdd, nMul, nPow, nSub, zLT, zLE, zNat, RVau66, DB]
    refine hX ?_
    clear hX hY X Y
    refine awp_reg_seq ?_
    intro K hK
    simp only [↓DN, UP, DF, ashift, aconv, aindexAddr, aindex, aslice, abuiltin, AV.cells, AV.one, reduceCtorEq, ↓reduceIte, nLT, nLE, nEQ, nAdd, nMul, nPow, nSub, zLT, zLE, zNat, RVau66]
    refine acallk (awake17_calls hG0 hG _) ?_
    rintro r s3 ⟨rfl, rfl⟩
    simp only [↓AXq_nil, ↓AXq_cons, pval, DX, Nat.reduceBEq, ↓DN, UP, DF, ashift, aconv, aindexAddr, aindex, aslice, abuiltin, AV.cells, AV.one, reduceCtorEq, ↓reduceIte, nLT, nLE, nEQ, nAdd, nMul, nPow, nSub, zLT, zLE, zNat, RVau66]
    refine hK _ _ ?_
    clear hK K
    refine awp_ret ?_
    try simp only [thenQ, blockQ]
    simp only [retQ, AEnds, aresL, ares, List.toList_toArray, ↓upd_same]; try simp only [↓DN, UP, DF, ashift, aconv, aindexAddr, aindex, aslice, abuiltin, AV.cells, AV.one, reduceCtorEq, ↓reduceIte, nLT, nLE, nEQ, nAdd, nMul, nPow, nSub, zLT, zLE, zNat, RVau66, DT]
    exact ⟨_, _, AV.weak.refl _, AS.le.refl _, rfl⟩
  | true =>
    simp only [↓AXq_nil, ↓AXq_cons, pval, DX, Nat.reduceBEq, ↓DN, UP, DF, ashift, aconv, aindexAddr, aindex, aslice, abuiltin, AV.cells, AV.one, reduceCtorEq, ↓reduceIte, nLT, nLE, nEQ, nAdd, nMul, nPow, nSub, zLT, zLE, zNat, RVau66]
    refine acallk (hsm2 _) ?_
    rintro r s3 ⟨v, rfl, rfl, hv2⟩
    cases v with
    | false =>
      simp only [↓AXq_nil, ↓AXq_cons, pval, DX, Nat.reduceBEq, ↓DN, UP, DF, ashift, aconv, aindexAddr, aindex, aslice, abuiltin, AV.cells, AV.one, reduceCtorEq, ↓reduceIte, nLT, nLE, nEQ, nAdd, nMul, nPow, nSub, zLT, zLE, zNat, RVau66]
      refine hK _ _ ?_
      clear hK K
      refine awp_cond_k ?_
      intro X Y hX hY
      simp only [↓DN, UP, DF, ashift, aconv, aindexAddr, aindex, aslice, abuiltin, AV.cells, AV.one, reduceCtorEq, ↓reduceIte, nLT, nLE, nEQ, nAdd, nMul, nPow, nSub, zLT, zLE, zNat, RVau66, DB]
      refine hX ?_
      clear hX hY X Y
      refine awp_reg_seq ?_
      intro K hK
      simp only [↓DN, UP, DF, ashift, aconv, aindexAddr, aindex, aslice, abuiltin, AV.cells, AV.one, reduceCtorEq, ↓reduceIte, nLT, nLE, nEQ, nAdd, nMul, nPow, nSub, zLT, zLE, zNat, RVau66]
      refine acallk (awake17_calls hG0 hG _) ?_
      rintro r s3 ⟨rfl, rfl⟩
      simp only [↓AXq_nil, ↓AXq_cons, pval, DX, Nat.reduceBEq, ↓DN, UP, DF, ashift, aconv, aindexAddr, aindex, aslice, abuiltin, AV.cells, AV.one, reduceCtorEq, ↓reduceIte, nLT, nLE, nEQ, nAdd, nMul, nPow, nSub, zLT, zLE, zNat, RVau66]
      refine hK _ _ ?_
      clear hK K
      refine awp_ret ?_
      try simp only [thenQ, blockQ]
      simp only [retQ, AEnds, aresL, ares, List.toList_toArray, ↓upd_same]; try simp only [↓DN, UP, DF, ashift, aconv, aindexAddr, aindex, aslice, abuiltin, AV.cells, AV.one, reduceCtorEq, ↓reduceIte, nLT, nLE, nEQ, nAdd, nMul, nPow, nSub, zLT, zLE, zNat, RVau66, DT]
      exact ⟨_, _, AV.weak.refl _, AS.le.refl _, rfl⟩
    | true =>
      simp only [↓AXq_nil, ↓AXq_cons, pval, DX, Nat.reduceBEq, ↓DN, UP, DF, ashift, aconv, aindexAddr, aindex, aslice, abuiltin, AV.cells, AV.one, reduceCtorEq, ↓reduceIte, nLT, nLE, nEQ, nAdd, nMul, nPow, nSub, zLT, zLE, zNat, RVau66]
      refine hK _ _ ?_
      clear hK K
      refine awp_cond_k ?_
      intro X Y hX hY
      simp only [↓DN, UP, DF, ashift, aconv, aindexAddr, aindex, aslice, abuiltin, AV.cells, AV.one, reduceCtorEq, ↓reduceIte, nLT, nLE, nEQ, nAdd, nMul, nPow, nSub, zLT, zLE, zNat, RVau66, DB]
      refine hY ?_
      clear hX hY X Y
      refine awp_skip ?_
      refine hK _ _ ?_
      clear hK K
      refine awp_drw_seq T.mixed [4, 9] (by kernel_rfl) ?_
      intro K hK
      simp only [↓AXq_nil, ↓AXq_cons, pval, DX, Nat.reduceBEq, ↓DN, UP, DF, ashift, aconv, aindexAddr, aindex, aslice, abuiltin, AV.cells, AV.one, reduceCtorEq, ↓reduceIte, nLT, nLE, nEQ, nAdd, nMul, nPow, nSub, zLT, zLE, zNat, RVau66]
      refine acallk (context_calls g1 e1 _) ?_
      rintro r s4 ⟨rfl, rfl⟩
      simp only [↓AXq_nil, ↓AXq_cons, pval, DX, Nat.reduceBEq, ↓DN, UP, DF, ashift, aconv, aindexAddr, aindex, aslice, abuiltin, AV.cells, AV.one, reduceCtorEq, ↓reduceIte, nLT, nLE, nEQ, nAdd, nMul, nPow, nSub, zLT, zLE, zNat, RVau66]
      refine acallk (context_calls g2 e2 _) ?_
      rintro r s5 ⟨rfl, rfl⟩
      simp only [↓AXq_nil, ↓AXq_cons, pval, DX, Nat.reduceBEq, ↓DN, UP, DF, ashift, aconv, aindexAddr, aindex, aslice, abuiltin, AV.cells, AV.one, reduceCtorEq, ↓reduceIte, nLT, nLE, nEQ, nAdd, nMul, nPow, nSub, zLT, zLE, zNat, RVau66]
      refine hK _ _ ?_
      clear hK K
      have hB1 := fun s => bucket_calls (Γ := Γ) n m s
      have hB2 := fun s => refBucket_calls (Γ := Γ) n m s
      generalize (if n < 0 then (0 : Int) else if m < 1 then n else iquo .i64 n m) = q at *
      have hI := fun s => refIs17_calls (Γ := Γ) g1 e1 s
      have hC := fun (hx : ctxOk g1 e1) s => refContext17_calls (Γ := Γ) g1 e1.toNat hx.1 (by have := hx.2.2; omega) s
      have hsame := fun (hx : ctxOk g1 e1) => ctx_same (g2 := g2) (e2 := e2) hx
      have hL0 : ctxOk g1 e1 → ctxL g1 e1 = Vault.ctx g1 e1.toNat := fun hx => by rw [ctxL, if_pos hx]
      have hL1 : ¬ ctxOk g1 e1 → ctxL g1 e1 = [] := fun hx => by rw [ctxL, if_neg hx]
      generalize ctxL g1 e1 = c1 at *
      generalize ctxL g2 e2 = c2 at *
      refine awp_seq_k ?_
      intro K hK
      refine awp_reg_seq ?_
      intro K hK
      simp only [↓DN, UP, DF, ashift, aconv, aindexAddr, aindex, aslice, abuiltin, AV.cells, AV.one, reduceCtorEq, ↓reduceIte, nLT, nLE, nEQ, nAdd, nMul, nPow, nSub, zLT, zLE, zNat, RVau66]
      refine acallk (hI _) ?_
      rintro r s6 ⟨⟨b, rfl, hb⟩, rfl⟩
      cases b with
      | false =>
        obtain rfl : c1 = [] := hL1 (fun h => by have := hb.2 h; cases this)
        simp only [↓AXq_nil, ↓AXq_cons, pval, DX, Nat.reduceBEq, ↓DN, UP, DF, ashift, aconv, aindexAddr, aindex, aslice, abuiltin, AV.cells, AV.one, reduceCtorEq, ↓reduceIte, nLT, nLE, nEQ, nAdd, nMul, nPow, nSub, zLT, zLE, zNat, RVau66]
        refine hK _ _ ?_
        clear hK K
        refine awp_cond_k ?_
        intro X Y hX hY
        simp only [↓DN, UP, DF, ashift, aconv, aindexAddr, aindex, aslice, abuiltin, AV.cells, AV.one, reduceCtorEq, ↓reduceIte, nLT, nLE, nEQ, nAdd, nMul, nPow, nSub, zLT, zLE, zNat, RVau66, DB]
        refine hX ?_
        clear hX hY X Y
        refine awp_drw_seq T.mixed [8, 13] (by kernel_rfl) ?_
        intro K hK
        simp only [↓AXq_nil, ↓AXq_cons, pval, DX, Nat.reduceBEq, ↓DN, UP, DF, ashift, aconv, aindexAddr, aindex, aslice, abuiltin, AV.cells, AV.one, reduceCtorEq, ↓reduceIte, nLT, nLE, nEQ, nAdd, nMul, nPow, nSub, zLT, zLE, zNat, RVau66, List.length_nil, show (((0 : Nat) : Int) == 0) = true from rfl]
        refine acallk (hB1 _) ?_
        rintro r s7 ⟨rfl, rfl⟩
        simp only [↓AXq_nil, ↓AXq_cons, pval, DX, Nat.reduceBEq, ↓DN, UP, DF, ashift, aconv, aindexAddr, aindex, aslice, abuiltin, AV.cells, AV.one, reduceCtorEq, ↓reduceIte, nLT, nLE, nEQ, nAdd, nMul, nPow, nSub, zLT, zLE, zNat, RVau66]
        refine acallk (hB2 _) ?_
        rintro r s8 ⟨rfl, rfl⟩
        simp only [↓AXq_nil, ↓AXq_cons, pval, DX, Nat.reduceBEq, ↓DN, UP, DF, ashift, aconv, aindexAddr, aindex, aslice, abuiltin, AV.cells, AV.one, reduceCtorEq, ↓reduceIte, nLT, nLE, nEQ, nAdd, nMul, nPow, nSub, zLT, zLE, zNat, RVau66, show (q == q) = true from by simp]
        refine hK _ _ ?_
        clear hK K
        refine awp_ret ?_
        try simp only [thenQ, blockQ]
        simp only [retQ, AEnds, aresL, ares, List.toList_toArray, ↓upd_same]; try simp only [↓DN, UP, DF, ashift, aconv, aindexAddr, aindex, aslice, abuiltin, AV.cells, AV.one, reduceCtorEq, ↓reduceIte, nLT, nLE, nEQ, nAdd, nMul, nPow, nSub, zLT, zLE, zNat, RVau66, DT]
        exact ⟨_, _, AV.weak.refl _, AS.le.refl _, rfl⟩
      | true =>
        have hx := hb.1 rfl
        obtain rfl := hL0 hx
        have hsm := hsame hx
        have hC := hC hx
        have he : ((e1.toNat : Nat) : Int) = e1 := by have := hx.2.1; omega
        rw [he] at hC
        generalize Vault.ctx g1 e1.toNat = c1 at *
        simp only [↓AXq_nil, ↓AXq_cons, pval, DX, Nat.reduceBEq, ↓DN, UP, DF, ashift, aconv, aindexAddr, aindex, aslice, abuiltin, AV.cells, AV.one, reduceCtorEq, ↓reduceIte, nLT, nLE, nEQ, nAdd, nMul, nPow, nSub, zLT, zLE, zNat, RVau66]
        refine hK _ _ ?_
        clear hK K
        refine awp_cond_k ?_
        intro X Y hX hY
        simp only [↓DN, UP, DF, ashift, aconv, aindexAddr, aindex, aslice, abuiltin, AV.cells, AV.one, reduceCtorEq, ↓reduceIte, nLT, nLE, nEQ, nAdd, nMul, nPow, nSub, zLT, zLE, zNat, RVau66, DB]
        refine hY ?_
        clear hX hY X Y
        refine awp_skip ?_
        refine hK _ _ ?_
        clear hK K
        refine awp_seq_k ?_
        intro K hK
        refine awp_drw_seq T.mixed [7, 14, 19] (by kernel_rfl) ?_
        intro K hK
        simp only [↓AXq_nil, ↓AXq_cons, pval, DX, Nat.reduceBEq, ↓DN, UP, DF, ashift, aconv, aindexAddr, aindex, aslice, abuiltin, AV.cells, AV.one, reduceCtorEq, ↓reduceIte, nLT, nLE, nEQ, nAdd, nMul, nPow, nSub, zLT, zLE, zNat, RVau66]
        refine acallk (hC _) ?_
        rintro r s7 ⟨rfl, rfl⟩
        simp only [↓AXq_nil, ↓AXq_cons, pval, DX, Nat.reduceBEq, ↓DN, UP, DF, ashift, aconv, aindexAddr, aindex, aslice, abuiltin, AV.cells, AV.one, reduceCtorEq, ↓reduceIte, nLT, nLE, nEQ, nAdd, nMul, nPow, nSub, zLT, zLE, zNat, RVau66]
        refine acallk (hB1 _) ?_
        rintro r s8 ⟨rfl, rfl⟩
        simp only [↓AXq_nil, ↓AXq_cons, pval, DX, Nat.reduceBEq, ↓DN, UP, DF, ashift, aconv, aindexAddr, aindex, aslice, abuiltin, AV.cells, AV.one, reduceCtorEq, ↓reduceIte, nLT, nLE, nEQ, nAdd, nMul, nPow, nSub, zLT, zLE, zNat, RVau66]
        refine acallk (hB2 _) ?_
        rintro r s9 ⟨rfl, rfl⟩
        simp only [↓AXq_nil, ↓AXq_cons, pval, DX, Nat.reduceBEq, ↓DN, UP, DF, ashift, aconv, aindexAddr, aindex, aslice, abuiltin, AV.cells, AV.one, reduceCtorEq, ↓reduceIte, nLT, nLE, nEQ, nAdd, nMul, nPow, nSub, zLT, zLE, zNat, RVau66, show (q != q) = false from by simp]
        refine hK _ _ ?_
        clear hK K
        refine awp_cond_k ?_
        intro X Y hX hY
        simp only [↓DN, UP, DF, ashift, aconv, aindexAddr, aindex, aslice, abuiltin, AV.cells, AV.one, reduceCtorEq, ↓reduceIte, nLT, nLE, nEQ, nAdd, nMul, nPow, nSub, zLT, zLE, zNat, RVau66, DB]
        refine hY ?_
        clear hX hY X Y
        refine awp_skip ?_
        refine hK _ _ ?_
        clear hK K
        by_cases hg : g1 = g2
        · by_cases hee : e1 = e2
          · refine awp_reg_seq ?_
            intro K hK
            simp only [↓DN, UP, DF, ashift, aconv, aindexAddr, aindex, aslice, abuiltin, AV.cells, AV.one, reduceCtorEq, ↓reduceIte, nLT, nLE, nEQ, nAdd, nMul, nPow, nSub, zLT, zLE, zNat, RVau66, show (c1 == c2) = true from by simpa using hsm.2 ⟨hg, hee⟩, show (g1 == g2) = true from by simpa using hg, show (e1 == e2) = true from by simpa using hee]
            refine hK _ _ ?_
            clear hK K
            refine awp_ret ?_
            simp only [retQ, AEnds, aresL, ares, List.toList_toArray, ↓upd_same]; try simp only [↓DN, UP, DF, ashift, aconv, aindexAddr, aindex, aslice, abuiltin, AV.cells, AV.one, reduceCtorEq, ↓reduceIte, nLT, nLE, nEQ, nAdd, nMul, nPow, nSub, zLT, zLE, zNat, RVau66, DT]
            exact ⟨_, _, AV.weak.refl _, AS.le.refl _, rfl⟩
          · refine awp_reg_seq ?_
            intro K hK
            simp only [↓DN, UP, DF, ashift, aconv, aindexAddr, aindex, aslice, abuiltin, AV.cells, AV.one, reduceCtorEq, ↓reduceIte, nLT, nLE, nEQ, nAdd, nMul, nPow, nSub, zLT, zLE, zNat, RVau66, show (c1 == c2) = false from by simpa using fun h => hee (hsm.1 h).2, show (g1 == g2) = true from by simpa using hg, show (e1 == e2) = false from by simpa using hee]
            refine hK _ _ ?_
            clear hK K
            refine awp_ret ?_
            simp only [retQ, AEnds, aresL, ares, List.toList_toArray, ↓upd_same]; try simp only [↓DN, UP, DF, ashift, aconv, aindexAddr, aindex, aslice, abuiltin, AV.cells, AV.one, reduceCtorEq, ↓reduceIte, nLT, nLE, nEQ, nAdd, nMul, nPow, nSub, zLT, zLE, zNat, RVau66, DT]
            exact ⟨_, _, AV.weak.refl _, AS.le.refl _, rfl⟩
        · refine awp_reg_seq ?_
          intro K hK
          simp only [↓DN, UP, DF, ashift, aconv, aindexAddr, aindex, aslice, abuiltin, AV.cells, AV.one, reduceCtorEq, ↓reduceIte, nLT, nLE, nEQ, nAdd, nMul, nPow, nSub, zLT, zLE, zNat, RVau66, show (c1 == c2) = false from by simpa using fun h => hg (hsm.1 h).1, show (g1 == g2) = false from by simpa using hg]
          refine hK _ _ ?_
          clear hK K
          refine awp_ret ?_
          simp only [retQ, AEnds, aresL, ares, List.toList_toArray, ↓upd_same]; try simp only [↓DN, UP, DF, ashift, aconv, aindexAddr, aindex, aslice, abuiltin, AV.cells, AV.one, reduceCtorEq, ↓reduceIte, nLT, nLE, nEQ, nAdd, nMul, nPow, nSub, zLT, zLE, zNat, RVau66, DT]
          exact ⟨_, _, AV.weak.refl _, AS.le.refl _, rfl⟩

end Go.Proofs.YtooeklnbdgoneaaDoor


set_option autoImplicit false
namespace Go.Proofs.YtooeklnbdgoneaaDoor
open Go Go.AM Go.Proofs



/-- The given tables, as words. -/
def Γd (g : Nat) : List AV := if g = 0 then [wV Sha.H0.a, wV Sha.H0.b, wV Sha.H0.c, wV Sha.H0.d, wV Sha.H0.e, wV Sha.H0.f, wV Sha.H0.g, wV Sha.H0.h] else if g = 1 then Sha.K.map wV else []
abbrev laidD : List (String × DataW Unit) := [("engrosser/sha.rounds", Rows.laid_engrosser_sha_rounds), ("engrosser/sha.start", Rows.laid_engrosser_sha_start)]

theorem ints_of_trod {H : Type} {enc : TypeId × Value → H} {P : Program} {W : World} {base : Nat} {sp : Nat → Bool} {held : Bool} {fuel : Nat} {t e : TypeId} {n : Nat} {cs : List Value} {p : List MemPlace} {l : List Nat}
    (hT : P.underlying t = some (.array n e)) (he : P.underlying e = some (.int .u32)) (hc : P.cellsOf e = 1)
    (h : DataW.trod enc P W base sp held fuel t cs = some (.agg (l.map fun (x : Nat) => .lit (.int .u32 (x : Int))), p)) : ∀ (i x : Nat), l[i]? = some x → cs[i]? = some (.int .u32 (x : Int)) := by
  obtain ⟨xs, m, rfl, hx, hlen, hn, hel⟩ := DataW.trod_array hT h
  simp only [Prod.mk.injEq, DataW.agg.injEq] at hx
  intro i x hi
  have h1 : (l.map fun (x : Nat) => DataW.lit (H := H) (.int .u32 (x : Int)))[i]? = some (.lit (.int .u32 (x : Int))) := by rw [List.getElem?_map, hi]; rfl
  rw [hx.1, List.getElem?_map] at h1
  cases hy : xs[i]? with
  | none => rw [hy] at h1; cases h1
  | some y =>
    rw [hy] at h1
    simp only [Option.map_some, Option.some.injEq] at h1
    have hlt := (List.getElem?_eq_some_iff.1 hy).1
    have h2 := hel i (by omega)
    rw [hy, hc, Nat.mul_one] at h2
    obtain ⟨k, e1, e2, _⟩ := DataW.trod_int he h2
    rw [e2] at h1
    simp only [DataW.lit.injEq, Lit.int.injEq, true_and] at h1
    have h3 : (List.take 1 (List.drop i cs))[0]? = some (.int .u32 k) := by rw [e1]; rfl
    rw [List.getElem?_take, if_pos (by decide), List.getElem?_drop, Nat.add_zero, h1] at h3
    exact h3

theorem gRounds : Tryd.prog.globalNamed "engrosser/sha.rounds" = some 1 := by kernel_rfl
theorem gStart : Tryd.prog.globalNamed "engrosser/sha.start" = some 0 := by kernel_rfl
theorem tRounds : (Tryd.prog.globals[1]?).map (·.type) = some 133 := by kernel_rfl
theorem tStart : (Tryd.prog.globals[0]?).map (·.type) = some 114 := by kernel_rfl

theorem words_at {W : World} {g : Nat} {cs : Array Value} {l : List Nat} (hc : ∀ i, W.cell? ⟨g, i, none⟩ = cs[i]?) (h : ∀ (i x : Nat), l[i]? = some x → cs.toList[i]? = some (.int .u32 (x : Int))) :
    ∃ vs, VRels (G0 W) (l.map wV) vs ∧ RoAt (G0 W) g 0 vs := by
  refine ⟨l.map fun (x : Nat) => .int .u32 (x : Int), ?_, ?_⟩
  · have := VRels.vals (G := G0 W) (l.map fun (x : Nat) => Value.int .u32 (x : Int))
    rwa [List.map_map] at this
  · intro j u hu
    rw [List.getElem?_map] at hu
    cases hj : l[j]? with
    | none => rw [hj] at hu; cases hu
    | some x =>
      rw [hj] at hu
      simp only [Option.map_some, Option.some.injEq] at hu
      have := h j x hj
      show W.cell? ⟨g, 0 + j, none⟩ = some u
      rw [Nat.zero_add, hc j, ← hu]
      simpa using this

/-- What the condition gives the walks: the two tables' cells. -/
theorem of_laid {W : World} (h : laidMetH Tryd.prog laidD W) : ∀ g, ∃ vs, VRels (G0 W) (Γd g) vs ∧ RoAt (G0 W) g 0 vs := by
  rw [MakeChecks.laidMetH_plain _ _ _ (by kernel_rfl)] at h
  obtain ⟨ps, ⟨g0, t0, cs0, f0, p0, q0, hg0, ht0, hv0, hd0, ⟨g1, t1, cs1, f1, p1, q1, hg1, ht1, hv1, hd1, _, _⟩, _⟩, _, _⟩ := h
  obtain rfl := Option.some.inj (gRounds.symm.trans hg0)
  obtain rfl := Option.some.inj (gStart.symm.trans hg1)
  obtain rfl := Option.some.inj (tRounds.symm.trans ht0)
  obtain rfl := Option.some.inj (tStart.symm.trans ht1)
  have h1 := words_at (World.var?_cell hg0 hv0) (ints_of_trod (l := Sha.K) Tryd.underlying133 Tryd.underlying81 T.c81 hd0)
  have h0 := words_at (World.var?_cell hg1 hv1) (ints_of_trod (l := Sha.H0.list) Tryd.underlying114 Tryd.underlying81 T.c81 hd1)
  intro g
  by_cases e0 : g = 0
  · subst e0; exact h0
  · by_cases e1 : g = 1
    · subst e1; exact h1
    · refine ⟨[], ?_, fun j u h => by simp at h⟩
      simp [Γd, e0, e1, VRels]

/-- The door's own heap meets the condition. -/
theorem door_met (os : Os) (args : Array Value) : laidMetH Tryd.prog laidD ((World.doorLaid Tryd.prog 400 os).forCall (fun _ _ => 0) ⟨#[], args, []⟩).memory := by
  rw [MakeChecks.laidMetH_plain _ _ _ (by kernel_rfl)]
  exact laidMet_of_run' 8 (by kernel_rfl) (by kernel_rfl)

end Go.Proofs.YtooeklnbdgoneaaDoor


