/- Contracts of the program's functions, each walked once; the conditions stand in each theorem. -/
import Derived.Test.YtpakgjmcaefnmaaRows
import Derived.Test.YtpakgjmcaefnmaaNode11
import Derived.Test.YtpakgjmcaefnmaaAMp4
import Derived.WalkKit
import Derived.ProofKit
import Derived.OpenShut
import Derived.ShutString
import Derived.ChangeOld
import Derived.Below
set_option linter.unusedSimpArgs false
set_option linter.unusedVariables false
namespace Go.Proofs.Ytpakgjmcaefnmaa.nodeSames
open Go.ChangeShapes Go.WideShapes Go.ChangeAt Go.RowKit
open Go.ChangeMaps (open_string shut_string)
set_option linter.unusedVariables false

theorem own : ownKnob Try.prog.godebug = none := by kernel_rfl
theorem laidOut : laidOutB Try.prog = true := by kernel_rfl

abbrev ty89 : Go.AM.Ty := (.struct (.cons (.int .i64) (.cons (.slice 1 (.int .u8)) (.cons (.int .u64) (.cons (.slice 1 (.int .u8)) (.cons (.slice 1 (.int .i64)) .nil))))))
theorem tyOf89 : Go.AM.TyOf Try.prog ty89 89 := by
  simp only [ty89, Go.AM.TyOf, Go.AM.FsOf]
  exact ⟨_, Try.underlying89, ⟨_, _, rfl, by simp [T.c22, T.c3, T.c37, T.c87, T.c89], Try.underlying3, ⟨_, _, rfl, by simp [T.c22, T.c3, T.c37, T.c87, T.c89], ⟨5, Try.underlying22, T.c5, by decide, Try.underlying5⟩, ⟨_, _, rfl, by simp [T.c22, T.c3, T.c37, T.c87, T.c89], Try.underlying37, ⟨_, _, rfl, by simp [T.c22, T.c3, T.c37, T.c87, T.c89], ⟨5, Try.underlying22, T.c5, by decide, Try.underlying5⟩, ⟨_, _, rfl, by simp [T.c22, T.c3, T.c37, T.c87, T.c89], ⟨3, Try.underlying87, T.c3, by decide, Try.underlying3⟩, ⟨rfl, by simp [T.c22, T.c3, T.c37, T.c87, T.c89]⟩⟩⟩⟩⟩⟩⟩

/-- The walk: the Go text returns true, and nothing that was there is written. -/
theorem walk (w : World) (v0 : Value) (x0 : List Go.AM.AV) (r0 : Go.AM.VRels (Go.AM.G0 w) x0 v0.cells.toList) (t0 : Go.AM.IsTy ty89 x0) (o0 : ∃ cs, v0 = .agg cs) (v1 : Value) (x1 : List Go.AM.AV) (r1 : Go.AM.VRels (Go.AM.G0 w) x1 v1.cells.toList) (t1 : Go.AM.IsTy ty89 x1) (o1 : ∃ cs, v1 = .agg cs) :
    Calls Try.prog 12 #[v0, v1] w fun e w' => e = .returned (.bool true) ∧ Below w.heap.size w w' := by
  obtain ⟨N, rfl, _⟩ := Go.AM.IsTy.node t0
  obtain ⟨M, rfl, _⟩ := Go.AM.IsTy.node t1
  have e0 := Go.AM.vrel_agg o0 r0
  have e1 := Go.AM.vrel_agg o1 r1
  exact (nodeSames_calls (Γ := Go.AM.Γ0) N M Go.AM.s0).start (vs := [v0, v1]) (Go.AM.VRels.cons e0 (Go.AM.VRels.cons e1 Go.AM.VRels.none)) (Go.AM.glob0 w) (fun r s' h => h)

set_option maxRecDepth 100000 in
theorem lifted (os : Os) (started : os.Started) (H : Type) (enc : TypeId × Value → H) :
    ReturnsInHanded {} Try.checked os 12 .any (Rows.nodeSamesSpec.pre6 enc Try.prog Try.f12 Rows.nodeSamesRow.domain false) (Rows.nodeSamesSpec.post enc Try.prog Try.f12 false true false false) := by
  refine returnsInHanded_of_change (C := Try.checked) own started (by kernel_rfl) Try.func12
    (ChangeSpec.witness6 (enc := enc) (C := Try.checked) false ⟨#[], #[.agg #[.int .i64 0, .slice none 0 0, .int .u64 0, .slice none 0 0, .slice none 0 0], .agg #[.int .i64 0, .slice none 0 0, .int .u64 0, .slice none 0 0, .slice none 0 0]], []⟩ 12 (by kernel_rfl) (by kernel_rfl) (by kernel_rfl) (by kernel_rfl)) ?_
  intro W base args ds gs before hval0 hW hcnd _
  have hval : ∀ (j : Nat) t v, Try.f12.params[j]? = some t → args[j]? = some v → Value.okWide Try.prog W .any base t v := hval0
  have hW' := hW
  obtain ⟨p, q, hA0, hV, rfl, hfz, hnd⟩ := hW
  have hA : DataW.TrodAll enc Try.prog W 0 (fun _ => true) true Try.f12.params.toList args.toList ds p := hA0
  rw [Try.params12] at hA hval
  obtain ⟨v0, vs0, d0, ds0, p0, q0, hargs, rfl, rfl, h0, rr0⟩ := trodAll_cons hA
  obtain ⟨v1, vs1, d1, ds1, p1, q1, rfl, rfl, rfl, h1, rr1⟩ := trodAll_cons rr0
  obtain ⟨rfl, rfl, rfl⟩ := trodAll_nil rr1
  obtain rfl : args = #[v0, v1] := by cases args; simp_all
  obtain ⟨rfl, rfl⟩ := trodVars_none hV
  have o0 : ∃ cs, v0 = .agg cs := by
    have h := hval 0 89 v0 rfl rfl
    unfold Value.okWide at h
    rw [Try.underlying89] at h
    obtain ⟨cs, h, _⟩ := h
    exact ⟨cs, h⟩
  have lt0 : ∀ x ∈ p0, x.block < W.heap.size := by obtain ⟨m, hm⟩ := h0; exact DataW.trod_lt m _ _ _ hm
  obtain ⟨x0, r0, t0⟩ : ∃ x, Go.AM.VRels (Go.AM.G0 W) x v0.cells.toList ∧ Go.AM.IsTy ty89 x := by obtain ⟨m, hm⟩ := h0; exact Go.AM.open_ty ty89 tyOf89 hm
  have o1 : ∃ cs, v1 = .agg cs := by
    have h := hval 1 89 v1 rfl rfl
    unfold Value.okWide at h
    rw [Try.underlying89] at h
    obtain ⟨cs, h, _⟩ := h
    exact ⟨cs, h⟩
  have lt1 : ∀ x ∈ p1, x.block < W.heap.size := by obtain ⟨m, hm⟩ := h1; exact DataW.trod_lt m _ _ _ hm
  obtain ⟨x1, r1, t1⟩ : ∃ x, Go.AM.VRels (Go.AM.G0 W) x v1.cells.toList ∧ Go.AM.IsTy ty89 x := by obtain ⟨m, hm⟩ := h1; exact Go.AM.open_ty ty89 tyOf89 hm
  clear hA0 hval0
  refine (walk W v0 x0 r0 t0 o0 v1 x1 r1 t1 o1).mono fun e W' ⟨he, bel⟩ => ?_
  subst he
  exact ⟨_, rfl, _, _, _, [], _, [], hW', trodAll_mk1 (shut_bool Try.underlying4 _), (trodAll_cons_mk (Below.trod laidOut (by kernel_rfl) (of_decide_eq_true (by kernel_rfl)) h0 bel lt0) (trodAll_cons_mk (Below.trod laidOut (by kernel_rfl) (of_decide_eq_true (by kernel_rfl)) h1 bel lt1) trodAll_mk0)), rfl, bel.frame _, fun h => by cases h⟩

theorem over : Rows.nodeSamesRow.holds Try.pinned (OpenSpec.ofChange Rows.nodeSamesSpec) :=
  OpenClaim.holds_of_wide 12 Try.f12 rfl rfl rfl rfl rfl rfl rfl ⟨rfl, rfl, rfl, rfl, rfl⟩ rfl rfl rfl rfl rfl (by kernel_rfl) Try.func12 (by kernel_rfl)
    (of_decide_eq_true (by kernel_rfl)) (by unfold Func.isWrapper; first | (rw [if_pos (by decide +kernel)]; kernel_rfl) | (rw [if_neg (by decide +kernel)]; exact ⟨rfl, rfl⟩))
    (fun os started H enc _ => lifted os started H enc)

/-- The statement. -/
theorem proved : Rows.NodeSamesSaid := over
#print axioms proved
end Go.Proofs.Ytpakgjmcaefnmaa.nodeSames

