/- Contracts of the program's functions, each walked once; the conditions stand in each theorem. -/
import Derived.Test.YtcnilmidfhpckaaRows
import Derived.Test.YtcnilmidfhpckaaW9
import Derived.Test.YtcnilmidfhpckaaAMp4
import Derived.WalkKit
import Derived.ProofKit
import Derived.OpenShut
import Derived.ShutString
import Derived.ChangeOld
import Derived.Below
set_option linter.unusedSimpArgs false
set_option linter.unusedVariables false
namespace Go.Proofs.Ytcnilmidfhpckaa.messageWrites
open Go.ChangeShapes Go.WideShapes Go.ChangeAt Go.RowKit
open Go.ChangeMaps (open_string shut_string)
set_option linter.unusedVariables false

theorem own : ownKnob Try.prog.godebug = none := by kernel_rfl
theorem laidOut : laidOutB Try.prog = true := by kernel_rfl

abbrev ty47 : Go.AM.Ty := (.struct (.cons (.slice 1 (.int .u8)) (.cons (.int .i64) (.cons (.int .i64) (.cons (.slice 5 (.struct (.cons (.int .i64) (.cons (.int .i64) (.cons (.slice 1 (.int .u8)) (.cons (.int .u64) (.cons (.int .u64) .nil))))))) (.cons .bool (.cons (.struct (.cons (.int .u64) (.cons (.slice 1 (.int .u8)) (.cons (.slice 2 (.struct (.cons (.int .u64) (.cons (.slice 2 (.struct (.cons (.int .u64) (.cons (.slice 1 (.int .u8)) .nil)))) .nil)))) .nil)))) (.cons (.slice 1 (.int .u8)) (.cons (.slice 1 (.int .u8)) .nil)))))))))
theorem tyOf47 : Go.AM.TyOf Try.prog ty47 47 := by
  simp only [ty47, Go.AM.TyOf, Go.AM.FsOf]
  exact ⟨_, Try.underlying47, ⟨_, _, rfl, by simp [T.c28, T.c3, T.c4, T.c41, T.c45, T.c47], ⟨5, Try.underlying28, T.c5, by decide, Try.underlying5⟩, ⟨_, _, rfl, by simp [T.c28, T.c3, T.c4, T.c41, T.c45, T.c47], Try.underlying3, ⟨_, _, rfl, by simp [T.c28, T.c3, T.c4, T.c41, T.c45, T.c47], Try.underlying3, ⟨_, _, rfl, by simp [T.c28, T.c3, T.c4, T.c41, T.c45, T.c47], ⟨80, Try.underlying41, T.c80, by decide, ⟨_, Try.underlying80, ⟨_, _, rfl, by simp [T.c28, T.c3, T.c42, T.c80], Try.underlying3, ⟨_, _, rfl, by simp [T.c28, T.c3, T.c42, T.c80], Try.underlying3, ⟨_, _, rfl, by simp [T.c28, T.c3, T.c42, T.c80], ⟨5, Try.underlying28, T.c5, by decide, Try.underlying5⟩, ⟨_, _, rfl, by simp [T.c28, T.c3, T.c42, T.c80], Try.underlying42, ⟨_, _, rfl, by simp [T.c28, T.c3, T.c42, T.c80], Try.underlying42, ⟨rfl, by simp [T.c28, T.c3, T.c42, T.c80]⟩⟩⟩⟩⟩⟩⟩⟩, ⟨_, _, rfl, by simp [T.c28, T.c3, T.c4, T.c41, T.c45, T.c47], Try.underlying4, ⟨_, _, rfl, by simp [T.c28, T.c3, T.c4, T.c41, T.c45, T.c47], ⟨_, Try.underlying45, ⟨_, _, rfl, by simp [T.c28, T.c42, T.c43, T.c45], Try.underlying42, ⟨_, _, rfl, by simp [T.c28, T.c42, T.c43, T.c45], ⟨5, Try.underlying28, T.c5, by decide, Try.underlying5⟩, ⟨_, _, rfl, by simp [T.c28, T.c42, T.c43, T.c45], ⟨83, Try.underlying43, T.c83, by decide, ⟨_, Try.underlying83, ⟨_, _, rfl, by simp [T.c42, T.c81, T.c83], Try.underlying42, ⟨_, _, rfl, by simp [T.c42, T.c81, T.c83], ⟨85, Try.underlying81, T.c85, by decide, ⟨_, Try.underlying85, ⟨_, _, rfl, by simp [T.c28, T.c42, T.c85], Try.underlying42, ⟨_, _, rfl, by simp [T.c28, T.c42, T.c85], ⟨5, Try.underlying28, T.c5, by decide, Try.underlying5⟩, ⟨rfl, by simp [T.c28, T.c42, T.c85]⟩⟩⟩⟩⟩, ⟨rfl, by simp [T.c42, T.c81, T.c83]⟩⟩⟩⟩⟩, ⟨rfl, by simp [T.c28, T.c42, T.c43, T.c45]⟩⟩⟩⟩⟩, ⟨_, _, rfl, by simp [T.c28, T.c3, T.c4, T.c41, T.c45, T.c47], ⟨5, Try.underlying28, T.c5, by decide, Try.underlying5⟩, ⟨_, _, rfl, by simp [T.c28, T.c3, T.c4, T.c41, T.c45, T.c47], ⟨5, Try.underlying28, T.c5, by decide, Try.underlying5⟩, ⟨rfl, by simp [T.c28, T.c3, T.c4, T.c41, T.c45, T.c47]⟩⟩⟩⟩⟩⟩⟩⟩⟩⟩

/-- The walk: the Go text returns true, and nothing that was there is written. -/
theorem walk (w : World) (v0 : Value) (x0 : List Go.AM.AV) (r0 : Go.AM.VRels (Go.AM.G0 w) x0 v0.cells.toList) (t0 : Go.AM.IsTy ty47 x0) (o0 : ∃ cs, v0 = .agg cs) :
    Calls Try.prog 4 #[v0] w fun e w' => e = .returned (.bool true) ∧ Below w.heap.size w w' := by
  obtain ⟨c, rfl, hc⟩ := Go.AM.IsTy.commit t0
  have e0 := Go.AM.vrel_agg o0 r0
  exact (messageWrites_calls (Γ := Go.AM.Γ0) c hc Go.AM.s0).start (vs := [v0]) (Go.AM.VRels.cons e0 Go.AM.VRels.none) (Go.AM.glob0 w) (fun r s' h => h)

set_option maxRecDepth 100000 in
theorem lifted (os : Os) (started : os.Started) (H : Type) (enc : TypeId × Value → H) :
    ReturnsInHanded {} Try.checked os 4 .any (Rows.messageWritesSpec.pre6 enc Try.prog Try.f4 Rows.messageWritesRow.domain false) (Rows.messageWritesSpec.post enc Try.prog Try.f4 false true false false) := by
  refine returnsInHanded_of_change (C := Try.checked) own started (by kernel_rfl) Try.func4
    (ChangeSpec.witness6 (enc := enc) (C := Try.checked) false ⟨#[], #[.agg #[.slice none 0 0, .int .i64 0, .int .i64 0, .slice none 0 0, .bool false, .int .u64 0, .slice none 0 0, .slice none 0 0, .slice none 0 0, .slice none 0 0]], []⟩ 12 (by kernel_rfl) (by kernel_rfl) (by kernel_rfl) (by kernel_rfl)) ?_
  intro W base args ds gs before hval0 hW hcnd _
  have hval : ∀ (j : Nat) t v, Try.f4.params[j]? = some t → args[j]? = some v → Value.okWide Try.prog W .any base t v := hval0
  have hW' := hW
  obtain ⟨p, q, hA0, hV, rfl, hfz, hnd⟩ := hW
  have hA : DataW.TrodAll enc Try.prog W 0 (fun _ => true) true Try.f4.params.toList args.toList ds p := hA0
  rw [Try.params4] at hA hval
  obtain ⟨v0, vs0, d0, ds0, p0, q0, hargs, rfl, rfl, h0, rr0⟩ := trodAll_cons hA
  obtain ⟨rfl, rfl, rfl⟩ := trodAll_nil rr0
  obtain rfl : args = #[v0] := by cases args; simp_all
  obtain ⟨rfl, rfl⟩ := trodVars_none hV
  have o0 : ∃ cs, v0 = .agg cs := by
    have h := hval 0 47 v0 rfl rfl
    unfold Value.okWide at h
    rw [Try.underlying47] at h
    obtain ⟨cs, h, _⟩ := h
    exact ⟨cs, h⟩
  have lt0 : ∀ x ∈ p0, x.block < W.heap.size := by obtain ⟨m, hm⟩ := h0; exact DataW.trod_lt m _ _ _ hm
  obtain ⟨x0, r0, t0⟩ : ∃ x, Go.AM.VRels (Go.AM.G0 W) x v0.cells.toList ∧ Go.AM.IsTy ty47 x := by obtain ⟨m, hm⟩ := h0; exact Go.AM.open_ty ty47 tyOf47 hm
  clear hA0 hval0
  refine (walk W v0 x0 r0 t0 o0).mono fun e W' ⟨he, bel⟩ => ?_
  subst he
  exact ⟨_, rfl, _, _, _, [], _, [], hW', trodAll_mk1 (shut_bool Try.underlying4 _), (trodAll_cons_mk (Below.trod laidOut (by kernel_rfl) (of_decide_eq_true (by kernel_rfl)) h0 bel lt0) trodAll_mk0), rfl, bel.frame _, fun h => by cases h⟩

theorem over : Rows.messageWritesRow.holds Try.pinned (OpenSpec.ofChange Rows.messageWritesSpec) :=
  OpenClaim.holds_of_wide 4 Try.f4 rfl rfl rfl rfl rfl rfl rfl ⟨rfl, rfl, rfl, rfl, rfl⟩ rfl rfl rfl rfl rfl (by kernel_rfl) Try.func4 (by kernel_rfl)
    (of_decide_eq_true (by kernel_rfl)) (by unfold Func.isWrapper; first | (rw [if_pos (by decide +kernel)]; kernel_rfl) | (rw [if_neg (by decide +kernel)]; exact ⟨rfl, rfl⟩))
    (fun os started H enc _ => lifted os started H enc)

/-- The statement. -/
theorem proved : Rows.MessageWritesSaid := over
#print axioms proved
end Go.Proofs.Ytcnilmidfhpckaa.messageWrites


