/- Contracts of the program's functions, each walked once; the conditions stand in each theorem. -/
import Derived.Test.YtcnilmidfhpckaaDoorCards
import Derived.Test.YtcnilmidfhpckaaDoorTie
import Derived.Test.YtcnilmidfhpckaaDoorW6
import Derived.Test.YtcnilmidfhpckaaDoorAMp4
import Derived.Test.YtcnilmidfhpckaaDoorAMp6
import Derived.WalkKit
import Derived.ProofKit
import Derived.OpenShut
import Derived.ShutString
import Derived.ChangeOld
import Derived.Below
import Derived.LaidMore
import Derived.SevenTiedAt
import Derived.Stop.Joined
set_option linter.unusedSimpArgs false
set_option linter.unusedVariables false
namespace Go.Proofs.YtcnilmidfhpckaaDoor.ratchetFolds
open Go.ChangeShapes Go.WideShapes Go.ChangeAt Go.RowKit
open Go.ChangeMaps (open_string shut_string)
set_option linter.unusedVariables false

theorem own : ownKnob Tryd.prog.godebug = none := by kernel_rfl
theorem laidOut : laidOutB Tryd.prog = true := by kernel_rfl

abbrev ty22 : Go.AM.Ty := (.slice 4 (.struct (.cons (.int .i64) (.cons (.int .i64) (.cons (.slice 1 (.int .u8)) (.cons (.int .u64) .nil))))))
theorem tyOf22 : Go.AM.TyOf Tryd.prog ty22 22 := by
  simp only [ty22, Go.AM.TyOf, Go.AM.FsOf]
  exact ⟨32, Tryd.underlying22, T.c32, by decide, ⟨_, Tryd.underlying32, ⟨_, _, rfl, by simp [T.c28, T.c29, T.c3, T.c32], Tryd.underlying3, ⟨_, _, rfl, by simp [T.c28, T.c29, T.c3, T.c32], Tryd.underlying3, ⟨_, _, rfl, by simp [T.c28, T.c29, T.c3, T.c32], ⟨5, Tryd.underlying28, T.c5, by decide, Tryd.underlying5⟩, ⟨_, _, rfl, by simp [T.c28, T.c29, T.c3, T.c32], Tryd.underlying29, ⟨rfl, by simp [T.c28, T.c29, T.c3, T.c32]⟩⟩⟩⟩⟩⟩⟩

/-- The walk: the Go text returns true, and nothing that was there is written. -/
theorem walk (w : World) (hL : ∀ g, ∃ vs, Go.AM.VRels (Go.AM.G0 w) (Γd g) vs ∧ Go.AM.RoAt (Go.AM.G0 w) g 0 vs) (v0 : Value) (x0 : List Go.AM.AV) (r0 : Go.AM.VRels (Go.AM.G0 w) x0 v0.cells.toList) (t0 : Go.AM.IsTy ty22 x0) (o0 : ∃ a l c, v0 = .slice a l c) (z0 : ∀ a l c, v0 = .slice a l c → l ≤ reachBytes) :
    Calls Tryd.prog 3 #[v0] w fun e w' => e = .returned (.bool true) ∧ Below w.heap.size w w' := by
  obtain ⟨l, rfl⟩ := Go.AM.IsTy.acts t0
  have e0 := Go.AM.vrel_slice o0 r0
  exact (ratchetFolds_calls (Γ := Γd) rfl l Go.AM.s0).start (vs := [v0]) (Go.AM.VRels.cons e0 Go.AM.VRels.none) hL (fun r s' h => h)

set_option maxRecDepth 100000 in
theorem lifted (os : Os) (started : os.Started) (H : Type) (enc : TypeId × Value → H) :
    ReturnsInHanded {} Tryd.checked os 3 .any (fun w args => (Rows.ratchetFoldsSpec.pre enc Tryd.prog Tryd.f3 [] false w args ∧ laidMetH Tryd.prog laidD w) ∧ sizedMet enc Tryd.prog Tryd.f3 (OpenSpec.ofChange Rows.ratchetFoldsSpec) false w args) (Rows.ratchetFoldsSpec.post enc Tryd.prog Tryd.f3 false true false false) := by
  refine returnsInHanded_of_change_and (C := Tryd.checked) (X := fun w _ => laidMetH Tryd.prog laidD w) (fun _ _ _ hh h => h.of_heap hh) own started (by kernel_rfl) Tryd.func3
    (ChangeSpec.witness_shaped (enc := enc) (C := Tryd.checked) (os := os) (X := fun w _ => laidMetH Tryd.prog laidD w) false (World.doorLaid Tryd.prog 400 os) #[.slice none 0 0] 12 rfl (World.shaped_of_RefB (by kernel_rfl) (by kernel_rfl)) (by kernel_rfl) (by kernel_rfl) (by kernel_rfl) (door_met os _)) ?_
  intro W base args ds gs before hval0 hW _ hz hL _
  have hval : ∀ (j : Nat) t v, Tryd.f3.params[j]? = some t → args[j]? = some v → Value.okWide Tryd.prog W .any base t v := hval0
  have hW' := hW
  obtain ⟨p, q, hA0, hV, rfl, hfz, hnd⟩ := hW
  have hA : DataW.TrodAll enc Tryd.prog W 0 (fun _ => true) true Tryd.f3.params.toList args.toList ds p := hA0
  rw [Tryd.params3] at hA hval hz
  obtain ⟨v0, vs0, d0, ds0, p0, q0, hargs, rfl, rfl, h0, rr0⟩ := trodAll_cons hA
  obtain ⟨rfl, rfl, rfl⟩ := trodAll_nil rr0
  obtain rfl : args = #[v0] := by cases args; simp_all
  obtain ⟨rfl, rfl⟩ := trodVars_none hV
  have z0 : ∀ a l c, v0 = .slice a l c → l ≤ reachBytes := by obtain ⟨m, hm⟩ := h0; exact Go.AM.size_of_trod (j := 0) Tryd.underlying22 hz rfl rfl hm (by rw [T.b32]; decide)
  have o0 : ∃ a l c, v0 = .slice a l c := by obtain ⟨a, l, c, h⟩ := okWide_slice Tryd.underlying22 (hval 0 22 v0 rfl rfl); exact ⟨a, l, c, h⟩
  have lt0 : ∀ x ∈ p0, x.block < W.heap.size := by obtain ⟨m, hm⟩ := h0; exact DataW.trod_lt m _ _ _ hm
  obtain ⟨x0, r0, t0⟩ : ∃ x, Go.AM.VRels (Go.AM.G0 W) x v0.cells.toList ∧ Go.AM.IsTy ty22 x := by obtain ⟨m, hm⟩ := h0; exact Go.AM.open_ty ty22 tyOf22 hm
  clear hA0 hval0
  refine (walk W (of_laid hL) v0 x0 r0 t0 o0 z0).mono fun e W' ⟨he, bel⟩ => ?_
  subst he
  exact ⟨_, rfl, _, _, _, [], _, [], hW', trodAll_mk1 (shut_bool Tryd.underlying4 _), (trodAll_cons_mk (Below.trod laidOut (by kernel_rfl) (of_decide_eq_true (by kernel_rfl)) h0 bel lt0) trodAll_mk0), rfl, bel.frame _, fun h => by cases h⟩

theorem closed : joinedFacts Tryd.pinned.checked.prog 3 Tryd.f3 Rows.ratchetFoldsSpec Rows.ratchetFoldsRow = true :=
  (both (both (both (both (both (both (both (both (both (both (both (both (both (both (both (both (both (both (both (both (both (both (both (both (both (both (both (both (both (both (both (by kernel_rfl) (by kernel_rfl)) (by kernel_rfl)) (by kernel_rfl)) (by kernel_rfl)) (by kernel_rfl)) (by kernel_rfl)) (by kernel_rfl)) (by kernel_rfl)) (by kernel_rfl)) (by kernel_rfl)) (by kernel_rfl)) (by kernel_rfl)) (by kernel_rfl)) (by kernel_rfl)) (by kernel_rfl)) (by kernel_rfl)) (by kernel_rfl)) (by kernel_rfl)) (by kernel_rfl)) (by kernel_rfl)) (by kernel_rfl)) (by kernel_rfl)) (by kernel_rfl)) (by kernel_rfl)) headMay) (same_of headFin)) (make_of headMake)) (by kernel_rfl)) (by kernel_rfl)) (by kernel_rfl)) (by kernel_rfl))

theorem over : Rows.ratchetFoldsRow.holds Tryd.pinned (OpenSpec.ofChange Rows.ratchetFoldsSpec) :=
  OpenClaim.holds_of_wide 3 Tryd.f3 rfl rfl rfl rfl rfl rfl rfl ⟨rfl, rfl, rfl, rfl, rfl⟩ rfl rfl rfl rfl rfl (by kernel_rfl) Tryd.func3 closed
    (of_decide_eq_true (by kernel_rfl)) (by unfold Func.isWrapper; first | (rw [if_pos (by decide +kernel)]; kernel_rfl) | (rw [if_neg (by decide +kernel)]; exact ⟨rfl, rfl⟩))
    (fun os started H enc _ => lifted os started H enc)

/-- The statement: the row's card, tied to the program's text. -/
theorem proved : Rows.RatchetFoldsCardSaid :=
  Claim7.holds_tied_plain_at .later [] [.data, .data] true (true, "59a2533fb991ee4237a6c36f64316cb7ca38ffb41cc13b300e65a1a82c4d8f42") false
    over (fun _ h => by cases h) (by kernel_rfl) (fun _ h => by cases h) ratchetFolds_row_tie rfl ⟨rfl, rfl⟩ headMain rfl
    (fun f fn hf hfn => by
      obtain rfl : f = 3 := Option.some.inj ((show Tryd.prog.funcNamed "engrosser/engrosserlaw20.RatchetFolds" = some 3 by kernel_rfl).symm.trans hf) |>.symm
      obtain rfl : fn = Tryd.f3 := (Option.some.inj (Tryd.func3.symm.trans hfn)).symm
      exact ⟨by kernel_rfl, fun j t ht => by
        rw [Tryd.params3] at ht
        have hm : t ∈ [22] := by simpa using Array.mem_of_getElem? ht
        have hall : ([22].all fun u => !Tryd.prog.wantsStandIn u) = true := by kernel_rfl
        exact (show Tryd.prog.wantsStandIn t = false by simpa using List.all_eq_true.1 hall t hm)⟩)
    (by kernel_rfl)
#print axioms proved
end Go.Proofs.YtcnilmidfhpckaaDoor.ratchetFolds


