/- Contracts of the program's functions, each walked once; the conditions stand in each theorem. -/
import Derived.Test.YtpakgjmcaefnmaaDoorCards
import Derived.Test.YtpakgjmcaefnmaaDoorTie
import Derived.Test.YtpakgjmcaefnmaaDoorRecS2
import Derived.Test.YtpakgjmcaefnmaaDoorPlRec2
import Derived.Test.YtpakgjmcaefnmaaDoorAMp4
import Derived.Test.YtpakgjmcaefnmaaDoorAMp6
import Derived.WalkKit
import Derived.ProofKit
import Derived.OpenShut
import Derived.ShutString
import Derived.ChangeOld
import Derived.Below
import Derived.LaidMore
import Derived.SevenTiedAt
import Derived.Stop.Joined
import Derived.Test.YtpakgjmcaefnmaaDoorShaEnd
import Derived.Test.YtpakgjmcaefnmaaDoorShaFacts
set_option linter.unusedSimpArgs false
set_option linter.unusedVariables false
namespace Go.Proofs.YtpakgjmcaefnmaaDoor.recordSames
open Go.ChangeShapes Go.WideShapes Go.ChangeAt Go.RowKit
open Go.ChangeMaps (open_string shut_string)
set_option linter.unusedVariables false

theorem own : ownKnob Tryd.prog.godebug = none := by kernel_rfl
theorem laidOut : laidOutB Tryd.prog = true := by kernel_rfl

abbrev ty76 : Go.AM.Ty := (.struct (.cons (.int .i64) (.cons (.slice 1 (.int .u8)) (.cons (.int .i64) (.cons (.int .i64) (.cons (.int .i64) (.cons (.slice 1 (.int .u8)) (.cons (.slice 1 (.int .u8)) (.cons (.slice 1 (.int .u8)) (.cons (.slice 1 (.int .u8)) .nil))))))))))
theorem tyOf76 : Go.AM.TyOf Tryd.prog ty76 76 := by
  simp only [ty76, Go.AM.TyOf, Go.AM.FsOf]
  exact ⟨_, Tryd.underlying76, ⟨_, _, rfl, by simp [T.c22, T.c3, T.c76], Tryd.underlying3, ⟨_, _, rfl, by simp [T.c22, T.c3, T.c76], ⟨5, Tryd.underlying22, T.c5, by decide, Tryd.underlying5⟩, ⟨_, _, rfl, by simp [T.c22, T.c3, T.c76], Tryd.underlying3, ⟨_, _, rfl, by simp [T.c22, T.c3, T.c76], Tryd.underlying3, ⟨_, _, rfl, by simp [T.c22, T.c3, T.c76], Tryd.underlying3, ⟨_, _, rfl, by simp [T.c22, T.c3, T.c76], ⟨5, Tryd.underlying22, T.c5, by decide, Tryd.underlying5⟩, ⟨_, _, rfl, by simp [T.c22, T.c3, T.c76], ⟨5, Tryd.underlying22, T.c5, by decide, Tryd.underlying5⟩, ⟨_, _, rfl, by simp [T.c22, T.c3, T.c76], ⟨5, Tryd.underlying22, T.c5, by decide, Tryd.underlying5⟩, ⟨_, _, rfl, by simp [T.c22, T.c3, T.c76], ⟨5, Tryd.underlying22, T.c5, by decide, Tryd.underlying5⟩, ⟨rfl, by simp [T.c22, T.c3, T.c76]⟩⟩⟩⟩⟩⟩⟩⟩⟩⟩⟩

/-- The walk: the Go text returns true, and nothing that was there is written. -/
theorem walk (w : World) (hL : ∀ g, ∃ vs, Go.AM.VRels (Go.AM.G0 w) (Γd g) vs ∧ Go.AM.RoAt (Go.AM.G0 w) g 0 vs) (v0 : Value) (x0 : List Go.AM.AV) (r0 : Go.AM.VRels (Go.AM.G0 w) x0 v0.cells.toList) (t0 : Go.AM.IsTy ty76 x0) (o0 : ∃ cs, v0 = .agg cs) (z0_1 : ∀ a l c, v0.cells.toList[1]? = some (.slice a l c) → l ≤ reachBytes) (z0_5 : ∀ a l c, v0.cells.toList[5]? = some (.slice a l c) → l ≤ reachBytes) (z0_6 : ∀ a l c, v0.cells.toList[6]? = some (.slice a l c) → l ≤ reachBytes) (z0_7 : ∀ a l c, v0.cells.toList[7]? = some (.slice a l c) → l ≤ reachBytes) (z0_8 : ∀ a l c, v0.cells.toList[8]? = some (.slice a l c) → l ≤ reachBytes) (v1 : Value) (x1 : List Go.AM.AV) (r1 : Go.AM.VRels (Go.AM.G0 w) x1 v1.cells.toList) (t1 : Go.AM.IsTy ty76 x1) (o1 : ∃ cs, v1 = .agg cs) (z1_1 : ∀ a l c, v1.cells.toList[1]? = some (.slice a l c) → l ≤ reachBytes) (z1_5 : ∀ a l c, v1.cells.toList[5]? = some (.slice a l c) → l ≤ reachBytes) (z1_6 : ∀ a l c, v1.cells.toList[6]? = some (.slice a l c) → l ≤ reachBytes) (z1_7 : ∀ a l c, v1.cells.toList[7]? = some (.slice a l c) → l ≤ reachBytes) (z1_8 : ∀ a l c, v1.cells.toList[8]? = some (.slice a l c) → l ≤ reachBytes) :
    Calls Tryd.prog 16 #[v0, v1] w fun e w' => e = .returned (.bool true) ∧ Below w.heap.size w w' := by
  obtain ⟨R, rfl⟩ := Go.AM.IsTy.record t0
  obtain ⟨T, rfl⟩ := Go.AM.IsTy.record t1
  have e0 := Go.AM.vrel_agg o0 r0
  have e1 := Go.AM.vrel_agg o1 r1
  have le : reachBytes ≤ 2 ^ 47 := by decide
  have f0 : RecFits R := ⟨Nat.le_trans (Go.AM.size_of_cell (i := 1) r0 rfl z0_1) le, Nat.le_trans (Go.AM.size_of_cell (i := 5) r0 rfl z0_5) le, Nat.le_trans (Go.AM.size_of_cell (i := 6) r0 rfl z0_6) le, Nat.le_trans (Go.AM.size_of_cell (i := 7) r0 rfl z0_7) le, Nat.le_trans (Go.AM.size_of_cell (i := 8) r0 rfl z0_8) le⟩
  have f1 : RecFits T := ⟨Nat.le_trans (Go.AM.size_of_cell (i := 1) r1 rfl z1_1) le, Nat.le_trans (Go.AM.size_of_cell (i := 5) r1 rfl z1_5) le, Nat.le_trans (Go.AM.size_of_cell (i := 6) r1 rfl z1_6) le, Nat.le_trans (Go.AM.size_of_cell (i := 7) r1 rfl z1_7) le, Nat.le_trans (Go.AM.size_of_cell (i := 8) r1 rfl z1_8) le⟩
  exact (recordSames_calls (Γ := Γd) rfl rfl R T f0 f1 Go.AM.s0).start (vs := [v0, v1]) (Go.AM.VRels.cons e0 (Go.AM.VRels.cons e1 Go.AM.VRels.none)) hL (fun r s' h => h)

set_option maxRecDepth 100000 in
theorem lifted (os : Os) (started : os.Started) (H : Type) (enc : TypeId × Value → H) :
    ReturnsInHanded {} Tryd.checked os 16 .any (fun w args => (Rows.recordSamesSpec.pre enc Tryd.prog Tryd.f16 [] false w args ∧ laidMetH Tryd.prog laidD w) ∧ sizedMet enc Tryd.prog Tryd.f16 (OpenSpec.ofChange Rows.recordSamesSpec) false w args) (Rows.recordSamesSpec.post enc Tryd.prog Tryd.f16 false true false false) := by
  refine returnsInHanded_of_change_and (C := Tryd.checked) (X := fun w _ => laidMetH Tryd.prog laidD w) (fun _ _ _ hh h => h.of_heap hh) own started (by kernel_rfl) Tryd.func16
    (ChangeSpec.witness_shaped (enc := enc) (C := Tryd.checked) (os := os) (X := fun w _ => laidMetH Tryd.prog laidD w) false (World.doorLaid Tryd.prog 400 os) #[.agg #[.int .i64 0, .slice none 0 0, .int .i64 0, .int .i64 0, .int .i64 0, .slice none 0 0, .slice none 0 0, .slice none 0 0, .slice none 0 0], .agg #[.int .i64 0, .slice none 0 0, .int .i64 0, .int .i64 0, .int .i64 0, .slice none 0 0, .slice none 0 0, .slice none 0 0, .slice none 0 0]] 12 rfl (World.shaped_of_RefB (by kernel_rfl) (by kernel_rfl)) (by kernel_rfl) (by kernel_rfl) (by kernel_rfl) (door_met os _)) ?_
  intro W base args ds gs before hval0 hW _ hz hL _
  have hval : ∀ (j : Nat) t v, Tryd.f16.params[j]? = some t → args[j]? = some v → Value.okWide Tryd.prog W .any base t v := hval0
  have hW' := hW
  obtain ⟨p, q, hA0, hV, rfl, hfz, hnd⟩ := hW
  have hA : DataW.TrodAll enc Tryd.prog W 0 (fun _ => true) true Tryd.f16.params.toList args.toList ds p := hA0
  rw [Tryd.params16] at hA hval hz
  obtain ⟨v0, vs0, d0, ds0, p0, q0, hargs, rfl, rfl, h0, rr0⟩ := trodAll_cons hA
  obtain ⟨v1, vs1, d1, ds1, p1, q1, rfl, rfl, rfl, h1, rr1⟩ := trodAll_cons rr0
  obtain ⟨rfl, rfl, rfl⟩ := trodAll_nil rr1
  obtain rfl : args = #[v0, v1] := by cases args; simp_all
  obtain ⟨rfl, rfl⟩ := trodVars_none hV
  have o0 : ∃ cs, v0 = .agg cs := by
    have h := hval 0 76 v0 rfl rfl
    unfold Value.okWide at h
    rw [Tryd.underlying76] at h
    obtain ⟨cs, h, _⟩ := h
    exact ⟨cs, h⟩
  have z0_1 : ∀ a l c, v0.cells.toList[1]? = some (.slice a l c) → l ≤ reachBytes := by obtain ⟨m, hm⟩ := h0; exact Go.AM.size_of_field (j := 0) Tryd.underlying76 hz rfl rfl hm 1 rfl Tryd.underlying22 (by rw [T.b5]; decide) T.c22
  have z0_5 : ∀ a l c, v0.cells.toList[5]? = some (.slice a l c) → l ≤ reachBytes := by obtain ⟨m, hm⟩ := h0; exact Go.AM.size_of_field (j := 0) Tryd.underlying76 hz rfl rfl hm 5 rfl Tryd.underlying22 (by rw [T.b5]; decide) T.c22
  have z0_6 : ∀ a l c, v0.cells.toList[6]? = some (.slice a l c) → l ≤ reachBytes := by obtain ⟨m, hm⟩ := h0; exact Go.AM.size_of_field (j := 0) Tryd.underlying76 hz rfl rfl hm 6 rfl Tryd.underlying22 (by rw [T.b5]; decide) T.c22
  have z0_7 : ∀ a l c, v0.cells.toList[7]? = some (.slice a l c) → l ≤ reachBytes := by obtain ⟨m, hm⟩ := h0; exact Go.AM.size_of_field (j := 0) Tryd.underlying76 hz rfl rfl hm 7 rfl Tryd.underlying22 (by rw [T.b5]; decide) T.c22
  have z0_8 : ∀ a l c, v0.cells.toList[8]? = some (.slice a l c) → l ≤ reachBytes := by obtain ⟨m, hm⟩ := h0; exact Go.AM.size_of_field (j := 0) Tryd.underlying76 hz rfl rfl hm 8 rfl Tryd.underlying22 (by rw [T.b5]; decide) T.c22
  have lt0 : ∀ x ∈ p0, x.block < W.heap.size := by obtain ⟨m, hm⟩ := h0; exact DataW.trod_lt m _ _ _ hm
  obtain ⟨x0, r0, t0⟩ : ∃ x, Go.AM.VRels (Go.AM.G0 W) x v0.cells.toList ∧ Go.AM.IsTy ty76 x := by obtain ⟨m, hm⟩ := h0; exact Go.AM.open_ty ty76 tyOf76 hm
  have o1 : ∃ cs, v1 = .agg cs := by
    have h := hval 1 76 v1 rfl rfl
    unfold Value.okWide at h
    rw [Tryd.underlying76] at h
    obtain ⟨cs, h, _⟩ := h
    exact ⟨cs, h⟩
  have z1_1 : ∀ a l c, v1.cells.toList[1]? = some (.slice a l c) → l ≤ reachBytes := by obtain ⟨m, hm⟩ := h1; exact Go.AM.size_of_field (j := 1) Tryd.underlying76 hz rfl rfl hm 1 rfl Tryd.underlying22 (by rw [T.b5]; decide) T.c22
  have z1_5 : ∀ a l c, v1.cells.toList[5]? = some (.slice a l c) → l ≤ reachBytes := by obtain ⟨m, hm⟩ := h1; exact Go.AM.size_of_field (j := 1) Tryd.underlying76 hz rfl rfl hm 5 rfl Tryd.underlying22 (by rw [T.b5]; decide) T.c22
  have z1_6 : ∀ a l c, v1.cells.toList[6]? = some (.slice a l c) → l ≤ reachBytes := by obtain ⟨m, hm⟩ := h1; exact Go.AM.size_of_field (j := 1) Tryd.underlying76 hz rfl rfl hm 6 rfl Tryd.underlying22 (by rw [T.b5]; decide) T.c22
  have z1_7 : ∀ a l c, v1.cells.toList[7]? = some (.slice a l c) → l ≤ reachBytes := by obtain ⟨m, hm⟩ := h1; exact Go.AM.size_of_field (j := 1) Tryd.underlying76 hz rfl rfl hm 7 rfl Tryd.underlying22 (by rw [T.b5]; decide) T.c22
  have z1_8 : ∀ a l c, v1.cells.toList[8]? = some (.slice a l c) → l ≤ reachBytes := by obtain ⟨m, hm⟩ := h1; exact Go.AM.size_of_field (j := 1) Tryd.underlying76 hz rfl rfl hm 8 rfl Tryd.underlying22 (by rw [T.b5]; decide) T.c22
  have lt1 : ∀ x ∈ p1, x.block < W.heap.size := by obtain ⟨m, hm⟩ := h1; exact DataW.trod_lt m _ _ _ hm
  obtain ⟨x1, r1, t1⟩ : ∃ x, Go.AM.VRels (Go.AM.G0 W) x v1.cells.toList ∧ Go.AM.IsTy ty76 x := by obtain ⟨m, hm⟩ := h1; exact Go.AM.open_ty ty76 tyOf76 hm
  clear hA0 hval0
  refine (walk W (of_laid hL) v0 x0 r0 t0 o0 z0_1 z0_5 z0_6 z0_7 z0_8 v1 x1 r1 t1 o1 z1_1 z1_5 z1_6 z1_7 z1_8).mono fun e W' ⟨he, bel⟩ => ?_
  subst he
  exact ⟨_, rfl, _, _, _, [], _, [], hW', trodAll_mk1 (shut_bool Tryd.underlying4 _), (trodAll_cons_mk (Below.trod laidOut (by kernel_rfl) (of_decide_eq_true (by kernel_rfl)) h0 bel lt0) (trodAll_cons_mk (Below.trod laidOut (by kernel_rfl) (of_decide_eq_true (by kernel_rfl)) h1 bel lt1) trodAll_mk0)), rfl, bel.frame _, fun h => by cases h⟩

theorem closed : joinedFacts Tryd.pinned.checked.prog 16 Tryd.f16 Rows.recordSamesSpec Rows.recordSamesRow = true :=
  (both (both (both (both (both (both (both (both (both (both (both (both (both (both (both (both (both (both (both (both (both (both (both (both (both (both (both (both (both (both (both (by kernel_rfl) (by kernel_rfl)) (by kernel_rfl)) (by kernel_rfl)) (by kernel_rfl)) (by kernel_rfl)) (by kernel_rfl)) (by kernel_rfl)) (by kernel_rfl)) (by kernel_rfl)) (by kernel_rfl)) (by kernel_rfl)) (by kernel_rfl)) (by kernel_rfl)) (by kernel_rfl)) (by kernel_rfl)) (by kernel_rfl)) (by kernel_rfl)) (by kernel_rfl)) (by kernel_rfl)) (by kernel_rfl)) (by kernel_rfl)) (by kernel_rfl)) (by kernel_rfl)) (by kernel_rfl)) headMay) (same_of headFin)) (make_of headMake)) (by kernel_rfl)) (by kernel_rfl)) (by kernel_rfl)) (by kernel_rfl))

theorem over : Rows.recordSamesRow.holds Tryd.pinned (OpenSpec.ofChange Rows.recordSamesSpec) :=
  OpenClaim.holds_of_wide 16 Tryd.f16 rfl rfl rfl rfl rfl rfl rfl ⟨rfl, rfl, rfl, rfl, rfl⟩ rfl rfl rfl rfl rfl (by kernel_rfl) Tryd.func16 closed
    (of_decide_eq_true (by kernel_rfl)) (by unfold Func.isWrapper; first | (rw [if_pos (by decide +kernel)]; kernel_rfl) | (rw [if_neg (by decide +kernel)]; exact ⟨rfl, rfl⟩))
    (fun os started H enc _ => lifted os started H enc)

/-- The statement: the row's card, tied to the program's text. -/
theorem proved : Rows.RecordSamesCardSaid :=
  Claim7.holds_tied_plain_at .later [] [.data, .data] true (true, "573f3079b42056c8b040f26dc05d21bb88f1517e8ad8dabbbd89ff7d85d817d6") false
    over (fun _ h => by cases h) (by kernel_rfl) (fun _ h => by cases h) recordSames_row_tie rfl ⟨rfl, rfl⟩ headMain rfl
    (fun f fn hf hfn => by
      obtain rfl : f = 16 := Option.some.inj ((show Tryd.prog.funcNamed "engrosser/engrosserlaw12.RecordSames" = some 16 by kernel_rfl).symm.trans hf) |>.symm
      obtain rfl : fn = Tryd.f16 := (Option.some.inj (Tryd.func16.symm.trans hfn)).symm
      exact ⟨by kernel_rfl, fun j t ht => by
        rw [Tryd.params16] at ht
        have hm : t ∈ [76, 76] := by simpa using Array.mem_of_getElem? ht
        have hall : ([76, 76].all fun u => !Tryd.prog.wantsStandIn u) = true := by kernel_rfl
        exact (show Tryd.prog.wantsStandIn t = false by simpa using List.all_eq_true.1 hall t hm)⟩)
    (by kernel_rfl)
#print axioms proved
end Go.Proofs.YtpakgjmcaefnmaaDoor.recordSames


