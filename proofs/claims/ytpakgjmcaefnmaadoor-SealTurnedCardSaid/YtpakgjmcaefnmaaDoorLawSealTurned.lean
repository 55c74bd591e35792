/- Contracts of the program's functions, each walked once; the conditions stand in each theorem. -/
import Derived.Test.YtpakgjmcaefnmaaDoorCards
import Derived.Test.YtpakgjmcaefnmaaDoorTie
import Derived.Test.YtpakgjmcaefnmaaDoorW11
import Derived.Test.YtpakgjmcaefnmaaDoorAMp4
import Derived.Test.YtpakgjmcaefnmaaDoorAMp6
import Derived.WalkKit
import Derived.ProofKit
import Derived.OpenShut
import Derived.ShutString
import Derived.ChangeOld
import Derived.Below
import Derived.LaidMore
import Derived.SevenTiedAt
import Derived.Stop.Joined
import Derived.Test.YtpakgjmcaefnmaaDoorShaFacts
set_option linter.unusedSimpArgs false
set_option linter.unusedVariables false
namespace Go.Proofs.YtpakgjmcaefnmaaDoor.sealTurned
open Go.ChangeShapes Go.WideShapes Go.ChangeAt Go.RowKit
open Go.ChangeMaps (open_string shut_string)
set_option linter.unusedVariables false

theorem own : ownKnob Tryd.prog.godebug = none := by kernel_rfl
theorem laidOut : laidOutB Tryd.prog = true := by kernel_rfl

abbrev ty89 : Go.AM.Ty := (.struct (.cons (.slice 1 (.int .u8)) (.cons (.slice 1 (.int .u8)) (.cons (.slice 1 (.int .u8)) (.cons (.slice 1 (.int .u8)) .nil)))))
theorem tyOf89 : Go.AM.TyOf Tryd.prog ty89 89 := by
  simp only [ty89, Go.AM.TyOf, Go.AM.FsOf]
  exact ⟨_, Tryd.underlying89, ⟨_, _, rfl, by simp [T.c22, T.c89], ⟨5, Tryd.underlying22, T.c5, by decide, Tryd.underlying5⟩, ⟨_, _, rfl, by simp [T.c22, T.c89], ⟨5, Tryd.underlying22, T.c5, by decide, Tryd.underlying5⟩, ⟨_, _, rfl, by simp [T.c22, T.c89], ⟨5, Tryd.underlying22, T.c5, by decide, Tryd.underlying5⟩, ⟨_, _, rfl, by simp [T.c22, T.c89], ⟨5, Tryd.underlying22, T.c5, by decide, Tryd.underlying5⟩, ⟨rfl, by simp [T.c22, T.c89]⟩⟩⟩⟩⟩⟩

/-- The walk: the Go text returns true, and nothing that was there is written. -/
theorem walk (w : World) (hL : ∀ g, ∃ vs, Go.AM.VRels (Go.AM.G0 w) (Γd g) vs ∧ Go.AM.RoAt (Go.AM.G0 w) g 0 vs) (v0 : Value) (x0 : List Go.AM.AV) (r0 : Go.AM.VRels (Go.AM.G0 w) x0 v0.cells.toList) (t0 : Go.AM.IsTy ty89 x0) (o0 : ∃ cs, v0 = .agg cs) (z0_0 : ∀ a l c, v0.cells.toList[0]? = some (.slice a l c) → l ≤ reachBytes) (z0_1 : ∀ a l c, v0.cells.toList[1]? = some (.slice a l c) → l ≤ reachBytes) (z0_2 : ∀ a l c, v0.cells.toList[2]? = some (.slice a l c) → l ≤ reachBytes) (z0_3 : ∀ a l c, v0.cells.toList[3]? = some (.slice a l c) → l ≤ reachBytes) (a1 : Int) (w1 : (Lit.int .i64 a1).wf = true) (a2 : Int) (w2 : (Lit.int .u8 a2).wf = true) :
    Calls Tryd.prog 21 #[v0, .int .i64 a1, .int .u8 a2] w fun e w' => e = .returned (.bool true) ∧ Below w.heap.size w w' := by
  obtain ⟨k, n, b, t, rfl⟩ := case06 t0
  have e0 := Go.AM.vrel_agg o0 r0
  obtain ⟨u, rfl⟩ : ∃ u : UInt8, a2 = (u.toNat : Int) := Go.AM.u8_of_wf w2
  exact (sealTurned_calls (Γ := Γd) rfl rfl gd_flat k n b t a1 u).start (vs := [v0, .int .i64 a1, .int .u8 (u.toNat : Int)]) (Go.AM.VRels.cons e0 (Go.AM.VRels.cons rfl (Go.AM.VRels.cons rfl Go.AM.VRels.none))) hL (fun r s' h => h)

set_option maxRecDepth 100000 in
theorem lifted (os : Os) (started : os.Started) (H : Type) (enc : TypeId × Value → H) :
    ReturnsInHanded {} Tryd.checked os 21 .any (fun w args => (Rows.sealTurnedSpec.pre enc Tryd.prog Tryd.f21 [] false w args ∧ laidMetH Tryd.prog laidD w) ∧ sizedMet enc Tryd.prog Tryd.f21 (OpenSpec.ofChange Rows.sealTurnedSpec) false w args) (Rows.sealTurnedSpec.post enc Tryd.prog Tryd.f21 false true false false) := by
  refine returnsInHanded_of_change_and (C := Tryd.checked) (X := fun w _ => laidMetH Tryd.prog laidD w) (fun _ _ _ hh h => h.of_heap hh) own started (by kernel_rfl) Tryd.func21
    (ChangeSpec.witness_shaped (enc := enc) (C := Tryd.checked) (os := os) (X := fun w _ => laidMetH Tryd.prog laidD w) false (World.doorLaid Tryd.prog 400 os) #[.agg #[.slice none 0 0, .slice none 0 0, .slice none 0 0, .slice none 0 0], .int .i64 0, .int .u8 0] 12 rfl (World.shaped_of_RefB (by kernel_rfl) (by kernel_rfl)) (by kernel_rfl) (by kernel_rfl) (by kernel_rfl) (door_met os _)) ?_
  intro W base args ds gs before hval0 hW _ hz hL _
  have hval : ∀ (j : Nat) t v, Tryd.f21.params[j]? = some t → args[j]? = some v → Value.okWide Tryd.prog W .any base t v := hval0
  have hW' := hW
  obtain ⟨p, q, hA0, hV, rfl, hfz, hnd⟩ := hW
  have hA : DataW.TrodAll enc Tryd.prog W 0 (fun _ => true) true Tryd.f21.params.toList args.toList ds p := hA0
  rw [Tryd.params21] at hA hval hz
  obtain ⟨v0, vs0, d0, ds0, p0, q0, hargs, rfl, rfl, h0, rr0⟩ := trodAll_cons hA
  obtain ⟨v1, vs1, d1, ds1, p1, q1, rfl, rfl, rfl, h1, rr1⟩ := trodAll_cons rr0
  obtain ⟨v2, vs2, d2, ds2, p2, q2, rfl, rfl, rfl, h2, rr2⟩ := trodAll_cons rr1
  obtain ⟨rfl, rfl, rfl⟩ := trodAll_nil rr2
  obtain rfl : args = #[v0, v1, v2] := by cases args; simp_all
  obtain ⟨rfl, rfl⟩ := trodVars_none hV
  have o0 : ∃ cs, v0 = .agg cs := by
    have h := hval 0 89 v0 rfl rfl
    unfold Value.okWide at h
    rw [Tryd.underlying89] at h
    obtain ⟨cs, h, _⟩ := h
    exact ⟨cs, h⟩
  have z0_0 : ∀ a l c, v0.cells.toList[0]? = some (.slice a l c) → l ≤ reachBytes := by obtain ⟨m, hm⟩ := h0; exact Go.AM.size_of_field (j := 0) Tryd.underlying89 hz rfl rfl hm 0 rfl Tryd.underlying22 (by rw [T.b5]; decide) T.c22
  have z0_1 : ∀ a l c, v0.cells.toList[1]? = some (.slice a l c) → l ≤ reachBytes := by obtain ⟨m, hm⟩ := h0; exact Go.AM.size_of_field (j := 0) Tryd.underlying89 hz rfl rfl hm 1 rfl Tryd.underlying22 (by rw [T.b5]; decide) T.c22
  have z0_2 : ∀ a l c, v0.cells.toList[2]? = some (.slice a l c) → l ≤ reachBytes := by obtain ⟨m, hm⟩ := h0; exact Go.AM.size_of_field (j := 0) Tryd.underlying89 hz rfl rfl hm 2 rfl Tryd.underlying22 (by rw [T.b5]; decide) T.c22
  have z0_3 : ∀ a l c, v0.cells.toList[3]? = some (.slice a l c) → l ≤ reachBytes := by obtain ⟨m, hm⟩ := h0; exact Go.AM.size_of_field (j := 0) Tryd.underlying89 hz rfl rfl hm 3 rfl Tryd.underlying22 (by rw [T.b5]; decide) T.c22
  have lt0 : ∀ x ∈ p0, x.block < W.heap.size := by obtain ⟨m, hm⟩ := h0; exact DataW.trod_lt m _ _ _ hm
  obtain ⟨x0, r0, t0⟩ : ∃ x, Go.AM.VRels (Go.AM.G0 W) x v0.cells.toList ∧ Go.AM.IsTy ty89 x := by obtain ⟨m, hm⟩ := h0; exact Go.AM.open_ty ty89 tyOf89 hm
  obtain ⟨a1, rfl, rfl, rfl, w1⟩ := open_int Tryd.underlying3 (hval 1 3 v1 rfl rfl) h1
  obtain ⟨a2, rfl, rfl, rfl, w2⟩ := open_int Tryd.underlying5 (hval 2 5 v2 rfl rfl) h2
  clear hA0 hval0
  refine (walk W (of_laid hL) v0 x0 r0 t0 o0 z0_0 z0_1 z0_2 z0_3 a1 w1 a2 w2).mono fun e W' ⟨he, bel⟩ => ?_
  subst he
  exact ⟨_, rfl, _, _, _, [], _, [], hW', trodAll_mk1 (shut_bool Tryd.underlying4 _), (trodAll_cons_mk (Below.trod laidOut (by kernel_rfl) (of_decide_eq_true (by kernel_rfl)) h0 bel lt0) (trodAll_cons_mk (shut_int Tryd.underlying3 w1) (trodAll_cons_mk (shut_int Tryd.underlying5 w2) trodAll_mk0))), rfl, bel.frame _, fun h => by cases h⟩

theorem closed : joinedFacts Tryd.pinned.checked.prog 21 Tryd.f21 Rows.sealTurnedSpec Rows.sealTurnedRow = true :=
  (both (both (both (both (both (both (both (both (both (both (both (both (both (both (both (both (both (both (both (both (both (both (both (both (both (both (both (both (both (both (both (by kernel_rfl) (by kernel_rfl)) (by kernel_rfl)) (by kernel_rfl)) (by kernel_rfl)) (by kernel_rfl)) (by kernel_rfl)) (by kernel_rfl)) (by kernel_rfl)) (by kernel_rfl)) (by kernel_rfl)) (by kernel_rfl)) (by kernel_rfl)) (by kernel_rfl)) (by kernel_rfl)) (by kernel_rfl)) (by kernel_rfl)) (by kernel_rfl)) (by kernel_rfl)) (by kernel_rfl)) (by kernel_rfl)) (by kernel_rfl)) (by kernel_rfl)) (by kernel_rfl)) (by kernel_rfl)) headMay) (same_of headFin)) (make_of headMake)) (by kernel_rfl)) (by kernel_rfl)) (by kernel_rfl)) (by kernel_rfl))

theorem over : Rows.sealTurnedRow.holds Tryd.pinned (OpenSpec.ofChange Rows.sealTurnedSpec) :=
  OpenClaim.holds_of_wide 21 Tryd.f21 rfl rfl rfl rfl rfl rfl rfl ⟨rfl, rfl, rfl, rfl, rfl⟩ rfl rfl rfl rfl rfl (by kernel_rfl) Tryd.func21 closed
    (of_decide_eq_true (by kernel_rfl)) (by unfold Func.isWrapper; first | (rw [if_pos (by decide +kernel)]; kernel_rfl) | (rw [if_neg (by decide +kernel)]; exact ⟨rfl, rfl⟩))
    (fun os started H enc _ => lifted os started H enc)

/-- The statement: the row's card, tied to the program's text. -/
theorem proved : Rows.SealTurnedCardSaid :=
  Claim7.holds_tied_plain_at .later [] [.data, .data] true (true, "573f3079b42056c8b040f26dc05d21bb88f1517e8ad8dabbbd89ff7d85d817d6") false
    over (fun _ h => by cases h) (by kernel_rfl) (fun _ h => by cases h) sealTurned_row_tie rfl ⟨rfl, rfl⟩ headMain rfl
    (fun f fn hf hfn => by
      obtain rfl : f = 21 := Option.some.inj ((show Tryd.prog.funcNamed "engrosser/engrosserlaw06.SealTurned" = some 21 by kernel_rfl).symm.trans hf) |>.symm
      obtain rfl : fn = Tryd.f21 := (Option.some.inj (Tryd.func21.symm.trans hfn)).symm
      exact ⟨by kernel_rfl, fun j t ht => by
        rw [Tryd.params21] at ht
        have hm : t ∈ [89, 3, 5] := by simpa using Array.mem_of_getElem? ht
        have hall : ([89, 3, 5].all fun u => !Tryd.prog.wantsStandIn u) = true := by kernel_rfl
        exact (show Tryd.prog.wantsStandIn t = false by simpa using List.all_eq_true.1 hall t hm)⟩)
    (by kernel_rfl)
#print axioms proved
end Go.Proofs.YtpakgjmcaefnmaaDoor.sealTurned


