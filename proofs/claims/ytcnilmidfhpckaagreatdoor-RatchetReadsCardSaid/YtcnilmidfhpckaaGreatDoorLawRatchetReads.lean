/- Contracts of the program's functions, each walked once; the conditions stand in each theorem. -/
import Derived.Test.YtcnilmidfhpckaaGreatDoorCards
import Derived.Test.YtcnilmidfhpckaaGreatDoorTie
import Derived.Test.YtcnilmidfhpckaaGreatDoorW10
import Derived.Test.YtcnilmidfhpckaaGreatDoorAMp4
import Derived.Test.YtcnilmidfhpckaaGreatDoorAMp6
import Derived.WalkKit
import Derived.ProofKit
import Derived.OpenShut
import Derived.ShutString
import Derived.ChangeOld
import Derived.Below
import Derived.LaidMore
import Derived.SevenTiedAt
import Derived.Stop.Joined
set_option linter.unusedSimpArgs false
set_option linter.unusedVariables false
namespace Go.Proofs.YtcnilmidfhpckaaGreatDoor.ratchetReads
open Go.ChangeShapes Go.WideShapes Go.ChangeAt Go.RowKit
open Go.ChangeMaps (open_string shut_string)
set_option linter.unusedVariables false

theorem own : ownKnob Tryz.prog.godebug = none := by kernel_rfl
theorem laidOut : laidOutB Tryz.prog = true := by kernel_rfl

abbrev ty22 : Go.AM.Ty := (.slice 5 (.struct (.cons (.int .i64) (.cons (.slice 1 (.int .u8)) (.cons (.int .u64) (.cons (.slice 1 (.int .u8)) (.cons (.slice 1 (.int .i64)) .nil)))))))
theorem tyOf22 : Go.AM.TyOf Tryz.prog ty22 22 := by
  simp only [ty22, Go.AM.TyOf, Go.AM.FsOf]
  exact ⟨68, Tryz.underlying22, T.c68, by decide, ⟨_, Tryz.underlying68, ⟨_, _, rfl, by simp [T.c23, T.c3, T.c44, T.c55, T.c68], Tryz.underlying3, ⟨_, _, rfl, by simp [T.c23, T.c3, T.c44, T.c55, T.c68], ⟨5, Tryz.underlying23, T.c5, by decide, Tryz.underlying5⟩, ⟨_, _, rfl, by simp [T.c23, T.c3, T.c44, T.c55, T.c68], Tryz.underlying44, ⟨_, _, rfl, by simp [T.c23, T.c3, T.c44, T.c55, T.c68], ⟨5, Tryz.underlying23, T.c5, by decide, Tryz.underlying5⟩, ⟨_, _, rfl, by simp [T.c23, T.c3, T.c44, T.c55, T.c68], ⟨3, Tryz.underlying55, T.c3, by decide, Tryz.underlying3⟩, ⟨rfl, by simp [T.c23, T.c3, T.c44, T.c55, T.c68]⟩⟩⟩⟩⟩⟩⟩⟩

abbrev ty23 : Go.AM.Ty := (.slice 1 (.int .u8))
theorem tyOf23 : Go.AM.TyOf Tryz.prog ty23 23 := by
  simp only [ty23, Go.AM.TyOf, Go.AM.FsOf]
  exact ⟨5, Tryz.underlying23, T.c5, by decide, Tryz.underlying5⟩

/-- The walk: the Go text returns true, and nothing that was there is written. -/
theorem walk (w : World) (hL : ∀ g, ∃ vs, Go.AM.VRels (Go.AM.G0 w) (Γd g) vs ∧ Go.AM.RoAt (Go.AM.G0 w) g 0 vs) (v0 : Value) (x0 : List Go.AM.AV) (r0 : Go.AM.VRels (Go.AM.G0 w) x0 v0.cells.toList) (t0 : Go.AM.IsTy ty22 x0) (o0 : ∃ a l c, v0 = .slice a l c) (z0 : ∀ a l c, v0 = .slice a l c → l ≤ reachBytes) (v1 : Value) (x1 : List Go.AM.AV) (r1 : Go.AM.VRels (Go.AM.G0 w) x1 v1.cells.toList) (t1 : Go.AM.IsTy ty23 x1) (o1 : ∃ a l c, v1 = .slice a l c) (z1 : ∀ a l c, v1 = .slice a l c → l ≤ reachBytes) :
    Calls Tryz.prog 3 #[v0, v1] w fun e w' => e = .returned (.bool true) ∧ Below w.heap.size w w' := by
  obtain ⟨t, rfl, hk⟩ := Go.AM.IsTy.tree t0
  obtain ⟨b, rfl, _⟩ := Go.AM.IsTy.bytes t1
  have e0 := Go.AM.vrel_slice o0 r0
  have e1 := Go.AM.vrel_slice o1 r1
  exact (ratchetReads_calls (Γ := Γd) rfl t hk b Go.AM.s0).start (vs := [v0, v1]) (Go.AM.VRels.cons e0 (Go.AM.VRels.cons e1 Go.AM.VRels.none)) hL (fun r s' h => h)

set_option maxRecDepth 100000 in
theorem lifted (os : Os) (started : os.Started) (H : Type) (enc : TypeId × Value → H) :
    ReturnsInHanded {} Tryz.checked os 3 .any (fun w args => (Rows.ratchetReadsSpec.pre enc Tryz.prog Tryz.f3 [] false w args ∧ laidMetH Tryz.prog laidD w) ∧ sizedMet enc Tryz.prog Tryz.f3 (OpenSpec.ofChange Rows.ratchetReadsSpec) false w args) (Rows.ratchetReadsSpec.post enc Tryz.prog Tryz.f3 false true false false) := by
  refine returnsInHanded_of_change_and (C := Tryz.checked) (X := fun w _ => laidMetH Tryz.prog laidD w) (fun _ _ _ hh h => h.of_heap hh) own started (by kernel_rfl) Tryz.func3
    (ChangeSpec.witness_shaped (enc := enc) (C := Tryz.checked) (os := os) (X := fun w _ => laidMetH Tryz.prog laidD w) false (World.doorLaid Tryz.prog 400 os) #[.slice none 0 0, .slice none 0 0] 12 rfl (World.shaped_of_RefB (by kernel_rfl) (by kernel_rfl)) (by kernel_rfl) (by kernel_rfl) (by kernel_rfl) (door_met os _)) ?_
  intro W base args ds gs before hval0 hW _ hz hL _
  have hval : ∀ (j : Nat) t v, Tryz.f3.params[j]? = some t → args[j]? = some v → Value.okWide Tryz.prog W .any base t v := hval0
  have hW' := hW
  obtain ⟨p, q, hA0, hV, rfl, hfz, hnd⟩ := hW
  have hA : DataW.TrodAll enc Tryz.prog W 0 (fun _ => true) true Tryz.f3.params.toList args.toList ds p := hA0
  rw [Tryz.params3] at hA hval hz
  obtain ⟨v0, vs0, d0, ds0, p0, q0, hargs, rfl, rfl, h0, rr0⟩ := trodAll_cons hA
  obtain ⟨v1, vs1, d1, ds1, p1, q1, rfl, rfl, rfl, h1, rr1⟩ := trodAll_cons rr0
  obtain ⟨rfl, rfl, rfl⟩ := trodAll_nil rr1
  obtain rfl : args = #[v0, v1] := by cases args; simp_all
  obtain ⟨rfl, rfl⟩ := trodVars_none hV
  have z0 : ∀ a l c, v0 = .slice a l c → l ≤ reachBytes := by obtain ⟨m, hm⟩ := h0; exact Go.AM.size_of_trod (j := 0) Tryz.underlying22 hz rfl rfl hm (by rw [T.b68]; decide)
  have o0 : ∃ a l c, v0 = .slice a l c := by obtain ⟨a, l, c, h⟩ := okWide_slice Tryz.underlying22 (hval 0 22 v0 rfl rfl); exact ⟨a, l, c, h⟩
  have lt0 : ∀ x ∈ p0, x.block < W.heap.size := by obtain ⟨m, hm⟩ := h0; exact DataW.trod_lt m _ _ _ hm
  obtain ⟨x0, r0, t0⟩ : ∃ x, Go.AM.VRels (Go.AM.G0 W) x v0.cells.toList ∧ Go.AM.IsTy ty22 x := by obtain ⟨m, hm⟩ := h0; exact Go.AM.open_ty ty22 tyOf22 hm
  have z1 : ∀ a l c, v1 = .slice a l c → l ≤ reachBytes := by obtain ⟨m, hm⟩ := h1; exact Go.AM.size_of_trod (j := 1) Tryz.underlying23 hz rfl rfl hm (by rw [T.b5]; decide)
  have o1 : ∃ a l c, v1 = .slice a l c := by obtain ⟨a, l, c, h⟩ := okWide_slice Tryz.underlying23 (hval 1 23 v1 rfl rfl); exact ⟨a, l, c, h⟩
  have lt1 : ∀ x ∈ p1, x.block < W.heap.size := by obtain ⟨m, hm⟩ := h1; exact DataW.trod_lt m _ _ _ hm
  obtain ⟨x1, r1, t1⟩ : ∃ x, Go.AM.VRels (Go.AM.G0 W) x v1.cells.toList ∧ Go.AM.IsTy ty23 x := by obtain ⟨m, hm⟩ := h1; exact Go.AM.open_ty ty23 tyOf23 hm
  clear hA0 hval0
  refine (walk W (of_laid hL) v0 x0 r0 t0 o0 z0 v1 x1 r1 t1 o1 z1).mono fun e W' ⟨he, bel⟩ => ?_
  subst he
  exact ⟨_, rfl, _, _, _, [], _, [], hW', trodAll_mk1 (shut_bool Tryz.underlying4 _), (trodAll_cons_mk (Below.trod laidOut (by kernel_rfl) (of_decide_eq_true (by kernel_rfl)) h0 bel lt0) (trodAll_cons_mk (Below.trod laidOut (by kernel_rfl) (of_decide_eq_true (by kernel_rfl)) h1 bel lt1) trodAll_mk0)), rfl, bel.frame _, fun h => by cases h⟩

theorem closed : joinedFacts Tryz.pinned.checked.prog 3 Tryz.f3 Rows.ratchetReadsSpec Rows.ratchetReadsRow = true :=
  (both (both (both (both (both (both (both (both (both (both (both (both (both (both (both (both (both (both (both (both (both (both (both (both (both (both (both (both (both (both (both (by kernel_rfl) (by kernel_rfl)) (by kernel_rfl)) (by kernel_rfl)) (by kernel_rfl)) (by kernel_rfl)) (by kernel_rfl)) (by kernel_rfl)) (by kernel_rfl)) (by kernel_rfl)) (by kernel_rfl)) (by kernel_rfl)) (by kernel_rfl)) (by kernel_rfl)) (by kernel_rfl)) (by kernel_rfl)) (by kernel_rfl)) (by kernel_rfl)) (by kernel_rfl)) (by kernel_rfl)) (by kernel_rfl)) (by kernel_rfl)) (by kernel_rfl)) (by kernel_rfl)) (by kernel_rfl)) headMay) (same_of headFin)) (make_of headMake)) (by kernel_rfl)) (by kernel_rfl)) (by kernel_rfl)) (by kernel_rfl))

theorem over : Rows.ratchetReadsRow.holds Tryz.pinned (OpenSpec.ofChange Rows.ratchetReadsSpec) :=
  OpenClaim.holds_of_wide 3 Tryz.f3 rfl rfl rfl rfl rfl rfl rfl ⟨rfl, rfl, rfl, rfl, rfl⟩ rfl rfl rfl rfl rfl (by kernel_rfl) Tryz.func3 closed
    (of_decide_eq_true (by kernel_rfl)) (by unfold Func.isWrapper; first | (rw [if_pos (by decide +kernel)]; kernel_rfl) | (rw [if_neg (by decide +kernel)]; exact ⟨rfl, rfl⟩))
    (fun os started H enc _ => lifted os started H enc)

/-- The statement: the row's card, tied to the program's text. -/
theorem proved : Rows.RatchetReadsCardSaid :=
  Claim7.holds_tied_plain_at .later [] [.data, .data] true (true, "77f9337c36ae3e1899b120b5794174503fbcab5305227006b7a304e67661c486") false
    over (fun _ h => by cases h) (by kernel_rfl) (fun _ h => by cases h) ratchetReads_row_tie rfl ⟨rfl, rfl⟩ headMain rfl
    (fun f fn hf hfn => by
      obtain rfl : f = 3 := Option.some.inj ((show Tryz.prog.funcNamed "engrosser/engrosserlaw20.RatchetReads" = some 3 by kernel_rfl).symm.trans hf) |>.symm
      obtain rfl : fn = Tryz.f3 := (Option.some.inj (Tryz.func3.symm.trans hfn)).symm
      exact ⟨by kernel_rfl, fun j t ht => by
        rw [Tryz.params3] at ht
        have hm : t ∈ [22, 23] := by simpa using Array.mem_of_getElem? ht
        have hall : ([22, 23].all fun u => !Tryz.prog.wantsStandIn u) = true := by kernel_rfl
        exact (show Tryz.prog.wantsStandIn t = false by simpa using List.all_eq_true.1 hall t hm)⟩)
    (by kernel_rfl)
#print axioms proved
end Go.Proofs.YtcnilmidfhpckaaGreatDoor.ratchetReads


