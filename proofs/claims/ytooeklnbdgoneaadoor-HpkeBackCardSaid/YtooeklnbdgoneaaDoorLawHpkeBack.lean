/- Contracts of the program's functions, each walked once; the conditions stand in each theorem. -/
import Derived.Test.YtooeklnbdgoneaaDoorCards
import Derived.Test.YtooeklnbdgoneaaDoorTie
import Derived.Test.YtooeklnbdgoneaaDoorW10
import Derived.Test.YtooeklnbdgoneaaDoorAMp4
import Derived.Test.YtooeklnbdgoneaaDoorAMp6
import Derived.WalkKit
import Derived.ProofKit
import Derived.OpenShut
import Derived.ShutString
import Derived.ChangeOld
import Derived.Below
import Derived.LaidMore
import Derived.SevenTiedAt
import Derived.Stop.Joined
set_option linter.unusedSimpArgs false
set_option linter.unusedVariables false
namespace Go.Proofs.YtooeklnbdgoneaaDoor.hpkeBack
open Go.ChangeShapes Go.WideShapes Go.ChangeAt Go.RowKit
open Go.ChangeMaps (open_string shut_string)
set_option linter.unusedVariables false

theorem own : ownKnob Tryd.prog.godebug = none := by kernel_rfl
theorem laidOut : laidOutB Tryd.prog = true := by kernel_rfl

abbrev ty22 : Go.AM.Ty := (.slice 1 (.int .u8))
theorem tyOf22 : Go.AM.TyOf Tryd.prog ty22 22 := by
  simp only [ty22, Go.AM.TyOf, Go.AM.FsOf]
  exact ⟨5, Tryd.underlying22, T.c5, by decide, Tryd.underlying5⟩

abbrev ty43 : Go.AM.Ty := (.struct (.cons (.slice 1 (.int .u8)) (.cons (.slice 1 (.int .u8)) (.cons (.slice 1 (.int .u8)) (.cons (.slice 1 (.int .u8)) .nil)))))
theorem tyOf43 : Go.AM.TyOf Tryd.prog ty43 43 := by
  simp only [ty43, Go.AM.TyOf, Go.AM.FsOf]
  exact ⟨_, Tryd.underlying43, ⟨_, _, rfl, by simp [T.c22, T.c43], ⟨5, Tryd.underlying22, T.c5, by decide, Tryd.underlying5⟩, ⟨_, _, rfl, by simp [T.c22, T.c43], ⟨5, Tryd.underlying22, T.c5, by decide, Tryd.underlying5⟩, ⟨_, _, rfl, by simp [T.c22, T.c43], ⟨5, Tryd.underlying22, T.c5, by decide, Tryd.underlying5⟩, ⟨_, _, rfl, by simp [T.c22, T.c43], ⟨5, Tryd.underlying22, T.c5, by decide, Tryd.underlying5⟩, ⟨rfl, by simp [T.c22, T.c43]⟩⟩⟩⟩⟩⟩

/-- The walk: the Go text returns true, and nothing that was there is written. -/
theorem walk (w : World) (hL : ∀ g, ∃ vs, Go.AM.VRels (Go.AM.G0 w) (Γd g) vs ∧ Go.AM.RoAt (Go.AM.G0 w) g 0 vs) (v0 : Value) (x0 : List Go.AM.AV) (r0 : Go.AM.VRels (Go.AM.G0 w) x0 v0.cells.toList) (t0 : Go.AM.IsTy ty22 x0) (o0 : ∃ a l c, v0 = .slice a l c) (z0 : ∀ a l c, v0 = .slice a l c → l ≤ reachBytes) (v1 : Value) (x1 : List Go.AM.AV) (r1 : Go.AM.VRels (Go.AM.G0 w) x1 v1.cells.toList) (t1 : Go.AM.IsTy ty43 x1) (o1 : ∃ cs, v1 = .agg cs) (z1_0 : ∀ a l c, v1.cells.toList[0]? = some (.slice a l c) → l ≤ reachBytes) (z1_1 : ∀ a l c, v1.cells.toList[1]? = some (.slice a l c) → l ≤ reachBytes) (z1_2 : ∀ a l c, v1.cells.toList[2]? = some (.slice a l c) → l ≤ reachBytes) (z1_3 : ∀ a l c, v1.cells.toList[3]? = some (.slice a l c) → l ≤ reachBytes) :
    Calls Tryd.prog 9 #[v0, v1] w fun e w' => e = .returned (.bool true) ∧ Below w.heap.size w w' := by
  obtain ⟨b0, rfl, _⟩ := Go.AM.IsTy.bytes t0
  obtain ⟨k, n, b, t, rfl⟩ := case08 t1
  have e0 := Go.AM.vrel_slice o0 r0
  have e1 := Go.AM.vrel_agg o1 r1
  exact (hpkeBack_calls (Γ := Γd) rfl rfl b0 k n b t Go.AM.s0).start (vs := [v0, v1]) (Go.AM.VRels.cons e0 (Go.AM.VRels.cons e1 Go.AM.VRels.none)) hL (fun r s' h => h)

set_option maxRecDepth 100000 in
theorem lifted (os : Os) (started : os.Started) (H : Type) (enc : TypeId × Value → H) :
    ReturnsInHanded {} Tryd.checked os 9 .any (fun w args => (Rows.hpkeBackSpec.pre enc Tryd.prog Tryd.f9 [] false w args ∧ laidMetH Tryd.prog laidD w) ∧ sizedMet enc Tryd.prog Tryd.f9 (OpenSpec.ofChange Rows.hpkeBackSpec) false w args) (Rows.hpkeBackSpec.post enc Tryd.prog Tryd.f9 false true false false) := by
  refine returnsInHanded_of_change_and (C := Tryd.checked) (X := fun w _ => laidMetH Tryd.prog laidD w) (fun _ _ _ hh h => h.of_heap hh) own started (by kernel_rfl) Tryd.func9
    (ChangeSpec.witness_shaped (enc := enc) (C := Tryd.checked) (os := os) (X := fun w _ => laidMetH Tryd.prog laidD w) false (World.doorLaid Tryd.prog 400 os) #[.slice none 0 0, .agg #[.slice none 0 0, .slice none 0 0, .slice none 0 0, .slice none 0 0]] 12 rfl (World.shaped_of_RefB (by kernel_rfl) (by kernel_rfl)) (by kernel_rfl) (by kernel_rfl) (by kernel_rfl) (door_met os _)) ?_
  intro W base args ds gs before hval0 hW _ hz hL _
  have hval : ∀ (j : Nat) t v, Tryd.f9.params[j]? = some t → args[j]? = some v → Value.okWide Tryd.prog W .any base t v := hval0
  have hW' := hW
  obtain ⟨p, q, hA0, hV, rfl, hfz, hnd⟩ := hW
  have hA : DataW.TrodAll enc Tryd.prog W 0 (fun _ => true) true Tryd.f9.params.toList args.toList ds p := hA0
  rw [Tryd.params9] at hA hval hz
  obtain ⟨v0, vs0, d0, ds0, p0, q0, hargs, rfl, rfl, h0, rr0⟩ := trodAll_cons hA
  obtain ⟨v1, vs1, d1, ds1, p1, q1, rfl, rfl, rfl, h1, rr1⟩ := trodAll_cons rr0
  obtain ⟨rfl, rfl, rfl⟩ := trodAll_nil rr1
  obtain rfl : args = #[v0, v1] := by cases args; simp_all
  obtain ⟨rfl, rfl⟩ := trodVars_none hV
  have z0 : ∀ a l c, v0 = .slice a l c → l ≤ reachBytes := by obtain ⟨m, hm⟩ := h0; exact Go.AM.size_of_trod (j := 0) Tryd.underlying22 hz rfl rfl hm (by rw [T.b5]; decide)
  have o0 : ∃ a l c, v0 = .slice a l c := by obtain ⟨a, l, c, h⟩ := okWide_slice Tryd.underlying22 (hval 0 22 v0 rfl rfl); exact ⟨a, l, c, h⟩
  have lt0 : ∀ x ∈ p0, x.block < W.heap.size := by obtain ⟨m, hm⟩ := h0; exact DataW.trod_lt m _ _ _ hm
  obtain ⟨x0, r0, t0⟩ : ∃ x, Go.AM.VRels (Go.AM.G0 W) x v0.cells.toList ∧ Go.AM.IsTy ty22 x := by obtain ⟨m, hm⟩ := h0; exact Go.AM.open_ty ty22 tyOf22 hm
  have o1 : ∃ cs, v1 = .agg cs := by
    have h := hval 1 43 v1 rfl rfl
    unfold Value.okWide at h
    rw [Tryd.underlying43] at h
    obtain ⟨cs, h, _⟩ := h
    exact ⟨cs, h⟩
  have z1_0 : ∀ a l c, v1.cells.toList[0]? = some (.slice a l c) → l ≤ reachBytes := by obtain ⟨m, hm⟩ := h1; exact Go.AM.size_of_field (j := 1) Tryd.underlying43 hz rfl rfl hm 0 rfl Tryd.underlying22 (by rw [T.b5]; decide) T.c22
  have z1_1 : ∀ a l c, v1.cells.toList[1]? = some (.slice a l c) → l ≤ reachBytes := by obtain ⟨m, hm⟩ := h1; exact Go.AM.size_of_field (j := 1) Tryd.underlying43 hz rfl rfl hm 1 rfl Tryd.underlying22 (by rw [T.b5]; decide) T.c22
  have z1_2 : ∀ a l c, v1.cells.toList[2]? = some (.slice a l c) → l ≤ reachBytes := by obtain ⟨m, hm⟩ := h1; exact Go.AM.size_of_field (j := 1) Tryd.underlying43 hz rfl rfl hm 2 rfl Tryd.underlying22 (by rw [T.b5]; decide) T.c22
  have z1_3 : ∀ a l c, v1.cells.toList[3]? = some (.slice a l c) → l ≤ reachBytes := by obtain ⟨m, hm⟩ := h1; exact Go.AM.size_of_field (j := 1) Tryd.underlying43 hz rfl rfl hm 3 rfl Tryd.underlying22 (by rw [T.b5]; decide) T.c22
  have lt1 : ∀ x ∈ p1, x.block < W.heap.size := by obtain ⟨m, hm⟩ := h1; exact DataW.trod_lt m _ _ _ hm
  obtain ⟨x1, r1, t1⟩ : ∃ x, Go.AM.VRels (Go.AM.G0 W) x v1.cells.toList ∧ Go.AM.IsTy ty43 x := by obtain ⟨m, hm⟩ := h1; exact Go.AM.open_ty ty43 tyOf43 hm
  clear hA0 hval0
  refine (walk W (of_laid hL) v0 x0 r0 t0 o0 z0 v1 x1 r1 t1 o1 z1_0 z1_1 z1_2 z1_3).mono fun e W' ⟨he, bel⟩ => ?_
  subst he
  exact ⟨_, rfl, _, _, _, [], _, [], hW', trodAll_mk1 (shut_bool Tryd.underlying4 _), (trodAll_cons_mk (Below.trod laidOut (by kernel_rfl) (of_decide_eq_true (by kernel_rfl)) h0 bel lt0) (trodAll_cons_mk (Below.trod laidOut (by kernel_rfl) (of_decide_eq_true (by kernel_rfl)) h1 bel lt1) trodAll_mk0)), rfl, bel.frame _, fun h => by cases h⟩

theorem closed : joinedFacts Tryd.pinned.checked.prog 9 Tryd.f9 Rows.hpkeBackSpec Rows.hpkeBackRow = true :=
  (both (both (both (both (both (both (both (both (both (both (both (both (both (both (both (both (both (both (both (both (both (both (both (both (both (both (both (both (both (both (both (by kernel_rfl) (by kernel_rfl)) (by kernel_rfl)) (by kernel_rfl)) (by kernel_rfl)) (by kernel_rfl)) (by kernel_rfl)) (by kernel_rfl)) (by kernel_rfl)) (by kernel_rfl)) (by kernel_rfl)) (by kernel_rfl)) (by kernel_rfl)) (by kernel_rfl)) (by kernel_rfl)) (by kernel_rfl)) (by kernel_rfl)) (by kernel_rfl)) (by kernel_rfl)) (by kernel_rfl)) (by kernel_rfl)) (by kernel_rfl)) (by kernel_rfl)) (by kernel_rfl)) (by kernel_rfl)) headMay) (same_of headFin)) (make_of headMake)) (by kernel_rfl)) (by kernel_rfl)) (by kernel_rfl)) (by kernel_rfl))

theorem over : Rows.hpkeBackRow.holds Tryd.pinned (OpenSpec.ofChange Rows.hpkeBackSpec) :=
  OpenClaim.holds_of_wide 9 Tryd.f9 rfl rfl rfl rfl rfl rfl rfl ⟨rfl, rfl, rfl, rfl, rfl⟩ rfl rfl rfl rfl rfl (by kernel_rfl) Tryd.func9 closed
    (of_decide_eq_true (by kernel_rfl)) (by unfold Func.isWrapper; first | (rw [if_pos (by decide +kernel)]; kernel_rfl) | (rw [if_neg (by decide +kernel)]; exact ⟨rfl, rfl⟩))
    (fun os started H enc _ => lifted os started H enc)

/-- The statement: the row's card, tied to the program's text. -/
theorem proved : Rows.HpkeBackCardSaid :=
  Claim7.holds_tied_plain_at .later [] [.data, .data] true (true, "4cd6ef0ec7a88d19fd7ad53a31dc0230b83fb27ded2758d110cdf5b926694db9") false
    over (fun _ h => by cases h) (by kernel_rfl) (fun _ h => by cases h) hpkeBack_row_tie rfl ⟨rfl, rfl⟩ headMain rfl
    (fun f fn hf hfn => by
      obtain rfl : f = 9 := Option.some.inj ((show Tryd.prog.funcNamed "engrosser/engrosserlaw08.HpkeBack" = some 9 by kernel_rfl).symm.trans hf) |>.symm
      obtain rfl : fn = Tryd.f9 := (Option.some.inj (Tryd.func9.symm.trans hfn)).symm
      exact ⟨by kernel_rfl, fun j t ht => by
        rw [Tryd.params9] at ht
        have hm : t ∈ [22, 43] := by simpa using Array.mem_of_getElem? ht
        have hall : ([22, 43].all fun u => !Tryd.prog.wantsStandIn u) = true := by kernel_rfl
        exact (show Tryd.prog.wantsStandIn t = false by simpa using List.all_eq_true.1 hall t hm)⟩)
    (by kernel_rfl)
#print axioms proved
end Go.Proofs.YtooeklnbdgoneaaDoor.hpkeBack


