/- Contracts of the program's functions, each walked once; the conditions stand in each theorem. -/
import Derived.Test.YtooeklnbdgoneaaDoorCards
import Derived.Test.YtooeklnbdgoneaaDoorTie
import Derived.Test.YtooeklnbdgoneaaDoorW11
import Derived.Test.YtooeklnbdgoneaaDoorAMp4
import Derived.Test.YtooeklnbdgoneaaDoorAMp6
import Derived.WalkKit
import Derived.ProofKit
import Derived.OpenShut
import Derived.ShutString
import Derived.ChangeOld
import Derived.Below
import Derived.LaidMore
import Derived.SevenTiedAt
import Derived.Stop.Joined
set_option linter.unusedSimpArgs false
set_option linter.unusedVariables false
namespace Go.Proofs.YtooeklnbdgoneaaDoor.hpkeReads
open Go.ChangeShapes Go.WideShapes Go.ChangeAt Go.RowKit
open Go.ChangeMaps (open_string shut_string)
set_option linter.unusedVariables false

theorem own : ownKnob Tryd.prog.godebug = none := by kernel_rfl
theorem laidOut : laidOutB Tryd.prog = true := by kernel_rfl

abbrev ty46 : Go.AM.Ty := (.struct (.cons (.int .u64) (.cons (.slice 1 (.int .u8)) .nil)))
theorem tyOf46 : Go.AM.TyOf Tryd.prog ty46 46 := by
  simp only [ty46, Go.AM.TyOf, Go.AM.FsOf]
  exact ⟨_, Tryd.underlying46, ⟨_, _, rfl, by simp [T.c22, T.c41, T.c46], Tryd.underlying41, ⟨_, _, rfl, by simp [T.c22, T.c41, T.c46], ⟨5, Tryd.underlying22, T.c5, by decide, Tryd.underlying5⟩, ⟨rfl, by simp [T.c22, T.c41, T.c46]⟩⟩⟩⟩

abbrev ty22 : Go.AM.Ty := (.slice 1 (.int .u8))
theorem tyOf22 : Go.AM.TyOf Tryd.prog ty22 22 := by
  simp only [ty22, Go.AM.TyOf, Go.AM.FsOf]
  exact ⟨5, Tryd.underlying22, T.c5, by decide, Tryd.underlying5⟩

/-- The walk: the Go text returns true, and nothing that was there is written. -/
theorem walk (w : World) (hL : ∀ g, ∃ vs, Go.AM.VRels (Go.AM.G0 w) (Γd g) vs ∧ Go.AM.RoAt (Go.AM.G0 w) g 0 vs) (v0 : Value) (x0 : List Go.AM.AV) (r0 : Go.AM.VRels (Go.AM.G0 w) x0 v0.cells.toList) (t0 : Go.AM.IsTy ty46 x0) (o0 : ∃ cs, v0 = .agg cs) (z0_1 : ∀ a l c, v0.cells.toList[1]? = some (.slice a l c) → l ≤ reachBytes) (v1 : Value) (x1 : List Go.AM.AV) (r1 : Go.AM.VRels (Go.AM.G0 w) x1 v1.cells.toList) (t1 : Go.AM.IsTy ty22 x1) (o1 : ∃ a l c, v1 = .slice a l c) (z1 : ∀ a l c, v1 = .slice a l c → l ≤ reachBytes) (a2 : Int) (w2 : (Lit.int .i64 a2).wf = true) :
    Calls Tryd.prog 10 #[v0, v1, .int .i64 a2] w fun e w' => e = .returned (.bool true) ∧ Below w.heap.size w w' := by
  obtain ⟨f, z, rfl, hf⟩ := sealed08 t0
  obtain ⟨b, rfl, _⟩ := Go.AM.IsTy.bytes t1
  have e0 := Go.AM.vrel_agg o0 r0
  have e1 := Go.AM.vrel_slice o1 r1
  exact (hpkeReads_calls (Γ := Γd) rfl rfl f hf z b a2 Go.AM.s0).start (vs := [v0, v1, _]) (Go.AM.VRels.cons e0 (Go.AM.VRels.cons e1 (Go.AM.VRels.cons (Go.AM.VRel.val _) Go.AM.VRels.none))) hL (fun r s' h => h)

set_option maxRecDepth 100000 in
theorem lifted (os : Os) (started : os.Started) (H : Type) (enc : TypeId × Value → H) :
    ReturnsInHanded {} Tryd.checked os 10 .any (fun w args => (Rows.hpkeReadsSpec.pre enc Tryd.prog Tryd.f10 [] false w args ∧ laidMetH Tryd.prog laidD w) ∧ sizedMet enc Tryd.prog Tryd.f10 (OpenSpec.ofChange Rows.hpkeReadsSpec) false w args) (Rows.hpkeReadsSpec.post enc Tryd.prog Tryd.f10 false true false false) := by
  refine returnsInHanded_of_change_and (C := Tryd.checked) (X := fun w _ => laidMetH Tryd.prog laidD w) (fun _ _ _ hh h => h.of_heap hh) own started (by kernel_rfl) Tryd.func10
    (ChangeSpec.witness_shaped (enc := enc) (C := Tryd.checked) (os := os) (X := fun w _ => laidMetH Tryd.prog laidD w) false (World.doorLaid Tryd.prog 400 os) #[.agg #[.int .u64 0, .slice none 0 0], .slice none 0 0, .int .i64 0] 12 rfl (World.shaped_of_RefB (by kernel_rfl) (by kernel_rfl)) (by kernel_rfl) (by kernel_rfl) (by kernel_rfl) (door_met os _)) ?_
  intro W base args ds gs before hval0 hW _ hz hL _
  have hval : ∀ (j : Nat) t v, Tryd.f10.params[j]? = some t → args[j]? = some v → Value.okWide Tryd.prog W .any base t v := hval0
  have hW' := hW
  obtain ⟨p, q, hA0, hV, rfl, hfz, hnd⟩ := hW
  have hA : DataW.TrodAll enc Tryd.prog W 0 (fun _ => true) true Tryd.f10.params.toList args.toList ds p := hA0
  rw [Tryd.params10] at hA hval hz
  obtain ⟨v0, vs0, d0, ds0, p0, q0, hargs, rfl, rfl, h0, rr0⟩ := trodAll_cons hA
  obtain ⟨v1, vs1, d1, ds1, p1, q1, rfl, rfl, rfl, h1, rr1⟩ := trodAll_cons rr0
  obtain ⟨v2, vs2, d2, ds2, p2, q2, rfl, rfl, rfl, h2, rr2⟩ := trodAll_cons rr1
  obtain ⟨rfl, rfl, rfl⟩ := trodAll_nil rr2
  obtain rfl : args = #[v0, v1, v2] := by cases args; simp_all
  obtain ⟨rfl, rfl⟩ := trodVars_none hV
  have o0 : ∃ cs, v0 = .agg cs := by
    have h := hval 0 46 v0 rfl rfl
    unfold Value.okWide at h
    rw [Tryd.underlying46] at h
    obtain ⟨cs, h, _⟩ := h
    exact ⟨cs, h⟩
  have z0_1 : ∀ a l c, v0.cells.toList[1]? = some (.slice a l c) → l ≤ reachBytes := by obtain ⟨m, hm⟩ := h0; exact Go.AM.size_of_field (j := 0) Tryd.underlying46 hz rfl rfl hm 1 rfl Tryd.underlying22 (by rw [T.b5]; decide) T.c22
  have lt0 : ∀ x ∈ p0, x.block < W.heap.size := by obtain ⟨m, hm⟩ := h0; exact DataW.trod_lt m _ _ _ hm
  obtain ⟨x0, r0, t0⟩ : ∃ x, Go.AM.VRels (Go.AM.G0 W) x v0.cells.toList ∧ Go.AM.IsTy ty46 x := by obtain ⟨m, hm⟩ := h0; exact Go.AM.open_ty ty46 tyOf46 hm
  have z1 : ∀ a l c, v1 = .slice a l c → l ≤ reachBytes := by obtain ⟨m, hm⟩ := h1; exact Go.AM.size_of_trod (j := 1) Tryd.underlying22 hz rfl rfl hm (by rw [T.b5]; decide)
  have o1 : ∃ a l c, v1 = .slice a l c := by obtain ⟨a, l, c, h⟩ := okWide_slice Tryd.underlying22 (hval 1 22 v1 rfl rfl); exact ⟨a, l, c, h⟩
  have lt1 : ∀ x ∈ p1, x.block < W.heap.size := by obtain ⟨m, hm⟩ := h1; exact DataW.trod_lt m _ _ _ hm
  obtain ⟨x1, r1, t1⟩ : ∃ x, Go.AM.VRels (Go.AM.G0 W) x v1.cells.toList ∧ Go.AM.IsTy ty22 x := by obtain ⟨m, hm⟩ := h1; exact Go.AM.open_ty ty22 tyOf22 hm
  obtain ⟨a2, rfl, rfl, rfl, w2⟩ := open_int Tryd.underlying3 (hval 2 3 v2 rfl rfl) h2
  clear hA0 hval0
  refine (walk W (of_laid hL) v0 x0 r0 t0 o0 z0_1 v1 x1 r1 t1 o1 z1 a2 w2).mono fun e W' ⟨he, bel⟩ => ?_
  subst he
  exact ⟨_, rfl, _, _, _, [], _, [], hW', trodAll_mk1 (shut_bool Tryd.underlying4 _), (trodAll_cons_mk (Below.trod laidOut (by kernel_rfl) (of_decide_eq_true (by kernel_rfl)) h0 bel lt0) (trodAll_cons_mk (Below.trod laidOut (by kernel_rfl) (of_decide_eq_true (by kernel_rfl)) h1 bel lt1) (trodAll_cons_mk (shut_int Tryd.underlying3 w2) trodAll_mk0))), rfl, bel.frame _, fun h => by cases h⟩

theorem closed : joinedFacts Tryd.pinned.checked.prog 10 Tryd.f10 Rows.hpkeReadsSpec Rows.hpkeReadsRow = true :=
  (both (both (both (both (both (both (both (both (both (both (both (both (both (both (both (both (both (both (both (both (both (both (both (both (both (both (both (both (both (both (both (by kernel_rfl) (by kernel_rfl)) (by kernel_rfl)) (by kernel_rfl)) (by kernel_rfl)) (by kernel_rfl)) (by kernel_rfl)) (by kernel_rfl)) (by kernel_rfl)) (by kernel_rfl)) (by kernel_rfl)) (by kernel_rfl)) (by kernel_rfl)) (by kernel_rfl)) (by kernel_rfl)) (by kernel_rfl)) (by kernel_rfl)) (by kernel_rfl)) (by kernel_rfl)) (by kernel_rfl)) (by kernel_rfl)) (by kernel_rfl)) (by kernel_rfl)) (by kernel_rfl)) (by kernel_rfl)) headMay) (same_of headFin)) (make_of headMake)) (by kernel_rfl)) (by kernel_rfl)) (by kernel_rfl)) (by kernel_rfl))

theorem over : Rows.hpkeReadsRow.holds Tryd.pinned (OpenSpec.ofChange Rows.hpkeReadsSpec) :=
  OpenClaim.holds_of_wide 10 Tryd.f10 rfl rfl rfl rfl rfl rfl rfl ⟨rfl, rfl, rfl, rfl, rfl⟩ rfl rfl rfl rfl rfl (by kernel_rfl) Tryd.func10 closed
    (of_decide_eq_true (by kernel_rfl)) (by unfold Func.isWrapper; first | (rw [if_pos (by decide +kernel)]; kernel_rfl) | (rw [if_neg (by decide +kernel)]; exact ⟨rfl, rfl⟩))
    (fun os started H enc _ => lifted os started H enc)

/-- The statement: the row's card, tied to the program's text. -/
theorem proved : Rows.HpkeReadsCardSaid :=
  Claim7.holds_tied_plain_at .later [] [.data, .data] true (true, "4cd6ef0ec7a88d19fd7ad53a31dc0230b83fb27ded2758d110cdf5b926694db9") false
    over (fun _ h => by cases h) (by kernel_rfl) (fun _ h => by cases h) hpkeReads_row_tie rfl ⟨rfl, rfl⟩ headMain rfl
    (fun f fn hf hfn => by
      obtain rfl : f = 10 := Option.some.inj ((show Tryd.prog.funcNamed "engrosser/engrosserlaw08.HpkeReads" = some 10 by kernel_rfl).symm.trans hf) |>.symm
      obtain rfl : fn = Tryd.f10 := (Option.some.inj (Tryd.func10.symm.trans hfn)).symm
      exact ⟨by kernel_rfl, fun j t ht => by
        rw [Tryd.params10] at ht
        have hm : t ∈ [46, 22, 3] := by simpa using Array.mem_of_getElem? ht
        have hall : ([46, 22, 3].all fun u => !Tryd.prog.wantsStandIn u) = true := by kernel_rfl
        exact (show Tryd.prog.wantsStandIn t = false by simpa using List.all_eq_true.1 hall t hm)⟩)
    (by kernel_rfl)
#print axioms proved
end Go.Proofs.YtooeklnbdgoneaaDoor.hpkeReads


