/- Contracts of the program's functions, each walked once; the conditions stand in each theorem. -/
import Derived.Test.YtooeklnbdgoneaaDoorCards
import Derived.Test.YtooeklnbdgoneaaDoorTie
import Derived.Test.YtooeklnbdgoneaaDoorW12
import Derived.Test.YtooeklnbdgoneaaDoorAMp4
import Derived.Test.YtooeklnbdgoneaaDoorAMp6
import Derived.WalkKit
import Derived.ProofKit
import Derived.OpenShut
import Derived.ShutString
import Derived.ChangeOld
import Derived.Below
import Derived.LaidMore
import Derived.SevenTiedAt
import Derived.Stop.Joined
import Derived.Test.YtooeklnbdgoneaaDoorShaFacts
set_option linter.unusedSimpArgs false
set_option linter.unusedVariables false
namespace Go.Proofs.YtooeklnbdgoneaaDoor.hpkeOpens
open Go.ChangeShapes Go.WideShapes Go.ChangeAt Go.RowKit
open Go.ChangeMaps (open_string shut_string)
set_option linter.unusedVariables false

theorem own : ownKnob Tryd.prog.godebug = none := by kernel_rfl
theorem laidOut : laidOutB Tryd.prog = true := by kernel_rfl

abbrev ty46 : Go.AM.Ty := (.struct (.cons (.int .u64) (.cons (.slice 1 (.int .u8)) .nil)))
theorem tyOf46 : Go.AM.TyOf Tryd.prog ty46 46 := by
  simp only [ty46, Go.AM.TyOf, Go.AM.FsOf]
  exact ⟨_, Tryd.underlying46, ⟨_, _, rfl, by simp [T.c22, T.c41, T.c46], Tryd.underlying41, ⟨_, _, rfl, by simp [T.c22, T.c41, T.c46], ⟨5, Tryd.underlying22, T.c5, by decide, Tryd.underlying5⟩, ⟨rfl, by simp [T.c22, T.c41, T.c46]⟩⟩⟩⟩

abbrev ty43 : Go.AM.Ty := (.struct (.cons (.slice 1 (.int .u8)) (.cons (.slice 1 (.int .u8)) (.cons (.slice 1 (.int .u8)) (.cons (.slice 1 (.int .u8)) .nil)))))
theorem tyOf43 : Go.AM.TyOf Tryd.prog ty43 43 := by
  simp only [ty43, Go.AM.TyOf, Go.AM.FsOf]
  exact ⟨_, Tryd.underlying43, ⟨_, _, rfl, by simp [T.c22, T.c43], ⟨5, Tryd.underlying22, T.c5, by decide, Tryd.underlying5⟩, ⟨_, _, rfl, by simp [T.c22, T.c43], ⟨5, Tryd.underlying22, T.c5, by decide, Tryd.underlying5⟩, ⟨_, _, rfl, by simp [T.c22, T.c43], ⟨5, Tryd.underlying22, T.c5, by decide, Tryd.underlying5⟩, ⟨_, _, rfl, by simp [T.c22, T.c43], ⟨5, Tryd.underlying22, T.c5, by decide, Tryd.underlying5⟩, ⟨rfl, by simp [T.c22, T.c43]⟩⟩⟩⟩⟩⟩

/-- The walk: the Go text returns true, and nothing that was there is written. -/
theorem walk (w : World) (hL : ∀ g, ∃ vs, Go.AM.VRels (Go.AM.G0 w) (Γd g) vs ∧ Go.AM.RoAt (Go.AM.G0 w) g 0 vs) (a0 : Int) (w0 : (Lit.int .u64 a0).wf = true) (v1 : Value) (x1 : List Go.AM.AV) (r1 : Go.AM.VRels (Go.AM.G0 w) x1 v1.cells.toList) (t1 : Go.AM.IsTy ty46 x1) (o1 : ∃ cs, v1 = .agg cs) (z1_1 : ∀ a l c, v1.cells.toList[1]? = some (.slice a l c) → l ≤ reachBytes) (v2 : Value) (x2 : List Go.AM.AV) (r2 : Go.AM.VRels (Go.AM.G0 w) x2 v2.cells.toList) (t2 : Go.AM.IsTy ty43 x2) (o2 : ∃ cs, v2 = .agg cs) (z2_0 : ∀ a l c, v2.cells.toList[0]? = some (.slice a l c) → l ≤ reachBytes) (z2_1 : ∀ a l c, v2.cells.toList[1]? = some (.slice a l c) → l ≤ reachBytes) (z2_2 : ∀ a l c, v2.cells.toList[2]? = some (.slice a l c) → l ≤ reachBytes) (z2_3 : ∀ a l c, v2.cells.toList[3]? = some (.slice a l c) → l ≤ reachBytes) :
    Calls Tryd.prog 8 #[.int .u64 a0, v1, v2] w fun e w' => e = .returned (.bool true) ∧ Below w.heap.size w w' := by
  obtain ⟨f, z, rfl, _⟩ := sealed08 t1
  obtain ⟨k, n, b, t, rfl⟩ := case08 t2
  have e1 := Go.AM.vrel_agg o1 r1
  have e2 := Go.AM.vrel_agg o2 r2
  obtain ⟨p, rfl, _⟩ := Go.AM.nat_u64 w0
  exact (hpkeOpens_calls (Γ := Γd) rfl rfl p f z k n b t Go.AM.s0).start (vs := [_, v1, v2]) (Go.AM.VRels.cons (Go.AM.VRel.val _) (Go.AM.VRels.cons e1 (Go.AM.VRels.cons e2 Go.AM.VRels.none))) hL (fun r s' h => h)

set_option maxRecDepth 100000 in
theorem lifted (os : Os) (started : os.Started) (H : Type) (enc : TypeId × Value → H) :
    ReturnsInHanded {} Tryd.checked os 8 .any (fun w args => (Rows.hpkeOpensSpec.pre enc Tryd.prog Tryd.f8 [] false w args ∧ laidMetH Tryd.prog laidD w) ∧ sizedMet enc Tryd.prog Tryd.f8 (OpenSpec.ofChange Rows.hpkeOpensSpec) false w args) (Rows.hpkeOpensSpec.post enc Tryd.prog Tryd.f8 false true false false) := by
  refine returnsInHanded_of_change_and (C := Tryd.checked) (X := fun w _ => laidMetH Tryd.prog laidD w) (fun _ _ _ hh h => h.of_heap hh) own started (by kernel_rfl) Tryd.func8
    (ChangeSpec.witness_shaped (enc := enc) (C := Tryd.checked) (os := os) (X := fun w _ => laidMetH Tryd.prog laidD w) false (World.doorLaid Tryd.prog 400 os) #[.int .u64 0, .agg #[.int .u64 0, .slice none 0 0], .agg #[.slice none 0 0, .slice none 0 0, .slice none 0 0, .slice none 0 0]] 12 rfl (World.shaped_of_RefB (by kernel_rfl) (by kernel_rfl)) (by kernel_rfl) (by kernel_rfl) (by kernel_rfl) (door_met os _)) ?_
  intro W base args ds gs before hval0 hW _ hz hL _
  have hval : ∀ (j : Nat) t v, Tryd.f8.params[j]? = some t → args[j]? = some v → Value.okWide Tryd.prog W .any base t v := hval0
  have hW' := hW
  obtain ⟨p, q, hA0, hV, rfl, hfz, hnd⟩ := hW
  have hA : DataW.TrodAll enc Tryd.prog W 0 (fun _ => true) true Tryd.f8.params.toList args.toList ds p := hA0
  rw [Tryd.params8] at hA hval hz
  obtain ⟨v0, vs0, d0, ds0, p0, q0, hargs, rfl, rfl, h0, rr0⟩ := trodAll_cons hA
  obtain ⟨v1, vs1, d1, ds1, p1, q1, rfl, rfl, rfl, h1, rr1⟩ := trodAll_cons rr0
  obtain ⟨v2, vs2, d2, ds2, p2, q2, rfl, rfl, rfl, h2, rr2⟩ := trodAll_cons rr1
  obtain ⟨rfl, rfl, rfl⟩ := trodAll_nil rr2
  obtain rfl : args = #[v0, v1, v2] := by cases args; simp_all
  obtain ⟨rfl, rfl⟩ := trodVars_none hV
  obtain ⟨a0, rfl, rfl, rfl, w0⟩ := open_int Tryd.underlying41 (hval 0 41 v0 rfl rfl) h0
  have o1 : ∃ cs, v1 = .agg cs := by
    have h := hval 1 46 v1 rfl rfl
    unfold Value.okWide at h
    rw [Tryd.underlying46] at h
    obtain ⟨cs, h, _⟩ := h
    exact ⟨cs, h⟩
  have z1_1 : ∀ a l c, v1.cells.toList[1]? = some (.slice a l c) → l ≤ reachBytes := by obtain ⟨m, hm⟩ := h1; exact Go.AM.size_of_field (j := 1) Tryd.underlying46 hz rfl rfl hm 1 rfl Tryd.underlying22 (by rw [T.b5]; decide) T.c22
  have lt1 : ∀ x ∈ p1, x.block < W.heap.size := by obtain ⟨m, hm⟩ := h1; exact DataW.trod_lt m _ _ _ hm
  obtain ⟨x1, r1, t1⟩ : ∃ x, Go.AM.VRels (Go.AM.G0 W) x v1.cells.toList ∧ Go.AM.IsTy ty46 x := by obtain ⟨m, hm⟩ := h1; exact Go.AM.open_ty ty46 tyOf46 hm
  have o2 : ∃ cs, v2 = .agg cs := by
    have h := hval 2 43 v2 rfl rfl
    unfold Value.okWide at h
    rw [Tryd.underlying43] at h
    obtain ⟨cs, h, _⟩ := h
    exact ⟨cs, h⟩
  have z2_0 : ∀ a l c, v2.cells.toList[0]? = some (.slice a l c) → l ≤ reachBytes := by obtain ⟨m, hm⟩ := h2; exact Go.AM.size_of_field (j := 2) Tryd.underlying43 hz rfl rfl hm 0 rfl Tryd.underlying22 (by rw [T.b5]; decide) T.c22
  have z2_1 : ∀ a l c, v2.cells.toList[1]? = some (.slice a l c) → l ≤ reachBytes := by obtain ⟨m, hm⟩ := h2; exact Go.AM.size_of_field (j := 2) Tryd.underlying43 hz rfl rfl hm 1 rfl Tryd.underlying22 (by rw [T.b5]; decide) T.c22
  have z2_2 : ∀ a l c, v2.cells.toList[2]? = some (.slice a l c) → l ≤ reachBytes := by obtain ⟨m, hm⟩ := h2; exact Go.AM.size_of_field (j := 2) Tryd.underlying43 hz rfl rfl hm 2 rfl Tryd.underlying22 (by rw [T.b5]; decide) T.c22
  have z2_3 : ∀ a l c, v2.cells.toList[3]? = some (.slice a l c) → l ≤ reachBytes := by obtain ⟨m, hm⟩ := h2; exact Go.AM.size_of_field (j := 2) Tryd.underlying43 hz rfl rfl hm 3 rfl Tryd.underlying22 (by rw [T.b5]; decide) T.c22
  have lt2 : ∀ x ∈ p2, x.block < W.heap.size := by obtain ⟨m, hm⟩ := h2; exact DataW.trod_lt m _ _ _ hm
  obtain ⟨x2, r2, t2⟩ : ∃ x, Go.AM.VRels (Go.AM.G0 W) x v2.cells.toList ∧ Go.AM.IsTy ty43 x := by obtain ⟨m, hm⟩ := h2; exact Go.AM.open_ty ty43 tyOf43 hm
  clear hA0 hval0
  refine (walk W (of_laid hL) a0 w0 v1 x1 r1 t1 o1 z1_1 v2 x2 r2 t2 o2 z2_0 z2_1 z2_2 z2_3).mono fun e W' ⟨he, bel⟩ => ?_
  subst he
  exact ⟨_, rfl, _, _, _, [], _, [], hW', trodAll_mk1 (shut_bool Tryd.underlying4 _), (trodAll_cons_mk (shut_int Tryd.underlying41 w0) (trodAll_cons_mk (Below.trod laidOut (by kernel_rfl) (of_decide_eq_true (by kernel_rfl)) h1 bel lt1) (trodAll_cons_mk (Below.trod laidOut (by kernel_rfl) (of_decide_eq_true (by kernel_rfl)) h2 bel lt2) trodAll_mk0))), rfl, bel.frame _, fun h => by cases h⟩

theorem closed : joinedFacts Tryd.pinned.checked.prog 8 Tryd.f8 Rows.hpkeOpensSpec Rows.hpkeOpensRow = true :=
  (both (both (both (both (both (both (both (both (both (both (both (both (both (both (both (both (both (both (both (both (both (both (both (both (both (both (both (both (both (both (both (by kernel_rfl) (by kernel_rfl)) (by kernel_rfl)) (by kernel_rfl)) (by kernel_rfl)) (by kernel_rfl)) (by kernel_rfl)) (by kernel_rfl)) (by kernel_rfl)) (by kernel_rfl)) (by kernel_rfl)) (by kernel_rfl)) (by kernel_rfl)) (by kernel_rfl)) (by kernel_rfl)) (by kernel_rfl)) (by kernel_rfl)) (by kernel_rfl)) (by kernel_rfl)) (by kernel_rfl)) (by kernel_rfl)) (by kernel_rfl)) (by kernel_rfl)) (by kernel_rfl)) (by kernel_rfl)) headMay) (same_of headFin)) (make_of headMake)) (by kernel_rfl)) (by kernel_rfl)) (by kernel_rfl)) (by kernel_rfl))

theorem over : Rows.hpkeOpensRow.holds Tryd.pinned (OpenSpec.ofChange Rows.hpkeOpensSpec) :=
  OpenClaim.holds_of_wide 8 Tryd.f8 rfl rfl rfl rfl rfl rfl rfl ⟨rfl, rfl, rfl, rfl, rfl⟩ rfl rfl rfl rfl rfl (by kernel_rfl) Tryd.func8 closed
    (of_decide_eq_true (by kernel_rfl)) (by unfold Func.isWrapper; first | (rw [if_pos (by decide +kernel)]; kernel_rfl) | (rw [if_neg (by decide +kernel)]; exact ⟨rfl, rfl⟩))
    (fun os started H enc _ => lifted os started H enc)

/-- The statement: the row's card, tied to the program's text. -/
theorem proved : Rows.HpkeOpensCardSaid :=
  Claim7.holds_tied_plain_at .later [] [.data, .data] true (true, "4cd6ef0ec7a88d19fd7ad53a31dc0230b83fb27ded2758d110cdf5b926694db9") false
    over (fun _ h => by cases h) (by kernel_rfl) (fun _ h => by cases h) hpkeOpens_row_tie rfl ⟨rfl, rfl⟩ headMain rfl
    (fun f fn hf hfn => by
      obtain rfl : f = 8 := Option.some.inj ((show Tryd.prog.funcNamed "engrosser/engrosserlaw08.HpkeOpens" = some 8 by kernel_rfl).symm.trans hf) |>.symm
      obtain rfl : fn = Tryd.f8 := (Option.some.inj (Tryd.func8.symm.trans hfn)).symm
      exact ⟨by kernel_rfl, fun j t ht => by
        rw [Tryd.params8] at ht
        have hm : t ∈ [41, 46, 43] := by simpa using Array.mem_of_getElem? ht
        have hall : ([41, 46, 43].all fun u => !Tryd.prog.wantsStandIn u) = true := by kernel_rfl
        exact (show Tryd.prog.wantsStandIn t = false by simpa using List.all_eq_true.1 hall t hm)⟩)
    (by kernel_rfl)
#print axioms proved
end Go.Proofs.YtooeklnbdgoneaaDoor.hpkeOpens


