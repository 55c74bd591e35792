/- Contracts of the program's functions, each walked once; the conditions stand in each theorem. -/
import Derived.Test.YtpakgjmcaefnmaaDoorCards
import Derived.Test.YtpakgjmcaefnmaaDoorTie
import Derived.Test.YtpakgjmcaefnmaaDoorSch7
import Derived.Test.YtpakgjmcaefnmaaDoorAMp4
import Derived.Test.YtpakgjmcaefnmaaDoorAMp6
import Derived.WalkKit
import Derived.ProofKit
import Derived.OpenShut
import Derived.ShutString
import Derived.ChangeOld
import Derived.Below
import Derived.LaidMore
import Derived.SevenTiedAt
import Derived.Stop.Joined
import Derived.Test.YtpakgjmcaefnmaaDoorShaEnd
import Derived.Test.YtpakgjmcaefnmaaDoorShaFacts
set_option linter.unusedSimpArgs false
set_option linter.unusedVariables false
namespace Go.Proofs.YtpakgjmcaefnmaaDoor.scheduleSames
open Go.ChangeShapes Go.WideShapes Go.ChangeAt Go.RowKit
open Go.ChangeMaps (open_string shut_string)
set_option linter.unusedVariables false

theorem own : ownKnob Tryd.prog.godebug = none := by kernel_rfl
theorem laidOut : laidOutB Tryd.prog = true := by kernel_rfl

abbrev ty22 : Go.AM.Ty := (.slice 1 (.int .u8))
theorem tyOf22 : Go.AM.TyOf Tryd.prog ty22 22 := by
  simp only [ty22, Go.AM.TyOf, Go.AM.FsOf]
  exact ⟨5, Tryd.underlying22, T.c5, by decide, Tryd.underlying5⟩

/-- The walk: the Go text returns true, and nothing that was there is written. -/
theorem walk (w : World) (hL : ∀ g, ∃ vs, Go.AM.VRels (Go.AM.G0 w) (Γd g) vs ∧ Go.AM.RoAt (Go.AM.G0 w) g 0 vs) (v0 : Value) (y0 : List (List Go.AM.AV)) (n0 : y0.length = 6) (r0 : Go.AM.VRels (Go.AM.G0 w) y0.flatten v0.cells.toList) (t0 : ∀ el ∈ y0, Go.AM.IsTy ty22 el) (o0 : ∃ cs, v0 = .agg cs) (v1 : Value) (y1 : List (List Go.AM.AV)) (n1 : y1.length = 6) (r1 : Go.AM.VRels (Go.AM.G0 w) y1.flatten v1.cells.toList) (t1 : ∀ el ∈ y1, Go.AM.IsTy ty22 el) (o1 : ∃ cs, v1 = .agg cs) :
    Calls Tryd.prog 13 #[v0, v1] w fun e w' => e = .returned (.bool true) ∧ Below w.heap.size w w' := by
  obtain ⟨la, ha, qa⟩ := open_six t0
  obtain ⟨lb, hb, qb⟩ := open_six t1
  rw [qa] at r0
  rw [qb] at r1
  have e0 := Go.AM.vrel_agg o0 r0
  have e1 := Go.AM.vrel_agg o1 r1
  exact (scheduleSames_calls (Γ := Γd) rfl rfl la lb (by omega) (by omega) Go.AM.s0).start (vs := [v0, v1]) (Go.AM.VRels.cons e0 (Go.AM.VRels.cons e1 Go.AM.VRels.none)) hL (fun r s' h => h)

set_option maxRecDepth 100000 in
theorem lifted (os : Os) (started : os.Started) (H : Type) (enc : TypeId × Value → H) :
    ReturnsInHanded {} Tryd.checked os 13 .any (fun w args => (Rows.scheduleSamesSpec.pre enc Tryd.prog Tryd.f13 [] false w args ∧ laidMetH Tryd.prog laidD w) ∧ sizedMet enc Tryd.prog Tryd.f13 (OpenSpec.ofChange Rows.scheduleSamesSpec) false w args) (Rows.scheduleSamesSpec.post enc Tryd.prog Tryd.f13 false true false false) := by
  refine returnsInHanded_of_change_and (C := Tryd.checked) (X := fun w _ => laidMetH Tryd.prog laidD w) (fun _ _ _ hh h => h.of_heap hh) own started (by kernel_rfl) Tryd.func13
    (ChangeSpec.witness_shaped (enc := enc) (C := Tryd.checked) (os := os) (X := fun w _ => laidMetH Tryd.prog laidD w) false (World.doorLaid Tryd.prog 400 os) #[.agg #[.slice none 0 0, .slice none 0 0, .slice none 0 0, .slice none 0 0, .slice none 0 0, .slice none 0 0], .agg #[.slice none 0 0, .slice none 0 0, .slice none 0 0, .slice none 0 0, .slice none 0 0, .slice none 0 0]] 12 rfl (World.shaped_of_RefB (by kernel_rfl) (by kernel_rfl)) (by kernel_rfl) (by kernel_rfl) (by kernel_rfl) (door_met os _)) ?_
  intro W base args ds gs before hval0 hW _ hz hL _
  have hval : ∀ (j : Nat) t v, Tryd.f13.params[j]? = some t → args[j]? = some v → Value.okWide Tryd.prog W .any base t v := hval0
  have hW' := hW
  obtain ⟨p, q, hA0, hV, rfl, hfz, hnd⟩ := hW
  have hA : DataW.TrodAll enc Tryd.prog W 0 (fun _ => true) true Tryd.f13.params.toList args.toList ds p := hA0
  rw [Tryd.params13] at hA hval hz
  obtain ⟨v0, vs0, d0, ds0, p0, q0, hargs, rfl, rfl, h0, rr0⟩ := trodAll_cons hA
  obtain ⟨v1, vs1, d1, ds1, p1, q1, rfl, rfl, rfl, h1, rr1⟩ := trodAll_cons rr0
  obtain ⟨rfl, rfl, rfl⟩ := trodAll_nil rr1
  obtain rfl : args = #[v0, v1] := by cases args; simp_all
  obtain ⟨rfl, rfl⟩ := trodVars_none hV
  have o0 : ∃ cs, v0 = .agg cs := by
    have h := hval 0 57 v0 rfl rfl
    unfold Value.okWide at h
    rw [Tryd.underlying57] at h
    obtain ⟨cs, h, _⟩ := h
    exact ⟨cs, h⟩
  have lt0 : ∀ x ∈ p0, x.block < W.heap.size := by obtain ⟨m, hm⟩ := h0; exact DataW.trod_lt m _ _ _ hm
  obtain ⟨y0, n0, r0, t0⟩ : ∃ y : List (List Go.AM.AV), y.length = 6 ∧ Go.AM.VRels (Go.AM.G0 W) y.flatten v0.cells.toList ∧ ∀ el ∈ y, Go.AM.IsTy ty22 el := by obtain ⟨m, hm⟩ := h0; exact Go.AM.open_array Tryd.underlying57 (by rw [T.c57, T.c22]) tyOf22 hm
  have o1 : ∃ cs, v1 = .agg cs := by
    have h := hval 1 57 v1 rfl rfl
    unfold Value.okWide at h
    rw [Tryd.underlying57] at h
    obtain ⟨cs, h, _⟩ := h
    exact ⟨cs, h⟩
  have lt1 : ∀ x ∈ p1, x.block < W.heap.size := by obtain ⟨m, hm⟩ := h1; exact DataW.trod_lt m _ _ _ hm
  obtain ⟨y1, n1, r1, t1⟩ : ∃ y : List (List Go.AM.AV), y.length = 6 ∧ Go.AM.VRels (Go.AM.G0 W) y.flatten v1.cells.toList ∧ ∀ el ∈ y, Go.AM.IsTy ty22 el := by obtain ⟨m, hm⟩ := h1; exact Go.AM.open_array Tryd.underlying57 (by rw [T.c57, T.c22]) tyOf22 hm
  clear hA0 hval0
  refine (walk W (of_laid hL) v0 y0 n0 r0 t0 o0 v1 y1 n1 r1 t1 o1).mono fun e W' ⟨he, bel⟩ => ?_
  subst he
  exact ⟨_, rfl, _, _, _, [], _, [], hW', trodAll_mk1 (shut_bool Tryd.underlying4 _), (trodAll_cons_mk (Below.trod laidOut (by kernel_rfl) (of_decide_eq_true (by kernel_rfl)) h0 bel lt0) (trodAll_cons_mk (Below.trod laidOut (by kernel_rfl) (of_decide_eq_true (by kernel_rfl)) h1 bel lt1) trodAll_mk0)), rfl, bel.frame _, fun h => by cases h⟩

theorem closed : joinedFacts Tryd.pinned.checked.prog 13 Tryd.f13 Rows.scheduleSamesSpec Rows.scheduleSamesRow = true :=
  (both (both (both (both (both (both (both (both (both (both (both (both (both (both (both (both (both (both (both (both (both (both (both (both (both (both (both (both (both (both (both (by kernel_rfl) (by kernel_rfl)) (by kernel_rfl)) (by kernel_rfl)) (by kernel_rfl)) (by kernel_rfl)) (by kernel_rfl)) (by kernel_rfl)) (by kernel_rfl)) (by kernel_rfl)) (by kernel_rfl)) (by kernel_rfl)) (by kernel_rfl)) (by kernel_rfl)) (by kernel_rfl)) (by kernel_rfl)) (by kernel_rfl)) (by kernel_rfl)) (by kernel_rfl)) (by kernel_rfl)) (by kernel_rfl)) (by kernel_rfl)) (by kernel_rfl)) (by kernel_rfl)) (by kernel_rfl)) headMay) (same_of headFin)) (make_of headMake)) (by kernel_rfl)) (by kernel_rfl)) (by kernel_rfl)) (by kernel_rfl))

theorem over : Rows.scheduleSamesRow.holds Tryd.pinned (OpenSpec.ofChange Rows.scheduleSamesSpec) :=
  OpenClaim.holds_of_wide 13 Tryd.f13 rfl rfl rfl rfl rfl rfl rfl ⟨rfl, rfl, rfl, rfl, rfl⟩ rfl rfl rfl rfl rfl (by kernel_rfl) Tryd.func13 closed
    (of_decide_eq_true (by kernel_rfl)) (by unfold Func.isWrapper; first | (rw [if_pos (by decide +kernel)]; kernel_rfl) | (rw [if_neg (by decide +kernel)]; exact ⟨rfl, rfl⟩))
    (fun os started H enc _ => lifted os started H enc)

/-- The statement: the row's card, tied to the program's text. -/
theorem proved : Rows.ScheduleSamesCardSaid :=
  Claim7.holds_tied_plain_at .later [] [.data, .data] true (true, "573f3079b42056c8b040f26dc05d21bb88f1517e8ad8dabbbd89ff7d85d817d6") false
    over (fun _ h => by cases h) (by kernel_rfl) (fun _ h => by cases h) scheduleSames_row_tie rfl ⟨rfl, rfl⟩ headMain rfl
    (fun f fn hf hfn => by
      obtain rfl : f = 13 := Option.some.inj ((show Tryd.prog.funcNamed "engrosser/engrosserlaw22.ScheduleSames" = some 13 by kernel_rfl).symm.trans hf) |>.symm
      obtain rfl : fn = Tryd.f13 := (Option.some.inj (Tryd.func13.symm.trans hfn)).symm
      exact ⟨by kernel_rfl, fun j t ht => by
        rw [Tryd.params13] at ht
        have hm : t ∈ [57, 57] := by simpa using Array.mem_of_getElem? ht
        have hall : ([57, 57].all fun u => !Tryd.prog.wantsStandIn u) = true := by kernel_rfl
        exact (show Tryd.prog.wantsStandIn t = false by simpa using List.all_eq_true.1 hall t hm)⟩)
    (by kernel_rfl)
#print axioms proved
end Go.Proofs.YtpakgjmcaefnmaaDoor.scheduleSames


