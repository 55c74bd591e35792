/- Contracts of the program's functions, each walked once; the conditions stand in each theorem. -/
import Derived.Test.YtpakgjmcaefnmaaDoorCards
import Derived.Test.YtpakgjmcaefnmaaDoorTie
import Derived.Test.YtpakgjmcaefnmaaDoorNodeH4
import Derived.Test.YtpakgjmcaefnmaaDoorAMp4
import Derived.Test.YtpakgjmcaefnmaaDoorAMp6
import Derived.WalkKit
import Derived.ProofKit
import Derived.OpenShut
import Derived.ShutString
import Derived.ChangeOld
import Derived.Below
import Derived.LaidMore
import Derived.SevenTiedAt
import Derived.Stop.Joined
import Derived.Test.YtpakgjmcaefnmaaDoorShaEnd
import Derived.Test.YtpakgjmcaefnmaaDoorShaFacts
set_option linter.unusedSimpArgs false
set_option linter.unusedVariables false
namespace Go.Proofs.YtpakgjmcaefnmaaDoor.nodeHashes
open Go.ChangeShapes Go.WideShapes Go.ChangeAt Go.RowKit
open Go.ChangeMaps (open_string shut_string)
set_option linter.unusedVariables false

theorem own : ownKnob Tryd.prog.godebug = none := by kernel_rfl
theorem laidOut : laidOutB Tryd.prog = true := by kernel_rfl

abbrev ty66 : Go.AM.Ty := (.struct (.cons (.int .i64) (.cons (.slice 1 (.int .u8)) (.cons (.int .u64) (.cons (.slice 1 (.int .u8)) (.cons (.slice 1 (.int .i64)) .nil))))))
theorem tyOf66 : Go.AM.TyOf Tryd.prog ty66 66 := by
  simp only [ty66, Go.AM.TyOf, Go.AM.FsOf]
  exact ⟨_, Tryd.underlying66, ⟨_, _, rfl, by simp [T.c22, T.c3, T.c63, T.c64, T.c66], Tryd.underlying3, ⟨_, _, rfl, by simp [T.c22, T.c3, T.c63, T.c64, T.c66], ⟨5, Tryd.underlying22, T.c5, by decide, Tryd.underlying5⟩, ⟨_, _, rfl, by simp [T.c22, T.c3, T.c63, T.c64, T.c66], Tryd.underlying63, ⟨_, _, rfl, by simp [T.c22, T.c3, T.c63, T.c64, T.c66], ⟨5, Tryd.underlying22, T.c5, by decide, Tryd.underlying5⟩, ⟨_, _, rfl, by simp [T.c22, T.c3, T.c63, T.c64, T.c66], ⟨3, Tryd.underlying64, T.c3, by decide, Tryd.underlying3⟩, ⟨rfl, by simp [T.c22, T.c3, T.c63, T.c64, T.c66]⟩⟩⟩⟩⟩⟩⟩

abbrev ty22 : Go.AM.Ty := (.slice 1 (.int .u8))
theorem tyOf22 : Go.AM.TyOf Tryd.prog ty22 22 := by
  simp only [ty22, Go.AM.TyOf, Go.AM.FsOf]
  exact ⟨5, Tryd.underlying22, T.c5, by decide, Tryd.underlying5⟩

/-- The walk: the Go text returns true, and nothing that was there is written. -/
theorem walk (w : World) (hL : ∀ g, ∃ vs, Go.AM.VRels (Go.AM.G0 w) (Γd g) vs ∧ Go.AM.RoAt (Go.AM.G0 w) g 0 vs) (v0 : Value) (x0 : List Go.AM.AV) (r0 : Go.AM.VRels (Go.AM.G0 w) x0 v0.cells.toList) (t0 : Go.AM.IsTy ty66 x0) (o0 : ∃ cs, v0 = .agg cs) (z0_1 : ∀ a l c, v0.cells.toList[1]? = some (.slice a l c) → l ≤ reachBytes) (z0_3 : ∀ a l c, v0.cells.toList[3]? = some (.slice a l c) → l ≤ reachBytes) (z0_4 : ∀ a l c, v0.cells.toList[4]? = some (.slice a l c) → l ≤ reachBytes) (a1 : Int) (w1 : (Lit.int .i64 a1).wf = true) (v2 : Value) (y2 : List (List Go.AM.AV)) (n2 : y2.length = 2) (r2 : Go.AM.VRels (Go.AM.G0 w) y2.flatten v2.cells.toList) (t2 : ∀ el ∈ y2, Go.AM.IsTy ty22 el) (o2 : ∃ cs, v2 = .agg cs) :
    Calls Tryd.prog 15 #[v0, .int .i64 a1, v2] w fun e w' => e = .returned (.bool true) ∧ Below w.heap.size w w' := by
  obtain ⟨N, rfl, _⟩ := Go.AM.IsTy.node t0
  obtain ⟨x, y, rfl⟩ : ∃ x y, y2 = [x, y] := by
    match y2, n2 with
    | [x, y], _ => exact ⟨x, y, rfl⟩
  obtain ⟨lx, rfl, _⟩ := Go.AM.IsTy.bytes (t2 x (by simp))
  obtain ⟨ly, rfl, _⟩ := Go.AM.IsTy.bytes (t2 y (by simp))
  simp only [List.flatten_cons, List.flatten_nil, List.append_nil, List.singleton_append] at r2
  have e0 := Go.AM.vrel_agg o0 r0
  have e2 := Go.AM.vrel_agg o2 r2
  have hn : -9223372036854775808 ≤ a1 ∧ a1 ≤ 9223372036854775807 := Go.AM.i64_of_wf w1
  exact (nodeHashes_calls (Γ := Γd) rfl rfl N a1 hn lx ly Go.AM.s0).start (vs := [v0, .int .i64 a1, v2]) (Go.AM.VRels.cons e0 (Go.AM.VRels.cons rfl (Go.AM.VRels.cons e2 Go.AM.VRels.none))) hL (fun r s' h => h)

set_option maxRecDepth 100000 in
theorem lifted (os : Os) (started : os.Started) (H : Type) (enc : TypeId × Value → H) :
    ReturnsInHanded {} Tryd.checked os 15 .any (fun w args => (Rows.nodeHashesSpec.pre enc Tryd.prog Tryd.f15 [] false w args ∧ laidMetH Tryd.prog laidD w) ∧ sizedMet enc Tryd.prog Tryd.f15 (OpenSpec.ofChange Rows.nodeHashesSpec) false w args) (Rows.nodeHashesSpec.post enc Tryd.prog Tryd.f15 false true false false) := by
  refine returnsInHanded_of_change_and (C := Tryd.checked) (X := fun w _ => laidMetH Tryd.prog laidD w) (fun _ _ _ hh h => h.of_heap hh) own started (by kernel_rfl) Tryd.func15
    (ChangeSpec.witness_shaped (enc := enc) (C := Tryd.checked) (os := os) (X := fun w _ => laidMetH Tryd.prog laidD w) false (World.doorLaid Tryd.prog 400 os) #[.agg #[.int .i64 0, .slice none 0 0, .int .u64 0, .slice none 0 0, .slice none 0 0], .int .i64 0, .agg #[.slice none 0 0, .slice none 0 0]] 12 rfl (World.shaped_of_RefB (by kernel_rfl) (by kernel_rfl)) (by kernel_rfl) (by kernel_rfl) (by kernel_rfl) (door_met os _)) ?_
  intro W base args ds gs before hval0 hW _ hz hL _
  have hval : ∀ (j : Nat) t v, Tryd.f15.params[j]? = some t → args[j]? = some v → Value.okWide Tryd.prog W .any base t v := hval0
  have hW' := hW
  obtain ⟨p, q, hA0, hV, rfl, hfz, hnd⟩ := hW
  have hA : DataW.TrodAll enc Tryd.prog W 0 (fun _ => true) true Tryd.f15.params.toList args.toList ds p := hA0
  rw [Tryd.params15] at hA hval hz
  obtain ⟨v0, vs0, d0, ds0, p0, q0, hargs, rfl, rfl, h0, rr0⟩ := trodAll_cons hA
  obtain ⟨v1, vs1, d1, ds1, p1, q1, rfl, rfl, rfl, h1, rr1⟩ := trodAll_cons rr0
  obtain ⟨v2, vs2, d2, ds2, p2, q2, rfl, rfl, rfl, h2, rr2⟩ := trodAll_cons rr1
  obtain ⟨rfl, rfl, rfl⟩ := trodAll_nil rr2
  obtain rfl : args = #[v0, v1, v2] := by cases args; simp_all
  obtain ⟨rfl, rfl⟩ := trodVars_none hV
  have o0 : ∃ cs, v0 = .agg cs := by
    have h := hval 0 66 v0 rfl rfl
    unfold Value.okWide at h
    rw [Tryd.underlying66] at h
    obtain ⟨cs, h, _⟩ := h
    exact ⟨cs, h⟩
  have z0_1 : ∀ a l c, v0.cells.toList[1]? = some (.slice a l c) → l ≤ reachBytes := by obtain ⟨m, hm⟩ := h0; exact Go.AM.size_of_field (j := 0) Tryd.underlying66 hz rfl rfl hm 1 rfl Tryd.underlying22 (by rw [T.b5]; decide) T.c22
  have z0_3 : ∀ a l c, v0.cells.toList[3]? = some (.slice a l c) → l ≤ reachBytes := by obtain ⟨m, hm⟩ := h0; exact Go.AM.size_of_field (j := 0) Tryd.underlying66 hz rfl rfl hm 3 rfl Tryd.underlying22 (by rw [T.b5]; decide) T.c22
  have z0_4 : ∀ a l c, v0.cells.toList[4]? = some (.slice a l c) → l ≤ reachBytes := by obtain ⟨m, hm⟩ := h0; exact Go.AM.size_of_field (j := 0) Tryd.underlying66 hz rfl rfl hm 4 rfl Tryd.underlying64 (by rw [T.b3]; decide) T.c64
  have lt0 : ∀ x ∈ p0, x.block < W.heap.size := by obtain ⟨m, hm⟩ := h0; exact DataW.trod_lt m _ _ _ hm
  obtain ⟨x0, r0, t0⟩ : ∃ x, Go.AM.VRels (Go.AM.G0 W) x v0.cells.toList ∧ Go.AM.IsTy ty66 x := by obtain ⟨m, hm⟩ := h0; exact Go.AM.open_ty ty66 tyOf66 hm
  obtain ⟨a1, rfl, rfl, rfl, w1⟩ := open_int Tryd.underlying3 (hval 1 3 v1 rfl rfl) h1
  have o2 : ∃ cs, v2 = .agg cs := by
    have h := hval 2 60 v2 rfl rfl
    unfold Value.okWide at h
    rw [Tryd.underlying60] at h
    obtain ⟨cs, h, _⟩ := h
    exact ⟨cs, h⟩
  have lt2 : ∀ x ∈ p2, x.block < W.heap.size := by obtain ⟨m, hm⟩ := h2; exact DataW.trod_lt m _ _ _ hm
  obtain ⟨y2, n2, r2, t2⟩ : ∃ y : List (List Go.AM.AV), y.length = 2 ∧ Go.AM.VRels (Go.AM.G0 W) y.flatten v2.cells.toList ∧ ∀ el ∈ y, Go.AM.IsTy ty22 el := by obtain ⟨m, hm⟩ := h2; exact Go.AM.open_array Tryd.underlying60 (by rw [T.c60, T.c22]) tyOf22 hm
  clear hA0 hval0
  refine (walk W (of_laid hL) v0 x0 r0 t0 o0 z0_1 z0_3 z0_4 a1 w1 v2 y2 n2 r2 t2 o2).mono fun e W' ⟨he, bel⟩ => ?_
  subst he
  exact ⟨_, rfl, _, _, _, [], _, [], hW', trodAll_mk1 (shut_bool Tryd.underlying4 _), (trodAll_cons_mk (Below.trod laidOut (by kernel_rfl) (of_decide_eq_true (by kernel_rfl)) h0 bel lt0) (trodAll_cons_mk (shut_int Tryd.underlying3 w1) (trodAll_cons_mk (Below.trod laidOut (by kernel_rfl) (of_decide_eq_true (by kernel_rfl)) h2 bel lt2) trodAll_mk0))), rfl, bel.frame _, fun h => by cases h⟩

theorem closed : joinedFacts Tryd.pinned.checked.prog 15 Tryd.f15 Rows.nodeHashesSpec Rows.nodeHashesRow = true :=
  (both (both (both (both (both (both (both (both (both (both (both (both (both (both (both (both (both (both (both (both (both (both (both (both (both (both (both (both (both (both (both (by kernel_rfl) (by kernel_rfl)) (by kernel_rfl)) (by kernel_rfl)) (by kernel_rfl)) (by kernel_rfl)) (by kernel_rfl)) (by kernel_rfl)) (by kernel_rfl)) (by kernel_rfl)) (by kernel_rfl)) (by kernel_rfl)) (by kernel_rfl)) (by kernel_rfl)) (by kernel_rfl)) (by kernel_rfl)) (by kernel_rfl)) (by kernel_rfl)) (by kernel_rfl)) (by kernel_rfl)) (by kernel_rfl)) (by kernel_rfl)) (by kernel_rfl)) (by kernel_rfl)) (by kernel_rfl)) headMay) (same_of headFin)) (make_of headMake)) (by kernel_rfl)) (by kernel_rfl)) (by kernel_rfl)) (by kernel_rfl))

theorem over : Rows.nodeHashesRow.holds Tryd.pinned (OpenSpec.ofChange Rows.nodeHashesSpec) :=
  OpenClaim.holds_of_wide 15 Tryd.f15 rfl rfl rfl rfl rfl rfl rfl ⟨rfl, rfl, rfl, rfl, rfl⟩ rfl rfl rfl rfl rfl (by kernel_rfl) Tryd.func15 closed
    (of_decide_eq_true (by kernel_rfl)) (by unfold Func.isWrapper; first | (rw [if_pos (by decide +kernel)]; kernel_rfl) | (rw [if_neg (by decide +kernel)]; exact ⟨rfl, rfl⟩))
    (fun os started H enc _ => lifted os started H enc)

/-- The statement: the row's card, tied to the program's text. -/
theorem proved : Rows.NodeHashesCardSaid :=
  Claim7.holds_tied_plain_at .later [] [.data, .data] true (true, "573f3079b42056c8b040f26dc05d21bb88f1517e8ad8dabbbd89ff7d85d817d6") false
    over (fun _ h => by cases h) (by kernel_rfl) (fun _ h => by cases h) nodeHashes_row_tie rfl ⟨rfl, rfl⟩ headMain rfl
    (fun f fn hf hfn => by
      obtain rfl : f = 15 := Option.some.inj ((show Tryd.prog.funcNamed "engrosser/engrosserlaw19.NodeHashes" = some 15 by kernel_rfl).symm.trans hf) |>.symm
      obtain rfl : fn = Tryd.f15 := (Option.some.inj (Tryd.func15.symm.trans hfn)).symm
      exact ⟨by kernel_rfl, fun j t ht => by
        rw [Tryd.params15] at ht
        have hm : t ∈ [66, 3, 60] := by simpa using Array.mem_of_getElem? ht
        have hall : ([66, 3, 60].all fun u => !Tryd.prog.wantsStandIn u) = true := by kernel_rfl
        exact (show Tryd.prog.wantsStandIn t = false by simpa using List.all_eq_true.1 hall t hm)⟩)
    (by kernel_rfl)
#print axioms proved
end Go.Proofs.YtpakgjmcaefnmaaDoor.nodeHashes


