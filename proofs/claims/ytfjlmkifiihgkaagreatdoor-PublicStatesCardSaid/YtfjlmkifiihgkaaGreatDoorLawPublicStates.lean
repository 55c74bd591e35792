/- Contracts of the program's functions, each walked once; the conditions stand in each theorem. -/
import Derived.Test.YtfjlmkifiihgkaaGreatDoorCards
import Derived.Test.YtfjlmkifiihgkaaGreatDoorTie
import Derived.Test.YtfjlmkifiihgkaaGreatDoorW12
import Derived.Test.YtfjlmkifiihgkaaGreatDoorAMp4
import Derived.Test.YtfjlmkifiihgkaaGreatDoorAMp6
import Derived.WalkKit
import Derived.ProofKit
import Derived.OpenShut
import Derived.ShutString
import Derived.ChangeOld
import Derived.Below
import Derived.LaidMore
import Derived.SevenTiedAt
import Derived.Stop.Joined
set_option linter.unusedSimpArgs false
set_option linter.unusedVariables false
namespace Go.Proofs.YtfjlmkifiihgkaaGreatDoor.publicStates
open Go.ChangeShapes Go.WideShapes Go.ChangeAt Go.RowKit
open Go.ChangeMaps (open_string shut_string)
set_option linter.unusedVariables false
theorem own : ownKnob Tryz.prog.godebug = none:=by kernel_rfl
theorem laidOut : laidOutB Tryz.prog = true:=by kernel_rfl
abbrev ty48 : Go.AM.Ty:=(.struct (.cons (.slice 1 (.int .u8)) (.cons (.int .i64) (.cons (.slice 5 (.struct (.cons (.int .i64) (.cons (.slice 1 (.int .u8)) (.cons (.int .u64) (.cons (.slice 1 (.int .u8)) (.cons (.slice 1 (.int .i64)) .nil))))))) (.cons (.slice 1 (.int .u8)) (.cons (.slice 1 (.int .u8)) .nil))))))
theorem tyOf48 : Go.AM.TyOf Tryz.prog ty48 48:=by
  simp only [ty48,Go.AM.TyOf,Go.AM.FsOf]
  exact ⟨_,Tryz.underlying48,⟨_,_,rfl,by simp [T.c22,T.c26,T.c3,T.c48],⟨5,Tryz.underlying22,T.c5,by decide,Tryz.underlying5⟩,⟨_,_,rfl,by simp [T.c22,T.c26,T.c3,T.c48],Tryz.underlying3,⟨_,_,rfl,by simp [T.c22,T.c26,T.c3,T.c48],⟨69,Tryz.underlying26,T.c69,by decide,⟨_,Tryz.underlying69,⟨_,_,rfl,by simp [T.c22,T.c23,T.c3,T.c39,T.c69],Tryz.underlying3,⟨_,_,rfl,by simp [T.c22,T.c23,T.c3,T.c39,T.c69],⟨5,Tryz.underlying22,T.c5,by decide,Tryz.underlying5⟩,⟨_,_,rfl,by simp [T.c22,T.c23,T.c3,T.c39,T.c69],Tryz.underlying23,⟨_,_,rfl,by simp [T.c22,T.c23,T.c3,T.c39,T.c69],⟨5,Tryz.underlying22,T.c5,by decide,Tryz.underlying5⟩,⟨_,_,rfl,by simp [T.c22,T.c23,T.c3,T.c39,T.c69],⟨3,Tryz.underlying39,T.c3,by decide,Tryz.underlying3⟩,⟨rfl,by simp [T.c22,T.c23,T.c3,T.c39,T.c69]⟩⟩⟩⟩⟩⟩⟩⟩,⟨_,_,rfl,by simp [T.c22,T.c26,T.c3,T.c48],⟨5,Tryz.underlying22,T.c5,by decide,Tryz.underlying5⟩,⟨_,_,rfl,by simp [T.c22,T.c26,T.c3,T.c48],⟨5,Tryz.underlying22,T.c5,by decide,Tryz.underlying5⟩,⟨rfl,by simp [T.c22,T.c26,T.c3,T.c48]⟩⟩⟩⟩⟩⟩⟩
theorem walk (w : World) (hL : ∀ g,∃ vs,Go.AM.VRels (Go.AM.G0 w) (Γd g) vs∧Go.AM.RoAt (Go.AM.G0 w) g 0 vs) (v0 : Value) (x0 : List Go.AM.AV) (r0 : Go.AM.VRels (Go.AM.G0 w) x0 v0.cells.toList) (t0 : Go.AM.IsTy ty48 x0) (o0 : ∃ cs,v0 = .agg cs) (z0_0 : ∀ a l c,v0.cells.toList[0]? = some (.slice a l c)→l≤reachBytes) (z0_2 : ∀ a l c,v0.cells.toList[2]? = some (.slice a l c)→l≤reachBytes) (z0_3 : ∀ a l c,v0.cells.toList[3]? = some (.slice a l c)→l≤reachBytes) (z0_4 : ∀ a l c,v0.cells.toList[4]? = some (.slice a l c)→l≤reachBytes) (v1 : Value) (x1 : List Go.AM.AV) (r1 : Go.AM.VRels (Go.AM.G0 w) x1 v1.cells.toList) (t1 : Go.AM.IsTy ty48 x1) (o1 : ∃ cs,v1 = .agg cs) (z1_0 : ∀ a l c,v1.cells.toList[0]? = some (.slice a l c)→l≤reachBytes) (z1_2 : ∀ a l c,v1.cells.toList[2]? = some (.slice a l c)→l≤reachBytes) (z1_3 : ∀ a l c,v1.cells.toList[3]? = some (.slice a l c)→l≤reachBytes) (z1_4 : ∀ a l c,v1.cells.toList[4]? = some (.slice a l c)→l≤reachBytes) :
    Calls Tryz.prog 8 #[v0,v1] w fun e w'=>e = .returned (.bool true)∧Below w.heap.size w w':=by
  obtain ⟨S,rfl,hk⟩:=Go.AM.IsTy.state t0
  obtain ⟨U,rfl,_⟩:=Go.AM.IsTy.state t1
  have e0:=Go.AM.vrel_agg o0 r0
  have e1:=Go.AM.vrel_agg o1 r1
  exact (publicStates_calls (Γ:=Γd) rfl rfl rfl S U hk Go.AM.s0).start (vs:=[v0,v1]) (Go.AM.VRels.cons e0 (Go.AM.VRels.cons e1 Go.AM.VRels.none)) hL (fun r s' h=>h)
set_option maxRecDepth 100000 in
theorem lifted (os : Os) (started : os.Started) (H : Type) (enc : TypeId × Value→H) :
    ReturnsInHanded {} Tryz.checked os 8 .any (fun w args=>(Rows.publicStatesSpec.pre enc Tryz.prog Tryz.f8 [] false w args∧laidMetH Tryz.prog laidD w)∧sizedMet enc Tryz.prog Tryz.f8 (OpenSpec.ofChange Rows.publicStatesSpec) false w args) (Rows.publicStatesSpec.post enc Tryz.prog Tryz.f8 false true false false):=by
  refine returnsInHanded_of_change_and (C:=Tryz.checked) (X:=fun w _=>laidMetH Tryz.prog laidD w) (fun _ _ _ hh h=>h.of_heap hh) own started (by kernel_rfl) Tryz.func8
    (ChangeSpec.witness_shaped (enc:=enc) (C:=Tryz.checked) (os:=os) (X:=fun w _=>laidMetH Tryz.prog laidD w) false (World.doorLaid Tryz.prog 400 os) #[.agg #[.slice none 0 0,.int .i64 0,.slice none 0 0,.slice none 0 0,.slice none 0 0],.agg #[.slice none 0 0,.int .i64 0,.slice none 0 0,.slice none 0 0,.slice none 0 0]] 12 rfl (World.shaped_of_RefB (by kernel_rfl) (by kernel_rfl)) (by kernel_rfl) (by kernel_rfl) (by kernel_rfl) (door_met os _)) ?_
  intro W base args ds gs before hval0 hW _ hz hL _
  have hval : ∀ (j : Nat) t v,Tryz.f8.params[j]? = some t→args[j]? = some v→Value.okWide Tryz.prog W .any base t v:=hval0
  have hW':=hW
  obtain ⟨p,q,hA0,hV,rfl,hfz,hnd⟩:=hW
  have hA : DataW.TrodAll enc Tryz.prog W 0 (fun _=>true) true Tryz.f8.params.toList args.toList ds p:=hA0
  rw [Tryz.params8] at hA hval hz
  obtain ⟨v0,vs0,d0,ds0,p0,q0,hargs,rfl,rfl,h0,rr0⟩:=trodAll_cons hA
  obtain ⟨v1,vs1,d1,ds1,p1,q1,rfl,rfl,rfl,h1,rr1⟩:=trodAll_cons rr0
  obtain ⟨rfl,rfl,rfl⟩:=trodAll_nil rr1
  obtain rfl : args = #[v0,v1]:=by cases args; simp_all
  obtain ⟨rfl,rfl⟩:=trodVars_none hV
  have o0 : ∃ cs,v0 = .agg cs:=by
    have h:=hval 0 48 v0 rfl rfl
    unfold Value.okWide at h
    rw [Tryz.underlying48] at h
    obtain ⟨cs,h,_⟩:=h
    exact ⟨cs,h⟩
  have z0_0 : ∀ a l c,v0.cells.toList[0]? = some (.slice a l c)→l≤reachBytes:=by obtain ⟨m,hm⟩:=h0; exact Go.AM.size_of_field (j:=0) Tryz.underlying48 hz rfl rfl hm 0 rfl Tryz.underlying22 (by rw [T.b5]; decide) T.c22
  have z0_2 : ∀ a l c,v0.cells.toList[2]? = some (.slice a l c)→l≤reachBytes:=by obtain ⟨m,hm⟩:=h0; exact Go.AM.size_of_field (j:=0) Tryz.underlying48 hz rfl rfl hm 2 rfl Tryz.underlying26 (by rw [T.b69]; decide) T.c26
  have z0_3 : ∀ a l c,v0.cells.toList[3]? = some (.slice a l c)→l≤reachBytes:=by obtain ⟨m,hm⟩:=h0; exact Go.AM.size_of_field (j:=0) Tryz.underlying48 hz rfl rfl hm 3 rfl Tryz.underlying22 (by rw [T.b5]; decide) T.c22
  have z0_4 : ∀ a l c,v0.cells.toList[4]? = some (.slice a l c)→l≤reachBytes:=by obtain ⟨m,hm⟩:=h0; exact Go.AM.size_of_field (j:=0) Tryz.underlying48 hz rfl rfl hm 4 rfl Tryz.underlying22 (by rw [T.b5]; decide) T.c22
  have lt0 : ∀ x ∈ p0,x.block < W.heap.size:=by obtain ⟨m,hm⟩:=h0; exact DataW.trod_lt m _ _ _ hm
  obtain ⟨x0,r0,t0⟩ : ∃ x,Go.AM.VRels (Go.AM.G0 W) x v0.cells.toList∧Go.AM.IsTy ty48 x:=by obtain ⟨m,hm⟩:=h0; exact Go.AM.open_ty ty48 tyOf48 hm
  have o1 : ∃ cs,v1 = .agg cs:=by
    have h:=hval 1 48 v1 rfl rfl
    unfold Value.okWide at h
    rw [Tryz.underlying48] at h
    obtain ⟨cs,h,_⟩:=h
    exact ⟨cs,h⟩
  have z1_0 : ∀ a l c,v1.cells.toList[0]? = some (.slice a l c)→l≤reachBytes:=by obtain ⟨m,hm⟩:=h1; exact Go.AM.size_of_field (j:=1) Tryz.underlying48 hz rfl rfl hm 0 rfl Tryz.underlying22 (by rw [T.b5]; decide) T.c22
  have z1_2 : ∀ a l c,v1.cells.toList[2]? = some (.slice a l c)→l≤reachBytes:=by obtain ⟨m,hm⟩:=h1; exact Go.AM.size_of_field (j:=1) Tryz.underlying48 hz rfl rfl hm 2 rfl Tryz.underlying26 (by rw [T.b69]; decide) T.c26
  have z1_3 : ∀ a l c,v1.cells.toList[3]? = some (.slice a l c)→l≤reachBytes:=by obtain ⟨m,hm⟩:=h1; exact Go.AM.size_of_field (j:=1) Tryz.underlying48 hz rfl rfl hm 3 rfl Tryz.underlying22 (by rw [T.b5]; decide) T.c22
  have z1_4 : ∀ a l c,v1.cells.toList[4]? = some (.slice a l c)→l≤reachBytes:=by obtain ⟨m,hm⟩:=h1; exact Go.AM.size_of_field (j:=1) Tryz.underlying48 hz rfl rfl hm 4 rfl Tryz.underlying22 (by rw [T.b5]; decide) T.c22
  have lt1 : ∀ x ∈ p1,x.block < W.heap.size:=by obtain ⟨m,hm⟩:=h1; exact DataW.trod_lt m _ _ _ hm
  obtain ⟨x1,r1,t1⟩ : ∃ x,Go.AM.VRels (Go.AM.G0 W) x v1.cells.toList∧Go.AM.IsTy ty48 x:=by obtain ⟨m,hm⟩:=h1; exact Go.AM.open_ty ty48 tyOf48 hm
  clear hA0 hval0
  refine (walk W (of_laid hL) v0 x0 r0 t0 o0 z0_0 z0_2 z0_3 z0_4 v1 x1 r1 t1 o1 z1_0 z1_2 z1_3 z1_4).mono fun e W' ⟨he,bel⟩=>?_
  subst he
  exact ⟨_,rfl,_,_,_,[],_,[],hW',trodAll_mk1 (shut_bool Tryz.underlying4 _),(trodAll_cons_mk (Below.trod laidOut (by kernel_rfl) (of_decide_eq_true (by kernel_rfl)) h0 bel lt0) (trodAll_cons_mk (Below.trod laidOut (by kernel_rfl) (of_decide_eq_true (by kernel_rfl)) h1 bel lt1) trodAll_mk0)),rfl,bel.frame _,fun h=>by cases h⟩
theorem closed : joinedFacts Tryz.pinned.checked.prog 8 Tryz.f8 Rows.publicStatesSpec Rows.publicStatesRow = true :=
  (both (both (both (both (both (both (both (both (both (both (both (both (both (both (both (both (both (both (both (both (both (both (both (both (both (both (both (both (both (both (both (by kernel_rfl) (by kernel_rfl)) (by kernel_rfl)) (by kernel_rfl)) (by kernel_rfl)) (by kernel_rfl)) (by kernel_rfl)) (by kernel_rfl)) (by kernel_rfl)) (by kernel_rfl)) (by kernel_rfl)) (by kernel_rfl)) (by kernel_rfl)) (by kernel_rfl)) (by kernel_rfl)) (by kernel_rfl)) (by kernel_rfl)) (by kernel_rfl)) (by kernel_rfl)) (by kernel_rfl)) (by kernel_rfl)) (by kernel_rfl)) (by kernel_rfl)) (by kernel_rfl)) (by kernel_rfl)) headMay) (same_of headFin)) (make_of headMake)) (by kernel_rfl)) (by kernel_rfl)) (by kernel_rfl)) (by kernel_rfl))
theorem over : Rows.publicStatesRow.holds Tryz.pinned (OpenSpec.ofChange Rows.publicStatesSpec) :=
  OpenClaim.holds_of_wide 8 Tryz.f8 rfl rfl rfl rfl rfl rfl rfl ⟨rfl,rfl,rfl,rfl,rfl⟩ rfl rfl rfl rfl rfl (by kernel_rfl) Tryz.func8 closed
    (of_decide_eq_true (by kernel_rfl)) (by unfold Func.isWrapper; first | (rw [if_pos (by decide +kernel)]; kernel_rfl) | (rw [if_neg (by decide +kernel)]; exact ⟨rfl,rfl⟩))
    (fun os started H enc _=>lifted os started H enc)
theorem proved : Rows.PublicStatesCardSaid :=
  Claim7.holds_tied_plain_at .later [] [.data,.data,.data,.data] true (true, "e4b84b2879f7caad34e15753fd006bb31144b445cbe47ebddcd28f05597ed10b") false
    over (fun _ h=>by cases h) (by kernel_rfl) (fun _ h=>by cases h) publicStates_row_tie rfl ⟨rfl,rfl⟩ headMain rfl
    (fun f fn hf hfn=>by
      obtain rfl : f = 8:=Option.some.inj ((show Tryz.prog.funcNamed "engrosser/engrosserlaw24.PublicStates" = some 8 by kernel_rfl).symm.trans hf) |>.symm
      obtain rfl : fn = Tryz.f8:=(Option.some.inj (Tryz.func8.symm.trans hfn)).symm
      exact ⟨by kernel_rfl,fun j t ht=>by
        rw [Tryz.params8] at ht
        have hm : t ∈ [48,48]:=by simpa using Array.mem_of_getElem? ht
        have hall : ([48,48].all fun u=>!Tryz.prog.wantsStandIn u) = true:=by kernel_rfl
        exact (show Tryz.prog.wantsStandIn t = false by simpa using List.all_eq_true.1 hall t hm)⟩)
    (by kernel_rfl)
#print axioms proved
end Go.Proofs.YtfjlmkifiihgkaaGreatDoor.publicStates
