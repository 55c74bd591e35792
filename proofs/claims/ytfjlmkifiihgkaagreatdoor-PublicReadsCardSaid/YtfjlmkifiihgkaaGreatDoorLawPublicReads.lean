/- Contracts of the program's functions, each walked once; the conditions stand in each theorem. -/
import Derived.Test.YtfjlmkifiihgkaaGreatDoorCards
import Derived.Test.YtfjlmkifiihgkaaGreatDoorTie
import Derived.Test.YtfjlmkifiihgkaaGreatDoorW11
import Derived.Test.YtfjlmkifiihgkaaGreatDoorAMp4
import Derived.Test.YtfjlmkifiihgkaaGreatDoorAMp6
import Derived.WalkKit
import Derived.ProofKit
import Derived.OpenShut
import Derived.ShutString
import Derived.ChangeOld
import Derived.Below
import Derived.LaidMore
import Derived.SevenTiedAt
import Derived.Stop.Joined
set_option linter.unusedSimpArgs false
set_option linter.unusedVariables false
namespace Go.Proofs.YtfjlmkifiihgkaaGreatDoor.publicReads
open Go.ChangeShapes Go.WideShapes Go.ChangeAt Go.RowKit
open Go.ChangeMaps (open_string shut_string)
set_option linter.unusedVariables false
theorem own : ownKnob Tryz.prog.godebug = none:=by kernel_rfl
theorem laidOut : laidOutB Tryz.prog = true:=by kernel_rfl
abbrev ty22 : Go.AM.Ty:=(.slice 1 (.int .u8))
theorem tyOf22 : Go.AM.TyOf Tryz.prog ty22 22:=by
  simp only [ty22,Go.AM.TyOf,Go.AM.FsOf]
  exact ⟨5,Tryz.underlying22,T.c5,by decide,Tryz.underlying5⟩
theorem walk (w : World) (hL : ∀ g,∃ vs,Go.AM.VRels (Go.AM.G0 w) (Γd g) vs∧Go.AM.RoAt (Go.AM.G0 w) g 0 vs) (v0 : Value) (x0 : List Go.AM.AV) (r0 : Go.AM.VRels (Go.AM.G0 w) x0 v0.cells.toList) (t0 : Go.AM.IsTy ty22 x0) (o0 : ∃ a l c,v0 = .slice a l c) (z0 : ∀ a l c,v0 = .slice a l c→l≤reachBytes) (v1 : Value) (x1 : List Go.AM.AV) (r1 : Go.AM.VRels (Go.AM.G0 w) x1 v1.cells.toList) (t1 : Go.AM.IsTy ty22 x1) (o1 : ∃ a l c,v1 = .slice a l c) (z1 : ∀ a l c,v1 = .slice a l c→l≤reachBytes) (v2 : Value) (x2 : List Go.AM.AV) (r2 : Go.AM.VRels (Go.AM.G0 w) x2 v2.cells.toList) (t2 : Go.AM.IsTy ty22 x2) (o2 : ∃ a l c,v2 = .slice a l c) (z2 : ∀ a l c,v2 = .slice a l c→l≤reachBytes) :
    Calls Tryz.prog 7 #[v0,v1,v2] w fun e w'=>e = .returned (.bool true)∧Below w.heap.size w w':=by
  obtain ⟨b,rfl,_⟩:=Go.AM.IsTy.bytes t0
  obtain ⟨g,rfl,_⟩:=Go.AM.IsTy.bytes t1
  obtain ⟨n,rfl,_⟩:=Go.AM.IsTy.bytes t2
  have e0:=Go.AM.vrel_slice o0 r0
  have e1:=Go.AM.vrel_slice o1 r1
  have e2:=Go.AM.vrel_slice o2 r2
  exact (publicReads_calls (Γ:=Γd) rfl rfl rfl b g n Go.AM.s0).start (vs:=[v0,v1,v2]) (Go.AM.VRels.cons e0 (Go.AM.VRels.cons e1 (Go.AM.VRels.cons e2 Go.AM.VRels.none))) hL (fun r s' h=>h)
set_option maxRecDepth 100000 in
theorem lifted (os : Os) (started : os.Started) (H : Type) (enc : TypeId × Value→H) :
    ReturnsInHanded {} Tryz.checked os 7 .any (fun w args=>(Rows.publicReadsSpec.pre enc Tryz.prog Tryz.f7 [] false w args∧laidMetH Tryz.prog laidD w)∧sizedMet enc Tryz.prog Tryz.f7 (OpenSpec.ofChange Rows.publicReadsSpec) false w args) (Rows.publicReadsSpec.post enc Tryz.prog Tryz.f7 false true false false):=by
  refine returnsInHanded_of_change_and (C:=Tryz.checked) (X:=fun w _=>laidMetH Tryz.prog laidD w) (fun _ _ _ hh h=>h.of_heap hh) own started (by kernel_rfl) Tryz.func7
    (ChangeSpec.witness_shaped (enc:=enc) (C:=Tryz.checked) (os:=os) (X:=fun w _=>laidMetH Tryz.prog laidD w) false (World.doorLaid Tryz.prog 400 os) #[.slice none 0 0,.slice none 0 0,.slice none 0 0] 12 rfl (World.shaped_of_RefB (by kernel_rfl) (by kernel_rfl)) (by kernel_rfl) (by kernel_rfl) (by kernel_rfl) (door_met os _)) ?_
  intro W base args ds gs before hval0 hW _ hz hL _
  have hval : ∀ (j : Nat) t v,Tryz.f7.params[j]? = some t→args[j]? = some v→Value.okWide Tryz.prog W .any base t v:=hval0
  have hW':=hW
  obtain ⟨p,q,hA0,hV,rfl,hfz,hnd⟩:=hW
  have hA : DataW.TrodAll enc Tryz.prog W 0 (fun _=>true) true Tryz.f7.params.toList args.toList ds p:=hA0
  rw [Tryz.params7] at hA hval hz
  obtain ⟨v0,vs0,d0,ds0,p0,q0,hargs,rfl,rfl,h0,rr0⟩:=trodAll_cons hA
  obtain ⟨v1,vs1,d1,ds1,p1,q1,rfl,rfl,rfl,h1,rr1⟩:=trodAll_cons rr0
  obtain ⟨v2,vs2,d2,ds2,p2,q2,rfl,rfl,rfl,h2,rr2⟩:=trodAll_cons rr1
  obtain ⟨rfl,rfl,rfl⟩:=trodAll_nil rr2
  obtain rfl : args = #[v0,v1,v2]:=by cases args; simp_all
  obtain ⟨rfl,rfl⟩:=trodVars_none hV
  have z0 : ∀ a l c,v0 = .slice a l c→l≤reachBytes:=by obtain ⟨m,hm⟩:=h0; exact Go.AM.size_of_trod (j:=0) Tryz.underlying22 hz rfl rfl hm (by rw [T.b5]; decide)
  have o0 : ∃ a l c,v0 = .slice a l c:=by obtain ⟨a,l,c,h⟩:=okWide_slice Tryz.underlying22 (hval 0 22 v0 rfl rfl); exact ⟨a,l,c,h⟩
  have lt0 : ∀ x ∈ p0,x.block < W.heap.size:=by obtain ⟨m,hm⟩:=h0; exact DataW.trod_lt m _ _ _ hm
  obtain ⟨x0,r0,t0⟩ : ∃ x,Go.AM.VRels (Go.AM.G0 W) x v0.cells.toList∧Go.AM.IsTy ty22 x:=by obtain ⟨m,hm⟩:=h0; exact Go.AM.open_ty ty22 tyOf22 hm
  have z1 : ∀ a l c,v1 = .slice a l c→l≤reachBytes:=by obtain ⟨m,hm⟩:=h1; exact Go.AM.size_of_trod (j:=1) Tryz.underlying22 hz rfl rfl hm (by rw [T.b5]; decide)
  have o1 : ∃ a l c,v1 = .slice a l c:=by obtain ⟨a,l,c,h⟩:=okWide_slice Tryz.underlying22 (hval 1 22 v1 rfl rfl); exact ⟨a,l,c,h⟩
  have lt1 : ∀ x ∈ p1,x.block < W.heap.size:=by obtain ⟨m,hm⟩:=h1; exact DataW.trod_lt m _ _ _ hm
  obtain ⟨x1,r1,t1⟩ : ∃ x,Go.AM.VRels (Go.AM.G0 W) x v1.cells.toList∧Go.AM.IsTy ty22 x:=by obtain ⟨m,hm⟩:=h1; exact Go.AM.open_ty ty22 tyOf22 hm
  have z2 : ∀ a l c,v2 = .slice a l c→l≤reachBytes:=by obtain ⟨m,hm⟩:=h2; exact Go.AM.size_of_trod (j:=2) Tryz.underlying22 hz rfl rfl hm (by rw [T.b5]; decide)
  have o2 : ∃ a l c,v2 = .slice a l c:=by obtain ⟨a,l,c,h⟩:=okWide_slice Tryz.underlying22 (hval 2 22 v2 rfl rfl); exact ⟨a,l,c,h⟩
  have lt2 : ∀ x ∈ p2,x.block < W.heap.size:=by obtain ⟨m,hm⟩:=h2; exact DataW.trod_lt m _ _ _ hm
  obtain ⟨x2,r2,t2⟩ : ∃ x,Go.AM.VRels (Go.AM.G0 W) x v2.cells.toList∧Go.AM.IsTy ty22 x:=by obtain ⟨m,hm⟩:=h2; exact Go.AM.open_ty ty22 tyOf22 hm
  clear hA0 hval0
  refine (walk W (of_laid hL) v0 x0 r0 t0 o0 z0 v1 x1 r1 t1 o1 z1 v2 x2 r2 t2 o2 z2).mono fun e W' ⟨he,bel⟩=>?_
  subst he
  exact ⟨_,rfl,_,_,_,[],_,[],hW',trodAll_mk1 (shut_bool Tryz.underlying4 _),(trodAll_cons_mk (Below.trod laidOut (by kernel_rfl) (of_decide_eq_true (by kernel_rfl)) h0 bel lt0) (trodAll_cons_mk (Below.trod laidOut (by kernel_rfl) (of_decide_eq_true (by kernel_rfl)) h1 bel lt1) (trodAll_cons_mk (Below.trod laidOut (by kernel_rfl) (of_decide_eq_true (by kernel_rfl)) h2 bel lt2) trodAll_mk0))),rfl,bel.frame _,fun h=>by cases h⟩
theorem closed : joinedFacts Tryz.pinned.checked.prog 7 Tryz.f7 Rows.publicReadsSpec Rows.publicReadsRow = true :=
  (both (both (both (both (both (both (both (both (both (both (both (both (both (both (both (both (both (both (both (both (both (both (both (both (both (both (both (both (both (both (both (by kernel_rfl) (by kernel_rfl)) (by kernel_rfl)) (by kernel_rfl)) (by kernel_rfl)) (by kernel_rfl)) (by kernel_rfl)) (by kernel_rfl)) (by kernel_rfl)) (by kernel_rfl)) (by kernel_rfl)) (by kernel_rfl)) (by kernel_rfl)) (by kernel_rfl)) (by kernel_rfl)) (by kernel_rfl)) (by kernel_rfl)) (by kernel_rfl)) (by kernel_rfl)) (by kernel_rfl)) (by kernel_rfl)) (by kernel_rfl)) (by kernel_rfl)) (by kernel_rfl)) (by kernel_rfl)) headMay) (same_of headFin)) (make_of headMake)) (by kernel_rfl)) (by kernel_rfl)) (by kernel_rfl)) (by kernel_rfl))
theorem over : Rows.publicReadsRow.holds Tryz.pinned (OpenSpec.ofChange Rows.publicReadsSpec) :=
  OpenClaim.holds_of_wide 7 Tryz.f7 rfl rfl rfl rfl rfl rfl rfl ⟨rfl,rfl,rfl,rfl,rfl⟩ rfl rfl rfl rfl rfl (by kernel_rfl) Tryz.func7 closed
    (of_decide_eq_true (by kernel_rfl)) (by unfold Func.isWrapper; first | (rw [if_pos (by decide +kernel)]; kernel_rfl) | (rw [if_neg (by decide +kernel)]; exact ⟨rfl,rfl⟩))
    (fun os started H enc _=>lifted os started H enc)
theorem proved : Rows.PublicReadsCardSaid :=
  Claim7.holds_tied_plain_at .later [] [.data,.data,.data,.data] true (true, "e4b84b2879f7caad34e15753fd006bb31144b445cbe47ebddcd28f05597ed10b") false
    over (fun _ h=>by cases h) (by kernel_rfl) (fun _ h=>by cases h) publicReads_row_tie rfl ⟨rfl,rfl⟩ headMain rfl
    (fun f fn hf hfn=>by
      obtain rfl : f = 7:=Option.some.inj ((show Tryz.prog.funcNamed "engrosser/engrosserlaw24.PublicReads" = some 7 by kernel_rfl).symm.trans hf) |>.symm
      obtain rfl : fn = Tryz.f7:=(Option.some.inj (Tryz.func7.symm.trans hfn)).symm
      exact ⟨by kernel_rfl,fun j t ht=>by
        rw [Tryz.params7] at ht
        have hm : t ∈ [22,22,22]:=by simpa using Array.mem_of_getElem? ht
        have hall : ([22,22,22].all fun u=>!Tryz.prog.wantsStandIn u) = true:=by kernel_rfl
        exact (show Tryz.prog.wantsStandIn t = false by simpa using List.all_eq_true.1 hall t hm)⟩)
    (by kernel_rfl)
#print axioms proved
end Go.Proofs.YtfjlmkifiihgkaaGreatDoor.publicReads
