/- Contracts of functions, each walked once; each theorem states its conditions. -/
import Derived.Test.YtbiefppedlodiaaGreatDoorCards
import Derived.Test.YtbiefppedlodiaaGreatDoorTie
import Derived.Test.YtbiefppedlodiaaGreatDoorW13
import Derived.Test.YtbiefppedlodiaaGreatDoorAMp4
import Derived.Test.YtbiefppedlodiaaGreatDoorAMp6
import Derived.WalkKit
import Derived.ProofKit
import Derived.OpenShut
import Derived.ShutString
import Derived.ChangeOld
import Derived.Below
import Derived.LaidMore
import Derived.SevenTiedAt
import Derived.Stop.Joined
set_option linter.unusedSimpArgs false
set_option linter.unusedVariables false
namespace Go.Proofs.YtbiefppedlodiaaGreatDoor.pathMakes
open Go.ChangeShapes Go.WideShapes Go.ChangeAt Go.RowKit
open Go.ChangeMaps (open_string shut_string)
set_option linter.unusedVariables false
theorem own : ownKnob Tryz.prog.godebug = none:=by kernel_rfl
theorem laidOut : laidOutB Tryz.prog = true:=by kernel_rfl
abbrev R5 : Go.AM.Ty:=(.struct (.cons (.slice 5 (.struct (.cons (.int .i64) (.cons (.slice 1 (.int .u8)) (.cons (.int .u64) (.cons (.slice 1 (.int .u8)) (.cons (.slice 1 (.int .i64)) .nil))))))) (.cons (.int .i64) (.cons (.int .i64) (.cons (.slice 1 (.int .u8)) (.cons (.slice 1 (.int .u8)) (.cons (.slice 1 (.int .i64)) .nil)))))))
theorem Zg : Go.AM.B4 Tryz.prog R5 26:=by
  simp only [R5,Go.AM.B4,Go.AM.Db]
  exact ⟨_,Tryz.underlying26,⟨_,_,rfl,by simp [T.Vw,T.LR,T.MR,T.XG,T.c3],⟨54,Tryz.underlying22,T.HQ,by decide,⟨_,Tryz.underlying54,⟨_,_,rfl,by simp [T.LR,T.MR,T.Zh,T.c3,T.HQ],Tryz.underlying3,⟨_,_,rfl,by simp [T.LR,T.MR,T.Zh,T.c3,T.HQ],⟨5,Tryz.underlying23,T.c5,by decide,Tryz.underlying5⟩,⟨_,_,rfl,by simp [T.LR,T.MR,T.Zh,T.c3,T.HQ],Tryz.underlying29,⟨_,_,rfl,by simp [T.LR,T.MR,T.Zh,T.c3,T.HQ],⟨5,Tryz.underlying23,T.c5,by decide,Tryz.underlying5⟩,⟨_,_,rfl,by simp [T.LR,T.MR,T.Zh,T.c3,T.HQ],⟨3,Tryz.underlying24,T.c3,by decide,Tryz.underlying3⟩,⟨rfl,by simp [T.LR,T.MR,T.Zh,T.c3,T.HQ]⟩⟩⟩⟩⟩⟩⟩⟩,⟨_,_,rfl,by simp [T.Vw,T.LR,T.MR,T.XG,T.c3],Tryz.underlying3,⟨_,_,rfl,by simp [T.Vw,T.LR,T.MR,T.XG,T.c3],Tryz.underlying3,⟨_,_,rfl,by simp [T.Vw,T.LR,T.MR,T.XG,T.c3],⟨5,Tryz.underlying23,T.c5,by decide,Tryz.underlying5⟩,⟨_,_,rfl,by simp [T.Vw,T.LR,T.MR,T.XG,T.c3],⟨5,Tryz.underlying23,T.c5,by decide,Tryz.underlying5⟩,⟨_,_,rfl,by simp [T.Vw,T.LR,T.MR,T.XG,T.c3],⟨3,Tryz.underlying24,T.c3,by decide,Tryz.underlying3⟩,⟨rfl,by simp [T.Vw,T.LR,T.MR,T.XG,T.c3]⟩⟩⟩⟩⟩⟩⟩⟩
theorem walk (w : World) (hL : ∀ g,∃ vs,Go.AM.dP (Go.AM.G0 w) (Γd g) vs∧Go.AM.mT (Go.AM.G0 w) g 0 vs) (v0 : Value) (x0 : List Go.AM.AV) (r0 : Go.AM.dP (Go.AM.G0 w) x0 v0.cells.toList) (t0 : Go.AM.kI R5 x0) (o0 : ∃ cs,v0 = .agg cs) (xbC : ∀ a l c,v0.cells.toList[0]? = some (.slice a l c)->l<=reachBytes) (xbD : ∀ a l c,v0.cells.toList[3]? = some (.slice a l c)->l<=reachBytes) (xbE : ∀ a l c,v0.cells.toList[4]? = some (.slice a l c)->l<=reachBytes) (xbF : ∀ a l c,v0.cells.toList[5]? = some (.slice a l c)->l<=reachBytes) :
    Calls Tryz.prog 3 #[v0] w fun e w'=>e = .returned (.bool true)∧Below w.heap.size w w':=by
  obtain ⟨c,rfl,hk⟩:=PS t0
  have e0:=Go.AM.RD o0 r0
  exact (B8 (Γ:=Γd) rfl rfl rfl c hk Go.AM.s0).start (vs:=[v0]) (Go.AM.dP.cons e0 Go.AM.dP.none) hL (fun r s' h=>h)
set_option maxRecDepth 100000 in
theorem lifted (os : Os) (started : os.Started) (H : Type) (enc : TypeId × Value->H) :
    ReturnsInHanded {} Tryz.checked os 3 .any (fun w args=>(Rows.pathMakesSpec.pre enc Tryz.prog Tryz.f3 [] false w args∧laidMetH Tryz.prog J7 w)∧sizedMet enc Tryz.prog Tryz.f3 (OpenSpec.ofChange Rows.pathMakesSpec) false w args) (Rows.pathMakesSpec.post enc Tryz.prog Tryz.f3 false true false false):=by
  refine returnsInHanded_of_change_and (C:=Tryz.checked) (X:=fun w _=>laidMetH Tryz.prog J7 w) (fun _ _ _ hh h=>h.of_heap hh) own started (by kernel_rfl) Tryz.func3
    (ChangeSpec.witness_shaped (enc:=enc) (C:=Tryz.checked) (os:=os) (X:=fun w _=>laidMetH Tryz.prog J7 w) false (World.doorLaid Tryz.prog 400 os) #[.agg #[.slice none 0 0,.int .i64 0,.int .i64 0,.slice none 0 0,.slice none 0 0,.slice none 0 0]] 12 rfl (World.shaped_of_RefB (by kernel_rfl) (by kernel_rfl)) (by kernel_rfl) (by kernel_rfl) (by kernel_rfl) (R6 os _)) ?_
  intro W base args ds gs before hval0 hW _ hz hL _
  have hval : ∀ (j : Nat) t v,Tryz.f3.params[j]? = some t->args[j]? = some v->Value.okWide Tryz.prog W .any base t v:=hval0
  have hW':=hW
  obtain ⟨p,q,hA0,hV,rfl,hfz,hnd⟩:=hW
  have hA : DataW.TrodAll enc Tryz.prog W 0 (fun _=>true) true Tryz.f3.params.toList args.toList ds p:=hA0
  rw [Tryz.params3] at hA hval hz
  obtain ⟨v0,vs0,d0,ds0,p0,q0,Ri,rfl,rfl,h0,rr0⟩:=trodAll_cons hA
  obtain ⟨rfl,rfl,rfl⟩:=trodAll_nil rr0
  obtain rfl : args = #[v0]:=by cases args; simp_all
  obtain ⟨rfl,rfl⟩:=trodVars_none hV
  have o0 : ∃ cs,v0 = .agg cs:=by
    have h:=hval 0 26 v0 rfl rfl
    unfold Value.okWide at h
    rw [Tryz.underlying26] at h
    obtain ⟨cs,h,_⟩:=h
    exact ⟨cs,h⟩
  have xbC : ∀ a l c,v0.cells.toList[0]? = some (.slice a l c)->l<=reachBytes:=by obtain ⟨m,hm⟩:=h0; exact Go.AM.oY (j:=0) Tryz.underlying26 hz rfl rfl hm 0 rfl Tryz.underlying22 (by rw [T.b54]; decide) T.Vw
  have xbD : ∀ a l c,v0.cells.toList[3]? = some (.slice a l c)->l<=reachBytes:=by obtain ⟨m,hm⟩:=h0; exact Go.AM.oY (j:=0) Tryz.underlying26 hz rfl rfl hm 3 rfl Tryz.underlying23 (by rw [T.b5]; decide) T.LR
  have xbE : ∀ a l c,v0.cells.toList[4]? = some (.slice a l c)->l<=reachBytes:=by obtain ⟨m,hm⟩:=h0; exact Go.AM.oY (j:=0) Tryz.underlying26 hz rfl rfl hm 4 rfl Tryz.underlying23 (by rw [T.b5]; decide) T.LR
  have xbF : ∀ a l c,v0.cells.toList[5]? = some (.slice a l c)->l<=reachBytes:=by obtain ⟨m,hm⟩:=h0; exact Go.AM.oY (j:=0) Tryz.underlying26 hz rfl rfl hm 5 rfl Tryz.underlying24 (by rw [T.b3]; decide) T.MR
  have lt0 : ∀ x ∈ p0,x.block < W.heap.size:=by obtain ⟨m,hm⟩:=h0; exact DataW.trod_lt m _ _ _ hm
  obtain ⟨x0,r0,t0⟩ : ∃ x,Go.AM.dP (Go.AM.G0 W) x v0.cells.toList∧Go.AM.kI R5 x:=by obtain ⟨m,hm⟩:=h0; exact Go.AM.Hv R5 Zg hm
  clear hA0 hval0
  refine (walk W (Vx hL) v0 x0 r0 t0 o0 xbC xbD xbE xbF).mono fun e W' ⟨he,bel⟩=>?_
  subst he
  exact ⟨_,rfl,_,_,_,[],_,[],hW',trodAll_mk1 (shut_bool Tryz.underlying4 _),(trodAll_cons_mk (Below.trod laidOut (by kernel_rfl) (of_decide_eq_true (by kernel_rfl)) h0 bel lt0) trodAll_mk0),rfl,bel.frame _,fun h=>by cases h⟩
theorem closed : joinedFacts Tryz.pinned.checked.prog 3 Tryz.f3 Rows.pathMakesSpec Rows.pathMakesRow = true :=
  (both (both (both (both (both (both (both (both (both (both (both (both (both (both (both (both (both (both (both (both (both (both (both (both (both (both (both (both (both (both (both (by kernel_rfl) (by kernel_rfl)) (by kernel_rfl)) (by kernel_rfl)) (by kernel_rfl)) (by kernel_rfl)) (by kernel_rfl)) (by kernel_rfl)) (by kernel_rfl)) (by kernel_rfl)) (by kernel_rfl)) (by kernel_rfl)) (by kernel_rfl)) (by kernel_rfl)) (by kernel_rfl)) (by kernel_rfl)) (by kernel_rfl)) (by kernel_rfl)) (by kernel_rfl)) (by kernel_rfl)) (by kernel_rfl)) (by kernel_rfl)) (by kernel_rfl)) (by kernel_rfl)) (by kernel_rfl)) Vy) (Vz VA)) (VB R7)) (by kernel_rfl)) (by kernel_rfl)) (by kernel_rfl)) (by kernel_rfl))
theorem over : Rows.pathMakesRow.holds Tryz.pinned (OpenSpec.ofChange Rows.pathMakesSpec) :=
  OpenClaim.holds_of_wide 3 Tryz.f3 rfl rfl rfl rfl rfl rfl rfl ⟨rfl,rfl,rfl,rfl,rfl⟩ rfl rfl rfl rfl rfl (by kernel_rfl) Tryz.func3 closed
    (of_decide_eq_true (by kernel_rfl)) (by unfold Func.isWrapper; first | (rw [if_pos (by decide +kernel)]; kernel_rfl) | (rw [if_neg (by decide +kernel)]; exact ⟨rfl,rfl⟩))
    (fun os started H enc _=>lifted os started H enc)
theorem proved : Rows.PathMakesCardSaid :=
  Claim7.holds_tied_plain_at .later [] [.data,.data,.data,.data] true (true, "a9b44f7f579bb06e0e33ebffb0468da60b79a7693d93326aaa290a98137f31e2") false
    over (fun _ h=>by cases h) (by kernel_rfl) (fun _ h=>by cases h) pathMakes_row_tie rfl ⟨rfl,rfl⟩ R8 rfl
    (fun f fn hf hfn=>by
      obtain rfl : f = 3:=Option.some.inj ((show Tryz.prog.funcNamed "engrosser/engrosserlaw21.PathMakes" = some 3 by kernel_rfl).symm.trans hf) |>.symm
      obtain rfl : fn = Tryz.f3:=(Option.some.inj (Tryz.func3.symm.trans hfn)).symm
      exact ⟨by kernel_rfl,fun j t ht=>by
        rw [Tryz.params3] at ht
        have hm : t ∈ [26]:=by simpa using Array.mem_of_getElem? ht
        have fG : ([26].all fun u=>!Tryz.prog.wantsStandIn u) = true:=by kernel_rfl
        exact (show Tryz.prog.wantsStandIn t = false by simpa using List.all_eq_true.1 fG t hm)⟩)
    (by kernel_rfl)
#print axioms proved
end Go.Proofs.YtbiefppedlodiaaGreatDoor.pathMakes
