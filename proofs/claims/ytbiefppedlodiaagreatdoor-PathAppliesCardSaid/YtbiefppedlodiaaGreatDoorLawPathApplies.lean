/- Contracts of functions, each walked once; each theorem states its conditions. -/
import Derived.Test.YtbiefppedlodiaaGreatDoorCards
import Derived.Test.YtbiefppedlodiaaGreatDoorTie
import Derived.Test.YtbiefppedlodiaaGreatDoorW11
import Derived.Test.YtbiefppedlodiaaGreatDoorAMp4
import Derived.Test.YtbiefppedlodiaaGreatDoorAMp6
import Derived.WalkKit
import Derived.ProofKit
import Derived.OpenShut
import Derived.ShutString
import Derived.ChangeOld
import Derived.Below
import Derived.LaidMore
import Derived.SevenTiedAt
import Derived.Stop.Joined
set_option linter.unusedSimpArgs false
set_option linter.unusedVariables false
namespace Go.Proofs.YtbiefppedlodiaaGreatDoor.pathApplies
open Go.ChangeShapes Go.WideShapes Go.ChangeAt Go.RowKit
open Go.ChangeMaps (open_string shut_string)
set_option linter.unusedVariables false
theorem own : ownKnob Tryz.prog.godebug = none:=by kernel_rfl
theorem laidOut : laidOutB Tryz.prog = true:=by kernel_rfl
abbrev KG : Go.AM.Ty:=(.struct (.cons (.slice 5 (.struct (.cons (.int .i64) (.cons (.slice 1 (.int .u8)) (.cons (.int .u64) (.cons (.slice 1 (.int .u8)) (.cons (.slice 1 (.int .i64)) .nil))))))) (.cons (.int .i64) (.cons (.int .i64) (.cons (.slice 1 (.int .u8)) (.cons (.slice 1 (.int .u8)) (.cons (.slice 1 (.int .i64)) .nil)))))))
theorem Sd : Go.AM.sQ Tryz.prog KG 26:=by
  simp only [KG,Go.AM.sQ,Go.AM.wk]
  exact ⟨_,Tryz.underlying26,⟨_,_,rfl,by simp [T.Nv,T.wu,T.FB,T.Oi,T.c3],⟨54,Tryz.underlying22,T.Be,by decide,⟨_,Tryz.underlying54,⟨_,_,rfl,by simp [T.wu,T.FB,T.De,T.c3,T.Be],Tryz.underlying3,⟨_,_,rfl,by simp [T.wu,T.FB,T.De,T.c3,T.Be],⟨5,Tryz.underlying23,T.c5,by decide,Tryz.underlying5⟩,⟨_,_,rfl,by simp [T.wu,T.FB,T.De,T.c3,T.Be],Tryz.underlying29,⟨_,_,rfl,by simp [T.wu,T.FB,T.De,T.c3,T.Be],⟨5,Tryz.underlying23,T.c5,by decide,Tryz.underlying5⟩,⟨_,_,rfl,by simp [T.wu,T.FB,T.De,T.c3,T.Be],⟨3,Tryz.underlying24,T.c3,by decide,Tryz.underlying3⟩,⟨rfl,by simp [T.wu,T.FB,T.De,T.c3,T.Be]⟩⟩⟩⟩⟩⟩⟩⟩,⟨_,_,rfl,by simp [T.Nv,T.wu,T.FB,T.Oi,T.c3],Tryz.underlying3,⟨_,_,rfl,by simp [T.Nv,T.wu,T.FB,T.Oi,T.c3],Tryz.underlying3,⟨_,_,rfl,by simp [T.Nv,T.wu,T.FB,T.Oi,T.c3],⟨5,Tryz.underlying23,T.c5,by decide,Tryz.underlying5⟩,⟨_,_,rfl,by simp [T.Nv,T.wu,T.FB,T.Oi,T.c3],⟨5,Tryz.underlying23,T.c5,by decide,Tryz.underlying5⟩,⟨_,_,rfl,by simp [T.Nv,T.wu,T.FB,T.Oi,T.c3],⟨3,Tryz.underlying24,T.c3,by decide,Tryz.underlying3⟩,⟨rfl,by simp [T.Nv,T.wu,T.FB,T.Oi,T.c3]⟩⟩⟩⟩⟩⟩⟩⟩
abbrev KH : Go.AM.Ty:=(.struct (.cons (.int .u64) (.cons (.slice 1 (.int .u8)) (.cons (.slice 2 (.struct (.cons (.int .u64) (.cons (.slice 2 (.struct (.cons (.int .u64) (.cons (.slice 1 (.int .u8)) .nil)))) .nil)))) .nil))))
theorem Se : Go.AM.sQ Tryz.prog KH 32:=by
  simp only [KH,Go.AM.sQ,Go.AM.wk]
  exact ⟨_,Tryz.underlying32,⟨_,_,rfl,by simp [T.wu,T.De,T.Sf,T.QE],Tryz.underlying29,⟨_,_,rfl,by simp [T.wu,T.De,T.Sf,T.QE],⟨5,Tryz.underlying23,T.c5,by decide,Tryz.underlying5⟩,⟨_,_,rfl,by simp [T.wu,T.De,T.Sf,T.QE],⟨76,Tryz.underlying30,T.QF,by decide,⟨_,Tryz.underlying76,⟨_,_,rfl,by simp [T.De,T.UZ,T.QF],Tryz.underlying29,⟨_,_,rfl,by simp [T.De,T.UZ,T.QF],⟨78,Tryz.underlying74,T.Sg,by decide,⟨_,Tryz.underlying78,⟨_,_,rfl,by simp [T.wu,T.De,T.Sg],Tryz.underlying29,⟨_,_,rfl,by simp [T.wu,T.De,T.Sg],⟨5,Tryz.underlying23,T.c5,by decide,Tryz.underlying5⟩,⟨rfl,by simp [T.wu,T.De,T.Sg]⟩⟩⟩⟩⟩,⟨rfl,by simp [T.De,T.UZ,T.QF]⟩⟩⟩⟩⟩,⟨rfl,by simp [T.wu,T.De,T.Sf,T.QE]⟩⟩⟩⟩⟩
theorem walk (w : World) (hL : ∀ g,∃ vs,Go.AM.au (Go.AM.G0 w) (Γd g) vs∧Go.AM.gp (Go.AM.G0 w) g 0 vs) (v0 : Value) (x0 : List Go.AM.AV) (r0 : Go.AM.au (Go.AM.G0 w) x0 v0.cells.toList) (t0 : Go.AM.cO KG x0) (o0 : ∃ cs,v0 = .agg cs) (U0 : ∀ a l c,v0.cells.toList[0]? = some (.slice a l c)→l≤reachBytes) (U1 : ∀ a l c,v0.cells.toList[3]? = some (.slice a l c)→l≤reachBytes) (U3 : ∀ a l c,v0.cells.toList[4]? = some (.slice a l c)→l≤reachBytes) (U4 : ∀ a l c,v0.cells.toList[5]? = some (.slice a l c)→l≤reachBytes) (v1 : Value) (x1 : List Go.AM.AV) (r1 : Go.AM.au (Go.AM.G0 w) x1 v1.cells.toList) (t1 : Go.AM.cO KH x1) (o1 : ∃ cs,v1 = .agg cs) (U5 : ∀ a l c,v1.cells.toList[1]? = some (.slice a l c)→l≤reachBytes) (U6 : ∀ a l c,v1.cells.toList[2]? = some (.slice a l c)→l≤reachBytes) :
    Calls Tryz.prog 4 #[v0,v1] w fun e w'=>e = .returned (.bool true)∧Below w.heap.size w w':=by
  obtain ⟨c,rfl,hk⟩:=I0 t0
  obtain ⟨p,rfl,hw⟩:=Go.AM.cO.U7 t1
  have e0:=Go.AM.D3 o0 r0
  have e1:=Go.AM.D3 o1 r1
  exact (tb (Γ:=Γd) rfl rfl rfl c hk p hw Go.AM.s0).start (vs:=[v0,v1]) (Go.AM.au.cons e0 (Go.AM.au.cons e1 Go.AM.au.none)) hL (fun r s' h=>h)
set_option maxRecDepth 100000 in
theorem lifted (os : Os) (started : os.Started) (H : Type) (enc : TypeId × Value→H) :
    ReturnsInHanded {} Tryz.checked os 4 .any (fun w args=>(Rows.pathAppliesSpec.pre enc Tryz.prog Tryz.f4 [] false w args∧laidMetH Tryz.prog Ed w)∧sizedMet enc Tryz.prog Tryz.f4 (OpenSpec.ofChange Rows.pathAppliesSpec) false w args) (Rows.pathAppliesSpec.post enc Tryz.prog Tryz.f4 false true false false):=by
  refine returnsInHanded_of_change_and (C:=Tryz.checked) (X:=fun w _=>laidMetH Tryz.prog Ed w) (fun _ _ _ hh h=>h.of_heap hh) own started (by kernel_rfl) Tryz.func4
    (ChangeSpec.witness_shaped (enc:=enc) (C:=Tryz.checked) (os:=os) (X:=fun w _=>laidMetH Tryz.prog Ed w) false (World.doorLaid Tryz.prog 400 os) #[.agg #[.slice none 0 0,.int .i64 0,.int .i64 0,.slice none 0 0,.slice none 0 0,.slice none 0 0],.agg #[.int .u64 0,.slice none 0 0,.slice none 0 0]] 12 rfl (World.shaped_of_RefB (by kernel_rfl) (by kernel_rfl)) (by kernel_rfl) (by kernel_rfl) (by kernel_rfl) (KI os _)) ?_
  intro W base args ds gs before hval0 hW _ hz hL _
  have hval : ∀ (j : Nat) t v,Tryz.f4.params[j]? = some t→args[j]? = some v→Value.okWide Tryz.prog W .any base t v:=hval0
  have hW':=hW
  obtain ⟨p,q,hA0,hV,rfl,hfz,hnd⟩:=hW
  have hA : DataW.TrodAll enc Tryz.prog W 0 (fun _=>true) true Tryz.f4.params.toList args.toList ds p:=hA0
  rw [Tryz.params4] at hA hval hz
  obtain ⟨v0,vs0,d0,ds0,p0,q0,Ka,rfl,rfl,h0,rr0⟩:=trodAll_cons hA
  obtain ⟨v1,vs1,d1,ds1,p1,q1,rfl,rfl,rfl,h1,rr1⟩:=trodAll_cons rr0
  obtain ⟨rfl,rfl,rfl⟩:=trodAll_nil rr1
  obtain rfl : args = #[v0,v1]:=by cases args; simp_all
  obtain ⟨rfl,rfl⟩:=trodVars_none hV
  have o0 : ∃ cs,v0 = .agg cs:=by
    have h:=hval 0 26 v0 rfl rfl
    unfold Value.okWide at h
    rw [Tryz.underlying26] at h
    obtain ⟨cs,h,_⟩:=h
    exact ⟨cs,h⟩
  have U0 : ∀ a l c,v0.cells.toList[0]? = some (.slice a l c)→l≤reachBytes:=by obtain ⟨m,hm⟩:=h0; exact Go.AM.eX (j:=0) Tryz.underlying26 hz rfl rfl hm 0 rfl Tryz.underlying22 (by rw [T.U8]; decide) T.Nv
  have U1 : ∀ a l c,v0.cells.toList[3]? = some (.slice a l c)→l≤reachBytes:=by obtain ⟨m,hm⟩:=h0; exact Go.AM.eX (j:=0) Tryz.underlying26 hz rfl rfl hm 3 rfl Tryz.underlying23 (by rw [T.b5]; decide) T.wu
  have U3 : ∀ a l c,v0.cells.toList[4]? = some (.slice a l c)→l≤reachBytes:=by obtain ⟨m,hm⟩:=h0; exact Go.AM.eX (j:=0) Tryz.underlying26 hz rfl rfl hm 4 rfl Tryz.underlying23 (by rw [T.b5]; decide) T.wu
  have U4 : ∀ a l c,v0.cells.toList[5]? = some (.slice a l c)→l≤reachBytes:=by obtain ⟨m,hm⟩:=h0; exact Go.AM.eX (j:=0) Tryz.underlying26 hz rfl rfl hm 5 rfl Tryz.underlying24 (by rw [T.b3]; decide) T.FB
  have lt0 : ∀ x ∈ p0,x.block < W.heap.size:=by obtain ⟨m,hm⟩:=h0; exact DataW.trod_lt m _ _ _ hm
  obtain ⟨x0,r0,t0⟩ : ∃ x,Go.AM.au (Go.AM.G0 W) x v0.cells.toList∧Go.AM.cO KG x:=by obtain ⟨m,hm⟩:=h0; exact Go.AM.w8 KG Sd hm
  have o1 : ∃ cs,v1 = .agg cs:=by
    have h:=hval 1 32 v1 rfl rfl
    unfold Value.okWide at h
    rw [Tryz.underlying32] at h
    obtain ⟨cs,h,_⟩:=h
    exact ⟨cs,h⟩
  have U5 : ∀ a l c,v1.cells.toList[1]? = some (.slice a l c)→l≤reachBytes:=by obtain ⟨m,hm⟩:=h1; exact Go.AM.eX (j:=1) Tryz.underlying32 hz rfl rfl hm 1 rfl Tryz.underlying23 (by rw [T.b5]; decide) T.wu
  have U6 : ∀ a l c,v1.cells.toList[2]? = some (.slice a l c)→l≤reachBytes:=by obtain ⟨m,hm⟩:=h1; exact Go.AM.eX (j:=1) Tryz.underlying32 hz rfl rfl hm 2 rfl Tryz.underlying30 (by rw [T.b76]; decide) T.Sf
  have lt1 : ∀ x ∈ p1,x.block < W.heap.size:=by obtain ⟨m,hm⟩:=h1; exact DataW.trod_lt m _ _ _ hm
  obtain ⟨x1,r1,t1⟩ : ∃ x,Go.AM.au (Go.AM.G0 W) x v1.cells.toList∧Go.AM.cO KH x:=by obtain ⟨m,hm⟩:=h1; exact Go.AM.w8 KH Se hm
  clear hA0 hval0
  refine (walk W (Oj hL) v0 x0 r0 t0 o0 U0 U1 U3 U4 v1 x1 r1 t1 o1 U5 U6).mono fun e W' ⟨he,bel⟩=>?_
  subst he
  exact ⟨_,rfl,_,_,_,[],_,[],hW',trodAll_mk1 (shut_bool Tryz.underlying4 _),(trodAll_cons_mk (Below.trod laidOut (by kernel_rfl) (of_decide_eq_true (by kernel_rfl)) h0 bel lt0) (trodAll_cons_mk (Below.trod laidOut (by kernel_rfl) (of_decide_eq_true (by kernel_rfl)) h1 bel lt1) trodAll_mk0)),rfl,bel.frame _,fun h=>by cases h⟩
theorem closed : joinedFacts Tryz.pinned.checked.prog 4 Tryz.f4 Rows.pathAppliesSpec Rows.pathAppliesRow = true :=
  (both (both (both (both (both (both (both (both (both (both (both (both (both (both (both (both (both (both (both (both (both (both (both (both (both (both (both (both (both (both (both (by kernel_rfl) (by kernel_rfl)) (by kernel_rfl)) (by kernel_rfl)) (by kernel_rfl)) (by kernel_rfl)) (by kernel_rfl)) (by kernel_rfl)) (by kernel_rfl)) (by kernel_rfl)) (by kernel_rfl)) (by kernel_rfl)) (by kernel_rfl)) (by kernel_rfl)) (by kernel_rfl)) (by kernel_rfl)) (by kernel_rfl)) (by kernel_rfl)) (by kernel_rfl)) (by kernel_rfl)) (by kernel_rfl)) (by kernel_rfl)) (by kernel_rfl)) (by kernel_rfl)) (by kernel_rfl)) Ol) (Om On)) (Oo KJ)) (by kernel_rfl)) (by kernel_rfl)) (by kernel_rfl)) (by kernel_rfl))
theorem over : Rows.pathAppliesRow.holds Tryz.pinned (OpenSpec.ofChange Rows.pathAppliesSpec) :=
  OpenClaim.holds_of_wide 4 Tryz.f4 rfl rfl rfl rfl rfl rfl rfl ⟨rfl,rfl,rfl,rfl,rfl⟩ rfl rfl rfl rfl rfl (by kernel_rfl) Tryz.func4 closed
    (of_decide_eq_true (by kernel_rfl)) (by unfold Func.isWrapper; first | (rw [if_pos (by decide +kernel)]; kernel_rfl) | (rw [if_neg (by decide +kernel)]; exact ⟨rfl,rfl⟩))
    (fun os started H enc _=>lifted os started H enc)
theorem proved : Rows.PathAppliesCardSaid :=
  Claim7.holds_tied_plain_at .later [] [.data,.data,.data,.data] true (true, "a9b44f7f579bb06e0e33ebffb0468da60b79a7693d93326aaa290a98137f31e2") false
    over (fun _ h=>by cases h) (by kernel_rfl) (fun _ h=>by cases h) pathApplies_row_tie rfl ⟨rfl,rfl⟩ KM rfl
    (fun f fn hf UL=>by
      obtain rfl : f = 4:=Option.some.inj ((show Tryz.prog.funcNamed "engrosser/engrosserlaw21.PathApplies" = some 4 by kernel_rfl).symm.trans hf) |>.symm
      obtain rfl : fn = Tryz.f4:=(Option.some.inj (Tryz.func4.symm.trans UL)).symm
      exact ⟨by kernel_rfl,fun j t ht=>by
        rw [Tryz.params4] at ht
        have hm : t ∈ [26,32]:=by simpa using Array.mem_of_getElem? ht
        have bT : ([26,32].all fun u=>!Tryz.prog.wantsStandIn u) = true:=by kernel_rfl
        exact (show Tryz.prog.wantsStandIn t = false by simpa using List.all_eq_true.1 bT t hm)⟩)
    (by kernel_rfl)
#print axioms proved
end Go.Proofs.YtbiefppedlodiaaGreatDoor.pathApplies
