/- Contracts of the program's functions, each walked once; the conditions stand in each theorem. -/
import Derived.Test.YtcjifoccjlpapaaGreatDoorCards
import Derived.Test.YtcjifoccjlpapaaGreatDoorTie
import Derived.Test.YtcjifoccjlpapaaGreatDoorW13
import Derived.Test.YtcjifoccjlpapaaGreatDoorW2
import Derived.Test.YtcjifoccjlpapaaGreatDoorAMp4
import Derived.Test.YtcjifoccjlpapaaGreatDoorAMp6
import Derived.WalkKit
import Derived.ProofKit
import Derived.OpenShut
import Derived.ShutString
import Derived.ChangeOld
import Derived.Below
import Derived.LaidMore
import Derived.SevenTiedAt
import Derived.Stop.Joined
set_option linter.unusedSimpArgs false
set_option linter.unusedVariables false
namespace Go.Proofs.YtcjifoccjlpapaaGreatDoor.publicNext
open Go.ChangeShapes Go.WideShapes Go.ChangeAt Go.RowKit
open Go.ChangeMaps (open_string shut_string)
set_option linter.unusedVariables false
theorem own : ownKnob Tryz.prog.godebug = none:=by kernel_rfl
theorem laidOut : laidOutB Tryz.prog = true:=by kernel_rfl
abbrev LX : Go.AM.Ty:=(.struct (.cons (.slice 1 (.int .u8)) (.cons (.int .i64) (.cons (.slice 5 (.struct (.cons (.int .i64) (.cons (.slice 1 (.int .u8)) (.cons (.int .u64) (.cons (.slice 1 (.int .u8)) (.cons (.slice 1 (.int .i64)) .nil))))))) (.cons (.slice 1 (.int .u8)) (.cons (.slice 1 (.int .u8)) .nil))))))
theorem Su : Go.AM.uv Tryz.prog LX 25:=by
  simp only [LX,Go.AM.uv,Go.AM.xO]
  exact ⟨_,Tryz.underlying25,⟨_,_,rfl,by simp [T.ot,T.OR,T.Bn,T.c3],⟨5,Tryz.underlying22,T.c5,by decide,Tryz.underlying5⟩,⟨_,_,rfl,by simp [T.ot,T.OR,T.Bn,T.c3],Tryz.underlying3,⟨_,_,rfl,by simp [T.ot,T.OR,T.Bn,T.c3],⟨64,Tryz.underlying23,T.kX,by decide,⟨_,Tryz.underlying64,⟨_,_,rfl,by simp [T.ot,T.yy,T.c3,T.QI,T.kX],Tryz.underlying3,⟨_,_,rfl,by simp [T.ot,T.yy,T.c3,T.QI,T.kX],⟨5,Tryz.underlying22,T.c5,by decide,Tryz.underlying5⟩,⟨_,_,rfl,by simp [T.ot,T.yy,T.c3,T.QI,T.kX],Tryz.underlying27,⟨_,_,rfl,by simp [T.ot,T.yy,T.c3,T.QI,T.kX],⟨5,Tryz.underlying22,T.c5,by decide,Tryz.underlying5⟩,⟨_,_,rfl,by simp [T.ot,T.yy,T.c3,T.QI,T.kX],⟨3,Tryz.underlying36,T.c3,by decide,Tryz.underlying3⟩,⟨rfl,by simp [T.ot,T.yy,T.c3,T.QI,T.kX]⟩⟩⟩⟩⟩⟩⟩⟩,⟨_,_,rfl,by simp [T.ot,T.OR,T.Bn,T.c3],⟨5,Tryz.underlying22,T.c5,by decide,Tryz.underlying5⟩,⟨_,_,rfl,by simp [T.ot,T.OR,T.Bn,T.c3],⟨5,Tryz.underlying22,T.c5,by decide,Tryz.underlying5⟩,⟨rfl,by simp [T.ot,T.OR,T.Bn,T.c3]⟩⟩⟩⟩⟩⟩⟩
abbrev LY : Go.AM.Ty:=(.struct (.cons (.slice 1 (.int .u8)) (.cons (.int .i64) (.cons (.int .i64) (.cons (.slice 5 (.struct (.cons (.int .i64) (.cons (.int .i64) (.cons (.slice 1 (.int .u8)) (.cons (.int .u64) (.cons (.int .u64) .nil))))))) (.cons .bool (.cons (.struct (.cons (.int .u64) (.cons (.slice 1 (.int .u8)) (.cons (.slice 2 (.struct (.cons (.int .u64) (.cons (.slice 2 (.struct (.cons (.int .u64) (.cons (.slice 1 (.int .u8)) .nil)))) .nil)))) .nil)))) (.cons (.slice 1 (.int .u8)) (.cons (.slice 1 (.int .u8)) .nil)))))))))
theorem Sv : Go.AM.uv Tryz.prog LY 32:=by
  simp only [LY,Go.AM.uv,Go.AM.xO]
  exact ⟨_,Tryz.underlying32,⟨_,_,rfl,by simp [T.ot,T.KW,T.c3,T.HB,T.LZ,T.c4],⟨5,Tryz.underlying22,T.c5,by decide,Tryz.underlying5⟩,⟨_,_,rfl,by simp [T.ot,T.KW,T.c3,T.HB,T.LZ,T.c4],Tryz.underlying3,⟨_,_,rfl,by simp [T.ot,T.KW,T.c3,T.HB,T.LZ,T.c4],Tryz.underlying3,⟨_,_,rfl,by simp [T.ot,T.KW,T.c3,T.HB,T.LZ,T.c4],⟨66,Tryz.underlying26,T.OS,by decide,⟨_,Tryz.underlying66,⟨_,_,rfl,by simp [T.ot,T.yy,T.c3,T.OS],Tryz.underlying3,⟨_,_,rfl,by simp [T.ot,T.yy,T.c3,T.OS],Tryz.underlying3,⟨_,_,rfl,by simp [T.ot,T.yy,T.c3,T.OS],⟨5,Tryz.underlying22,T.c5,by decide,Tryz.underlying5⟩,⟨_,_,rfl,by simp [T.ot,T.yy,T.c3,T.OS],Tryz.underlying27,⟨_,_,rfl,by simp [T.ot,T.yy,T.c3,T.OS],Tryz.underlying27,⟨rfl,by simp [T.ot,T.yy,T.c3,T.OS]⟩⟩⟩⟩⟩⟩⟩⟩,⟨_,_,rfl,by simp [T.ot,T.KW,T.c3,T.HB,T.LZ,T.c4],Tryz.underlying4,⟨_,_,rfl,by simp [T.ot,T.KW,T.c3,T.HB,T.LZ,T.c4],⟨_,Tryz.underlying30,⟨_,_,rfl,by simp [T.ot,T.yy,T.Ub,T.HB],Tryz.underlying27,⟨_,_,rfl,by simp [T.ot,T.yy,T.Ub,T.HB],⟨5,Tryz.underlying22,T.c5,by decide,Tryz.underlying5⟩,⟨_,_,rfl,by simp [T.ot,T.yy,T.Ub,T.HB],⟨69,Tryz.underlying28,T.Uc,by decide,⟨_,Tryz.underlying69,⟨_,_,rfl,by simp [T.yy,T.U8,T.Uc],Tryz.underlying27,⟨_,_,rfl,by simp [T.yy,T.U8,T.Uc],⟨71,Tryz.underlying67,T.Ud,by decide,⟨_,Tryz.underlying71,⟨_,_,rfl,by simp [T.ot,T.yy,T.Ud],Tryz.underlying27,⟨_,_,rfl,by simp [T.ot,T.yy,T.Ud],⟨5,Tryz.underlying22,T.c5,by decide,Tryz.underlying5⟩,⟨rfl,by simp [T.ot,T.yy,T.Ud]⟩⟩⟩⟩⟩,⟨rfl,by simp [T.yy,T.U8,T.Uc]⟩⟩⟩⟩⟩,⟨rfl,by simp [T.ot,T.yy,T.Ub,T.HB]⟩⟩⟩⟩⟩,⟨_,_,rfl,by simp [T.ot,T.KW,T.c3,T.HB,T.LZ,T.c4],⟨5,Tryz.underlying22,T.c5,by decide,Tryz.underlying5⟩,⟨_,_,rfl,by simp [T.ot,T.KW,T.c3,T.HB,T.LZ,T.c4],⟨5,Tryz.underlying22,T.c5,by decide,Tryz.underlying5⟩,⟨rfl,by simp [T.ot,T.KW,T.c3,T.HB,T.LZ,T.c4]⟩⟩⟩⟩⟩⟩⟩⟩⟩⟩
theorem walk (w : World) (hL : ∀ g,∃ vs,Go.AM.al (Go.AM.G0 w) (Γd g) vs∧Go.AM.gg (Go.AM.G0 w) g 0 vs) (v0 : Value) (x0 : List Go.AM.AV) (r0 : Go.AM.al (Go.AM.G0 w) x0 v0.cells.toList) (t0 : Go.AM.cP LX x0) (o0 : ∃ cs,v0 = .agg cs) (U9 : ∀ a l c,v0.cells.toList[0]? = some (.slice a l c)→l≤reachBytes) (Va : ∀ a l c,v0.cells.toList[2]? = some (.slice a l c)→l≤reachBytes) (Vb : ∀ a l c,v0.cells.toList[3]? = some (.slice a l c)→l≤reachBytes) (Vc : ∀ a l c,v0.cells.toList[4]? = some (.slice a l c)→l≤reachBytes) (v1 : Value) (x1 : List Go.AM.AV) (r1 : Go.AM.al (Go.AM.G0 w) x1 v1.cells.toList) (t1 : Go.AM.cP LY x1) (o1 : ∃ cs,v1 = .agg cs) (Vd : ∀ a l c,v1.cells.toList[0]? = some (.slice a l c)→l≤reachBytes) (Ve : ∀ a l c,v1.cells.toList[3]? = some (.slice a l c)→l≤reachBytes) (Vf : ∀ a l c,v1.cells.toList[8]? = some (.slice a l c)→l≤reachBytes) (Vg : ∀ a l c,v1.cells.toList[9]? = some (.slice a l c)→l≤reachBytes) :
    Calls Tryz.prog 3 #[v0,v1] w fun e w'=>e = .returned (.bool true)∧Below w.heap.size w w':=by
  obtain ⟨S,rfl,hk⟩:=Go.AM.cP.state t0
  obtain ⟨C,rfl,hw⟩:=Go.AM.cP.Sw t1
  have e0:=Go.AM.EU o0 r0
  have e1:=Go.AM.EU o1 r1
  exact (vV (Γ:=Γd) rfl rfl rfl S hk C hw Go.AM.s0).start (vs:=[v0,v1]) (Go.AM.al.cons e0 (Go.AM.al.cons e1 Go.AM.al.none)) hL (fun r s' h=>h)
set_option maxRecDepth 100000 in
theorem lifted (os : Os) (started : os.Started) (H : Type) (enc : TypeId × Value→H) :
    ReturnsInHanded {} Tryz.checked os 3 .any (fun w args=>(Rows.publicNextSpec.pre enc Tryz.prog Tryz.f3 [] false w args∧laidMetH Tryz.prog Fp w)∧sizedMet enc Tryz.prog Tryz.f3 (OpenSpec.ofChange Rows.publicNextSpec) false w args) (Rows.publicNextSpec.post enc Tryz.prog Tryz.f3 false true false false):=by
  refine returnsInHanded_of_change_and (C:=Tryz.checked) (X:=fun w _=>laidMetH Tryz.prog Fp w) (fun _ _ _ hh h=>h.of_heap hh) own started (by kernel_rfl) Tryz.func3
    (ChangeSpec.witness_shaped (enc:=enc) (C:=Tryz.checked) (os:=os) (X:=fun w _=>laidMetH Tryz.prog Fp w) false (World.doorLaid Tryz.prog 400 os) #[.agg #[.slice none 0 0,.int .i64 0,.slice none 0 0,.slice none 0 0,.slice none 0 0],.agg #[.slice none 0 0,.int .i64 0,.int .i64 0,.slice none 0 0,.bool false,.int .u64 0,.slice none 0 0,.slice none 0 0,.slice none 0 0,.slice none 0 0]] 12 rfl (World.shaped_of_RefB (by kernel_rfl) (by kernel_rfl)) (by kernel_rfl) (by kernel_rfl) (by kernel_rfl) (L0 os _)) ?_
  intro W base args ds gs before hval0 hW _ hz hL _
  have hval : ∀ (j : Nat) t v,Tryz.f3.params[j]? = some t→args[j]? = some v→Value.okWide Tryz.prog W .any base t v:=hval0
  have hW':=hW
  obtain ⟨p,q,hA0,hV,rfl,hfz,hnd⟩:=hW
  have hA : DataW.TrodAll enc Tryz.prog W 0 (fun _=>true) true Tryz.f3.params.toList args.toList ds p:=hA0
  rw [Tryz.params3] at hA hval hz
  obtain ⟨v0,vs0,d0,ds0,p0,q0,Lt,rfl,rfl,h0,rr0⟩:=trodAll_cons hA
  obtain ⟨v1,vs1,d1,ds1,p1,q1,rfl,rfl,rfl,h1,rr1⟩:=trodAll_cons rr0
  obtain ⟨rfl,rfl,rfl⟩:=trodAll_nil rr1
  obtain rfl : args = #[v0,v1]:=by cases args; simp_all
  obtain ⟨rfl,rfl⟩:=trodVars_none hV
  have o0 : ∃ cs,v0 = .agg cs:=by
    have h:=hval 0 25 v0 rfl rfl
    unfold Value.okWide at h
    rw [Tryz.underlying25] at h
    obtain ⟨cs,h,_⟩:=h
    exact ⟨cs,h⟩
  have U9 : ∀ a l c,v0.cells.toList[0]? = some (.slice a l c)→l≤reachBytes:=by obtain ⟨m,hm⟩:=h0; exact Go.AM.ey (j:=0) Tryz.underlying25 hz rfl rfl hm 0 rfl Tryz.underlying22 (by rw [T.b5]; decide) T.ot
  have Va : ∀ a l c,v0.cells.toList[2]? = some (.slice a l c)→l≤reachBytes:=by obtain ⟨m,hm⟩:=h0; exact Go.AM.ey (j:=0) Tryz.underlying25 hz rfl rfl hm 2 rfl Tryz.underlying23 (by rw [T.L4]; decide) T.OR
  have Vb : ∀ a l c,v0.cells.toList[3]? = some (.slice a l c)→l≤reachBytes:=by obtain ⟨m,hm⟩:=h0; exact Go.AM.ey (j:=0) Tryz.underlying25 hz rfl rfl hm 3 rfl Tryz.underlying22 (by rw [T.b5]; decide) T.ot
  have Vc : ∀ a l c,v0.cells.toList[4]? = some (.slice a l c)→l≤reachBytes:=by obtain ⟨m,hm⟩:=h0; exact Go.AM.ey (j:=0) Tryz.underlying25 hz rfl rfl hm 4 rfl Tryz.underlying22 (by rw [T.b5]; decide) T.ot
  have lt0 : ∀ x ∈ p0,x.block < W.heap.size:=by obtain ⟨m,hm⟩:=h0; exact DataW.trod_lt m _ _ _ hm
  obtain ⟨x0,r0,t0⟩ : ∃ x,Go.AM.al (Go.AM.G0 W) x v0.cells.toList∧Go.AM.cP LX x:=by obtain ⟨m,hm⟩:=h0; exact Go.AM.yw LX Su hm
  have o1 : ∃ cs,v1 = .agg cs:=by
    have h:=hval 1 32 v1 rfl rfl
    unfold Value.okWide at h
    rw [Tryz.underlying32] at h
    obtain ⟨cs,h,_⟩:=h
    exact ⟨cs,h⟩
  have Vd : ∀ a l c,v1.cells.toList[0]? = some (.slice a l c)→l≤reachBytes:=by obtain ⟨m,hm⟩:=h1; exact Go.AM.ey (j:=1) Tryz.underlying32 hz rfl rfl hm 0 rfl Tryz.underlying22 (by rw [T.b5]; decide) T.ot
  have Ve : ∀ a l c,v1.cells.toList[3]? = some (.slice a l c)→l≤reachBytes:=by obtain ⟨m,hm⟩:=h1; exact Go.AM.ey (j:=1) Tryz.underlying32 hz rfl rfl hm 3 rfl Tryz.underlying26 (by rw [T.b66]; decide) T.KW
  have Vf : ∀ a l c,v1.cells.toList[8]? = some (.slice a l c)→l≤reachBytes:=by obtain ⟨m,hm⟩:=h1; exact Go.AM.ey (j:=1) Tryz.underlying32 hz rfl rfl hm 6 rfl Tryz.underlying22 (by rw [T.b5]; decide) T.ot
  have Vg : ∀ a l c,v1.cells.toList[9]? = some (.slice a l c)→l≤reachBytes:=by obtain ⟨m,hm⟩:=h1; exact Go.AM.ey (j:=1) Tryz.underlying32 hz rfl rfl hm 7 rfl Tryz.underlying22 (by rw [T.b5]; decide) T.ot
  have lt1 : ∀ x ∈ p1,x.block < W.heap.size:=by obtain ⟨m,hm⟩:=h1; exact DataW.trod_lt m _ _ _ hm
  obtain ⟨x1,r1,t1⟩ : ∃ x,Go.AM.al (Go.AM.G0 W) x v1.cells.toList∧Go.AM.cP LY x:=by obtain ⟨m,hm⟩:=h1; exact Go.AM.yw LY Sv hm
  clear hA0 hval0
  refine (walk W (OT hL) v0 x0 r0 t0 o0 U9 Va Vb Vc v1 x1 r1 t1 o1 Vd Ve Vf Vg).mono fun e W' ⟨he,bel⟩=>?_
  subst he
  exact ⟨_,rfl,_,_,_,[],_,[],hW',trodAll_mk1 (shut_bool Tryz.underlying4 _),(trodAll_cons_mk (Below.trod laidOut (by kernel_rfl) (of_decide_eq_true (by kernel_rfl)) h0 bel lt0) (trodAll_cons_mk (Below.trod laidOut (by kernel_rfl) (of_decide_eq_true (by kernel_rfl)) h1 bel lt1) trodAll_mk0)),rfl,bel.frame _,fun h=>by cases h⟩
theorem closed : joinedFacts Tryz.pinned.checked.prog 3 Tryz.f3 Rows.publicNextSpec Rows.publicNextRow = true :=
  (both (both (both (both (both (both (both (both (both (both (both (both (both (both (both (both (both (both (both (both (both (both (both (both (both (both (both (both (both (both (both (by kernel_rfl) (by kernel_rfl)) (by kernel_rfl)) (by kernel_rfl)) (by kernel_rfl)) (by kernel_rfl)) (by kernel_rfl)) (by kernel_rfl)) (by kernel_rfl)) (by kernel_rfl)) (by kernel_rfl)) (by kernel_rfl)) (by kernel_rfl)) (by kernel_rfl)) (by kernel_rfl)) (by kernel_rfl)) (by kernel_rfl)) (by kernel_rfl)) (by kernel_rfl)) (by kernel_rfl)) (by kernel_rfl)) (by kernel_rfl)) (by kernel_rfl)) (by kernel_rfl)) (by kernel_rfl)) OU) (OV OW)) (OX L5)) (by kernel_rfl)) (by kernel_rfl)) (by kernel_rfl)) (by kernel_rfl))
theorem over : Rows.publicNextRow.holds Tryz.pinned (OpenSpec.ofChange Rows.publicNextSpec) :=
  OpenClaim.holds_of_wide 3 Tryz.f3 rfl rfl rfl rfl rfl rfl rfl ⟨rfl,rfl,rfl,rfl,rfl⟩ rfl rfl rfl rfl rfl (by kernel_rfl) Tryz.func3 closed
    (of_decide_eq_true (by kernel_rfl)) (by unfold Func.isWrapper; first | (rw [if_pos (by decide +kernel)]; kernel_rfl) | (rw [if_neg (by decide +kernel)]; exact ⟨rfl,rfl⟩))
    (fun os started H enc _=>lifted os started H enc)
theorem proved : Rows.PublicNextCardSaid :=
  Claim7.holds_tied_plain_at .later [] [.data,.data,.data,.data] true (true, "404cfdf0fe98169e25e770952ef5ceeb8a438a14472d173613c2c707cd0a47ad") false
    over (fun _ h=>by cases h) (by kernel_rfl) (fun _ h=>by cases h) publicNext_row_tie rfl ⟨rfl,rfl⟩ L6 rfl
    (fun f fn hf UX=>by
      obtain rfl : f = 3:=Option.some.inj ((show Tryz.prog.funcNamed "engrosser/engrosserlaw24.PublicNext" = some 3 by kernel_rfl).symm.trans hf) |>.symm
      obtain rfl : fn = Tryz.f3:=(Option.some.inj (Tryz.func3.symm.trans UX)).symm
      exact ⟨by kernel_rfl,fun j t ht=>by
        rw [Tryz.params3] at ht
        have hm : t ∈ [25,32]:=by simpa using Array.mem_of_getElem? ht
        have bT : ([25,32].all fun u=>!Tryz.prog.wantsStandIn u) = true:=by kernel_rfl
        exact (show Tryz.prog.wantsStandIn t = false by simpa using List.all_eq_true.1 bT t hm)⟩)
    (by kernel_rfl)
#print axioms proved
end Go.Proofs.YtcjifoccjlpapaaGreatDoor.publicNext
