/- Contracts of functions, each walked once; each theorem states its conditions. -/
import Derived.Test.YtbiefppedlodiaaGreatDoorCards
import Derived.Test.YtbiefppedlodiaaGreatDoorTie
import Derived.Test.YtbiefppedlodiaaGreatDoorW10
import Derived.Test.YtbiefppedlodiaaGreatDoorW1
import Derived.Test.YtbiefppedlodiaaGreatDoorAMp4
import Derived.Test.YtbiefppedlodiaaGreatDoorAMp6
import Derived.WalkKit
import Derived.ProofKit
import Derived.OpenShut
import Derived.ShutString
import Derived.ChangeOld
import Derived.Below
import Derived.LaidMore
import Derived.SevenTiedAt
import Derived.Stop.Joined
set_option linter.unusedSimpArgs false
set_option linter.unusedVariables false
namespace Go.Proofs.YtbiefppedlodiaaGreatDoor.pathReads
open Go.ChangeShapes Go.WideShapes Go.ChangeAt Go.RowKit
open Go.ChangeMaps (open_string shut_string)
set_option linter.unusedVariables false
theorem own : ownKnob Tryz.prog.godebug = none:=by kernel_rfl
theorem laidOut : laidOutB Tryz.prog = true:=by kernel_rfl
abbrev L6 : Go.AM.Ty:=(.struct (.cons (.int .u64) (.cons (.slice 1 (.int .u8)) (.cons (.slice 2 (.struct (.cons (.int .u64) (.cons (.slice 2 (.struct (.cons (.int .u64) (.cons (.slice 1 (.int .u8)) .nil)))) .nil)))) .nil))))
theorem Tr : Go.AM.td Tryz.prog L6 32:=by
  simp only [L6,Go.AM.td,Go.AM.wR]
  exact ⟨_,Tryz.underlying32,⟨_,_,rfl,by simp [T.OQ,T.Lh,T.Ts,T.Li],Tryz.underlying29,⟨_,_,rfl,by simp [T.OQ,T.Lh,T.Ts,T.Li],⟨5,Tryz.underlying23,T.c5,by decide,Tryz.underlying5⟩,⟨_,_,rfl,by simp [T.OQ,T.Lh,T.Ts,T.Li],⟨76,Tryz.underlying30,T.RB,by decide,⟨_,Tryz.underlying76,⟨_,_,rfl,by simp [T.Lh,T.Wh,T.RB],Tryz.underlying29,⟨_,_,rfl,by simp [T.Lh,T.Wh,T.RB],⟨78,Tryz.underlying74,T.PF,by decide,⟨_,Tryz.underlying78,⟨_,_,rfl,by simp [T.OQ,T.Lh,T.PF],Tryz.underlying29,⟨_,_,rfl,by simp [T.OQ,T.Lh,T.PF],⟨5,Tryz.underlying23,T.c5,by decide,Tryz.underlying5⟩,⟨rfl,by simp [T.OQ,T.Lh,T.PF]⟩⟩⟩⟩⟩,⟨rfl,by simp [T.Lh,T.Wh,T.RB]⟩⟩⟩⟩⟩,⟨rfl,by simp [T.OQ,T.Lh,T.Ts,T.Li]⟩⟩⟩⟩⟩
abbrev L7 : Go.AM.Ty:=(.slice 1 (.int .u8))
theorem Tt : Go.AM.td Tryz.prog L7 23:=by
  simp only [L7,Go.AM.td,Go.AM.wR]
  exact ⟨5,Tryz.underlying23,T.c5,by decide,Tryz.underlying5⟩
theorem walk (w : World) (hL : ∀ g,∃ vs,Go.AM.ar (Go.AM.G0 w) (Γd g) vs∧Go.AM.gz (Go.AM.G0 w) g 0 vs) (v0 : Value) (x0 : List Go.AM.AV) (r0 : Go.AM.ar (Go.AM.G0 w) x0 v0.cells.toList) (t0 : Go.AM.dT L6 x0) (o0 : ∃ cs,v0 = .agg cs) (Wi : ∀ a l c,v0.cells.toList[1]? = some (.slice a l c)→l≤reachBytes) (Wj : ∀ a l c,v0.cells.toList[2]? = some (.slice a l c)→l≤reachBytes) (v1 : Value) (x1 : List Go.AM.AV) (r1 : Go.AM.ar (Go.AM.G0 w) x1 v1.cells.toList) (t1 : Go.AM.dT L7 x1) (o1 : ∃ a l c,v1 = .slice a l c) (z1 : ∀ a l c,v1 = .slice a l c→l≤reachBytes) :
    Calls Tryz.prog 7 #[v0,v1] w fun e w'=>e = .returned (.bool true)∧Below w.heap.size w w':=by
  obtain ⟨x,rfl,hw⟩:=Go.AM.dT.Wk t0
  obtain ⟨b,rfl,_⟩:=Go.AM.dT.bytes t1
  have e0:=Go.AM.LI o0 r0
  have e1:=Go.AM.GZ o1 r1
  exact (wX (Γ:=Γd) rfl rfl rfl x hw b Go.AM.s0).start (vs:=[v0,v1]) (Go.AM.ar.cons e0 (Go.AM.ar.cons e1 Go.AM.ar.none)) hL (fun r s' h=>h)
set_option maxRecDepth 100000 in
theorem lifted (os : Os) (started : os.Started) (H : Type) (enc : TypeId × Value→H) :
    ReturnsInHanded {} Tryz.checked os 7 .any (fun w args=>(Rows.pathReadsSpec.pre enc Tryz.prog Tryz.f7 [] false w args∧laidMetH Tryz.prog Fh w)∧sizedMet enc Tryz.prog Tryz.f7 (OpenSpec.ofChange Rows.pathReadsSpec) false w args) (Rows.pathReadsSpec.post enc Tryz.prog Tryz.f7 false true false false):=by
  refine returnsInHanded_of_change_and (C:=Tryz.checked) (X:=fun w _=>laidMetH Tryz.prog Fh w) (fun _ _ _ hh h=>h.of_heap hh) own started (by kernel_rfl) Tryz.func7
    (ChangeSpec.witness_shaped (enc:=enc) (C:=Tryz.checked) (os:=os) (X:=fun w _=>laidMetH Tryz.prog Fh w) false (World.doorLaid Tryz.prog 400 os) #[.agg #[.int .u64 0,.slice none 0 0,.slice none 0 0],.slice none 0 0] 12 rfl (World.shaped_of_RefB (by kernel_rfl) (by kernel_rfl)) (by kernel_rfl) (by kernel_rfl) (by kernel_rfl) (L8 os _)) ?_
  intro W base args ds gs before hval0 hW _ hz hL _
  have hval : ∀ (j : Nat) t v,Tryz.f7.params[j]? = some t→args[j]? = some v→Value.okWide Tryz.prog W .any base t v:=hval0
  have hW':=hW
  obtain ⟨p,q,hA0,hV,rfl,hfz,hnd⟩:=hW
  have hA : DataW.TrodAll enc Tryz.prog W 0 (fun _=>true) true Tryz.f7.params.toList args.toList ds p:=hA0
  rw [Tryz.params7] at hA hval hz
  obtain ⟨v0,vs0,d0,ds0,p0,q0,Lw,rfl,rfl,h0,rr0⟩:=trodAll_cons hA
  obtain ⟨v1,vs1,d1,ds1,p1,q1,rfl,rfl,rfl,h1,rr1⟩:=trodAll_cons rr0
  obtain ⟨rfl,rfl,rfl⟩:=trodAll_nil rr1
  obtain rfl : args = #[v0,v1]:=by cases args; simp_all
  obtain ⟨rfl,rfl⟩:=trodVars_none hV
  have o0 : ∃ cs,v0 = .agg cs:=by
    have h:=hval 0 32 v0 rfl rfl
    unfold Value.okWide at h
    rw [Tryz.underlying32] at h
    obtain ⟨cs,h,_⟩:=h
    exact ⟨cs,h⟩
  have Wi : ∀ a l c,v0.cells.toList[1]? = some (.slice a l c)→l≤reachBytes:=by obtain ⟨m,hm⟩:=h0; exact Go.AM.re (j:=0) Tryz.underlying32 hz rfl rfl hm 1 rfl Tryz.underlying23 (by rw [T.b5]; decide) T.OQ
  have Wj : ∀ a l c,v0.cells.toList[2]? = some (.slice a l c)→l≤reachBytes:=by obtain ⟨m,hm⟩:=h0; exact Go.AM.re (j:=0) Tryz.underlying32 hz rfl rfl hm 2 rfl Tryz.underlying30 (by rw [T.b76]; decide) T.Ts
  have lt0 : ∀ x ∈ p0,x.block < W.heap.size:=by obtain ⟨m,hm⟩:=h0; exact DataW.trod_lt m _ _ _ hm
  obtain ⟨x0,r0,t0⟩ : ∃ x,Go.AM.ar (Go.AM.G0 W) x v0.cells.toList∧Go.AM.dT L6 x:=by obtain ⟨m,hm⟩:=h0; exact Go.AM.xv L6 Tr hm
  have z1 : ∀ a l c,v1 = .slice a l c→l≤reachBytes:=by obtain ⟨m,hm⟩:=h1; exact Go.AM.tm (j:=1) Tryz.underlying23 hz rfl rfl hm (by rw [T.b5]; decide)
  have o1 : ∃ a l c,v1 = .slice a l c:=by obtain ⟨a,l,c,h⟩:=okWide_slice Tryz.underlying23 (hval 1 23 v1 rfl rfl); exact ⟨a,l,c,h⟩
  have lt1 : ∀ x ∈ p1,x.block < W.heap.size:=by obtain ⟨m,hm⟩:=h1; exact DataW.trod_lt m _ _ _ hm
  obtain ⟨x1,r1,t1⟩ : ∃ x,Go.AM.ar (Go.AM.G0 W) x v1.cells.toList∧Go.AM.dT L7 x:=by obtain ⟨m,hm⟩:=h1; exact Go.AM.xv L7 Tt hm
  clear hA0 hval0
  refine (walk W (PG hL) v0 x0 r0 t0 o0 Wi Wj v1 x1 r1 t1 o1 z1).mono fun e W' ⟨he,bel⟩=>?_
  subst he
  exact ⟨_,rfl,_,_,_,[],_,[],hW',trodAll_mk1 (shut_bool Tryz.underlying4 _),(trodAll_cons_mk (Below.trod laidOut (by kernel_rfl) (of_decide_eq_true (by kernel_rfl)) h0 bel lt0) (trodAll_cons_mk (Below.trod laidOut (by kernel_rfl) (of_decide_eq_true (by kernel_rfl)) h1 bel lt1) trodAll_mk0)),rfl,bel.frame _,fun h=>by cases h⟩
theorem closed : joinedFacts Tryz.pinned.checked.prog 7 Tryz.f7 Rows.pathReadsSpec Rows.pathReadsRow = true :=
  (both (both (both (both (both (both (both (both (both (both (both (both (both (both (both (both (both (both (both (both (both (both (both (both (both (both (both (both (both (both (both (by kernel_rfl) (by kernel_rfl)) (by kernel_rfl)) (by kernel_rfl)) (by kernel_rfl)) (by kernel_rfl)) (by kernel_rfl)) (by kernel_rfl)) (by kernel_rfl)) (by kernel_rfl)) (by kernel_rfl)) (by kernel_rfl)) (by kernel_rfl)) (by kernel_rfl)) (by kernel_rfl)) (by kernel_rfl)) (by kernel_rfl)) (by kernel_rfl)) (by kernel_rfl)) (by kernel_rfl)) (by kernel_rfl)) (by kernel_rfl)) (by kernel_rfl)) (by kernel_rfl)) (by kernel_rfl)) PH) (PI PJ)) (PK L9)) (by kernel_rfl)) (by kernel_rfl)) (by kernel_rfl)) (by kernel_rfl))
theorem over : Rows.pathReadsRow.holds Tryz.pinned (OpenSpec.ofChange Rows.pathReadsSpec) :=
  OpenClaim.holds_of_wide 7 Tryz.f7 rfl rfl rfl rfl rfl rfl rfl ⟨rfl,rfl,rfl,rfl,rfl⟩ rfl rfl rfl rfl rfl (by kernel_rfl) Tryz.func7 closed
    (of_decide_eq_true (by kernel_rfl)) (by unfold Func.isWrapper; first | (rw [if_pos (by decide +kernel)]; kernel_rfl) | (rw [if_neg (by decide +kernel)]; exact ⟨rfl,rfl⟩))
    (fun os started H enc _=>lifted os started H enc)
theorem proved : Rows.PathReadsCardSaid :=
  Claim7.holds_tied_plain_at .later [] [.data,.data,.data,.data] true (true, "a9b44f7f579bb06e0e33ebffb0468da60b79a7693d93326aaa290a98137f31e2") false
    over (fun _ h=>by cases h) (by kernel_rfl) (fun _ h=>by cases h) pathReads_row_tie rfl ⟨rfl,rfl⟩ Ma rfl
    (fun f fn hf V2=>by
      obtain rfl : f = 7:=Option.some.inj ((show Tryz.prog.funcNamed "engrosser/engrosserlaw21.PathReads" = some 7 by kernel_rfl).symm.trans hf) |>.symm
      obtain rfl : fn = Tryz.f7:=(Option.some.inj (Tryz.func7.symm.trans V2)).symm
      exact ⟨by kernel_rfl,fun j t ht=>by
        rw [Tryz.params7] at ht
        have hm : t ∈ [32,23]:=by simpa using Array.mem_of_getElem? ht
        have cu : ([32,23].all fun u=>!Tryz.prog.wantsStandIn u) = true:=by kernel_rfl
        exact (show Tryz.prog.wantsStandIn t = false by simpa using List.all_eq_true.1 cu t hm)⟩)
    (by kernel_rfl)
#print axioms proved
end Go.Proofs.YtbiefppedlodiaaGreatDoor.pathReads
