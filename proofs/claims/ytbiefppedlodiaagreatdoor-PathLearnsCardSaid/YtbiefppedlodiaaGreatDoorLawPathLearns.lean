/- Contracts of functions, each walked once; each theorem states its conditions. -/
import Derived.Test.YtbiefppedlodiaaGreatDoorCards
import Derived.Test.YtbiefppedlodiaaGreatDoorTie
import Derived.Test.YtbiefppedlodiaaGreatDoorW11
import Derived.Test.YtbiefppedlodiaaGreatDoorAMp4
import Derived.Test.YtbiefppedlodiaaGreatDoorAMp6
import Derived.WalkKit
import Derived.ProofKit
import Derived.OpenShut
import Derived.ShutString
import Derived.ChangeOld
import Derived.Below
import Derived.LaidMore
import Derived.SevenTiedAt
import Derived.Stop.Joined
set_option linter.unusedSimpArgs false
set_option linter.unusedVariables false
namespace Go.Proofs.YtbiefppedlodiaaGreatDoor.pathLearns
open Go.ChangeShapes Go.WideShapes Go.ChangeAt Go.RowKit
open Go.ChangeMaps (open_string shut_string)
set_option linter.unusedVariables false
theorem own : ownKnob Tryz.prog.godebug = none:=by kernel_rfl
theorem laidOut : laidOutB Tryz.prog = true:=by kernel_rfl
abbrev Lj : Go.AM.Ty:=(.struct (.cons (.slice 5 (.struct (.cons (.int .i64) (.cons (.slice 1 (.int .u8)) (.cons (.int .u64) (.cons (.slice 1 (.int .u8)) (.cons (.slice 1 (.int .i64)) .nil))))))) (.cons (.int .i64) (.cons (.int .i64) (.cons (.slice 1 (.int .u8)) (.cons (.slice 1 (.int .u8)) (.cons (.slice 1 (.int .i64)) .nil)))))))
theorem S2 : Go.AM.tf Tryz.prog Lj 26:=by
  simp only [Lj,Go.AM.tf,Go.AM.wD]
  exact ⟨_,Tryz.underlying26,⟨_,_,rfl,by simp [T.N0,T.Dz,T.F1,T.OO,T.c3],⟨54,Tryz.underlying22,T.Bl,by decide,⟨_,Tryz.underlying54,⟨_,_,rfl,by simp [T.Dz,T.F1,T.Rf,T.c3,T.Bl],Tryz.underlying3,⟨_,_,rfl,by simp [T.Dz,T.F1,T.Rf,T.c3,T.Bl],⟨5,Tryz.underlying23,T.c5,by decide,Tryz.underlying5⟩,⟨_,_,rfl,by simp [T.Dz,T.F1,T.Rf,T.c3,T.Bl],Tryz.underlying29,⟨_,_,rfl,by simp [T.Dz,T.F1,T.Rf,T.c3,T.Bl],⟨5,Tryz.underlying23,T.c5,by decide,Tryz.underlying5⟩,⟨_,_,rfl,by simp [T.Dz,T.F1,T.Rf,T.c3,T.Bl],⟨3,Tryz.underlying24,T.c3,by decide,Tryz.underlying3⟩,⟨rfl,by simp [T.Dz,T.F1,T.Rf,T.c3,T.Bl]⟩⟩⟩⟩⟩⟩⟩⟩,⟨_,_,rfl,by simp [T.N0,T.Dz,T.F1,T.OO,T.c3],Tryz.underlying3,⟨_,_,rfl,by simp [T.N0,T.Dz,T.F1,T.OO,T.c3],Tryz.underlying3,⟨_,_,rfl,by simp [T.N0,T.Dz,T.F1,T.OO,T.c3],⟨5,Tryz.underlying23,T.c5,by decide,Tryz.underlying5⟩,⟨_,_,rfl,by simp [T.N0,T.Dz,T.F1,T.OO,T.c3],⟨5,Tryz.underlying23,T.c5,by decide,Tryz.underlying5⟩,⟨_,_,rfl,by simp [T.N0,T.Dz,T.F1,T.OO,T.c3],⟨3,Tryz.underlying24,T.c3,by decide,Tryz.underlying3⟩,⟨rfl,by simp [T.N0,T.Dz,T.F1,T.OO,T.c3]⟩⟩⟩⟩⟩⟩⟩⟩
abbrev Lk : Go.AM.Ty:=(.slice 1 (.slice 1 (.int .u8)))
theorem S3 : Go.AM.tf Tryz.prog Lk 50:=by
  simp only [Lk,Go.AM.tf,Go.AM.wD]
  exact ⟨23,Tryz.underlying50,T.Dz,by decide,⟨5,Tryz.underlying23,T.c5,by decide,Tryz.underlying5⟩⟩
theorem walk (w : World) (hL : ∀ g,∃ vs,Go.AM.ar (Go.AM.G0 w) (Γd g) vs∧Go.AM.gz (Go.AM.G0 w) g 0 vs) (v0 : Value) (x0 : List Go.AM.AV) (r0 : Go.AM.ar (Go.AM.G0 w) x0 v0.cells.toList) (t0 : Go.AM.ed Lj x0) (o0 : ∃ cs,v0 = .agg cs) (VF : ∀ a l c,v0.cells.toList[0]? = some (.slice a l c)→l≤reachBytes) (VG : ∀ a l c,v0.cells.toList[3]? = some (.slice a l c)→l≤reachBytes) (VH : ∀ a l c,v0.cells.toList[4]? = some (.slice a l c)→l≤reachBytes) (VI : ∀ a l c,v0.cells.toList[5]? = some (.slice a l c)→l≤reachBytes) (v1 : Value) (x1 : List Go.AM.AV) (r1 : Go.AM.ar (Go.AM.G0 w) x1 v1.cells.toList) (t1 : Go.AM.ed Lk x1) (o1 : ∃ a l c,v1 = .slice a l c) (z1 : ∀ a l c,v1 = .slice a l c→l≤reachBytes) :
    Calls Tryz.prog 5 #[v0,v1] w fun e w'=>e = .returned (.bool true)∧Below w.heap.size w w':=by
  obtain ⟨c,rfl,hk⟩:=Jx t0
  obtain ⟨S,rfl⟩:=Jy t1
  have e0:=Go.AM.KP o0 r0
  have e1:=Go.AM.Gt o1 r1
  exact (uV (Γ:=Γd) rfl rfl rfl c hk S Go.AM.s0).start (vs:=[v0,v1]) (Go.AM.ar.cons e0 (Go.AM.ar.cons e1 Go.AM.ar.none)) hL (fun r s' h=>h)
set_option maxRecDepth 100000 in
theorem lifted (os : Os) (started : os.Started) (H : Type) (enc : TypeId × Value→H) :
    ReturnsInHanded {} Tryz.checked os 5 .any (fun w args=>(Rows.pathLearnsSpec.pre enc Tryz.prog Tryz.f5 [] false w args∧laidMetH Tryz.prog EC w)∧sizedMet enc Tryz.prog Tryz.f5 (OpenSpec.ofChange Rows.pathLearnsSpec) false w args) (Rows.pathLearnsSpec.post enc Tryz.prog Tryz.f5 false true false false):=by
  refine returnsInHanded_of_change_and (C:=Tryz.checked) (X:=fun w _=>laidMetH Tryz.prog EC w) (fun _ _ _ hh h=>h.of_heap hh) own started (by kernel_rfl) Tryz.func5
    (ChangeSpec.witness_shaped (enc:=enc) (C:=Tryz.checked) (os:=os) (X:=fun w _=>laidMetH Tryz.prog EC w) false (World.doorLaid Tryz.prog 400 os) #[.agg #[.slice none 0 0,.int .i64 0,.int .i64 0,.slice none 0 0,.slice none 0 0,.slice none 0 0],.slice none 0 0] 12 rfl (World.shaped_of_RefB (by kernel_rfl) (by kernel_rfl)) (by kernel_rfl) (by kernel_rfl) (by kernel_rfl) (Ll os _)) ?_
  intro W base args ds gs before hval0 hW _ hz hL _
  have hval : ∀ (j : Nat) t v,Tryz.f5.params[j]? = some t→args[j]? = some v→Value.okWide Tryz.prog W .any base t v:=hval0
  have hW':=hW
  obtain ⟨p,q,hA0,hV,rfl,hfz,hnd⟩:=hW
  have hA : DataW.TrodAll enc Tryz.prog W 0 (fun _=>true) true Tryz.f5.params.toList args.toList ds p:=hA0
  rw [Tryz.params5] at hA hval hz
  obtain ⟨v0,vs0,d0,ds0,p0,q0,KD,rfl,rfl,h0,rr0⟩:=trodAll_cons hA
  obtain ⟨v1,vs1,d1,ds1,p1,q1,rfl,rfl,rfl,h1,rr1⟩:=trodAll_cons rr0
  obtain ⟨rfl,rfl,rfl⟩:=trodAll_nil rr1
  obtain rfl : args = #[v0,v1]:=by cases args; simp_all
  obtain ⟨rfl,rfl⟩:=trodVars_none hV
  have o0 : ∃ cs,v0 = .agg cs:=by
    have h:=hval 0 26 v0 rfl rfl
    unfold Value.okWide at h
    rw [Tryz.underlying26] at h
    obtain ⟨cs,h,_⟩:=h
    exact ⟨cs,h⟩
  have VF : ∀ a l c,v0.cells.toList[0]? = some (.slice a l c)→l≤reachBytes:=by obtain ⟨m,hm⟩:=h0; exact Go.AM.j9 (j:=0) Tryz.underlying26 hz rfl rfl hm 0 rfl Tryz.underlying22 (by rw [T.VJ]; decide) T.N0
  have VG : ∀ a l c,v0.cells.toList[3]? = some (.slice a l c)→l≤reachBytes:=by obtain ⟨m,hm⟩:=h0; exact Go.AM.j9 (j:=0) Tryz.underlying26 hz rfl rfl hm 3 rfl Tryz.underlying23 (by rw [T.b5]; decide) T.Dz
  have VH : ∀ a l c,v0.cells.toList[4]? = some (.slice a l c)→l≤reachBytes:=by obtain ⟨m,hm⟩:=h0; exact Go.AM.j9 (j:=0) Tryz.underlying26 hz rfl rfl hm 4 rfl Tryz.underlying23 (by rw [T.b5]; decide) T.Dz
  have VI : ∀ a l c,v0.cells.toList[5]? = some (.slice a l c)→l≤reachBytes:=by obtain ⟨m,hm⟩:=h0; exact Go.AM.j9 (j:=0) Tryz.underlying26 hz rfl rfl hm 5 rfl Tryz.underlying24 (by rw [T.b3]; decide) T.F1
  have lt0 : ∀ x ∈ p0,x.block < W.heap.size:=by obtain ⟨m,hm⟩:=h0; exact DataW.trod_lt m _ _ _ hm
  obtain ⟨x0,r0,t0⟩ : ∃ x,Go.AM.ar (Go.AM.G0 W) x v0.cells.toList∧Go.AM.ed Lj x:=by obtain ⟨m,hm⟩:=h0; exact Go.AM.xf Lj S2 hm
  have z1 : ∀ a l c,v1 = .slice a l c→l≤reachBytes:=by obtain ⟨m,hm⟩:=h1; exact Go.AM.tn (j:=1) Tryz.underlying50 hz rfl rfl hm (by rw [T.b23]; decide)
  have o1 : ∃ a l c,v1 = .slice a l c:=by obtain ⟨a,l,c,h⟩:=okWide_slice Tryz.underlying50 (hval 1 50 v1 rfl rfl); exact ⟨a,l,c,h⟩
  have lt1 : ∀ x ∈ p1,x.block < W.heap.size:=by obtain ⟨m,hm⟩:=h1; exact DataW.trod_lt m _ _ _ hm
  obtain ⟨x1,r1,t1⟩ : ∃ x,Go.AM.ar (Go.AM.G0 W) x v1.cells.toList∧Go.AM.ed Lk x:=by obtain ⟨m,hm⟩:=h1; exact Go.AM.xf Lk S3 hm
  clear hA0 hval0
  refine (walk W (OP hL) v0 x0 r0 t0 o0 VF VG VH VI v1 x1 r1 t1 o1 z1).mono fun e W' ⟨he,bel⟩=>?_
  subst he
  exact ⟨_,rfl,_,_,_,[],_,[],hW',trodAll_mk1 (shut_bool Tryz.underlying4 _),(trodAll_cons_mk (Below.trod laidOut (by kernel_rfl) (of_decide_eq_true (by kernel_rfl)) h0 bel lt0) (trodAll_cons_mk (Below.trod laidOut (by kernel_rfl) (of_decide_eq_true (by kernel_rfl)) h1 bel lt1) trodAll_mk0)),rfl,bel.frame _,fun h=>by cases h⟩
theorem closed : joinedFacts Tryz.pinned.checked.prog 5 Tryz.f5 Rows.pathLearnsSpec Rows.pathLearnsRow = true :=
  (both (both (both (both (both (both (both (both (both (both (both (both (both (both (both (both (both (both (both (both (both (both (both (both (both (both (both (both (both (both (both (by kernel_rfl) (by kernel_rfl)) (by kernel_rfl)) (by kernel_rfl)) (by kernel_rfl)) (by kernel_rfl)) (by kernel_rfl)) (by kernel_rfl)) (by kernel_rfl)) (by kernel_rfl)) (by kernel_rfl)) (by kernel_rfl)) (by kernel_rfl)) (by kernel_rfl)) (by kernel_rfl)) (by kernel_rfl)) (by kernel_rfl)) (by kernel_rfl)) (by kernel_rfl)) (by kernel_rfl)) (by kernel_rfl)) (by kernel_rfl)) (by kernel_rfl)) (by kernel_rfl)) (by kernel_rfl)) OQ) (OR OS)) (OT Lm)) (by kernel_rfl)) (by kernel_rfl)) (by kernel_rfl)) (by kernel_rfl))
theorem over : Rows.pathLearnsRow.holds Tryz.pinned (OpenSpec.ofChange Rows.pathLearnsSpec) :=
  OpenClaim.holds_of_wide 5 Tryz.f5 rfl rfl rfl rfl rfl rfl rfl ⟨rfl,rfl,rfl,rfl,rfl⟩ rfl rfl rfl rfl rfl (by kernel_rfl) Tryz.func5 closed
    (of_decide_eq_true (by kernel_rfl)) (by unfold Func.isWrapper; first | (rw [if_pos (by decide +kernel)]; kernel_rfl) | (rw [if_neg (by decide +kernel)]; exact ⟨rfl,rfl⟩))
    (fun os started H enc _=>lifted os started H enc)
theorem proved : Rows.PathLearnsCardSaid :=
  Claim7.holds_tied_plain_at .later [] [.data,.data,.data,.data] true (true, "a9b44f7f579bb06e0e33ebffb0468da60b79a7693d93326aaa290a98137f31e2") false
    over (fun _ h=>by cases h) (by kernel_rfl) (fun _ h=>by cases h) pathLearns_row_tie rfl ⟨rfl,rfl⟩ Ln rfl
    (fun f fn hf Vs=>by
      obtain rfl : f = 5:=Option.some.inj ((show Tryz.prog.funcNamed "engrosser/engrosserlaw21.PathLearns" = some 5 by kernel_rfl).symm.trans hf) |>.symm
      obtain rfl : fn = Tryz.f5:=(Option.some.inj (Tryz.func5.symm.trans Vs)).symm
      exact ⟨by kernel_rfl,fun j t ht=>by
        rw [Tryz.params5] at ht
        have hm : t ∈ [26,50]:=by simpa using Array.mem_of_getElem? ht
        have bS : ([26,50].all fun u=>!Tryz.prog.wantsStandIn u) = true:=by kernel_rfl
        exact (show Tryz.prog.wantsStandIn t = false by simpa using List.all_eq_true.1 bS t hm)⟩)
    (by kernel_rfl)
#print axioms proved
end Go.Proofs.YtbiefppedlodiaaGreatDoor.pathLearns
