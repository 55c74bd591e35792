/- Contracts of the program's functions, each walked once; the conditions stand in each theorem. -/
import Derived.Test.YtfbbckndpkmfcaaRows
import Derived.Test.YtfbbckndpkmfcaaW6
import Derived.Test.YtfbbckndpkmfcaaAMp4
import Derived.WalkKit
import Derived.ProofKit
import Derived.OpenShut
import Derived.ShutString
import Derived.ChangeOld
import Derived.Below
set_option linter.unusedSimpArgs false
set_option linter.unusedVariables false
namespace Go.Proofs.Ytfbbckndpkmfcaa.ledgerAdds
open Go.ChangeShapes Go.WideShapes Go.ChangeAt Go.RowKit
open Go.ChangeMaps (open_string shut_string)
set_option linter.unusedVariables false
theorem own : ownKnob Try.prog.godebug = none:=by kernel_rfl
theorem laidOut : laidOutB Try.prog = true:=by kernel_rfl
abbrev ty22 : Go.AM.Ty:=(.slice 9 (.struct (.cons (.int .i64) (.cons (.slice 1 (.int .u8)) (.cons (.int .i64) (.cons (.int .i64) (.cons (.int .i64) (.cons (.slice 1 (.int .u8)) (.cons (.slice 1 (.int .u8)) (.cons (.slice 1 (.int .u8)) (.cons (.slice 1 (.int .u8)) .nil)))))))))))
theorem tyOf22 : Go.AM.TyOf Try.prog ty22 22:=by
  simp only [ty22,Go.AM.TyOf,Go.AM.FsOf]
  exact ⟨34,Try.underlying22,T.c34,by decide,⟨_,Try.underlying34,⟨_,_,rfl,by simp [T.c23,T.c3,T.c34],Try.underlying3,⟨_,_,rfl,by simp [T.c23,T.c3,T.c34],⟨5,Try.underlying23,T.c5,by decide,Try.underlying5⟩,⟨_,_,rfl,by simp [T.c23,T.c3,T.c34],Try.underlying3,⟨_,_,rfl,by simp [T.c23,T.c3,T.c34],Try.underlying3,⟨_,_,rfl,by simp [T.c23,T.c3,T.c34],Try.underlying3,⟨_,_,rfl,by simp [T.c23,T.c3,T.c34],⟨5,Try.underlying23,T.c5,by decide,Try.underlying5⟩,⟨_,_,rfl,by simp [T.c23,T.c3,T.c34],⟨5,Try.underlying23,T.c5,by decide,Try.underlying5⟩,⟨_,_,rfl,by simp [T.c23,T.c3,T.c34],⟨5,Try.underlying23,T.c5,by decide,Try.underlying5⟩,⟨_,_,rfl,by simp [T.c23,T.c3,T.c34],⟨5,Try.underlying23,T.c5,by decide,Try.underlying5⟩,⟨rfl,by simp [T.c23,T.c3,T.c34]⟩⟩⟩⟩⟩⟩⟩⟩⟩⟩⟩⟩
abbrev ty23 : Go.AM.Ty:=(.slice 1 (.int .u8))
theorem tyOf23 : Go.AM.TyOf Try.prog ty23 23:=by
  simp only [ty23,Go.AM.TyOf,Go.AM.FsOf]
  exact ⟨5,Try.underlying23,T.c5,by decide,Try.underlying5⟩
theorem walk (w : World) (v0 : Value) (x0 : List Go.AM.AV) (r0 : Go.AM.VRels (Go.AM.G0 w) x0 v0.cells.toList) (t0 : Go.AM.IsTy ty22 x0) (o0 : ∃ a l c,v0 = .slice a l c) (v1 : Value) (x1 : List Go.AM.AV) (r1 : Go.AM.VRels (Go.AM.G0 w) x1 v1.cells.toList) (t1 : Go.AM.IsTy ty23 x1) (o1 : ∃ a l c,v1 = .slice a l c) (a2 : Int) (w2 : (Lit.int .i64 a2).wf = true) :
    Calls Try.prog 3 #[v0,v1,.int .i64 a2] w fun e w'=>e = .returned (.bool true)∧Below w.heap.size w w':=by
  obtain ⟨l,rfl⟩:=Go.AM.IsTy.records t0
  obtain ⟨b,rfl,_⟩:=Go.AM.IsTy.bytes t1
  have e0:=Go.AM.vrel_slice o0 r0
  have e1:=Go.AM.vrel_slice o1 r1
  exact (ledgerAdds_calls (Γ:=Go.AM.Γ0) l b a2 Go.AM.s0).start (vs:=[v0,v1,.int .i64 a2]) (Go.AM.VRels.cons e0 (Go.AM.VRels.cons e1 (Go.AM.VRels.cons (by simp [Go.AM.VRel]) Go.AM.VRels.none))) (Go.AM.glob0 w) (fun r s' h=>h)
set_option maxRecDepth 100000 in
theorem lifted (os : Os) (started : os.Started) (H : Type) (enc : TypeId × Value→H) :
    ReturnsInHanded {} Try.checked os 3 .any (Rows.ledgerAddsSpec.pre6 enc Try.prog Try.f3 Rows.ledgerAddsRow.domain false) (Rows.ledgerAddsSpec.post enc Try.prog Try.f3 false true false false):=by
  refine returnsInHanded_of_change (C:=Try.checked) own started (by kernel_rfl) Try.func3
    (ChangeSpec.witness6 (enc:=enc) (C:=Try.checked) false ⟨#[],#[.slice none 0 0,.slice none 0 0,.int .i64 0],[]⟩ 12 (by kernel_rfl) (by kernel_rfl) (by kernel_rfl) (by kernel_rfl)) ?_
  intro W base args ds gs before hval0 hW hcnd _
  have hval : ∀ (j : Nat) t v,Try.f3.params[j]? = some t→args[j]? = some v→Value.okWide Try.prog W .any base t v:=hval0
  have hW':=hW
  obtain ⟨p,q,hA0,hV,rfl,hfz,hnd⟩:=hW
  have hA : DataW.TrodAll enc Try.prog W 0 (fun _=>true) true Try.f3.params.toList args.toList ds p:=hA0
  rw [Try.params3] at hA hval
  obtain ⟨v0,vs0,d0,ds0,p0,q0,hargs,rfl,rfl,h0,rr0⟩:=trodAll_cons hA
  obtain ⟨v1,vs1,d1,ds1,p1,q1,rfl,rfl,rfl,h1,rr1⟩:=trodAll_cons rr0
  obtain ⟨v2,vs2,d2,ds2,p2,q2,rfl,rfl,rfl,h2,rr2⟩:=trodAll_cons rr1
  obtain ⟨rfl,rfl,rfl⟩:=trodAll_nil rr2
  obtain rfl : args = #[v0,v1,v2]:=by cases args; simp_all
  obtain ⟨rfl,rfl⟩:=trodVars_none hV
  have o0 : ∃ a l c,v0 = .slice a l c:=by obtain ⟨a,l,c,h⟩:=okWide_slice Try.underlying22 (hval 0 22 v0 rfl rfl); exact ⟨a,l,c,h⟩
  have lt0 : ∀ x ∈ p0,x.block < W.heap.size:=by obtain ⟨m,hm⟩:=h0; exact DataW.trod_lt m _ _ _ hm
  obtain ⟨x0,r0,t0⟩ : ∃ x,Go.AM.VRels (Go.AM.G0 W) x v0.cells.toList∧Go.AM.IsTy ty22 x:=by obtain ⟨m,hm⟩:=h0; exact Go.AM.open_ty ty22 tyOf22 hm
  have o1 : ∃ a l c,v1 = .slice a l c:=by obtain ⟨a,l,c,h⟩:=okWide_slice Try.underlying23 (hval 1 23 v1 rfl rfl); exact ⟨a,l,c,h⟩
  have lt1 : ∀ x ∈ p1,x.block < W.heap.size:=by obtain ⟨m,hm⟩:=h1; exact DataW.trod_lt m _ _ _ hm
  obtain ⟨x1,r1,t1⟩ : ∃ x,Go.AM.VRels (Go.AM.G0 W) x v1.cells.toList∧Go.AM.IsTy ty23 x:=by obtain ⟨m,hm⟩:=h1; exact Go.AM.open_ty ty23 tyOf23 hm
  obtain ⟨a2,rfl,rfl,rfl,w2⟩:=open_int Try.underlying3 (hval 2 3 v2 rfl rfl) h2
  clear hA0 hval0
  refine (walk W v0 x0 r0 t0 o0 v1 x1 r1 t1 o1 a2 w2).mono fun e W' ⟨he,bel⟩=>?_
  subst he
  exact ⟨_,rfl,_,_,_,[],_,[],hW',trodAll_mk1 (shut_bool Try.underlying4 _),(trodAll_cons_mk (Below.trod laidOut (by kernel_rfl) (of_decide_eq_true (by kernel_rfl)) h0 bel lt0) (trodAll_cons_mk (Below.trod laidOut (by kernel_rfl) (of_decide_eq_true (by kernel_rfl)) h1 bel lt1) (trodAll_cons_mk (shut_int Try.underlying3 w2) trodAll_mk0))),rfl,bel.frame _,fun h=>by cases h⟩
theorem over : Rows.ledgerAddsRow.holds Try.pinned (OpenSpec.ofChange Rows.ledgerAddsSpec) :=
  OpenClaim.holds_of_wide 3 Try.f3 rfl rfl rfl rfl rfl rfl rfl ⟨rfl,rfl,rfl,rfl,rfl⟩ rfl rfl rfl rfl rfl (by kernel_rfl) Try.func3 (by kernel_rfl)
    (of_decide_eq_true (by kernel_rfl)) (by unfold Func.isWrapper; first | (rw [if_pos (by decide +kernel)]; kernel_rfl) | (rw [if_neg (by decide +kernel)]; exact ⟨rfl,rfl⟩))
    (fun os started H enc _=>lifted os started H enc)
theorem proved : Rows.LedgerAddsSaid:=over
#print axioms proved
end Go.Proofs.Ytfbbckndpkmfcaa.ledgerAdds
