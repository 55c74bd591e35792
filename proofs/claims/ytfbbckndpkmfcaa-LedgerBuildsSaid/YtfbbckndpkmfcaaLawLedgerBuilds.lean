/- Contracts of the program's functions, each walked once; the conditions stand in each theorem. -/
import Derived.Test.YtfbbckndpkmfcaaRows
import Derived.Test.YtfbbckndpkmfcaaW7
import Derived.Test.YtfbbckndpkmfcaaW1
import Derived.Test.YtfbbckndpkmfcaaAMp4
import Derived.WalkKit
import Derived.ProofKit
import Derived.OpenShut
import Derived.ShutString
import Derived.ChangeOld
import Derived.Below
set_option linter.unusedSimpArgs false
set_option linter.unusedVariables false
namespace Go.Proofs.Ytfbbckndpkmfcaa.ledgerBuilds
open Go.ChangeShapes Go.WideShapes Go.ChangeAt Go.RowKit
open Go.ChangeMaps (open_string shut_string)
set_option linter.unusedVariables false
theorem own : ownKnob Try.prog.godebug = none:=by kernel_rfl
theorem laidOut : laidOutB Try.prog = true:=by kernel_rfl
abbrev ty39 : Go.AM.Ty:=(.slice 1 (.slice 1 (.int .u8)))
theorem tyOf39 : Go.AM.TyOf Try.prog ty39 39:=by
  simp only [ty39,Go.AM.TyOf,Go.AM.FsOf]
  exact ⟨23,Try.underlying39,T.c23,by decide,⟨5,Try.underlying23,T.c5,by decide,Try.underlying5⟩⟩
theorem walk (w : World) (v0 : Value) (x0 : List Go.AM.AV) (r0 : Go.AM.VRels (Go.AM.G0 w) x0 v0.cells.toList) (t0 : Go.AM.IsTy ty39 x0) (o0 : ∃ a l c,v0 = .slice a l c) :
    Calls Try.prog 4 #[v0] w fun e w'=>e = .returned (.bool true)∧Below w.heap.size w w':=by
  obtain ⟨l,rfl⟩:=Go.AM.IsTy.texts t0
  have e0:=Go.AM.vrel_slice o0 r0
  exact (ledgerBuilds_calls (Γ:=Go.AM.Γ0) l Go.AM.s0).start (vs:=[v0]) (Go.AM.VRels.cons e0 Go.AM.VRels.none) (Go.AM.glob0 w) (fun r s' h=>h)
set_option maxRecDepth 100000 in
theorem lifted (os : Os) (started : os.Started) (H : Type) (enc : TypeId × Value→H) :
    ReturnsInHanded {} Try.checked os 4 .any (Rows.ledgerBuildsSpec.pre6 enc Try.prog Try.f4 Rows.ledgerBuildsRow.domain false) (Rows.ledgerBuildsSpec.post enc Try.prog Try.f4 false true false false):=by
  refine returnsInHanded_of_change (C:=Try.checked) own started (by kernel_rfl) Try.func4
    (ChangeSpec.witness6 (enc:=enc) (C:=Try.checked) false ⟨#[],#[.slice none 0 0],[]⟩ 12 (by kernel_rfl) (by kernel_rfl) (by kernel_rfl) (by kernel_rfl)) ?_
  intro W base args ds gs before hval0 hW hcnd _
  have hval : ∀ (j : Nat) t v,Try.f4.params[j]? = some t→args[j]? = some v→Value.okWide Try.prog W .any base t v:=hval0
  have hW':=hW
  obtain ⟨p,q,hA0,hV,rfl,hfz,hnd⟩:=hW
  have hA : DataW.TrodAll enc Try.prog W 0 (fun _=>true) true Try.f4.params.toList args.toList ds p:=hA0
  rw [Try.params4] at hA hval
  obtain ⟨v0,vs0,d0,ds0,p0,q0,hargs,rfl,rfl,h0,rr0⟩:=trodAll_cons hA
  obtain ⟨rfl,rfl,rfl⟩:=trodAll_nil rr0
  obtain rfl : args = #[v0]:=by cases args; simp_all
  obtain ⟨rfl,rfl⟩:=trodVars_none hV
  have o0 : ∃ a l c,v0 = .slice a l c:=by obtain ⟨a,l,c,h⟩:=okWide_slice Try.underlying39 (hval 0 39 v0 rfl rfl); exact ⟨a,l,c,h⟩
  have lt0 : ∀ x ∈ p0,x.block < W.heap.size:=by obtain ⟨m,hm⟩:=h0; exact DataW.trod_lt m _ _ _ hm
  obtain ⟨x0,r0,t0⟩ : ∃ x,Go.AM.VRels (Go.AM.G0 W) x v0.cells.toList∧Go.AM.IsTy ty39 x:=by obtain ⟨m,hm⟩:=h0; exact Go.AM.open_ty ty39 tyOf39 hm
  clear hA0 hval0
  refine (walk W v0 x0 r0 t0 o0).mono fun e W' ⟨he,bel⟩=>?_
  subst he
  exact ⟨_,rfl,_,_,_,[],_,[],hW',trodAll_mk1 (shut_bool Try.underlying4 _),(trodAll_cons_mk (Below.trod laidOut (by kernel_rfl) (of_decide_eq_true (by kernel_rfl)) h0 bel lt0) trodAll_mk0),rfl,bel.frame _,fun h=>by cases h⟩
theorem over : Rows.ledgerBuildsRow.holds Try.pinned (OpenSpec.ofChange Rows.ledgerBuildsSpec) :=
  OpenClaim.holds_of_wide 4 Try.f4 rfl rfl rfl rfl rfl rfl rfl ⟨rfl,rfl,rfl,rfl,rfl⟩ rfl rfl rfl rfl rfl (by kernel_rfl) Try.func4 (by kernel_rfl)
    (of_decide_eq_true (by kernel_rfl)) (by unfold Func.isWrapper; first | (rw [if_pos (by decide +kernel)]; kernel_rfl) | (rw [if_neg (by decide +kernel)]; exact ⟨rfl,rfl⟩))
    (fun os started H enc _=>lifted os started H enc)
theorem proved : Rows.LedgerBuildsSaid:=over
#print axioms proved
end Go.Proofs.Ytfbbckndpkmfcaa.ledgerBuilds
