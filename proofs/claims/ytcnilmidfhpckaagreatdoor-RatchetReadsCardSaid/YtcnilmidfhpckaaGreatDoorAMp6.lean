/- An abstract machine for the model: abstract values, their relation to worlds, and the rules of its walk, each proved sound over the model; no condition. -/
import Derived.Test.YtcnilmidfhpckaaGreatDoorAMp5
import Derived.RangeFuncIn
import Derived.RangeFuncRecord
import Derived.RangeFuncSeq
import Derived.RangeFuncLeaves
import Derived.Test.YtcnilmidfhpckaaGreatDoorAMp4
import Derived.SizedLaws
import Derived.OpenShut
set_option linter.unusedSimpArgs false
set_option linter.unusedVariables false
set_option autoImplicit false
namespace Go.AM
open Go Go.RowKit

variable {P : Program} {Γ : Nat → List AV} {G : Gh} {s : AS} {w : World}

/-! ### One operation of a region, met by its own law -/

/-- A region one of whose operations is met by a law of its own. -/
theorem awp_reg_mid {N : Nat} {E : Env} {Q : Exit → Env → AS → Prop} {id : Nat} (L1 L2 : List Oper) {o : Oper} {code : Code} (hg : o.guard = none) (hd : ∀ d, o.dst = some d → d < N)
    (h : AY P Γ N (L1 ++ o :: L2).toArray L1 (fun E1 s1 => ∃ K1 : AV → AS → Prop, (∀ G a w, Rel Γ N G E1 s1 a w → OpRes P Γ G K1 ((execOp a.eval o).run P w)) ∧
      ∀ r s2, K1 r s2 → AY P Γ N (L1 ++ o :: L2).toArray L2 (fun E' s' => AWp P Γ N code Q E' s') (updO E1 o.dst r) s2) E s) :
    AWp P Γ N (.seq (.region id (L1 ++ o :: L2).toArray false) code) Q E s := by
  rw [ay] at h
  refine awp_seq ?_
  intro G a w hr
  refine wp_region ?_
  have hall : ∀ ops : Array Oper, (List.range ops.size).map (ops[·]?) = ops.toList.map some := by
    intro ops
    apply List.ext_getElem?
    intro i
    simp only [List.getElem?_map]
    by_cases hi : i < ops.size
    · simp [hi]
    · simp [hi]
  have hmap := hall (L1 ++ o :: L2).toArray
  generalize hI : List.range (L1 ++ o :: L2).toArray.size = I at hmap
  have h1 : (I.take L1.length).map ((L1 ++ o :: L2).toArray[·]?) = L1.map some := by
    rw [List.map_take, hmap]; simp
  have h2 : (I.drop L1.length).map ((L1 ++ o :: L2).toArray[·]?) = (o :: L2).map some := by
    rw [List.map_drop, hmap]; simp
  rw [← List.take_append_drop L1.length I]
  generalize I.take L1.length = I1 at h1
  generalize I.drop L1.length = I2 at h2
  cases I2 with
  | nil => simp at h2
  | cons i I2 =>
    simp only [List.map_cons, List.cons.injEq] at h2
    refine AX_wpOps_append L1 I1 (i :: I2) h1 (AX_frame _ h) hr ?_
    rintro G1 E1 s1 a1 w1 hG1 hr1 ⟨⟨K1, hop, hk⟩, hfr1⟩
    rw [wpOps_cons]
    simp only [wpOp, h2.1]
    rw [if_pos (wanted_none hg)]
    refine .inl (Oper.wp_of_res hr1 hd (hop G1 a1 w1 hr1) ?_)
    intro G3 r s3 a3 w3 hG3 hr3 hK
    refine AX_wpOps L2 I2 h2.2 (AX_frame _ (hk r s3 hK)) hr3 ?_
    rintro G4 E4 s4 a4 w4 hG4 hr4 ⟨hk4, hfr4⟩
    refine ⟨G4, E4, s4, hG1.trans (hG3.trans hG4), hr4, hk4, ?_⟩
    intro i hi
    have mem : ∀ L : List Oper, i ∈ dsts L ↔ ∃ o ∈ L, o.dst = some i := fun L => by simp [dsts, List.mem_filterMap]
    have hi' : ¬ ∃ o' ∈ L1 ++ o :: L2, o'.dst = some i := fun hm => hi ((mem _).2 hm)
    have m1 : i ∉ dsts L1 := fun hm => hi' (by obtain ⟨o, k1, k2⟩ := (mem _).1 hm; exact ⟨o, by simp [k1], k2⟩)
    have m2 : i ∉ dsts L2 := fun hm => hi' (by obtain ⟨o, k1, k2⟩ := (mem _).1 hm; exact ⟨o, by simp [k1], k2⟩)
    have m3 : o.dst ≠ some i := fun e => hi' ⟨o, by simp, e⟩
    rw [hfr4 i m2, updO_other m3, hfr1 i m1]

end Go.AM


set_option autoImplicit false
namespace Go.AM
open Go Go.RowKit

variable {P : Program} {Γ : Nat → List AV} {G : Gh} {s : AS} {w : World} {N : Nat} {E : Env}

/-! ### A region in a round of a range over a function, or beside one -/
/-! ### The law -/
/-- Code without a range, in the wide fence. -/
theorem AWp.wide {c : Code} {Q : Exit → Env → AS → Prop} {a : Act} (h : AWp P Γ N c Q E s) (hr : Rel Γ N G E s a w) {R : Exit → Act → World → Prop}
    (hq : ∀ e G' E' s' a' w', G.le G' → Rel Γ N G' E' s' a' w' → Q e E' s' → R e a' w') : c.wpIn Fence.wide 0 P R a w :=
  wpIn_wide.2 (wp_mono (h G a w hr) fun e a' w' ⟨G', E', s', h1, h2, h3, _⟩ => hq e G' E' s' a' w' h1 h2 h3)

/-- Behind the range: the rest of the body, at the marks that it has left. -/
theorem AWp.behind {c : Code} {Q : Exit → Env → AS → Prop} {a : Act} {G' : Gh} {D : Nat} {s' : AS} {w' : World} (hr : Rel Γ N G E s a w) (hle : G.le G') (hk : w'.heap[D]? = some (.deferred (some []))) (hs : SRel Γ G' s' w') (hdf : G.df = [])
    (h : AWp P Γ N c Q E s') {R : Exit → Act → World → Prop}
    (hq : ∀ e G'' E'' s'' a'' w'', G.le G'' → w''.heap[D]? = some (.deferred (some [])) → a''.defers = [{ target := .collected D, args := #[] }] → Rel Γ N (G''.setDf a''.defers) E'' s'' a'' w'' → Q e E'' s'' → R e a'' w'') :
    c.wpIn Fence.wide 0 P R { a with defers := { target := .collected D, args := #[] } :: a.defers } w' := by
  have ha : a.defers = [] := hr.defers.trans hdf
  have hrel : Rel Γ N ((G'.setDf [{ target := .collected D, args := #[] }]).setW w') E s' { a with defers := { target := .collected D, args := #[] } :: a.defers } w' :=
    ⟨(hs.setDf).setW, hr.size, fun i => VRel.sub (Gh.sub_setW _ _) _ _ (VRel.setDf _ _ (VRel.mono hle _ _ (hr.tmps i))), by rw [ha]; rfl⟩
  refine h.wide hrel ?_
  intro e G2 E2 s2 a2 w2 g1 g2 g3
  have hkp : Keeps w' w2 := by
    have := g2.st.others
    rwa [show G2.w0 = w' from g1.w0] at this
  have hd2 : a2.defers = [{ target := .collected D, args := #[] }] := g2.defers.trans g1.df
  have hb := SRel.backW (G := G'.setDf [{ target := .collected D, args := #[] }]) hs.setDf g1 g2.st
  refine hq e (((G2.setW G'.w0)).setDf G'.df) E2 s2 a2 w2 ?_ (hkp _ _ hk (by intros; simp)) hd2 ?_ g3
  · refine hle.trans ?_
    exact ⟨hb.2.ro, hb.2.obj, hb.2.tok, hb.2.B, hb.2.w0, rfl⟩
  · refine ⟨?_, g2.size, fun i => ?_, rfl⟩
    · exact hb.1.setDf (d := a2.defers)
    · exact VRel.sub (G := G2) (G' := ((G2.setW G'.w0).setDf G'.df).setDf a2.defers) ⟨rfl, rfl, rfl, rfl⟩ _ _ (g2.tmps i)

end Go.AM


set_option autoImplicit false
namespace Go.AM
open Go Go.RowKit

variable {P : Program} {Γ : Nat → List AV} {G : Gh} {s : AS} {w : World}

/-! ### Room for an append: 'append(nil, make([]T, n)...)[:0]' -/
/-! ### Octets gathered in a slice of one's own -/
def OutS (s : AS) (l : List UInt8) (r : AV) (s' : AS) : Prop :=
  s.le s' ∧ ((l = [] ∧ r = .v (.slice none 0 0)) ∨ ∃ t e, s.own t = none ∧ s'.own t = some e ∧ r = .sl 1 l.length (l.map byteV) (.own t e))

theorem OutS.nil (s : AS) : OutS s [] (.v (.slice none 0 0)) s := ⟨AS.le.refl s, .inl ⟨rfl, rfl⟩⟩
theorem OutS.weak {s s' : AS} {l : List UInt8} {r : AV} (h : OutS s l r s') : r.weak (bytesV l .any) := by
  rcases h.2 with ⟨rfl, rfl⟩ | ⟨t, e, _, _, rfl⟩
  · exact AV.weak_nil
  · exact AV.weak_any
end Go.AM


set_option autoImplicit false
namespace Go.AM
open Go Go.RowKit

variable {P : Program} {Γ : Nat → List AV} {G : Gh} {s : AS} {w : World} {N : Nat} {E : Env}

/-! ### An iterator's call of yield -/
/-- At the entry of a body. -/
theorem Rel.entry {args : List AV} {vs : List Value} (hs : SRel Γ G s w) (hv : VRels G args vs) (hn : args.length ≤ N) (hdf : G.df = []) :
    Rel Γ N G (initE args) s { tmps := vs.toArray ++ Array.replicate (N - vs.toArray.size) undef, defers := [] } w := by
  have hvl := hv.length
  refine ⟨hs, by simp; omega, fun i => ?_, hdf.symm⟩
  simp only [initE]
  by_cases hi : i < args.length
  · obtain ⟨u, h1, h2⟩ := hv.getD i hi
    have hi' : i < vs.length := by omega
    rw [Array.getD_eq_getD_getElem?, Array.getElem?_append_left (by simpa using hi')]
    simp only [List.getElem?_toArray, h1, Option.getD_some]
    exact h2
  · have e1 : args.getD i (.v undef) = .v undef := by simp [List.getD, List.getElem?_eq_none (Nat.le_of_not_lt hi)]
    rw [e1, Array.getD_eq_getD_getElem?, Array.getElem?_append_right (by simp; omega)]
    simp only [VRel]
    cases hh : (Array.replicate (N - vs.toArray.size) undef)[i - vs.toArray.size]? with
    | none => rfl
    | some u =>
      rw [Array.getElem?_replicate] at hh
      split at hh
      · cases hh; rfl
      · cases hh

end Go.AM


set_option autoImplicit false
namespace Go.AM
open Go Go.RowKit

variable {P : Program} {Γ : Nat → List AV} {N : Nat}

theorem Ghost.trans {E E' E'' : Env} {s s' s'' : AS} (h : Ghost Γ N E s E' s') (k : Ghost Γ N E' s' E'' s'') : Ghost Γ N E s E'' s'' := by
  intro G a w hr
  obtain ⟨G1, h1, h2⟩ := h G a w hr
  obtain ⟨G2, k1, k2⟩ := k G1 a w h2
  exact ⟨G2, h1.trans k1, k2⟩

/-- Two boxes of a region become read-only memory. -/
theorem awp_reg_frz2 {E : Env} {s : AS} {Q : Exit → Env → AS → Prop} (d1 d2 : Nat) {id : Nat} {L : List Oper} {y : Code} (hd1 : d1 ∈ dsts L) (hd2 : d2 ∈ dsts L) (hne : d1 ≠ d2)
    (h : ∀ K : Env → AS → Prop, (∀ E s o1 o2 cs1 cs2, E d1 = .ptr o1 0 → E d2 = .ptr o2 0 → s.objs o1 = none → (s.set o1 cs1).objs o2 = none → AWp P Γ N y Q (upd (upd E d2 (.rop cs2)) d1 (.rop cs1)) s → K E ((s.set o1 cs1).set o2 cs2)) → AY P Γ N L.toArray L K E s) :
    AWp P Γ N (.seq (.region id L.toArray false) y) Q E s := by
  refine awp_seq (awp_region_ghost ?_)
  have := h (fun E' s' => ∃ E'' s'', Ghost Γ N E' s' E'' s'' ∧ (∀ i, i ∉ dsts L → E'' i = E' i) ∧ thenQ (AWp P Γ N y Q) Q .normal E'' s'') ?_
  · rw [ay] at this
    simpa using this
  · intro E' s' o1 o2 cs1 cs2 h1 h2 h3 h4 h5
    refine ⟨upd (upd E' d2 (.rop cs2)) d1 (.rop cs1), s', ?_, ?_, h5⟩
    · have g1 := Ghost.freezeBox (Γ := Γ) (N := N) (E := E') (s := (s'.set o1 cs1).set o2 cs2) (d := d2) h2 (AS.set_objs_same _ _ _)
      rw [AS.drop_set h4] at g1
      have g2 := Ghost.freezeBox (Γ := Γ) (N := N) (E := upd E' d2 (.rop cs2)) (s := s'.set o1 cs1) (d := d1) (by rw [upd_ne _ _ hne]; exact h1) (AS.set_objs_same _ _ _)
      rw [AS.drop_set h3] at g2
      exact g1.trans g2
    · intro i hi
      rw [upd_ne _ _ (fun e => hi (by rw [e]; exact hd1)), upd_ne _ _ (fun e => hi (by rw [e]; exact hd2))]

end Go.AM


set_option autoImplicit false
namespace Go.AM
open Go Go.RowKit

variable {P : Program} {Γ : Nat → List AV} {G : Gh} {s : AS} {w : World}

end Go.AM
namespace Go.AM
open Go Go.RowKit
theorem AV.weak.trans {a b c : AV} (h : a.weak b) (k : b.weak c) : a.weak c := fun G v hv => k G v (h G v hv)
end Go.AM


set_option autoImplicit false
namespace Go.AM
open Go Go.RowKit

variable {P : Program} {Γ : Nat → List AV} {N : Nat}

/-- What code does, and no word about the slots that it doesn't write: between two steps what is known may be read anew. -/
def GWp (P : Program) (Γ : Nat → List AV) (N : Nat) (c : Code) (Q : Exit → Env → AS → Prop) (E : Env) (s : AS) : Prop :=
  ∀ (G : Gh) (a : Act) (w : World), Rel Γ N G E s a w → c.wp P (fun e a' w' => ∃ G' E' s', G.le G' ∧ Rel Γ N G' E' s' a' w' ∧ Q e E' s') a w

section
variable {E : Env} {s : AS} {Q : Exit → Env → AS → Prop}
theorem AWp.g {c : Code} (h : AWp P Γ N c Q E s) : GWp P Γ N c Q E s := fun G a w hr => wp_mono (h G a w hr) fun e a' w' ⟨G', E', s', h1, h2, h3, _⟩ => ⟨G', E', s', h1, h2, h3⟩
end
end Go.AM


set_option autoImplicit false
namespace Go.AM
open Go Go.RowKit Go.ChangeShapes

variable {H : Type} {enc : TypeId × Value → H} {P : Program}

/-- The form's reach bounds a slice of the input. -/
theorem size_of_trod {w : World} {base : Nat} {spare : Nat → Bool} {held : Bool} {fuel : Nat} {t e : TypeId} {d : DataW H} {p : List MemPlace} {v : Value} {ts : List TypeId} {ds : List (DataW H)} {j : Nat} (hu : P.underlying t = some (.slice e))
    (hz : (DataW.weightsEach P ts ds).all (· ≤ reachBytes) = true) (ht : ts[j]? = some t) (hd : ds[j]? = some d) (h : DataW.trod enc P w base spare held fuel t v.cells.toList = some (d, p)) (hb : 1 ≤ P.bytesOf e) :
    ∀ a l c, v = .slice a l c → l ≤ reachBytes := by
  rintro a l c rfl
  simp only [Value.cells] at h
  rcases DataW.trod_slice hu h with ⟨h1, _⟩ | ⟨a', len, cap, elems, rest, n, _, h1, h2, _, _, _, hlen, _⟩
  · simp only [List.cons.injEq, Value.slice.injEq, and_true] at h1
    omega
  · simp only [List.cons.injEq, Value.slice.injEq, and_true] at h1
    simp only [Prod.mk.injEq] at h2
    obtain ⟨rfl, _⟩ := h2
    have := sized_slice hz ht hd hu
    simp only [List.length_map] at this
    have h3 : (elems.length + rest.length) * 1 ≤ (elems.length + rest.length) * P.bytesOf e := Nat.mul_le_mul_left _ hb
    omega

end Go.AM


set_option autoImplicit false
namespace Go.AM
open Go Go.RowKit

variable {P : Program} {Γ : Nat → List AV} {G : Gh} {s : AS} {w : World}

theorem OpRes.frozen {sz n : Nat} {cs : List AV} {X : Result Next} (h : OpRes P Γ G (fun r s' => ∃ ob, s.objs ob = none ∧ r = .osl ob 0 sz n n ∧ s' = s.set ob cs) X) (hl : cs.length = n * sz) : OpRes P Γ G (fun r s' => r = .sl sz n cs .no ∧ s' = s) X := by
  have key : ∀ (G' : Gh) (s' : AS) (w' : World) (v : Value) (r : AV), G.le G' → SRel Γ G' s' w' → VRel G' r v → (∃ ob, s.objs ob = none ∧ r = .osl ob 0 sz n n ∧ s' = s.set ob cs) → ∃ G'', G.le G'' ∧ SRel Γ G'' s w' ∧ VRel G'' (.sl sz n cs .no) v := by
    rintro G' s' w' v r h1 h2 h3 ⟨ob, ho, rfl, rfl⟩
    obtain ⟨b, vs, q1, q2, q3, q4, q5⟩ := h2.freeze (AS.set_objs_same _ _ _)
    rw [AS.drop_set ho] at q5
    refine ⟨_, h1.trans q3, q5, ?_⟩
    simp only [VRel] at h3 ⊢
    obtain ⟨b', k1, k2, k3⟩ := h3
    rw [q1] at k1; cases k1
    exact .inl ⟨b, 0, n, vs, k2, hl, Nat.le_refl _, VRels.mono q3 _ _ q2, q4, trivial⟩
  match X, h with
  | .ok (.value v) w', h =>
    obtain ⟨G', r, s', h1, h2, h3, h4⟩ := h
    obtain ⟨G'', k1, k2, k3⟩ := key G' s' w' v r h1 h2 h3 h4
    exact ⟨G'', _, _, k1, k2, k3, rfl, rfl⟩
  | .ok .skip w', h =>
    obtain ⟨G', s', h1, h2, ob, ho, h3, h4⟩ := h
    cases h3
  | .ok (.enter f args) w', h =>
    exact Calls.mono h fun e w'' ⟨G', r, v, s', he, h1, h2, h3, h4⟩ => by
      obtain ⟨G'', k1, k2, k3⟩ := key G' s' w'' v r h1 h2 h3 h4
      exact ⟨G'', _, v, _, he, k1, k2, k3, rfl, rfl⟩

end Go.AM


set_option autoImplicit false
namespace Go.AM
open Go Go.RowKit

/-- The equations of the walk's functions, bound together. -/
theorem DF : type_of% (And.intro (And.intro (And.intro (And.intro (And.intro (And.intro @aval.eq_1 (And.intro @aval.eq_2 @aval.eq_3)) (And.intro @aval.eq_4 (And.intro @aval.eq_5 @aval.eq_6))) (And.intro
    (And.intro @aval.eq_7 (And.intro @aval.eq_8 @aval.eq_9)) (And.intro @aval.eq_10 (And.intro @aval.eq_11 @aval.eq_12)))) (And.intro (And.intro (And.intro @aval.eq_13 (And.intro
    @aval.eq_14 @aval.eq_15)) (And.intro @aval.eq_16 (And.intro @aval.eq_17 @aval.eq_18))) (And.intro (And.intro @aval.eq_19 (And.intro @abin.eq_1 @abin.eq_2)) (And.intro
    (And.intro @abin.eq_3 @abin.eq_4) (And.intro @abin.eq_5 @abin.eq_6))))) (And.intro (And.intro (And.intro (And.intro @abin.eq_7 (And.intro @abin.eq_8 @abin.eq_9)) (And.intro
    @abin.eq_10 (And.intro @abin.eq_11 @aint.eq_1))) (And.intro (And.intro @aint.eq_2 (And.intro @aint.eq_3 @aint.eq_4)) (And.intro (And.intro @aint.eq_5 @aint.eq_6) (And.intro
    @aint.eq_7 @aint.eq_8)))) (And.intro (And.intro (And.intro @aint.eq_9 (And.intro @aint.eq_10 @aint.eq_11)) (And.intro @aint.eq_12 (And.intro @aint.eq_13 @aint.eq_14)))
    (And.intro (And.intro @aint.eq_15 (And.intro @aint.eq_16 @abool.eq_1)) (And.intro (And.intro @abool.eq_2 @abool.eq_3) (And.intro @astr.eq_1 @astr.eq_2)))))) (And.intro
    (And.intro (And.intro (And.intro (And.intro @astr.eq_3 (And.intro @astr.eq_4 @anil.eq_1)) (And.intro @anil.eq_2 (And.intro @anil.eq_3 @aun.eq_1))) (And.intro (And.intro
    @aun.eq_2 (And.intro @aun.eq_3 @aun.eq_4)) (And.intro @aun.eq_5 (And.intro @aun.eq_6 @optInt.eq_1)))) (And.intro (And.intro (And.intro @optInt.eq_2 (And.intro @optInt.eq_3
    @asrc.eq_1)) (And.intro @asrc.eq_2 (And.intro @asrc.eq_3 @asrc.eq_4))) (And.intro (And.intro @asrc.eq_5 (And.intro @afill.eq_1 @afill.eq_2)) (And.intro (And.intro @placeOf.eq_1
    @asetAll.eq_1) (And.intro @asetAll.eq_2 @undef.eq_1))))) (And.intro (And.intro (And.intro (And.intro @aload.eq_1 (And.intro @apart.eq_1 @aeval.eq_1)) (And.intro @aeval.eq_2
    (And.intro @aeval.eq_3 @aeval.eq_4))) (And.intro (And.intro @updO.eq_1 (And.intro @updO.eq_2 @upd.eq_1)) (And.intro (And.intro @initE.eq_1 @gdst.eq_1) (And.intro @thenQ.eq_1
    @thenQ.eq_2)))) (And.intro (And.intro (And.intro @blockQ.eq_1 (And.intro @blockQ.eq_2 @srcOk.eq_1)) (And.intro @bytesV.eq_1 (And.intro @Array.isEmpty.eq_1.{0}
    @List.isEmpty.eq_1.{0}))) (And.intro (And.intro @List.isEmpty.eq_2.{0} (And.intro @implies_true.{0} @implies_true.{1})) (And.intro (And.intro @forall_eq'.{1} @ne_eq.{1})
    (And.intro @if_true.{1} @if_false.{1}))))))) :=
  (And.intro (And.intro (And.intro (And.intro (And.intro (And.intro @aval.eq_1 (And.intro @aval.eq_2 @aval.eq_3)) (And.intro @aval.eq_4 (And.intro @aval.eq_5 @aval.eq_6))) (And.intro
    (And.intro @aval.eq_7 (And.intro @aval.eq_8 @aval.eq_9)) (And.intro @aval.eq_10 (And.intro @aval.eq_11 @aval.eq_12)))) (And.intro (And.intro (And.intro @aval.eq_13 (And.intro
    @aval.eq_14 @aval.eq_15)) (And.intro @aval.eq_16 (And.intro @aval.eq_17 @aval.eq_18))) (And.intro (And.intro @aval.eq_19 (And.intro @abin.eq_1 @abin.eq_2)) (And.intro
    (And.intro @abin.eq_3 @abin.eq_4) (And.intro @abin.eq_5 @abin.eq_6))))) (And.intro (And.intro (And.intro (And.intro @abin.eq_7 (And.intro @abin.eq_8 @abin.eq_9)) (And.intro
    @abin.eq_10 (And.intro @abin.eq_11 @aint.eq_1))) (And.intro (And.intro @aint.eq_2 (And.intro @aint.eq_3 @aint.eq_4)) (And.intro (And.intro @aint.eq_5 @aint.eq_6) (And.intro
    @aint.eq_7 @aint.eq_8)))) (And.intro (And.intro (And.intro @aint.eq_9 (And.intro @aint.eq_10 @aint.eq_11)) (And.intro @aint.eq_12 (And.intro @aint.eq_13 @aint.eq_14)))
    (And.intro (And.intro @aint.eq_15 (And.intro @aint.eq_16 @abool.eq_1)) (And.intro (And.intro @abool.eq_2 @abool.eq_3) (And.intro @astr.eq_1 @astr.eq_2)))))) (And.intro
    (And.intro (And.intro (And.intro (And.intro @astr.eq_3 (And.intro @astr.eq_4 @anil.eq_1)) (And.intro @anil.eq_2 (And.intro @anil.eq_3 @aun.eq_1))) (And.intro (And.intro
    @aun.eq_2 (And.intro @aun.eq_3 @aun.eq_4)) (And.intro @aun.eq_5 (And.intro @aun.eq_6 @optInt.eq_1)))) (And.intro (And.intro (And.intro @optInt.eq_2 (And.intro @optInt.eq_3
    @asrc.eq_1)) (And.intro @asrc.eq_2 (And.intro @asrc.eq_3 @asrc.eq_4))) (And.intro (And.intro @asrc.eq_5 (And.intro @afill.eq_1 @afill.eq_2)) (And.intro (And.intro @placeOf.eq_1
    @asetAll.eq_1) (And.intro @asetAll.eq_2 @undef.eq_1))))) (And.intro (And.intro (And.intro (And.intro @aload.eq_1 (And.intro @apart.eq_1 @aeval.eq_1)) (And.intro @aeval.eq_2
    (And.intro @aeval.eq_3 @aeval.eq_4))) (And.intro (And.intro @updO.eq_1 (And.intro @updO.eq_2 @upd.eq_1)) (And.intro (And.intro @initE.eq_1 @gdst.eq_1) (And.intro @thenQ.eq_1
    @thenQ.eq_2)))) (And.intro (And.intro (And.intro @blockQ.eq_1 (And.intro @blockQ.eq_2 @srcOk.eq_1)) (And.intro @bytesV.eq_1 (And.intro @Array.isEmpty.eq_1.{0}
    @List.isEmpty.eq_1.{0}))) (And.intro (And.intro @List.isEmpty.eq_2.{0} (And.intro @implies_true.{0} @implies_true.{1})) (And.intro (And.intro @forall_eq'.{1} @ne_eq.{1})
    (And.intro @if_true.{1} @if_false.{1})))))))
/-- Of a test. -/
theorem DB : type_of% (And.intro (And.intro (And.intro @Bool.not_true @Bool.not_false) (And.intro @Bool.false_eq_true @Bool.true_eq_false)) (And.intro (And.intro @false_imp_iff @true_imp_iff) (And.intro @decide_eq_true_eq @decide_eq_false_iff_not))) :=
  (And.intro (And.intro (And.intro @Bool.not_true @Bool.not_false) (And.intro @Bool.false_eq_true @Bool.true_eq_false)) (And.intro (And.intro @false_imp_iff @true_imp_iff) (And.intro @decide_eq_true_eq @decide_eq_false_iff_not)))
/-- Of a region that draws. -/
theorem DX : type_of% (And.intro (And.intro @List.contains_cons.{0} (And.intro @List.contains_nil.{0} @Bool.or_false)) (And.intro (And.intro @Bool.or_true @Bool.or_self) (And.intro @Bool.false_eq_true @Bool.false_or))) :=
  (And.intro (And.intro @List.contains_cons.{0} (And.intro @List.contains_nil.{0} @Bool.or_false)) (And.intro (And.intro @Bool.or_true @Bool.or_self) (And.intro @Bool.false_eq_true @Bool.false_or)))
/-- Of results. -/
theorem DT : type_of% (And.intro (And.intro @atuple_nil (And.intro @atuple_one @atuple_two)) (And.intro @atuple_three (And.intro @atuple_four @atuple_five))) :=
  (And.intro (And.intro @atuple_nil (And.intro @atuple_one @atuple_two)) (And.intro @atuple_three (And.intro @atuple_four @atuple_five)))
end Go.AM

set_option autoImplicit false
namespace Go.AM
open Go Go.RowKit

/-! ### Regions that draw, with calls of known worth and fresh objects

Marks of the operations: 'eff' may look at objects; 'giv v' is a call that gives the value v and leaves the state as it was; else a value of its operands. Objects that are made fresh may go in any order among themselves. -/

variable {P : Program} {Γ : Nat → List AV} {G : Gh} {s : AS} {w : World} {N : Nat} {ops : Array Oper}

/-! fresh objects -/
def FreshAt (P : Program) (Γ : Nat → List AV) (N : Nat) (ops : Array Oper) (o : Oper) : Prop :=
  ∃ (v : Nat → AV) (z : List AV), ∀ (E : Env) (s : AS) (K : Env → AS → Prop), AX P Γ N ops [o] K E s ↔ ∀ ob, s.objs ob = none → K (updO E o.dst (v ob)) (s.set ob z)

theorem FreshAt.alloc {T : TypeId} {z : List AV} {d : Tmp} {ty : TypeId} {pos : String} {after : Array Edge} (hz : zcells P T = some z) (hd : d < N) : FreshAt P Γ N ops { dst := some d, op := .alloc T, type := ty, pos := pos, after := after, guard := none } := by
  refine ⟨fun o => .ptr o 0, z, fun E s K => ?_⟩
  simp only [AX, astep, aval, aeff, hz]
  refine ⟨fun h => h.2, fun h => ⟨fun d' hd' => ?_, h⟩⟩
  cases hd'; exact hd

theorem FreshAt.make {T e : TypeId} {k k' : IntKind} {n m : Int} {z : List AV} {d : Tmp} {ty : TypeId} {pos : String} {after : Array Edge} (hT : P.underlying T = some (.slice e)) (hz : zcells P e = some z)
    (h : 0 ≤ n ∧ m = n ∧ P.bytesOf e * n ≤ 2 ^ 46 ∧ n ≤ 2 ^ 46 ∧ P.cellsOf e ≠ 0 ∧ z.length = P.cellsOf e) (hd : d < N) : FreshAt P Γ N ops { dst := some d, op := .makeSlice T (.const (.int k n)) (.const (.int k' m)), type := ty, pos := pos, after := after, guard := none } := by
  refine ⟨fun o => .osl o 0 (P.cellsOf e) n.toNat n.toNat, zrow (n.toNat * P.cellsOf e) z, fun E s K => ?_⟩
  simp only [AX, astep, aval, aeff, aeval, hT, hz]
  obtain ⟨h1, h2, h3, h4, h5, h6⟩ := h
  refine ⟨fun h => h.2.2.2.2.2.2.2, fun h => ⟨fun d' hd' => ?_, h1, h2, h3, h4, h5, h6, h⟩⟩
  cases hd'; exact hd

section
variable {Q : Exit → Env → AS → Prop} {E : Env}
end

end Go.AM


set_option autoImplicit false
namespace Go.AM
open Go Go.RowKit

/-! ### Regions that draw, with a change of the ghost at their end -/

variable {P : Program} {Γ : Nat → List AV} {G : Gh} {s : AS} {w : World} {N : Nat} {ops : Array Oper}

variable {Q : Exit → Env → AS → Prop} {E : Env}
/-- Two objects made, then filled: the same as made filled. -/
theorem set_four {s : AS} {o1 o2 : Nat} (h : o1 ≠ o2) (a b c d : List AV) : (((s.set o1 a).set o2 b).set o1 c).set o2 d = (s.set o1 c).set o2 d := by
  rw [AS.set_mid _ h, AS.set_set]
end Go.AM


set_option autoImplicit false
namespace Go.AM
open Go Go.RowKit

/-! ### Weaker knowledge of what an object holds -/

variable {P : Program} {Γ : Nat → List AV} {G : Gh} {s : AS} {w : World} {N : Nat}

theorem AVs.weak.trans {a b c : List AV} (h : AVs.weak a b) (k : AVs.weak b c) : AVs.weak a c := fun G v hv => k G v (h G v hv)
theorem AVs.weak.append {a b c d : List AV} (h : AVs.weak a c) (k : AVs.weak b d) : AVs.weak (a ++ b) (c ++ d) := by
  intro G v hv
  have hl := hv.length
  have h1 := hv.take a.length
  have h2 := hv.drop a.length
  rw [List.take_left] at h1
  rw [List.drop_left] at h2
  have := VRels.append (h G _ h1) (k G _ h2)
  rwa [List.take_append_drop] at this

/-- What a state tells is told by another one, too. -/
def AS.tells (Γ : Nat → List AV) (s s' : AS) : Prop := ∀ G w, SRel Γ G s w → SRel Γ G s' w
theorem AS.tells.refl (s : AS) : AS.tells Γ s s := fun _ _ h => h
theorem AS.tells.trans {a b c : AS} (h : AS.tells Γ a b) (k : AS.tells Γ b c) : AS.tells Γ a c := fun G w x => k G w (h G w x)
theorem SRel.weakObj {o : Nat} {cs cs' : List AV} (h : SRel Γ G s w) (ho : s.objs o = some cs) (hw : AVs.weak cs cs') : SRel Γ G (s.set o cs') w := by
  refine ⟨h.ro, ?_, h.objLt, h.inj, h.own, h.ownInj, h.ownLast, h.freshO, h.freshT, h.below, h.others, h.base, h.glob, h.soft⟩
  intro o' ds hd
  by_cases e : o' = o
  · subst e
    rw [AS.set_objs_same] at hd
    cases hd
    obtain ⟨b, vs, h1, h2, h3, h4⟩ := h.objs o' cs ho
    exact ⟨b, vs, h1, hw G vs h2, h3, h4⟩
  · rw [AS.set_objs_ne _ e] at hd
    exact h.objs o' ds hd
theorem AS.tells_obj {o : Nat} {cs cs' : List AV} (ho : s.objs o = some cs) (hw : AVs.weak cs cs') : AS.tells Γ s (s.set o cs') := fun _ _ h => h.weakObj ho hw

theorem awp_tells {c : Code} {Q : Exit → Env → AS → Prop} {E : Env} {s s' : AS} (h : AS.tells Γ s s') (k : AWp P Γ N c Q E s') : AWp P Γ N c Q E s :=
  fun G a w hr => k G a w ⟨h G w hr.st, hr.size, hr.tmps, hr.defers⟩

/-- A slice of one's own that grows: rows of cells. -/
def RBuf (sz : Nat) (s0 s : AS) (x : AV) (n : Nat) (cs : List AV) : Prop := (x = nilS ∧ n = 0 ∧ cs = []) ∨ ∃ t e, x = .sl sz n cs (.own t e) ∧ s.own t = some e ∧ s0.own t = none
theorem RBuf.weak {sz : Nat} {s0 s : AS} {x : AV} {n : Nat} {cs : List AV} (h : RBuf sz s0 s x n cs) : x.weak (.sl sz n cs .any) := by
  rcases h with ⟨rfl, rfl, rfl⟩ | ⟨t, e, rfl, _, _⟩
  · exact AV.weak_nil
  · exact AV.weak_any
theorem RBuf.one {sz : Nat} {s0 s : AS} {x : AV} {n : Nat} {cs : List AV} (h : RBuf sz s0 s x n cs) : x.one = true := by
  rcases h with ⟨rfl, _, _⟩ | ⟨t, e, rfl, _, _⟩
  · rfl
  · rfl
theorem RBuf.nil (sz : Nat) (s0 s : AS) : RBuf sz s0 s nilS 0 [] := .inl ⟨rfl, rfl, rfl⟩
theorem RBuf.own {sz : Nat} {s0 s s' : AS} {x : AV} {n : Nat} {cs : List AV} (h : RBuf sz s0 s x n cs) (k : ∀ t e, s.own t = some e → s0.own t = none → s'.own t = some e) : RBuf sz s0 s' x n cs := by
  rcases h with h | ⟨t, e, h1, h2, h3⟩
  · exact .inl h
  · exact .inr ⟨t, e, h1, k t e h2 h3, h3⟩

end Go.AM


