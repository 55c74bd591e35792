/- An abstract machine for the model: abstract values, their relation to worlds, and the rules of its walk, each proved sound over the model; no condition. -/
import Derived.Test.YtpakgjmcaefnmaaAM7
import Derived.Laws.IdiomCopy
set_option linter.unusedSimpArgs false
set_option linter.unusedVariables false
set_option autoImplicit false
namespace Go.AM
open Go Go.RowKit

variable {P : Program} {Γ : Nat → List AV} {G : Gh} {s : AS} {w : World}

/-- Cells are written that are nobody's. -/
theorem SRel.setFree (h : SRel Γ G s w) {b st : Nat} {us : List Value} (hB : G.B ≤ b) (hr : ∀ j, st ≤ j → j < st + us.length → G.ro b j = none) (ho : ∀ o, G.obj o ≠ some b)
    (ht : ∀ t e st' en', s.own t = some e → G.tok t e ≠ some (b, st', en')) : SRel Γ G s (w.setCells b st us) := by
  have hout : ∀ b' j, (b' ≠ b ∨ j < st ∨ st + us.length ≤ j) → (w.setCells b st us).cell? ⟨b', j, none⟩ = w.cell? ⟨b', j, none⟩ := by
    intro b' j hd
    exact World.cell?_setCells_out b us st w ⟨b', j, none⟩ (fun h1 _ => by simp at h1; simp; omega)
  have hsz : ∀ (us : List Value) (st : Nat) (w : World), (w.setCells b st us).heap.size = w.heap.size := by
    intro us
    induction us with
    | nil => intro st w; rfl
    | cons u us ih => intro st w; rw [World.setCells, ih]; simp
  have hbel : ∀ (us : List Value) (st : Nat) (w : World), Below G.B w (w.setCells b st us) := by
    intro us
    induction us with
    | nil => intro st w; exact Below.refl _ _
    | cons u us ih => intro st w; rw [World.setCells]; exact ((Below.refl _ _).setCell (p := ⟨b, st, none⟩) hB u).trans (ih _ _)
  constructor
  case ro =>
    intro b' j u hu
    rw [hout]
    · exact h.ro b' j u hu
    · by_cases e : b' = b
      · subst e
        right
        rcases Nat.lt_or_ge j st with h1 | h1
        · exact .inl h1
        · right
          rcases Nat.lt_or_ge j (st + us.length) with h2 | h2
          · rw [hr j h1 h2] at hu; cases hu
          · exact h2
      · exact .inl e
  case objs =>
    intro o cs hc
    obtain ⟨b', vs, h1, h2, h3, h4⟩ := h.objs o cs hc
    refine ⟨b', vs, h1, h2, h3, fun j u hu => ?_⟩
    have hbb : b' ≠ b := fun e => ho o (e ▸ h1)
    rw [hout _ _ (.inl hbb), World.frozen?_setCells]
    exact h4 j u hu
  case objLt => intro o b' hb; rw [hsz]; exact h.objLt o b' hb
  case inj => exact h.inj
  case own =>
    intro t e he
    obtain ⟨b', st', en', h1, h2, h3, h4, h5, h6⟩ := h.own t e he
    refine ⟨b', st', en', h1, h2, h3, fun j hj hj' => ?_, h5, by rw [hsz]; exact h6⟩
    have hbb : b' ≠ b := fun e' => ht t e _ _ he (e' ▸ h1)
    rw [hout _ _ (.inl hbb), World.frozen?_setCells]
    exact h4 j hj hj'
  case ownInj => exact h.ownInj
  case ownLast => exact h.ownLast
  case freshO => exact h.freshO
  case freshT => exact h.freshT
  case below => exact h.below.trans (hbel us st w)
  case base => rw [hsz]; exact h.base
  case soft =>
    have : ∀ (us : List Value) (st : Nat) (w : World), (∀ b c T lo hi, G.B ≤ b → w.heap[b]? = some (.cells c T (lo, hi)) → lo = hi ∨ c.size ≤ lo) → ∀ b' c T lo hi, G.B ≤ b' → (w.setCells b st us).heap[b']? = some (.cells c T (lo, hi)) → lo = hi ∨ c.size ≤ lo := by
      intro us
      induction us with
      | nil => intro st w h; exact h
      | cons u us ih => intro st w h; rw [World.setCells]; exact ih _ _ (soft_setCell h)
    exact this us st w h.soft
  case glob => exact h.glob

/-- Cells that are nobody's become read-only. -/
theorem SRel.claimFree (h : SRel Γ G s w) {b st : Nat} {us : List Value} (hc : ∀ (j : Nat) (u : Value), us[j]? = some u → w.cell? ⟨b, st + j, none⟩ = some u) (hr : ∀ j, st ≤ j → j < st + us.length → G.ro b j = none) (ho : ∀ o, G.obj o ≠ some b)
    (ht : ∀ t e st' en', s.own t = some e → G.tok t e ≠ some (b, st', en')) : G.le (G.addRo b st us) ∧ SRel Γ (G.addRo b st us) s w := by
  have hle : G.le (G.addRo b st us) := Gh.le_addRo hr
  have hro : ∀ b' j, b' ≠ b → (G.addRo b st us).ro b' j = G.ro b' j := fun b' j hb => by simp [Gh.addRo, hb]
  refine ⟨hle, ?_⟩
  constructor
  case ro =>
    intro b' j u hu
    by_cases e : b' = b
    · subst e
      simp only [Gh.addRo] at hu
      split at hu
      · rename_i hj
        have := hc (j - st) u (by simpa using hu)
        rwa [show st + (j - st) = j from by omega] at this
      · exact h.ro _ j u hu
    · rw [hro b' j e] at hu; exact h.ro b' j u hu
  case objs =>
    intro o cs hc
    obtain ⟨b', vs, h1, h2, h3, h4⟩ := h.objs o cs hc
    refine ⟨b', vs, h1, VRels.mono hle _ _ h2, h3, fun j u hu => ?_⟩
    have hbb : b' ≠ b := fun e => ho o (e ▸ h1)
    rw [hro _ _ hbb]
    exact h4 j u hu
  case objLt => exact h.objLt
  case inj => exact h.inj
  case own =>
    intro t e he
    obtain ⟨b', st', en', h1, h2, h3, h4, h5, h6⟩ := h.own t e he
    refine ⟨b', st', en', h1, h2, h3, fun j hj hj' => ?_, h5, h6⟩
    have hbb : b' ≠ b := fun e' => ht t e _ _ he (e' ▸ h1)
    rw [hro _ _ hbb]
    exact h4 j hj hj'
  case ownInj => exact h.ownInj
  case ownLast => exact h.ownLast
  case freshO => exact h.freshO
  case freshT => exact h.freshT
  case below => exact h.below
  case base => exact h.base
  case soft => exact h.soft
  case glob =>
    intro g
    obtain ⟨us, h1, h2⟩ := h.glob g
    exact ⟨us, VRels.mono hle _ _ h1, h2.mono hle⟩

/-- An append in place. -/
theorem SRel.fill (h : SRel Γ G s w) {t g b st en : Nat} {us : List Value} (ht : s.own t = some g) (hk : G.tok t g = some (b, st, en)) (hu : st + us.length ≤ en) :
    (∀ j, j < us.length → (w.cell? ⟨b, st + j, none⟩).isSome = true) ∧ (∀ j, j < us.length → w.frozen? ⟨b, st + j, none⟩ = false) ∧
    ∃ G', G.le G' ∧ SRel Γ G' (s.gain t (g + 1)) (w.setCells b st us) ∧ RoAt G' b st us ∧ G'.tok t (g + 1) = some (b, st + us.length, en) := by
  obtain ⟨b1, st1, en1, k1, k2, k3, k4, k5, k6⟩ := h.own t g ht
  rw [hk] at k1
  simp only [Option.some.injEq, Prod.mk.injEq] at k1
  obtain ⟨rfl, rfl, rfl⟩ := k1
  refine ⟨fun j hj => ?_, fun j hj => (k4 (st + j) (by omega) (by omega)).2.1, ?_⟩
  · obtain ⟨u, hu'⟩ := (k4 (st + j) (by omega) (by omega)).1
    simp [hu']
  · let s1 : AS := { s with own := upd s.own t none }
    have hs1 : SRel Γ G s1 w := h.mono ⟨fun _ _ h => h, fun t' e' he => by
      by_cases e : t' = t
      · subst e; simp [s1] at he
      · simpa [s1, upd, e] using he⟩
    have hdisj : ∀ t' e' st' en', s1.own t' = some e' → G.tok t' e' ≠ some (b, st', en') := by
      intro t' e' st' en' he hc
      by_cases e : t' = t
      · subst e; simp [s1] at he
      · simp [s1, upd, e] at he
        exact e (h.ownInj t' e' t g b st' en' st en he ht hc hk)
    have hfree : ∀ j, st ≤ j → j < st + us.length → G.ro b j = none := fun j h1 h2 => (k4 j h1 (by omega)).2.2
    have h1 := hs1.setFree (us := us) k3 hfree k5 hdisj
    obtain ⟨hle, h2⟩ := h1.claimFree (b := b) (st := st) (us := us) (fun j u hj => by
      have hjl : j < us.length := by
        rcases Nat.lt_or_ge j us.length with h | h
        · exact h
        · simp [List.getElem?_eq_none h] at hj
      rw [World.cell?_setCells_in b us st w (fun i hi => by
        obtain ⟨u, hu'⟩ := (k4 (st + i) (by omega) (by omega)).1
        simp [hu']) j hjl]
      simpa [hjl] using hj) hfree k5 hdisj
    have hg := h2.gain (t := t) (e := g + 1) (b := b) (st := st + us.length) (en := en) (h.ownLast t g ht _ (by omega)) (fun e' he' => h.ownLast t g ht _ (by omega)) (by omega) k3
      (fun j hj hj' => by
        obtain ⟨⟨u, q1⟩, q2, q3⟩ := k4 j (by omega) hj'
        refine ⟨⟨u, ?_⟩, by rw [World.frozen?_setCells]; exact q2, ?_⟩
        · rw [World.cell?_setCells_out b us st w ⟨b, j, none⟩ (fun _ _ => .inr (by simp; omega))]; exact q1
        · simp only [Gh.addRo]; rw [if_neg (by omega)]; exact q3)
      k5 (by
        have hsz : ∀ (us : List Value) (st : Nat) (w : World), (w.setCells b st us).heap.size = w.heap.size := by
          intro us
          induction us with
          | nil => intro st w; rfl
          | cons u us ih => intro st w; rw [World.setCells, ih]; simp
        rw [hsz]; exact k6)
      (fun t' e' st' en' hne ho hc => hdisj t' e' st' en' ho hc)
    refine ⟨_, hle.trans hg.1, ?_, (RoAt.added G b st us).mono hg.1, by simp [Gh.addTok]⟩
    have heq : s1.gain t (g + 1) = s.gain t (g + 1) := by
      simp only [AS.gain, s1, AS.mk.injEq, true_and]
      funext i
      simp only [upd]
      split <;> rfl
    rw [← heq]
    exact hg.2

/-- What is appended or copied: so many elements, and their cells. -/
def asrc (sz : Nat) (s : AS) : AV → Option (Nat × List AV)
  | .sl sz' m ds _ => if sz' = sz then some (m, ds) else none
  | .v (.slice none 0 _) => some (0, [])
  | .osl o off sz' m _ => if sz' = sz then (match s.objs o with | some cs => if off + m * sz ≤ cs.length then some (m, (cs.drop off).take (m * sz)) else none | none => none) else none
  | .v (.string b) => if sz = 1 then some (b.size, b.data.toList.map byteV) else none
  | _ => none

theorem asrc_sound {sz m : Nat} {y : AV} {ds : List AV} {u : Value} (h : asrc sz s y = some (m, ds)) (hy : VRel G y u) (hs : SRel Γ G s w) :
    ∃ us, VRels G ds us ∧ us.length = m * sz ∧ (∀ w', (Builtin.lenOf u).run P w' = .ok m w') ∧ (∀ w', (∀ b j, w'.cell? ⟨b, j, none⟩ = w.cell? ⟨b, j, none⟩) → (Builtin.firstCells sz m u).run P w' = .ok us.toArray w') := by
  unfold asrc at h
  split at h
  · split at h
    · rename_i sz' m' ds' sp hsz
      subst hsz
      cases h
      simp only [VRel] at hy
      rcases hy with ⟨b, off, cap, vs, rfl, hl, _, hv, hro, _⟩ | ⟨rfl, rfl, a, cap, rfl, _⟩ | ⟨rfl, rfl, rfl, rfl⟩
      case inr.inr => exact ⟨[], by simp [VRels], by simp, fun w' => rfl, fun w' _ => run_firstCells_none w' _ _ _ _⟩
      case inr.inl => exact ⟨[], by simp [VRels], by simp, fun w' => rfl, fun w' _ => run_firstCells_some w' _ _ _ _ _ [] (by simp) (by simp)⟩
      have hlen := hv.length
      refine ⟨vs, hv, by omega, fun w' => rfl, fun w' hw' => ?_⟩
      exact run_firstCells_some w' _ _ _ _ _ vs (by omega) (fun j v hj => by rw [add_spot, hw']; exact hs.ro _ _ _ (hro j v hj))
    · cases h
  · cases h
    simp only [VRel] at hy
    subst hy
    exact ⟨[], by simp [VRels], by simp, fun w' => rfl, fun w' _ => run_firstCells_none w' _ _ _ _⟩
  · split at h
    · rename_i o off sz' m' cap hsz
      subst hsz
      split at h
      · rename_i cs hc
        split at h
        · rename_i hle
          cases h
          simp only [VRel] at hy
          obtain ⟨b, ho, rfl, _⟩ := hy
          obtain ⟨b', vs, h1, h2, h3, h4⟩ := hs.objs o cs hc
          rw [ho] at h1; cases h1
          have hlen := h2.length
          have hv := (h2.drop off).take (m * sz')
          refine ⟨_, hv, by simp; omega, fun w' => rfl, fun w' hw' => ?_⟩
          refine run_firstCells_some w' _ _ _ _ _ _ (by simp; omega) (fun j v hj => ?_)
          rw [add_spot, hw']
          rw [List.getElem?_take] at hj
          split at hj
          · rw [List.getElem?_drop] at hj
            exact (h4 _ _ hj).1
          · cases hj
        · cases h
      · cases h
    · cases h
  · split at h
    · rename_i b hsz
      subst hsz
      cases h
      simp only [VRel] at hy
      subst hy
      refine ⟨bvals b.data.toList, VRels_bytes _, by have : b.data.size = b.size := rfl; simp [bvals, this], fun w' => rfl, fun w' _ => ?_⟩
      simp only [Builtin.firstCells, Sem.run_pure]
      congr 1
      have hb : b.extract 0 b.size = b := by
        apply ByteArray.ext
        simp
      rw [hb]
      apply Array.ext'
      simp [bvals]
    · cases h
  · cases h

/-- What append takes: the source is no whole number (the toolchain's own 'append(s, make(..)...)'). -/
def srcOk (P : Program) (t : Option TypeId) : Bool :=
  match t.bind P.underlying with
  | some (.slice _) | some .string => true
  | _ => false

theorem srcOk_some {x : TypeId} (h : srcOk P (some x) = true) : (∃ e, P.underlying x = some (.slice e)) ∨ P.underlying x = some .string := by
  unfold srcOk at h
  simp only [Option.bind_some] at h
  cases hu : P.underlying x with
  | none => simp [hu] at h
  | some d => cases d <;> simp [hu] at h <;> first | exact .inl ⟨_, rfl⟩ | exact .inr rfl

/-- What is asked of an element type: its zero cells z. -/
def ElemOk (P : Program) (e : TypeId) (z : List AV) : Prop := zcells P e = some z ∧ P.cellsOf e ≠ 0 ∧ z.length = P.cellsOf e

theorem run_append_new {m : Nat} {u : Value} (hsrc : ∀ w', (Builtin.lenOf u).run P w' = .ok m w') {T xT e : TypeId} (hT : P.underlying T = some (.slice e)) (hx : srcOk P (some xT) = true)
    {z : List AV} (he : ElemOk P e z)
    {base : Option Addr} {n cap : Nat} {olds news : List Value} (hold : ∀ w', (∀ b j, w'.cell? ⟨b, j, none⟩ = w.cell? ⟨b, j, none⟩) → (Builtin.firstCells (P.cellsOf e) n (.slice base n cap)).run P w' = .ok olds.toArray w')
    (hnew : ∀ w', (∀ b j, w'.cell? ⟨b, j, none⟩ = w.cell? ⟨b, j, none⟩) → (Builtin.firstCells (P.cellsOf e) m u).run P w' = .ok news.toArray w')
    (hg : cap < n + m) (hfit : (n + m) * P.bytesOf e ≤ 2 ^ 46) (h63 : n + m ≤ 2 ^ 46) (ty : TypeId) :
    ∃ (cap' : Nat) (rest : List Value), n + m ≤ cap' ∧ rest.length = (cap' - (n + m)) * P.cellsOf e ∧
      (Builtin.append_ #[T, xT] ty #[.slice base n cap, u]).run P w = .ok (.slice (some ⟨w.heap.size, 0, none⟩) (n + m) cap') (w.drew.alloc (.cells ((olds ++ news) ++ rest).toArray e)) := by
  obtain ⟨hz, hsz, hzl⟩ := he
  obtain ⟨zv, hz1, hz2⟩ := zcells_some hz
  obtain ⟨i, hi⟩ := info_of_cells hsz
  have hb : P.bytesOf e = i.bytes := by simp [Program.bytesOf, hi]
  have hti : ∀ w', (typeInfo e).run P w' = .ok i w' := fun w' => by simp [typeInfo, hi]
  have hnle : ¬ (n + m ≤ cap) := by omega
  have hnot63 : ¬ (9223372036854775807 < (n : Int) + (m : Int)) := by omega
  have hslice := nextslicecap_le (need := n + m) (old := cap) hg
  have hnot48 : ¬ (2 ^ 48 < Builtin.nextslicecap (n + m) cap * i.bytes) := by
    rw [hb] at hfit
    have h2 : Builtin.nextslicecap (n + m) cap * i.bytes ≤ 2 * (n + m) * i.bytes := Nat.mul_le_mul_right _ hslice
    rw [Nat.mul_assoc] at h2
    omega
  have hzl : zv.cells.size = P.cellsOf e := by
    rw [hz2] at hzl
    simpa using hzl
  have ho1 := hold w.drew (fun b j => rfl)
  have hn1 := hnew w.drew (fun b j => rfl)
  refine ⟨_, (Builtin.zeroCells zv.cells ((Question.appendCap (n + m) cap e).cut (w.tape w.drawn (.appendCap (n + m) cap e)) - (n + m))).toList, cut_appendCap (n + m) cap e (w.tape w.drawn (.appendCap (n + m) cap e)), ?_, ?_⟩
  · simp [Builtin.zeroCells, hzl]
  · have hf : (Question.appendCap (n + m) cap e).forced = false := rfl
    rcases srcOk_some hx with ⟨e', hx⟩ | hx
    all_goals
      simp [Builtin.append_, run_underlying hT, run_sizeOf' hsz, run_underlying hx, hsrc, hnle, hti, hnot63, hnot48, hf, ho1, hn1, hz1, newRow]
      congr 2
      apply Array.ext'
      simp [List.append_assoc]

theorem run_append_in {m : Nat} {u : Value} (hsrc : ∀ w', (Builtin.lenOf u).run P w' = .ok m w') {T xT e : TypeId} (hT : P.underlying T = some (.slice e)) (hx : srcOk P (some xT) = true) (hsz : P.cellsOf e ≠ 0)
    {b off n cap : Nat} {news : List Value}
    (hnew : (Builtin.firstCells (P.cellsOf e) m u).run P w = .ok news.toArray w)
    (hc : ∀ j, j < news.length → (w.cell? ⟨b, off + n * P.cellsOf e + j, none⟩).isSome = true) (hf : ∀ j, j < news.length → w.frozen? ⟨b, off + n * P.cellsOf e + j, none⟩ = false) (h1 : ∀ v ∈ news, v.oneCell' = true)
    (hg : n + m ≤ cap) (ty : TypeId) :
    (Builtin.append_ #[T, xT] ty #[.slice (some ⟨b, off, none⟩) n cap, u]).run P w = .ok (.slice (some ⟨b, off, none⟩) (n + m) cap) (w.setCells b (off + n * P.cellsOf e) news) := by
  have hst := run_storeCells_cells (P := P) b (off + n * P.cellsOf e) news 0 w (by simpa using hc) (by simpa using hf) h1
  simp only [Nat.add_zero] at hst
  rcases srcOk_some hx with ⟨e', hx⟩ | hx
  all_goals
    simp [Builtin.append_, run_underlying hT, run_sizeOf' hsz, run_underlying hx, hsrc, hg, hnew, add_spot, hst]

theorem run_append_zero {u : Value} (hsrc : ∀ w', (Builtin.lenOf u).run P w' = .ok 0 w') {T xT e : TypeId} (hT : P.underlying T = some (.slice e)) (hx : srcOk P (some xT) = true) (hsz : P.cellsOf e ≠ 0)
    {base : Option Addr} {n cap : Nat} (hnew : (Builtin.firstCells (P.cellsOf e) 0 u).run P w = .ok #[] w) (hg : n ≤ cap) (ty : TypeId) :
    (Builtin.append_ #[T, xT] ty #[.slice base n cap, u]).run P w = .ok (.slice base n cap) w := by
  rcases srcOk_some hx with ⟨e', hx⟩ | hx
  all_goals
    cases base <;> simp [Builtin.append_, run_underlying hT, run_sizeOf' hsz, run_underlying hx, hsrc, hg, hnew, storeCells]

theorem one_of_all : ∀ {ds : List AV} {us : List Value}, VRels G ds us → ds.all AV.one = true → ∀ u ∈ us, u.oneCell' = true
  | [], us, h, _ => by simp only [VRels] at h; subst h; simp
  | d :: ds, us, h, ha => by
    simp only [VRels] at h
    obtain ⟨u, us', rfl, h2, h3⟩ := h
    simp only [List.all_cons, Bool.and_eq_true] at ha
    intro x hx
    rcases List.mem_cons.1 hx with rfl | hx
    · have h1 := ha.1
      cases d with
      | v y => simp only [VRel] at h2; subst h2; cases x <;> simp [AV.one] at h1 <;> rfl
      | sl sz n cs sp => simp only [VRel] at h2; rcases h2 with ⟨b, off, cap, vs, rfl, _⟩ | ⟨_, _, a, cap, rfl, _⟩ | ⟨_, _, _, rfl⟩ <;> rfl
      | rop cs => simp only [VRel] at h2; obtain ⟨b, off, vs, rfl, _⟩ := h2; rfl
      | ptr o off => simp only [VRel] at h2; obtain ⟨b, _, rfl⟩ := h2; rfl
      | osl o off sz n cap => simp only [VRel] at h2; obtain ⟨b, _, rfl, _⟩ := h2; rfl
      | agg cs => simp [AV.one] at h1
      | tup cs => simp [AV.one] at h1
      | clo f cs => simp only [VRel] at h2; obtain ⟨vs, rfl, _⟩ := h2; rfl
    · exact one_of_all h3 ha.2 x hx

/-- What an append comes to. -/
def aappend (P : Program) (e : TypeId) (x : AV) (m : Nat) (ds : List AV) (s : AS) (K : AV → AS → Prop) : Prop :=
  match x with
  | .v (.slice none 0 0) =>
    if m = 0 then K (.v (.slice none 0 0)) s
    else m * P.bytesOf e ≤ 2 ^ 46 ∧ m ≤ 2 ^ 46 ∧ ∀ t, s.own t = none → K (.sl (P.cellsOf e) m ds (.own t 0)) (s.gain t 0)
  | .sl sz n cs sp =>
    if m = 0 then K (.sl sz n cs sp) s
    else sz = P.cellsOf e ∧ (n + m) * P.bytesOf e ≤ 2 ^ 46 ∧ n + m ≤ 2 ^ 46 ∧ ds.all AV.one = true ∧
      match sp with
      | .full => ∀ t, s.own t = none → K (.sl sz (n + m) (cs ++ ds) (.own t 0)) (s.gain t 0)
      | .new => ∀ t, s.own t = none → K (.sl sz (n + m) (cs ++ ds) (.own t 0)) (s.gain t 0)
      | .own t g => s.own t = some g ∧ K (.sl sz (n + m) (cs ++ ds) (.own t (g + 1))) (s.gain t (g + 1))
      | .no => False
      | .any => False
  | _ => False

theorem aappend_sound {x y : AV} {u v : Value} {m : Nat} {ds : List AV} {T xT e : TypeId} {z : List AV} {K : AV → AS → Prop} (hT : P.underlying T = some (.slice e)) (hx : srcOk P (some xT) = true) (he : ElemOk P e z)
    (hsrc : asrc (P.cellsOf e) s y = some (m, ds)) (h : aappend P e x m ds s K) (hxr : VRel G x u) (hyr : VRel G y v) (hs : SRel Γ G s w) (ty : TypeId) :
    ∃ G' z w' r s', (Builtin.append_ #[T, xT] ty #[u, v]).run P w = .ok z w' ∧ G.le G' ∧ SRel Γ G' s' w' ∧ VRel G' r z ∧ K r s' := by
  obtain ⟨us, hv, hlen, hlenOf, hfirst⟩ := asrc_sound (P := P) hsrc hyr hs
  have hdl := hv.length
  unfold aappend at h
  split at h
  · -- onto nil
    simp only [VRel] at hxr
    subst hxr
    split at h
    · rename_i hm
      subst hm
      have hus : us = [] := List.eq_nil_of_length_eq_zero (by simpa using hlen)
      subst hus
      exact ⟨G, _, w, _, s, run_append_zero hlenOf hT hx he.2.1 (hfirst w (fun _ _ => rfl)) (Nat.le_refl _) ty, .refl G, hs, by simp [VRel], h⟩
    · rename_i hm
      obtain ⟨h1, h2, h3⟩ := h
      obtain ⟨cap', rest, hc1, hc2, hrun⟩ := run_append_new (P := P) (w := w) hlenOf hT hx he (base := none) (n := 0) (cap := 0) (olds := []) (news := us)
        (fun w' _ => run_firstCells_none w' _ _ _ _) hfirst (by omega) (by simpa using h1) (by simpa using h2) ty
      simp only [Nat.zero_add] at hc1 hc2 hrun
      obtain ⟨G', g1, g2, g3, g4, g5, g6⟩ := hs.drew.newRoTok us rest e G.nt 0 (fun e' _ => hs.freshT _ (Nat.le_refl _) e')
      refine ⟨G', _, _, _, _, hrun, g1, g2, ?_, h3 G.nt (hs.own_isNone (Nat.le_refl _))⟩
      simp only [VRel]
      refine .inl ⟨w.heap.size, 0, cap', us, rfl, by omega, hc1, VRels.mono g1 _ _ hv, g3, ?_⟩
      simp only [SpRel]
      rw [g4]
      simp only [List.length_append, hlen, hc2, Nat.zero_add]
      rw [← Nat.add_mul, Nat.add_sub_cancel' hc1]
      rfl
  · -- onto a slice
    rename_i sz n cs sp
    have hxr' := hxr
    simp only [VRel] at hxr
    rcases hxr with ⟨b, off, cap, vs, rfl, hl, hnc, hvs, hro, hsp⟩ | ⟨rfl, rfl, a, cap, rfl, hmere⟩ | ⟨rfl, rfl, rfl, rfl⟩
    case inr.inr =>
      split at h
      · rename_i hm
        subst hm
        have hus : us = [] := List.eq_nil_of_length_eq_zero (by simpa using hlen)
        subst hus
        exact ⟨G, _, w, _, s, run_append_zero hlenOf hT hx he.2.1 (hfirst w (fun _ _ => rfl)) (Nat.le_refl _) ty, .refl G, hs, hxr', h⟩
      · obtain ⟨rfl, h1, h2, hone, h3⟩ := h
        exact h3.elim
    case inr.inl =>
      split at h
      · rename_i hm
        subst hm
        have hus : us = [] := List.eq_nil_of_length_eq_zero (by simpa using hlen)
        subst hus
        exact ⟨G, _, w, _, s, run_append_zero hlenOf hT hx he.2.1 (hfirst w (fun _ _ => rfl)) (Nat.zero_le _) ty, .refl G, hs, hxr', h⟩
      · rename_i hm
        obtain ⟨rfl, h1, h2, hone, h3⟩ := h
        rcases hmere with rfl | rfl | ⟨rfl, rfl⟩
        · exact h3.elim
        · exact h3.elim
        ·
          obtain ⟨cap', rest, hc1, hc2, hrun⟩ := run_append_new (P := P) (w := w) hlenOf hT hx he (base := some a) (n := 0) (cap := 0) (olds := []) (news := us)
            (fun w' _ => run_firstCells_some w' _ _ _ _ _ [] (by simp) (by simp)) hfirst (by omega) h1 h2 ty
          simp only [Nat.zero_add] at hc1 hc2 hrun h3
          obtain ⟨G', g1, g2, g3, g4, g5, g6⟩ := hs.drew.newRoTok us rest e G.nt 0 (fun e' _ => hs.freshT _ (Nat.le_refl _) e')
          refine ⟨G', _, _, _, _, hrun, g1, g2, ?_, h3 G.nt (hs.own_isNone (Nat.le_refl _))⟩
          simp only [VRel]
          refine .inl ⟨w.heap.size, 0, cap', us, rfl, by simp only [List.nil_append]; omega, hc1, VRels.mono g1 _ _ hv, g3, ?_⟩
          simp only [SpRel]
          rw [g4]
          simp only [List.length_append, hlen, hc2, Nat.zero_add]
          rw [← Nat.add_mul, Nat.add_sub_cancel' hc1]
          rfl
    have hvl := hvs.length
    split at h
    · rename_i hm
      subst hm
      have hus : us = [] := List.eq_nil_of_length_eq_zero (by simpa using hlen)
      subst hus
      exact ⟨G, _, w, _, s, run_append_zero hlenOf hT hx he.2.1 (hfirst w (fun _ _ => rfl)) hnc ty, .refl G, hs, hxr', h⟩
    · rename_i hm
      obtain ⟨rfl, h1, h2, hone, h3⟩ := h
      have hold : ∀ w', (∀ b j, w'.cell? ⟨b, j, none⟩ = w.cell? ⟨b, j, none⟩) → (Builtin.firstCells (P.cellsOf e) n (.slice (some ⟨b, off, none⟩) n cap)).run P w' = .ok vs.toArray w' :=
        fun w' hw' => run_firstCells_some w' _ _ _ _ _ vs (by omega) (fun j v hj => by rw [add_spot, hw']; exact hs.ro _ _ _ (hro j v hj))
      have grow : ∀ (t g : Nat), cap < n + m → (∀ e', g ≤ e' → G.tok t e' = none) →
          ∃ G' z w', (Builtin.append_ #[T, xT] ty #[.slice (some ⟨b, off, none⟩) n cap, v]).run P w = .ok z w' ∧ G.le G' ∧ SRel Γ G' (s.gain t g) w' ∧ VRel G' (.sl (P.cellsOf e) (n + m) (cs ++ ds) (.own t g)) z := by
        intro t g hlt ht
        obtain ⟨cap', rest, hc1, hc2, hrun⟩ := run_append_new (P := P) (w := w) hlenOf hT hx he (base := some ⟨b, off, none⟩) (n := n) (cap := cap) (olds := vs) (news := us) hold hfirst hlt h1 h2 ty
        obtain ⟨G', g1, g2, g3, g4, g5, g6⟩ := hs.drew.newRoTok (vs ++ us) rest e t g ht
        refine ⟨G', _, _, hrun, g1, g2, ?_⟩
        simp only [VRel]
        refine .inl ⟨w.heap.size, 0, cap', vs ++ us, rfl, by simp only [List.length_append, hl, hdl, hlen, Nat.add_mul], hc1, VRels.mono g1 _ _ (hvs.append hv), g3, ?_⟩
        simp only [SpRel]
        rw [g4]
        have e1 : (vs ++ us).length = (n + m) * P.cellsOf e := by simp only [List.length_append, ← hvl, hl, hlen, Nat.add_mul]
        rw [List.length_append (as := vs ++ us), e1, hc2, Nat.zero_add, Nat.zero_add, ← Nat.add_mul, Nat.add_sub_cancel' hc1]
        rfl
      split at h3
      · -- no room
        simp only [SpRel] at hsp
        subst hsp
        obtain ⟨G', z, w', q1, q2, q3, q4⟩ := grow G.nt 0 (by omega) (fun e' _ => hs.freshT _ (Nat.le_refl _) e')
        exact ⟨G', z, w', _, _, q1, q2, q3, q4, h3 G.nt (hs.own_isNone (Nat.le_refl _))⟩
      · -- a literal: no room
        simp only [SpRel] at hsp
        obtain ⟨hsp, -⟩ := hsp
        subst hsp
        obtain ⟨G', z, w', q1, q2, q3, q4⟩ := grow G.nt 0 (by omega) (fun e' _ => hs.freshT _ (Nat.le_refl _) e')
        exact ⟨G', z, w', _, _, q1, q2, q3, q4, h3 G.nt (hs.own_isNone (Nat.le_refl _))⟩
      · rename_i t g
        obtain ⟨ht, hK⟩ := h3
        simp only [SpRel] at hsp
        rcases Nat.lt_or_ge cap (n + m) with hlt | hge
        · obtain ⟨G', z, w', q1, q2, q3, q4⟩ := grow t (g + 1) hlt (fun e' he' => hs.ownLast t g ht e' (by omega))
          exact ⟨G', z, w', _, _, q1, q2, q3, q4, hK⟩
        · have hfits : off + n * P.cellsOf e + us.length ≤ off + cap * P.cellsOf e := by
            rw [hlen, Nat.add_assoc, ← Nat.add_mul]
            exact Nat.add_le_add_left (Nat.mul_le_mul_right _ hge) _
          obtain ⟨f1, f2, G', g1, g2, g3, g4⟩ := hs.fill ht hsp hfits
          refine ⟨G', _, _, _, _, run_append_in hlenOf hT hx he.2.1 (hfirst w (fun _ _ => rfl)) f1 f2 (one_of_all hv hone) hge ty, g1, g2, ?_, hK⟩
          simp only [VRel]
          refine .inl ⟨b, off, cap, vs ++ us, rfl, by simp only [List.length_append, hl, hdl, hlen, Nat.add_mul], hge, VRels.mono g1 _ _ (hvs.append hv), ?_, ?_⟩
          · intro j x hj
            rcases Nat.lt_or_ge j vs.length with hjl | hjl
            · rw [List.getElem?_append_left hjl] at hj
              exact g1.ro _ _ _ (hro j x hj)
            · rw [List.getElem?_append_right hjl] at hj
              have := g3 (j - vs.length) x hj
              rwa [show off + n * P.cellsOf e + (j - vs.length) = off + j from by rw [← hl, hvl]; omega] at this
          · simp only [SpRel]
            rw [g4, hlen, Nat.add_assoc, ← Nat.add_mul]
      · exact h3.elim
      · exact h3.elim
  · exact h.elim

end Go.AM
