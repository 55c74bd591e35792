/- An abstract machine for the model: abstract values, their relation to worlds, and the rules of its walk, each proved sound over the model; no condition. -/
import Derived.Orders
import Derived.Below
set_option linter.unusedSimpArgs false
set_option linter.unusedVariables false
set_option autoImplicit false
namespace Go.AM
open Go Go.RowKit

inductive Sp where
  | new
  | no
  | full
  | own (t e : Nat)
  | any

/-- May be nil, where it has no element. -/
def Sp.isAny : Sp → Bool
  | .any => true
  | .new => false
  | .no => false
  | .full => false
  | .own _ _ => false

inductive AV where
  | v (x : Value)
  | sl (sz n : Nat) (cs : List AV) (sp : Sp)
  | rop (cs : List AV)
  | ptr (o off : Nat)
  | osl (o off sz n cap : Nat)
  | agg (cs : List AV)
  | tup (cs : List AV)
  | clo (f : FuncId) (caps : List AV)

structure Gh where
  ro : Nat → Nat → Option Value
  obj : Nat → Option Nat
  tok : Nat → Nat → Option (Nat × Nat × Nat)
  no : Nat
  nt : Nat
  B : Nat
  w0 : World

structure Gh.le (G G' : Gh) : Prop where
  ro : ∀ b j u, G.ro b j = some u → G'.ro b j = some u
  obj : ∀ o b, G.obj o = some b → G'.obj o = some b
  tok : ∀ t e r, G.tok t e = some r → G'.tok t e = some r
  B : G'.B = G.B
  w0 : G'.w0 = G.w0

theorem Gh.le.refl (G : Gh) : G.le G := ⟨fun _ _ _ h => h, fun _ _ h => h, fun _ _ _ h => h, rfl, rfl⟩
theorem Gh.le.trans {a b c : Gh} (h : a.le b) (k : b.le c) : a.le c :=
  ⟨fun _ _ _ x => k.ro _ _ _ (h.ro _ _ _ x), fun _ _ x => k.obj _ _ (h.obj _ _ x), fun _ _ _ x => k.tok _ _ _ (h.tok _ _ _ x), k.B.trans h.B, k.w0.trans h.w0⟩

def RoAt (G : Gh) (b off : Nat) (vs : List Value) : Prop := ∀ j u, vs[j]? = some u → G.ro b (off + j) = some u

def SpRel (G : Gh) (b off sz n cap : Nat) : Sp → Prop
  | .no => True
  | .any => True
  | .full => cap = n
  | .new => cap = n ∧ G.B ≤ b
  | .own t e => G.tok t e = some (b, off + n * sz, off + cap * sz)

mutual
def VRel (G : Gh) : AV → Value → Prop
  | .v x, y => y = x
  | .sl sz n cs sp, y => (∃ b off cap vs, y = .slice (some ⟨b, off, none⟩) n cap ∧ cs.length = n * sz ∧ n ≤ cap ∧ VRels G cs vs ∧ RoAt G b off vs ∧ SpRel G b off sz n cap sp) ∨
      (n = 0 ∧ cs = [] ∧ ∃ a cap, y = .slice (some a) 0 cap ∧ (sp = .no ∨ sp = .any ∨ (sp = .full ∧ cap = 0))) ∨
      (n = 0 ∧ cs = [] ∧ sp = .any ∧ y = .slice none 0 0)
  | .rop cs, y => ∃ b off vs, y = .pointer (some ⟨b, off, none⟩) ∧ VRels G cs vs ∧ RoAt G b off vs
  | .ptr o off, y => ∃ b, G.obj o = some b ∧ y = .pointer (some ⟨b, off, none⟩)
  | .osl o off _ n cap, y => ∃ b, G.obj o = some b ∧ y = .slice (some ⟨b, off, none⟩) n cap ∧ n ≤ cap
  | .agg cs, y => ∃ vs : List Value, y = .agg vs.toArray ∧ VRels G cs vs
  | .tup cs, y => ∃ vs : List Value, y = .tuple vs.toArray ∧ VRels G cs vs
  | .clo f caps, y => ∃ vs : List Value, y = .func (.func f) #[] vs.toArray ∧ VRels G caps vs
def VRels (G : Gh) : List AV → List Value → Prop
  | [], vs => vs = []
  | c :: cs, vs => ∃ u us, vs = u :: us ∧ VRel G c u ∧ VRels G cs us
end

theorem RoAt.mono {G G' : Gh} (h : G.le G') {b off : Nat} {vs : List Value} (k : RoAt G b off vs) : RoAt G' b off vs :=
  fun j u hj => h.ro _ _ _ (k j u hj)

theorem SpRel.mono {G G' : Gh} (h : G.le G') {b off sz n cap : Nat} {sp : Sp} (k : SpRel G b off sz n cap sp) : SpRel G' b off sz n cap sp := by
  cases sp with
  | no => trivial
  | any => trivial
  | full => exact k
  | new => exact ⟨k.1, by rw [h.B]; exact k.2⟩
  | own t e => exact h.tok _ _ _ k

mutual
theorem VRel.mono {G G' : Gh} (h : G.le G') : ∀ (c : AV) (u : Value), VRel G c u → VRel G' c u
  | .v x, u, k => by simpa [VRel] using k
  | .sl sz n cs sp, u, k => by
    simp only [VRel] at k ⊢
    rcases k with ⟨b, off, cap, vs, h1, h2, h3, h4, h5, h6⟩ | k
    · exact .inl ⟨b, off, cap, vs, h1, h2, h3, VRels.mono h cs vs h4, h5.mono h, h6.mono h⟩
    · exact .inr k
  | .rop cs, u, k => by
    simp only [VRel] at k ⊢
    obtain ⟨b, off, vs, h1, h4, h5⟩ := k
    exact ⟨b, off, vs, h1, VRels.mono h cs vs h4, h5.mono h⟩
  | .ptr o off, u, k => by
    simp only [VRel] at k ⊢
    obtain ⟨b, h1, h2⟩ := k
    exact ⟨b, h.obj _ _ h1, h2⟩
  | .osl o off sz n cap, u, k => by
    simp only [VRel] at k ⊢
    obtain ⟨b, h1, h2⟩ := k
    exact ⟨b, h.obj _ _ h1, h2⟩
  | .agg cs, u, k => by
    simp only [VRel] at k ⊢
    obtain ⟨vs, h1, h2⟩ := k
    exact ⟨vs, h1, VRels.mono h cs vs h2⟩
  | .tup cs, u, k => by
    simp only [VRel] at k ⊢
    obtain ⟨vs, h1, h2⟩ := k
    exact ⟨vs, h1, VRels.mono h cs vs h2⟩
  | .clo f cs, u, k => by
    simp only [VRel] at k ⊢
    obtain ⟨vs, h1, h2⟩ := k
    exact ⟨vs, h1, VRels.mono h cs vs h2⟩
theorem VRels.mono {G G' : Gh} (h : G.le G') : ∀ (cs : List AV) (us : List Value), VRels G cs us → VRels G' cs us
  | [], us, k => by simpa [VRels] using k
  | c :: cs, us, k => by
    simp only [VRels] at k ⊢
    obtain ⟨u, us', h1, h2, h3⟩ := k
    exact ⟨u, us', h1, VRel.mono h c u h2, VRels.mono h cs us' h3⟩
end

theorem VRels.length {G : Gh} : ∀ {cs : List AV} {vs : List Value}, VRels G cs vs → cs.length = vs.length
  | [], vs, k => by simp only [VRels] at k; simp [k]
  | c :: cs, vs, k => by
    simp only [VRels] at k
    obtain ⟨u, us', rfl, h2, h3⟩ := k
    simp [VRels.length h3]

theorem VRels.get {G : Gh} : ∀ {cs : List AV} {vs : List Value}, VRels G cs vs → ∀ (i : Nat) (c : AV), cs[i]? = some c → ∃ u, vs[i]? = some u ∧ VRel G c u
  | [], vs, k => by simp
  | c :: cs, vs, k => by
    simp only [VRels] at k
    obtain ⟨u, us', rfl, h2, h3⟩ := k
    intro i c' hi
    cases i with
    | zero => simp at hi; subst hi; exact ⟨u, by simp, h2⟩
    | succ i => simpa using VRels.get h3 i c' (by simpa using hi)

theorem VRels.getD {G : Gh} {cs : List AV} {vs : List Value} (h : VRels G cs vs) (i : Nat) (hi : i < cs.length) : ∃ u, vs[i]? = some u ∧ VRel G (cs.getD i (.v undef)) u := by
  obtain ⟨u, h1, h2⟩ := h.get i (cs[i]) (by simp [hi])
  exact ⟨u, h1, by simpa [List.getD, hi] using h2⟩

theorem VRels.append {G : Gh} : ∀ {cs ds : List AV} {vs us : List Value}, VRels G cs vs → VRels G ds us → VRels G (cs ++ ds) (vs ++ us)
  | [], ds, vs, us, h, k => by simp only [VRels] at h; subst h; simpa using k
  | c :: cs, ds, vs, us, h, k => by
    simp only [VRels] at h
    obtain ⟨u, us', rfl, h2, h3⟩ := h
    simp only [List.cons_append, VRels]
    exact ⟨u, us' ++ us, rfl, h2, VRels.append h3 k⟩

theorem VRels.take {G : Gh} : ∀ {cs : List AV} {vs : List Value} (n : Nat), VRels G cs vs → VRels G (cs.take n) (vs.take n)
  | [], vs, n, h => by simp only [VRels] at h; subst h; simp [VRels]
  | c :: cs, vs, n, h => by
    simp only [VRels] at h
    obtain ⟨u, us', rfl, h2, h3⟩ := h
    cases n with
    | zero => simp [VRels]
    | succ n => simp only [List.take_succ_cons, VRels]; exact ⟨u, _, rfl, h2, VRels.take n h3⟩

theorem VRels.drop {G : Gh} : ∀ {cs : List AV} {vs : List Value} (n : Nat), VRels G cs vs → VRels G (cs.drop n) (vs.drop n)
  | [], vs, n, h => by simp only [VRels] at h; subst h; simp [VRels]
  | c :: cs, vs, n, h => by
    cases n with
    | zero => simpa using h
    | succ n =>
      simp only [VRels] at h
      obtain ⟨u, us', rfl, h2, h3⟩ := h
      simpa using VRels.drop n h3

theorem VRels.set {G : Gh} : ∀ {cs : List AV} {vs : List Value} (n : Nat) {c : AV} {u : Value}, VRels G cs vs → VRel G c u → VRels G (cs.set n c) (vs.set n u)
  | [], vs, n, c, u, h, k => by simp only [VRels] at h; subst h; simp [VRels]
  | x :: cs, vs, n, c, u, h, k => by
    simp only [VRels] at h
    obtain ⟨y, us', rfl, h2, h3⟩ := h
    cases n with
    | zero => simp only [List.set_cons_zero, VRels]; exact ⟨u, us', rfl, k, h3⟩
    | succ n => simp only [List.set_cons_succ, VRels]; exact ⟨y, _, rfl, h2, VRels.set n h3 k⟩

theorem VRels.replicate {G : Gh} (n : Nat) (x : Value) : VRels G (List.replicate n (.v x)) (List.replicate n x) := by
  induction n with
  | zero => simp [VRels]
  | succ n ih => simp only [List.replicate_succ, VRels]; exact ⟨x, _, rfl, by simp [VRel], ih⟩

theorem VRels.vals {G : Gh} : ∀ (l : List Value), VRels G (l.map .v) l
  | [] => by simp [VRels]
  | x :: l => by simp only [List.map_cons, VRels]; exact ⟨x, l, rfl, by simp [VRel], VRels.vals l⟩

/-- The abstract state: objects by name, and who may append in place. -/
structure AS where
  objs : Nat → Option (List AV)
  own : Nat → Option Nat

def upd {α : Type} (f : Nat → α) (d : Nat) (x : α) (i : Nat) : α := if i = d then x else f i
@[simp] theorem upd_same {α : Type} (f : Nat → α) (d : Nat) (x : α) : upd f d x d = x := by simp [upd]
theorem upd_ne {α : Type} (f : Nat → α) {d i : Nat} (x : α) (h : i ≠ d) : upd f d x i = f i := by simp [upd, h]

def AS.set (s : AS) (o : Nat) (cs : List AV) : AS := { s with objs := upd s.objs o (some cs) }
def AS.drop (s : AS) (o : Nat) : AS := { s with objs := upd s.objs o none }
def AS.gain (s : AS) (t e : Nat) : AS := { s with own := upd s.own t (some e) }

/-- s is s' with fewer objects and rights. -/
structure AS.le (s s' : AS) : Prop where
  objs : ∀ o cs, s.objs o = some cs → s'.objs o = some cs
  own : ∀ t e, s.own t = some e → s'.own t = some e

variable (Γ : Nat → List AV)

structure SRel (G : Gh) (s : AS) (w : World) : Prop where
  ro : ∀ b j u, G.ro b j = some u → w.cell? ⟨b, j, none⟩ = some u
  objs : ∀ o cs, s.objs o = some cs → ∃ b vs, G.obj o = some b ∧ VRels G cs vs ∧ G.B ≤ b ∧ (∀ j u, vs[j]? = some u → w.cell? ⟨b, j, none⟩ = some u ∧ w.frozen? ⟨b, j, none⟩ = false ∧ G.ro b j = none)
  objLt : ∀ o b, G.obj o = some b → b < w.heap.size
  inj : ∀ o o' b, G.obj o = some b → G.obj o' = some b → o = o'
  own : ∀ t e, s.own t = some e → ∃ b st en, G.tok t e = some (b, st, en) ∧ st ≤ en ∧ G.B ≤ b ∧ (∀ j, st ≤ j → j < en → (∃ u, w.cell? ⟨b, j, none⟩ = some u) ∧ w.frozen? ⟨b, j, none⟩ = false ∧ G.ro b j = none) ∧ (∀ o, G.obj o ≠ some b) ∧ b < w.heap.size
  ownInj : ∀ t e t' e' b st en st' en', s.own t = some e → s.own t' = some e' → G.tok t e = some (b, st, en) → G.tok t' e' = some (b, st', en') → t = t'
  ownLast : ∀ t e, s.own t = some e → ∀ e', e < e' → G.tok t e' = none
  freshO : ∀ o, G.no ≤ o → G.obj o = none
  freshT : ∀ t, G.nt ≤ t → ∀ e, G.tok t e = none
  below : Below G.B G.w0 w
  base : G.B ≤ w.heap.size
  glob : ∀ g, ∃ vs, VRels G (Γ g) vs ∧ RoAt G g 0 vs
  soft : ∀ b c T lo hi, G.B ≤ b → w.heap[b]? = some (.cells c T (lo, hi)) → lo = hi ∨ c.size ≤ lo

variable {Γ}

theorem SRel.mono {G : Gh} {s s' : AS} {w : World} (h : SRel Γ G s' w) (k : s.le s') : SRel Γ G s w :=
  ⟨h.ro, fun o cs hc => h.objs o cs (k.objs o cs hc), h.objLt, h.inj, fun t e he => h.own t e (k.own t e he),
   fun t e t' e' b st en st' en' h1 h2 => h.ownInj t e t' e' b st en st' en' (k.own t e h1) (k.own t' e' h2),
   fun t e he => h.ownLast t e (k.own t e he), h.freshO, h.freshT, h.below, h.base, h.glob, h.soft⟩

theorem SRel.obj_isNone {G : Gh} {s : AS} {w : World} (h : SRel Γ G s w) {o : Nat} (ho : G.no ≤ o) : s.objs o = none := by
  cases hs : s.objs o with
  | none => rfl
  | some cs => obtain ⟨b, vs, h1, _⟩ := h.objs o cs hs; rw [h.freshO o ho] at h1; cases h1

theorem SRel.own_isNone {G : Gh} {s : AS} {w : World} (h : SRel Γ G s w) {t : Nat} (ht : G.nt ≤ t) : s.own t = none := by
  cases hs : s.own t with
  | none => rfl
  | some e => obtain ⟨b, st, en, h1, _⟩ := h.own t e hs; rw [h.freshT t ht] at h1; cases h1

/-- The world may move outside memory (a draw). -/
theorem SRel.drew {G : Gh} {s : AS} {w : World} (h : SRel Γ G s w) : SRel Γ G s w.drew :=
  ⟨h.ro, h.objs, h.objLt, h.inj, h.own, h.ownInj, h.ownLast, h.freshO, h.freshT, h.below.drew, h.base, h.glob, h.soft⟩

theorem cell_alloc {w : World} {o : Obj} {b j : Nat} {u : Value} (h : w.cell? ⟨b, j, none⟩ = some u) : (w.alloc o).cell? ⟨b, j, none⟩ = some u := by
  rw [World.cell?_alloc_lt w o ⟨b, j, none⟩ (World.block_lt_of_cell? w _ h), h]

theorem frozen_alloc {w : World} {o : Obj} {b j : Nat} (hb : b < w.heap.size) : (w.alloc o).frozen? ⟨b, j, none⟩ = w.frozen? ⟨b, j, none⟩ :=
  World.frozen?_alloc_old w o ⟨b, j, none⟩ (Nat.ne_of_lt hb)

/-- A new block that nobody names. -/
theorem SRel.alloc {G : Gh} {s : AS} {w : World} (h : SRel Γ G s w) (x : Obj) (hx : ∀ c T lo hi, x = .cells c T (lo, hi) → lo = hi ∨ c.size ≤ lo := by intro c T lo hi e; cases e; exact .inl rfl) : SRel Γ G s (w.alloc x) where
  ro b j u hu := cell_alloc (h.ro b j u hu)
  objs o cs hc := by
    obtain ⟨b, vs, h1, h2, h3, h4⟩ := h.objs o cs hc
    exact ⟨b, vs, h1, h2, h3, fun j u hu => ⟨cell_alloc (h4 j u hu).1, by rw [frozen_alloc (h.objLt o b h1)]; exact (h4 j u hu).2.1, (h4 j u hu).2.2⟩⟩
  objLt o b hb := by have := h.objLt o b hb; simp; omega
  inj := h.inj
  own t e he := by
    obtain ⟨b, st, en, h1, h2, h3, h4, h5, h6⟩ := h.own t e he
    refine ⟨b, st, en, h1, h2, h3, fun j hj hj' => ?_, h5, by simp; omega⟩
    obtain ⟨⟨u, hu⟩, h7, h8⟩ := h4 j hj hj'
    exact ⟨⟨u, cell_alloc hu⟩, by rw [frozen_alloc h6]; exact h7, h8⟩
  ownInj := h.ownInj
  ownLast := h.ownLast
  freshO := h.freshO
  freshT := h.freshT
  below := h.below.alloc h.base _
  base := by have := h.base; simp; omega
  glob := h.glob
  soft b c T lo hi hb hc := by
    simp only [World.alloc, Array.getElem?_push] at hc
    split at hc
    · cases hc; exact hx _ _ _ _ rfl
    · exact h.soft b c T lo hi hb hc

/-- A new object. -/
def Gh.addObj (G : Gh) (o b : Nat) : Gh := { G with obj := upd G.obj o (some b), no := max G.no (o + 1) }

theorem Gh.le_addObj {G : Gh} {o : Nat} (b : Nat) (ho : G.obj o = none) : G.le (G.addObj o b) :=
  ⟨fun _ _ _ h => h, fun o' b' h => by
    by_cases e : o' = o
    · subst e; rw [ho] at h; cases h
    · simpa [Gh.addObj, upd, e] using h, fun _ _ _ h => h, rfl, rfl⟩

theorem SRel.newObj {G : Gh} {s : AS} {w : World} (h : SRel Γ G s w) {cs : List AV} {vs : List Value} (hv : VRels G cs vs) (T : TypeId) :
    ∃ o, s.objs o = none ∧ G.le (G.addObj o w.heap.size) ∧ SRel Γ (G.addObj o w.heap.size) (s.set o cs) (w.alloc (.cells vs.toArray T)) ∧ (G.addObj o w.heap.size).obj o = some w.heap.size := by
  have ho : G.obj G.no = none := h.freshO _ (Nat.le_refl _)
  have hle := Gh.le_addObj w.heap.size ho
  refine ⟨G.no, h.obj_isNone (Nat.le_refl _), hle, ?_, by simp [Gh.addObj]⟩
  have h' := h.alloc (.cells vs.toArray T)
  constructor
  case ro => exact h'.ro
  case objs =>
    intro o cs' hc
    by_cases e : o = G.no
    · subst e
      simp [AS.set] at hc
      subst hc
      refine ⟨w.heap.size, vs, by simp [Gh.addObj], VRels.mono hle _ _ hv, h.base, fun j u hu => ⟨by simpa using hu, World.frozen?_alloc_new .., ?_⟩⟩
      cases hr : (G.addObj G.no w.heap.size).ro w.heap.size j with
      | none => rfl
      | some x => exact absurd (World.block_lt_of_cell? w _ (h.ro _ _ _ hr)) (Nat.lt_irrefl _)
    · simp [AS.set, upd, e] at hc
      obtain ⟨b, us, h1, h2, h3, h4⟩ := h'.objs o cs' hc
      exact ⟨b, us, hle.obj _ _ h1, VRels.mono hle _ _ h2, h3, h4⟩
  case objLt =>
    intro o b hb
    by_cases e : o = G.no
    · subst e; simp [Gh.addObj] at hb; subst hb; simp
    · simp [Gh.addObj, upd, e] at hb; exact h'.objLt o b hb
  case inj =>
    intro o o' b h1 h2
    by_cases e : o = G.no <;> by_cases e' : o' = G.no
    · rw [e, e']
    · subst e; simp [Gh.addObj, upd, e'] at h1 h2; subst h1; exact absurd (h.objLt _ _ h2) (Nat.lt_irrefl _)
    · subst e'; simp [Gh.addObj, upd, e] at h1 h2; subst h2; exact absurd (h.objLt _ _ h1) (Nat.lt_irrefl _)
    · simp [Gh.addObj, upd, e, e'] at h1 h2; exact h.inj o o' b h1 h2
  case own =>
    intro t e he
    obtain ⟨b, st, en, h1, h2, h3, h4, h5, h6⟩ := h'.own t e he
    obtain ⟨b1, st1, en1, k1, _, _, _, _, k6⟩ := h.own t e he
    refine ⟨b, st, en, h1, h2, h3, h4, fun o ho' => ?_, h6⟩
    by_cases e' : o = G.no
    · subst e'
      simp [Gh.addObj] at ho'
      rw [h1] at k1; simp at k1
      omega
    · simp [Gh.addObj, upd, e'] at ho'; exact h5 o ho'
  case ownInj => exact h'.ownInj
  case ownLast => exact h'.ownLast
  case freshO =>
    intro o ho'
    simp [Gh.addObj] at ho'
    have : o ≠ G.no := by omega
    simp [Gh.addObj, upd, this]
    exact h.freshO o (by omega)
  case freshT => exact h'.freshT
  case below => exact h'.below
  case base => exact h'.base
  case soft => exact h'.soft
  case glob =>
    intro g
    obtain ⟨us, h1, h2⟩ := h.glob g
    exact ⟨us, VRels.mono hle _ _ h1, h2.mono hle⟩

/-- Claims on new read-only cells. -/
def Gh.addRo (G : Gh) (b off : Nat) (vs : List Value) : Gh :=
  { G with ro := fun b' j => if b' = b ∧ off ≤ j ∧ j < off + vs.length then vs[j - off]? else G.ro b' j }

theorem Gh.le_addRo {G : Gh} {b off : Nat} {vs : List Value} (h : ∀ j, off ≤ j → j < off + vs.length → G.ro b j = none) : G.le (G.addRo b off vs) := by
  refine ⟨fun b' j u hu => ?_, fun _ _ h => h, fun _ _ _ h => h, rfl, rfl⟩
  simp only [Gh.addRo]
  split
  · rename_i hc; obtain ⟨rfl, h1, h2⟩ := hc; rw [h j h1 h2] at hu; cases hu
  · exact hu

theorem RoAt.added (G : Gh) (b off : Nat) (vs : List Value) : RoAt (G.addRo b off vs) b off vs := by
  intro j u hu
  have hj : j < vs.length := by
    rcases Nat.lt_or_ge j vs.length with h | h
    · exact h
    · simp [List.getElem?_eq_none h] at hu
  simp only [Gh.addRo]
  rw [if_pos ⟨trivial, by omega, by omega⟩]
  simpa using hu

theorem not_ro_new {G : Gh} {s : AS} {w : World} (h : SRel Γ G s w) (j : Nat) : G.ro w.heap.size j = none := by
  cases hr : G.ro w.heap.size j with
  | none => rfl
  | some x => exact absurd (World.block_lt_of_cell? w _ (h.ro _ _ _ hr)) (Nat.lt_irrefl _)

/-- A new block, its first cells read-only from now on (the rest is nobody's). -/
theorem SRel.newRo {G : Gh} {s : AS} {w : World} (h : SRel Γ G s w) (vs : List Value) (c : Array Value) (T : TypeId) (hc : ∀ (j : Nat) (u : Value), vs[j]? = some u → c[j]? = some u) :
    G.le (G.addRo w.heap.size 0 vs) ∧ SRel Γ (G.addRo w.heap.size 0 vs) s (w.alloc (.cells c T)) := by
  have hle : G.le (G.addRo w.heap.size 0 vs) := Gh.le_addRo fun j _ _ => not_ro_new h j
  refine ⟨hle, ?_⟩
  have h' := h.alloc (.cells c T)
  have hro : ∀ b j, b ≠ w.heap.size → (G.addRo w.heap.size 0 vs).ro b j = G.ro b j := fun b j hb => by simp [Gh.addRo, hb]
  constructor
  case ro =>
    intro b j u hu
    by_cases e : b = w.heap.size
    · subst e
      simp only [Gh.addRo] at hu
      split at hu
      · rename_i hj
        rw [World.cell?_alloc_new]
        exact hc j u (by simpa using hu)
      · rw [not_ro_new h j] at hu; cases hu
    · rw [hro b j e] at hu; exact h'.ro b j u hu
  case objs =>
    intro o cs ho
    obtain ⟨b, us, h1, h2, h3, h4⟩ := h'.objs o cs ho
    refine ⟨b, us, h1, VRels.mono hle _ _ h2, h3, fun j u hu => ⟨(h4 j u hu).1, (h4 j u hu).2.1, ?_⟩⟩
    rw [hro b j (Nat.ne_of_lt (h.objLt o b h1))]; exact (h4 j u hu).2.2
  case objLt => exact h'.objLt
  case inj => exact h'.inj
  case own =>
    intro t e he
    obtain ⟨b, st, en, h1, h2, h3, h4, h5, h6⟩ := h'.own t e he
    obtain ⟨b1, st1, en1, k1, _, _, _, _, k6⟩ := h.own t e he
    rw [h1] at k1; simp at k1
    refine ⟨b, st, en, h1, h2, h3, fun j hj hj' => ⟨(h4 j hj hj').1, (h4 j hj hj').2.1, ?_⟩, h5, h6⟩
    rw [hro b j (by omega)]; exact (h4 j hj hj').2.2
  case ownInj => exact h'.ownInj
  case ownLast => exact h'.ownLast
  case freshO => exact h'.freshO
  case freshT => exact h'.freshT
  case below => exact h'.below
  case base => exact h'.base
  case soft => exact h'.soft
  case glob =>
    intro g
    obtain ⟨us, h1, h2⟩ := h.glob g
    exact ⟨us, VRels.mono hle _ _ h1, h2.mono hle⟩

theorem soft_setCell {B : Nat} {w : World} (h : ∀ b c T lo hi, B ≤ b → w.heap[b]? = some (.cells c T (lo, hi)) → lo = hi ∨ c.size ≤ lo) {a : Addr} {u : Value} :
    ∀ b c T lo hi, B ≤ b → (w.setCell a u).heap[b]? = some (.cells c T (lo, hi)) → lo = hi ∨ c.size ≤ lo := by
  intro b c T lo hi hb hc
  simp only [World.setCell, Array.getElem?_modify] at hc
  split at hc
  · cases hh : w.heap[b]? with
    | none => simp [hh] at hc
    | some o =>
      simp only [hh, Option.map_some, Option.some.injEq] at hc
      cases o with
      | cells c' T' fr =>
        obtain ⟨lo', hi'⟩ := fr
        simp only [Obj.cells.injEq, Prod.mk.injEq] at hc
        obtain ⟨h1, rfl, rfl, rfl⟩ := hc
        have := h b c' T' lo' hi' hb hh
        have hs : c.size = c'.size := by
          rw [← h1]; split <;> simp
        omega
      | _ => cases hc
  · exact h b c T lo hi hb hc

/-- One cell of an object is written. -/
theorem SRel.setCell {G : Gh} {s : AS} {w : World} (h : SRel Γ G s w) {o b i : Nat} {cs : List AV} {c : AV} {u : Value} (ho : s.objs o = some cs) (hb : G.obj o = some b) (hi : i < cs.length) (hc : VRel G c u) :
    (∃ u0, w.cell? ⟨b, i, none⟩ = some u0) ∧ w.frozen? ⟨b, i, none⟩ = false ∧ SRel Γ G (s.set o (cs.set i c)) (w.setCell ⟨b, i, none⟩ u) := by
  obtain ⟨b', vs, h1, h2, h3, h4⟩ := h.objs o cs ho
  rw [hb] at h1; cases h1
  have hl := h2.length
  have hiv : vs[i]? = some vs[i] := by simp
  obtain ⟨hc1, hc2, hc3⟩ := h4 i _ hiv
  refine ⟨⟨_, hc1⟩, hc2, ?_⟩
  have hne : ∀ (b' j' : Nat), (b' ≠ b ∨ j' ≠ i) → (w.setCell ⟨b, i, none⟩ u).cell? ⟨b', j', none⟩ = w.cell? ⟨b', j', none⟩ := by
    intro b' j' hd
    refine World.cell?_setCell_other _ _ _ _ ?_
    intro e
    simp at e
    omega
  constructor
  case ro =>
    intro b' j' u' hu'
    rw [hne]
    · exact h.ro b' j' u' hu'
    · by_cases e : b' = b
      · subst e
        right
        intro e; subst e; rw [hc3] at hu'; cases hu'
      · exact .inl e
  case objs =>
    intro o' cs' hc'
    by_cases e : o' = o
    · subst e
      simp [AS.set] at hc'
      subst hc'
      refine ⟨b, vs.set i u, hb, h2.set i hc, h3, fun j y hy => ?_⟩
      by_cases e : j = i
      · subst e
        rw [List.getElem?_set_self (by omega)] at hy
        cases hy
        exact ⟨World.cell?_setCell_same _ _ _ hc1, by simpa using hc2, hc3⟩
      · rw [List.getElem?_set_ne (by omega)] at hy
        rw [hne _ _ (.inr e)]
        obtain ⟨k1, k2, k3⟩ := h4 j y hy
        exact ⟨k1, by simpa using k2, k3⟩
    · simp [AS.set, upd, e] at hc'
      obtain ⟨b', us, k1, k2, k3, k4⟩ := h.objs o' cs' hc'
      refine ⟨b', us, k1, k2, k3, fun j y hy => ?_⟩
      have hbb : b' ≠ b := fun e' => e (h.inj o' o b (e' ▸ k1) hb)
      rw [hne _ _ (.inl hbb)]
      obtain ⟨l1, l2, l3⟩ := k4 j y hy
      exact ⟨l1, by simpa using l2, l3⟩
  case objLt => intro o b hb; simpa using h.objLt o b hb
  case inj => exact h.inj
  case own =>
    intro t e he
    obtain ⟨b', st, en, k1, k2, k3, k4, k5, k6⟩ := h.own t e he
    refine ⟨b', st, en, k1, k2, k3, fun j hj hj' => ?_, k5, by simpa using k6⟩
    have hbb : b' ≠ b := fun e' => k5 o (e' ▸ hb)
    rw [hne _ _ (.inl hbb)]
    obtain ⟨l1, l2, l3⟩ := k4 j hj hj'
    exact ⟨l1, by simpa using l2, l3⟩
  case ownInj => exact h.ownInj
  case ownLast => exact h.ownLast
  case freshO => exact h.freshO
  case freshT => exact h.freshT
  case below => exact h.below.setCell h3 _
  case base => simpa using h.base
  case soft => exact soft_setCell h.soft
  case glob => exact h.glob

/-- An object becomes read-only memory. -/
theorem SRel.freeze {G : Gh} {s : AS} {w : World} (h : SRel Γ G s w) {o : Nat} {cs : List AV} (ho : s.objs o = some cs) :
    ∃ b vs, G.obj o = some b ∧ VRels G cs vs ∧ G.le (G.addRo b 0 vs) ∧ RoAt (G.addRo b 0 vs) b 0 vs ∧ SRel Γ (G.addRo b 0 vs) (s.drop o) w := by
  obtain ⟨b, vs, h1, h2, h3, h4⟩ := h.objs o cs ho
  have hle : G.le (G.addRo b 0 vs) := Gh.le_addRo fun j _ hj => by
    have hj : j < vs.length := by omega
    exact (h4 j vs[j] (by simp)).2.2
  have hro : ∀ b' j, b' ≠ b → (G.addRo b 0 vs).ro b' j = G.ro b' j := fun b' j hb => by simp [Gh.addRo, hb]
  refine ⟨b, vs, h1, h2, hle, RoAt.added G b 0 vs, ?_⟩
  constructor
  case ro =>
    intro b' j u hu
    by_cases e : b' = b
    · subst e
      simp only [Gh.addRo] at hu
      split at hu
      · exact (h4 j u (by simpa using hu)).1
      · exact h.ro _ j u hu
    · rw [hro b' j e] at hu; exact h.ro b' j u hu
  case objs =>
    intro o' cs' ho'
    by_cases e : o' = o
    · subst e; simp [AS.drop] at ho'
    · simp [AS.drop, upd, e] at ho'
      obtain ⟨b', us, k1, k2, k3, k4⟩ := h.objs o' cs' ho'
      have hbb : b' ≠ b := fun e' => e (h.inj o' o b (e' ▸ k1) h1)
      refine ⟨b', us, k1, VRels.mono hle _ _ k2, k3, fun j u hu => ⟨(k4 j u hu).1, (k4 j u hu).2.1, ?_⟩⟩
      rw [hro b' j hbb]; exact (k4 j u hu).2.2
  case objLt => exact h.objLt
  case inj => exact h.inj
  case own =>
    intro t e he
    obtain ⟨b', st, en, k1, k2, k3, k4, k5, k6⟩ := h.own t e he
    have hbb : b' ≠ b := fun e' => k5 o (e' ▸ h1)
    refine ⟨b', st, en, k1, k2, k3, fun j hj hj' => ⟨(k4 j hj hj').1, (k4 j hj hj').2.1, ?_⟩, k5, k6⟩
    rw [hro b' j hbb]; exact (k4 j hj hj').2.2
  case ownInj => exact h.ownInj
  case ownLast => exact h.ownLast
  case freshO => exact h.freshO
  case freshT => exact h.freshT
  case below => exact h.below
  case base => exact h.base
  case soft => exact h.soft
  case glob =>
    intro g
    obtain ⟨us, h1, h2⟩ := h.glob g
    exact ⟨us, VRels.mono hle _ _ h1, h2.mono hle⟩

/-- A right to append in place, of a generation that nobody has seen. -/
def Gh.addTok (G : Gh) (t e : Nat) (r : Nat × Nat × Nat) : Gh :=
  { G with tok := fun t' e' => if t' = t ∧ e' = e then some r else G.tok t' e', nt := max G.nt (t + 1) }

theorem Gh.le_addTok {G : Gh} {t e : Nat} (r : Nat × Nat × Nat) (h : G.tok t e = none) : G.le (G.addTok t e r) := by
  refine ⟨fun _ _ _ h => h, fun _ _ h => h, fun t' e' r' hr => ?_, rfl, rfl⟩
  simp only [Gh.addTok]
  split
  · rename_i hc; obtain ⟨rfl, rfl⟩ := hc; rw [h] at hr; cases hr
  · exact hr

/-- The right t moves on to generation e, at a region that is nobody's. -/
theorem SRel.gain {G : Gh} {s : AS} {w : World} (h : SRel Γ G s w) {t e b st en : Nat} (hn : G.tok t e = none) (hl : ∀ e', e < e' → G.tok t e' = none)
    (h1 : st ≤ en) (h2 : G.B ≤ b) (h3 : ∀ j, st ≤ j → j < en → (∃ u, w.cell? ⟨b, j, none⟩ = some u) ∧ w.frozen? ⟨b, j, none⟩ = false ∧ G.ro b j = none) (h4 : ∀ o, G.obj o ≠ some b) (h5 : b < w.heap.size)
    (h6 : ∀ t' e' st' en', t' ≠ t → s.own t' = some e' → G.tok t' e' ≠ some (b, st', en')) :
    G.le (G.addTok t e (b, st, en)) ∧ SRel Γ (G.addTok t e (b, st, en)) (s.gain t e) w := by
  have hle := Gh.le_addTok (b, st, en) hn
  refine ⟨hle, ?_⟩
  have hother : ∀ t' e', t' ≠ t → (G.addTok t e (b, st, en)).tok t' e' = G.tok t' e' := fun t' e' hne => by simp [Gh.addTok, hne]
  constructor
  case ro => exact h.ro
  case objs =>
    intro o cs ho
    obtain ⟨b', us, k1, k2, k3, k4⟩ := h.objs o cs ho
    exact ⟨b', us, k1, VRels.mono hle _ _ k2, k3, k4⟩
  case objLt => exact h.objLt
  case inj => exact h.inj
  case own =>
    intro t' e' he
    by_cases ht : t' = t
    · subst ht
      simp [AS.gain] at he
      subst he
      exact ⟨b, st, en, by simp [Gh.addTok], h1, h2, h3, h4, h5⟩
    · simp [AS.gain, upd, ht] at he
      obtain ⟨b', st', en', k1, k2, k3, k4, k5, k6⟩ := h.own t' e' he
      exact ⟨b', st', en', by rw [hother _ _ ht]; exact k1, k2, k3, k4, k5, k6⟩
  case ownInj =>
    intro t1 e1 t2 e2 b' st1 en1 st2 en2 o1 o2 k1 k2
    by_cases c1 : t1 = t <;> by_cases c2 : t2 = t
    · rw [c1, c2]
    · subst c1
      simp [AS.gain, upd, c2] at o1 o2
      subst o1
      rw [hother _ _ c2] at k2
      simp [Gh.addTok] at k1
      obtain ⟨rfl, rfl, rfl⟩ := k1
      exact absurd k2 (h6 t2 e2 _ _ c2 o2)
    · subst c2
      simp [AS.gain, upd, c1] at o1 o2
      subst o2
      rw [hother _ _ c1] at k1
      simp [Gh.addTok] at k2
      obtain ⟨rfl, rfl, rfl⟩ := k2
      exact absurd k1 (h6 t1 e1 _ _ c1 o1)
    · simp [AS.gain, upd, c1, c2] at o1 o2
      rw [hother _ _ c1] at k1
      rw [hother _ _ c2] at k2
      exact h.ownInj t1 e1 t2 e2 b' st1 en1 st2 en2 o1 o2 k1 k2
  case ownLast =>
    intro t' e' he e'' hlt
    by_cases ht : t' = t
    · subst ht
      simp [AS.gain] at he
      subst he
      have : e'' ≠ e := by omega
      simp [Gh.addTok, this, hl e'' hlt]
    · simp [AS.gain, upd, ht] at he
      rw [hother _ _ ht]
      exact h.ownLast t' e' he e'' hlt
  case freshO => exact h.freshO
  case freshT =>
    intro t' ht' e'
    simp only [Gh.addTok] at ht'
    rw [hother _ _ (by omega)]
    exact h.freshT t' (by omega) e'
  case below => exact h.below
  case base => exact h.base
  case soft => exact h.soft
  case glob =>
    intro g
    obtain ⟨us, h1, h2⟩ := h.glob g
    exact ⟨us, VRels.mono hle _ _ h1, h2.mono hle⟩

end Go.AM
