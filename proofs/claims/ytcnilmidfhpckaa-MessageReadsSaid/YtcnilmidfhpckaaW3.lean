/- Contracts of the program's functions, each walked once; the conditions stand in each theorem. -/
import Derived.Test.YtcnilmidfhpckaaW2
import Derived.Test.YtcnilmidfhpckaaAMp6
set_option linter.unusedSimpArgs false
set_option linter.unusedVariables false
open Nat renaming reduceLT → nLT, reduceLeDiff → nLE, reduceEqDiff → nEQ, reduceAdd → nAdd, reduceMul → nMul, reducePow → nPow, reduceSub → nSub
open Int renaming reduceLT → zLT, reduceLE → zLE, reduceToNat → zNat
open Go.AM renaming ashift → qSh, aconv → qCv, aindexAddr → qIA, aindex → qIx, aslice → qSl, abuiltin → qBu
open Go.AM.AV renaming cells → qCe, one → qOn
set_option autoImplicit false
namespace Go.AM
open Go

/-! ### Pens: octets put, whether bad or not -/
theorem penNum_raw (k n : Nat) (st : List UInt8 × Bool) : penNum k n st = penRaw (be k n) st := rfl
theorem penSmall_raw {k n : Nat} (h : n < 256 ^ k) (st : List UInt8 × Bool) : penSmall k (n : Int) st = penRaw (be k n) st := by
  have e : (256 : Nat) ^ k = 2 ^ (8 * k) := by rw [Nat.pow_mul]
  have hh : (n : Int) < 2 ^ (8 * k) := by
    rw [e] at h
    exact_mod_cast h
  unfold penSmall
  rw [if_pos ⟨by omega, hh⟩]
  simp only [Int.toNat_natCast, penNum_raw]
theorem penRaw_raw (a b : List UInt8) (st : List UInt8 × Bool) : penRaw a (penRaw b st) = penRaw (b ++ a) st := by
  unfold penRaw
  by_cases h : st.2 = true
  · simp [h]
  · simp [h]
theorem penText_raw {k : Nat} {m : List UInt8} (h : m.length < 256 ^ k) (st : List UInt8 × Bool) : penText k m st = penRaw (be k m.length ++ m) st := by
  unfold penText
  rw [penSmall_raw h, penRaw_raw]
theorem penRaw_nil (st : List UInt8 × Bool) : penRaw [] st = st := by
  unfold penRaw
  split
  · rfl
  · rename_i h
    obtain ⟨a, b⟩ := st
    simp at h
    simp [h]

/-! ### A node's octets, and back -/
def intsText (l : List Int) : List UInt8 := (l.map fun x => be 1 x.toNat).flatten
def NodeV.text (N : NodeV) : List UInt8 :=
  if N.kind = 0 then be 1 0
  else if N.kind = 1 then be 1 1 ++ (be 1 N.name.length ++ N.name) ++ be 8 N.key ++ (be 1 N.parent.length ++ N.parent)
  else be 1 2 ++ be 8 N.key ++ (be 1 N.parent.length ++ N.parent) ++ be 1 N.unm.length ++ intsText N.unm

theorem rising_at {l : List Int} (h : Rising l) : ∀ i, i < l.length → (i : Int) ≤ l.getD i 0
  | 0, k => (h 0 k).1
  | i + 1, k => by
    have := rising_at h i (by omega)
    have h3 := (h (i + 1) k).2.2 (by omega)
    simp only [Nat.add_sub_cancel] at h3
    omega
theorem rising_len {l : List Int} (h : Rising l) : l.length ≤ 32 := by
  by_cases k : l.length = 0
  · omega
  · have h1 := rising_at h (l.length - 1) (by omega)
    have h2 := (h (l.length - 1) (by omega)).2.1
    omega
theorem intsText_len : ∀ (l : List Int), (intsText l).length = l.length
  | [] => rfl
  | x :: l => by
    have := intsText_len l
    simp only [intsText, List.map_cons, List.flatten_cons, List.length_append, length_be, List.length_cons] at *
    omega
theorem node_kind {N : NodeV} (h : N.right) : N.kind = 0 ∨ N.kind = 1 ∨ N.kind = 2 := by
  unfold NodeV.right at h
  split at h
  · left; assumption
  · split at h
    · right; left; assumption
    · split at h
      · right; right; assumption
      · exact h.elim

theorem NodeV.text_len {N : NodeV} (h : N.right) : N.text.length ≤ 100 := by
  obtain ⟨k, m, y, p, u⟩ := N
  rcases node_kind h with hk | hk | hk
  · simp only at hk
    simp [NodeV.text, hk]
  · obtain ⟨h1, h2, ⟨h3, h4, h5⟩, h6⟩ := (right_one hk).1 h
    simp only at hk h1 h2 h3 h4 h5 h6
    simp [NodeV.text, hk]
    omega
  · obtain ⟨h1, ⟨h3, h4, h5⟩, h6⟩ := (right_two hk).1 h
    simp only at hk h1 h3 h4 h5 h6
    have hu := rising_len h6
    simp [NodeV.text, hk, intsText_len]
    omega

/-! ### A reader: an eye at p, the result at o2, the variable at o3 -/
structure RdS (s s1 : AS) (p o2 o3 : Nat) (ce z cs : List AV) : Prop where
  le : (s.drop p).le s1
  eye : s1.objs p = some ce
  res : s1.objs o2 = some z
  var : s1.objs o3 = some cs
  n2 : s.objs o2 = none
  n3 : s.objs o3 = none
  p2 : p ≠ o2
  p3 : p ≠ o3
  d : o2 ≠ o3
theorem AS.drop_objs_none {s : AS} {p o : Nat} (h : s.objs o = none) : (s.drop p).objs o = none := by
  simp only [AS.drop, upd]; split
  · rfl
  · exact h
theorem AS.drop_self (s : AS) (p : Nat) : (s.drop p).objs p = none := by simp [AS.drop]
theorem RdS.setEye {s s1 : AS} {p o2 o3 : Nat} {ce z cs : List AV} (h : RdS s s1 p o2 o3 ce z cs) (ce' : List AV) : RdS s (s1.set p ce') p o2 o3 ce' z cs :=
  ⟨AS.le_set h.le (AS.drop_self _ _) _, AS.set_objs_same _ _ _, by rw [AS.set_objs_ne _ h.p2.symm]; exact h.res, by rw [AS.set_objs_ne _ h.p3.symm]; exact h.var, h.n2, h.n3, h.p2, h.p3, h.d⟩
theorem RdS.setRes {s s1 : AS} {p o2 o3 : Nat} {ce z cs : List AV} (h : RdS s s1 p o2 o3 ce z cs) (z' : List AV) : RdS s (s1.set o2 z') p o2 o3 ce z' cs :=
  ⟨AS.le_set h.le (AS.drop_objs_none h.n2) _, by rw [AS.set_objs_ne _ h.p2]; exact h.eye, AS.set_objs_same _ _ _, by rw [AS.set_objs_ne _ h.d.symm]; exact h.var, h.n2, h.n3, h.p2, h.p3, h.d⟩
theorem RdS.setVar {s s1 : AS} {p o2 o3 : Nat} {ce z cs : List AV} (h : RdS s s1 p o2 o3 ce z cs) (cs' : List AV) : RdS s (s1.set o3 cs') p o2 o3 ce z cs' :=
  ⟨AS.le_set h.le (AS.drop_objs_none h.n3) _, by rw [AS.set_objs_ne _ h.p3]; exact h.eye, by rw [AS.set_objs_ne _ h.d]; exact h.res, AS.set_objs_same _ _ _, h.n2, h.n3, h.p2, h.p3, h.d⟩
theorem RdS.gain {s s1 : AS} {p o2 o3 : Nat} {ce z cs : List AV} (h : RdS s s1 p o2 o3 ce z cs) {t : Nat} (ht : s.own t = none) (e : Nat) : RdS s (s1.gain t e) p o2 o3 ce z cs :=
  ⟨AS.le_gain h.le (by simpa [AS.drop] using ht) e, h.eye, h.res, h.var, h.n2, h.n3, h.p2, h.p3, h.d⟩
theorem RdS.out {s s1 : AS} {p o2 o3 : Nat} {ce z cs : List AV} (h : RdS s s1 p o2 o3 ce z cs) : (s.set p ce).le s1 := AS.set_le_of h.le h.eye
theorem RdS.own_none {s s1 : AS} {p o2 o3 : Nat} {ce z cs : List AV} (h : RdS s s1 p o2 o3 ce z cs) {t : Nat} (ht : s1.own t = none) : s.own t = none := by
  cases h0 : s.own t with
  | none => rfl
  | some e =>
    have := h.le.own t e (by simpa [AS.drop] using h0)
    rw [ht] at this
    cases this
/-- A slice of whole numbers that grows. -/
def IBuf (s0 s : AS) (x : AV) (l : List Int) : Prop := (x = nilS ∧ l = []) ∨ ∃ t e, x = intsV l (.own t e) ∧ s.own t = some e ∧ s0.own t = none
theorem IBuf.weak {s0 s : AS} {x : AV} {l : List Int} (h : IBuf s0 s x l) : x.weak (intsV l .any) := by
  rcases h with ⟨rfl, rfl⟩ | ⟨t, e, rfl, _, _⟩
  · exact AV.weak_nil
  · exact AV.weak_any
end Go.AM


set_option autoImplicit false
namespace Go.AM
open Go

/-! ### Rows of cells that stand for a list -/
def rowC {α : Type} (c : α → List AV) (l : List α) : List AV := (l.map c).flatten
theorem row_at {α : Type} {c : α → List AV} {k : Nat} (hk : ∀ a, (c a).length = k) {l : List α} {i : Nat} (h : i < l.length) : List.take k (List.drop (i * k) (rowC c l)) = c l[i] := by
  have := flatten_at (sz := k) (els := l.map c) (i := i) (by simpa using h) (by
    intro el hel
    obtain ⟨p, _, rfl⟩ := List.mem_map.1 hel
    exact hk p)
  unfold rowC
  rw [this]
  simp
theorem row_snoc {α : Type} {c : α → List AV} (l : List α) (a : α) : rowC c (l ++ [a]) = rowC c l ++ c a := by simp [rowC]
theorem IsTy.row {α : Type} {c : α → List AV} {ty : Ty} {k : Nat} {Q : α → Prop} (hel : ∀ el, IsTy ty el → ∃ a, el = c a ∧ Q a) {avs : List AV} (h : IsTy (.slice k ty) avs) :
    ∃ l : List α, avs = [.sl k l.length (rowC c l) .any] ∧ (∀ a ∈ l, Q a) ∧ l.length ≤ maxLen := by
  obtain ⟨els, rfl, hlen, hall⟩ := IsTy.rows h
  have key : ∀ els : List (List AV), (∀ el ∈ els, el.length = k ∧ IsTy ty el) → ∃ l : List α, els = l.map c ∧ ∀ a ∈ l, Q a := by
    intro els
    induction els with
    | nil => intro _; exact ⟨[], rfl, by simp⟩
    | cons e els ih =>
      intro h
      obtain ⟨l, rfl, hl⟩ := ih (fun el hel => h el (by simp [hel]))
      obtain ⟨_, h1⟩ := h e (by simp)
      obtain ⟨a, rfl, ha⟩ := hel e h1
      refine ⟨a :: l, rfl, ?_⟩
      intro b hb
      rcases List.mem_cons.1 hb with rfl | hb
      · exact ha
      · exact hl b hb
  obtain ⟨l, rfl, hl⟩ := key els hall
  exact ⟨l, by simp [rowC], hl, by simpa using hlen⟩

/-! ### Commits -/
def Pub (n : Nat) : Prop := 2 ≤ n ∧ n ≤ 2305843009213693949
instance (n : Nat) : Decidable (Pub n) := by unfold Pub; infer_instance
structure PropV where
  kind : Int
  leaf : Int
  name : List UInt8
  key : Nat
  init : Nat
  deriving DecidableEq
structure SealV where
  frm : Nat
  text : List UInt8
  deriving DecidableEq
structure StepV where
  key : Nat
  seals : List SealV
  deriving DecidableEq
structure PathV where
  key : Nat
  parent : List UInt8
  steps : List StepV
  deriving DecidableEq
structure CommitV where
  group : List UInt8
  epoch : Int
  sender : Int
  props : List PropV
  hasPath : Bool
  path : PathV
  confirm : List UInt8
  member : List UInt8
  deriving DecidableEq
def PropV.cells (p : PropV) : List AV := [.v (.int .i64 p.kind), .v (.int .i64 p.leaf), bytesV p.name .any, .v (.int .u64 p.key), .v (.int .u64 p.init)]
def SealV.cells (p : SealV) : List AV := [.v (.int .u64 p.frm), bytesV p.text .any]
def StepV.cells (p : StepV) : List AV := [.v (.int .u64 p.key), .sl 2 p.seals.length (rowC SealV.cells p.seals) .any]
def PathV.cells (p : PathV) : List AV := [.v (.int .u64 p.key), bytesV p.parent .any, .sl 2 p.steps.length (rowC StepV.cells p.steps) .any]
def CommitV.cells (c : CommitV) : List AV :=
  [bytesV c.group .any, .v (.int .i64 c.epoch), .v (.int .i64 c.sender), .sl 5 c.props.length (rowC PropV.cells c.props) .any, .v (.bool c.hasPath),
   .v (.int .u64 c.path.key), bytesV c.path.parent .any, .sl 2 c.path.steps.length (rowC StepV.cells c.path.steps) .any, bytesV c.confirm .any, bytesV c.member .any]

/-! what fits -/
def PropV.wf (p : PropV) : Prop := p.key < 2 ^ 64 ∧ p.init < 2 ^ 64
def SealV.wf (p : SealV) : Prop := p.frm < 2 ^ 64
def StepV.wf (p : StepV) : Prop := p.key < 2 ^ 64 ∧ (∀ x ∈ p.seals, x.wf) ∧ p.seals.length ≤ maxLen
def PathV.wf (p : PathV) : Prop := p.key < 2 ^ 64 ∧ (∀ x ∈ p.steps, x.wf) ∧ p.steps.length ≤ maxLen
def CommitV.wf (c : CommitV) : Prop := (∀ x ∈ c.props, x.wf) ∧ c.path.wf ∧ c.props.length ≤ maxLen

abbrev tyU : Ty := .int .u64
abbrev tyProp : Ty := .struct (.cons tyI (.cons tyI (.cons tyB (.cons tyU (.cons tyU .nil)))))
abbrev tySeal : Ty := .struct (.cons tyU (.cons tyB .nil))
abbrev tyStep : Ty := .struct (.cons tyU (.cons (.slice 2 tySeal) .nil))
abbrev tyPath : Ty := .struct (.cons tyU (.cons tyB (.cons (.slice 2 tyStep) .nil)))
abbrev tyCommit : Ty := .struct (.cons tyB (.cons tyI (.cons tyI (.cons (.slice 5 tyProp) (.cons .bool (.cons tyPath (.cons tyB (.cons tyB .nil))))))))

theorem isTy_u64 {x : List AV} (h : IsTy tyU x) : ∃ n : Nat, x = [.v (.int .u64 n)] ∧ n < 2 ^ 64 := by
  obtain ⟨a, rfl, ha⟩ := isTy_int h
  obtain ⟨n, rfl, hn⟩ := nat_u64 ha
  exact ⟨n, rfl, hn⟩
theorem IsTy.prop {x : List AV} (h : IsTy tyProp x) : ∃ p : PropV, x = p.cells ∧ p.wf := by
  obtain ⟨x1, y1, rfl, t1, h⟩ := isF_cons (isTy_struct h)
  obtain ⟨x2, y2, rfl, t2, h⟩ := isF_cons h
  obtain ⟨x3, y3, rfl, t3, h⟩ := isF_cons h
  obtain ⟨x4, y4, rfl, t4, h⟩ := isF_cons h
  obtain ⟨x5, y5, rfl, t5, h⟩ := isF_cons h
  obtain rfl := isF_nil h
  obtain ⟨n1, rfl, _⟩ := isTy_int t1
  obtain ⟨n2, rfl, _⟩ := isTy_int t2
  obtain ⟨l3, rfl, _⟩ := t3.bytes
  obtain ⟨n4, rfl, h4⟩ := isTy_u64 t4
  obtain ⟨n5, rfl, h5⟩ := isTy_u64 t5
  exact ⟨⟨n1, n2, l3, n4, n5⟩, rfl, h4, h5⟩
theorem IsTy.sealV {x : List AV} (h : IsTy tySeal x) : ∃ p : SealV, x = p.cells ∧ p.wf := by
  obtain ⟨x1, y1, rfl, t1, h⟩ := isF_cons (isTy_struct h)
  obtain ⟨x2, y2, rfl, t2, h⟩ := isF_cons h
  obtain rfl := isF_nil h
  obtain ⟨n1, rfl, h1⟩ := isTy_u64 t1
  obtain ⟨l2, rfl, _⟩ := t2.bytes
  exact ⟨⟨n1, l2⟩, rfl, h1⟩
theorem IsTy.stepV {x : List AV} (h : IsTy tyStep x) : ∃ p : StepV, x = p.cells ∧ p.wf := by
  obtain ⟨x1, y1, rfl, t1, h⟩ := isF_cons (isTy_struct h)
  obtain ⟨x2, y2, rfl, t2, h⟩ := isF_cons h
  obtain rfl := isF_nil h
  obtain ⟨n1, rfl, h1⟩ := isTy_u64 t1
  obtain ⟨l, rfl, hl, hm⟩ := IsTy.row (c := SealV.cells) (Q := SealV.wf) (fun el h => IsTy.sealV h) t2
  exact ⟨⟨n1, l⟩, rfl, h1, hl, hm⟩
theorem IsTy.pathV {x : List AV} (h : IsTy tyPath x) : ∃ p : PathV, x = p.cells ∧ p.wf := by
  obtain ⟨x1, y1, rfl, t1, h⟩ := isF_cons (isTy_struct h)
  obtain ⟨x2, y2, rfl, t2, h⟩ := isF_cons h
  obtain ⟨x3, y3, rfl, t3, h⟩ := isF_cons h
  obtain rfl := isF_nil h
  obtain ⟨n1, rfl, h1⟩ := isTy_u64 t1
  obtain ⟨l2, rfl, _⟩ := t2.bytes
  obtain ⟨l, rfl, hl, hm⟩ := IsTy.row (c := StepV.cells) (Q := StepV.wf) (fun el h => IsTy.stepV h) t3
  exact ⟨⟨n1, l2, l⟩, rfl, h1, hl, hm⟩
theorem IsTy.commit {x : List AV} (h : IsTy tyCommit x) : ∃ c : CommitV, x = c.cells ∧ c.wf := by
  obtain ⟨x1, y1, rfl, t1, h⟩ := isF_cons (isTy_struct h)
  obtain ⟨x2, y2, rfl, t2, h⟩ := isF_cons h
  obtain ⟨x3, y3, rfl, t3, h⟩ := isF_cons h
  obtain ⟨x4, y4, rfl, t4, h⟩ := isF_cons h
  obtain ⟨x5, y5, rfl, t5, h⟩ := isF_cons h
  obtain ⟨x6, y6, rfl, t6, h⟩ := isF_cons h
  obtain ⟨x7, y7, rfl, t7, h⟩ := isF_cons h
  obtain ⟨x8, y8, rfl, t8, h⟩ := isF_cons h
  obtain rfl := isF_nil h
  obtain ⟨l1, rfl, _⟩ := t1.bytes
  obtain ⟨n2, rfl, _⟩ := isTy_int t2
  obtain ⟨n3, rfl, _⟩ := isTy_int t3
  obtain ⟨l4, rfl, h4, m4⟩ := IsTy.row (c := PropV.cells) (Q := PropV.wf) (fun el h => IsTy.prop h) t4
  obtain ⟨b5, rfl⟩ : ∃ b, x5 = [.v (.bool b)] := t5
  obtain ⟨p6, rfl, h6⟩ := IsTy.pathV t6
  obtain ⟨l7, rfl, _⟩ := t7.bytes
  obtain ⟨l8, rfl, _⟩ := t8.bytes
  exact ⟨⟨l1, n2, n3, l4, b5, p6, l7, l8⟩, rfl, h4, h6, m4⟩

/-! what is right -/
def PropV.right (p : PropV) : Prop :=
  (p.kind = 1 ∧ p.leaf = 0 ∧ 1 ≤ p.name.length ∧ p.name.length ≤ 16 ∧ Pub p.key ∧ Pub p.init) ∨
  (p.kind = 2 ∧ 0 ≤ p.leaf ∧ p.leaf < 32 ∧ p.name.length = 0 ∧ Pub p.key ∧ p.init = 0) ∨
  (p.kind = 3 ∧ 0 ≤ p.leaf ∧ p.leaf < 32 ∧ p.name.length = 0 ∧ p.key = 0 ∧ p.init = 0)
def SealV.right (p : SealV) : Prop := Pub p.frm ∧ p.text.length = 48
def StepV.right (p : StepV) : Prop := (∀ x ∈ p.seals, x.right) ∧ Pub p.key ∧ p.seals.length ≤ 32
def PathV.right (p : PathV) : Prop := (∀ x ∈ p.steps, x.right) ∧ Pub p.key ∧ (p.parent.length = 0 ∨ p.parent.length = 32) ∧ p.steps.length ≤ 5
def PathV.none (p : PathV) : Prop := p.key = 0 ∧ p.parent.length = 0 ∧ p.steps.length = 0
def CommitV.pathed (c : CommitV) : Prop := (c.hasPath = true → c.path.right) ∧ (c.hasPath = false → c.path.none)
def CommitV.right (c : CommitV) : Prop :=
  (∀ x ∈ c.props, x.right) ∧ (1 ≤ c.group.length ∧ c.group.length ≤ 16) ∧ (0 ≤ c.epoch ∧ c.epoch ≤ 1048576) ∧ (0 ≤ c.sender ∧ c.sender < 32) ∧ c.props.length ≤ 16 ∧ c.pathed ∧ c.confirm.length = 32 ∧ c.member.length = 32
instance (p : PropV) : Decidable p.right := by unfold PropV.right; infer_instance
instance (p : SealV) : Decidable p.right := by unfold SealV.right; infer_instance
instance (p : StepV) : Decidable p.right := by unfold StepV.right; infer_instance
instance (p : PathV) : Decidable p.right := by unfold PathV.right; infer_instance
instance (p : PathV) : Decidable p.none := by unfold PathV.none; infer_instance
instance (c : CommitV) : Decidable c.pathed := by unfold CommitV.pathed; infer_instance
instance (c : CommitV) : Decidable c.right := by unfold CommitV.right; infer_instance

end Go.AM


set_option autoImplicit false
namespace Go.Proofs.Ytcnilmidfhpckaa
open Go Go.AM Go.Proofs

theorem RMsg149 : type_of% (And.intro (And.intro (And.intro (And.intro (And.intro @Try.underlying3 T.c3) (And.intro T.g3 T.b3)) (And.intro (And.intro T.z3 @Try.underlying5) (And.intro T.c5 T.g5))) (And.intro (And.intro (And.intro T.b5 T.z5) (And.intro @Try.underlying28 T.c28)) (And.intro (And.intro T.g28 T.b28) (And.intro T.z28 T.s28)))) Try.ntmps49) :=
  (And.intro (And.intro (And.intro (And.intro (And.intro @Try.underlying3 T.c3) (And.intro T.g3 T.b3)) (And.intro (And.intro T.z3 @Try.underlying5) (And.intro T.c5 T.g5))) (And.intro (And.intro (And.intro T.b5 T.z5) (And.intro @Try.underlying28 T.c28)) (And.intro (And.intro T.g28 T.b28) (And.intro T.z28 T.s28)))) Try.ntmps49)
theorem RMsg150 : type_of% (And.intro (And.intro (And.intro @Try.underlying3 T.c3) (And.intro T.g3 (And.intro T.b3 T.z3))) Try.ntmps50) :=
  (And.intro (And.intro (And.intro @Try.underlying3 T.c3) (And.intro T.g3 (And.intro T.b3 T.z3))) Try.ntmps50)
theorem RMsg148 : type_of% (And.intro (And.intro (And.intro (And.intro (And.intro (And.intro @Try.underlying3 T.c3) (And.intro T.g3 T.b3)) (And.intro (And.intro T.z3 @Try.underlying5) (And.intro T.c5 T.g5))) (And.intro (And.intro (And.intro T.b5 T.z5) (And.intro @Try.underlying28 T.c28)) (And.intro (And.intro T.g28 T.b28) (And.intro T.z28 (And.intro T.s28 @Try.underlying42))))) (And.intro (And.intro (And.intro (And.intro T.c42 T.g42) (And.intro T.b42 T.z42)) (And.intro (And.intro @Try.underlying80 T.c80) (And.intro T.g80 (And.intro T.b80 T.z80)))) (And.intro (And.intro (And.intro T.h80 T.f80_0) (And.intro T.f80_1 T.f80_2)) (And.intro (And.intro T.f80_3 T.f80_4) (And.intro T.k99 (And.intro T.k50 T.k49)))))) Try.ntmps48) :=
  (And.intro (And.intro (And.intro (And.intro (And.intro (And.intro @Try.underlying3 T.c3) (And.intro T.g3 T.b3)) (And.intro (And.intro T.z3 @Try.underlying5) (And.intro T.c5 T.g5))) (And.intro (And.intro (And.intro T.b5 T.z5) (And.intro @Try.underlying28 T.c28)) (And.intro (And.intro T.g28 T.b28) (And.intro T.z28 (And.intro T.s28 @Try.underlying42))))) (And.intro (And.intro (And.intro (And.intro T.c42 T.g42) (And.intro T.b42 T.z42)) (And.intro (And.intro @Try.underlying80 T.c80) (And.intro T.g80 (And.intro T.b80 T.z80)))) (And.intro (And.intro (And.intro T.h80 T.f80_0) (And.intro T.f80_1 T.f80_2)) (And.intro (And.intro T.f80_3 T.f80_4) (And.intro T.k99 (And.intro T.k50 T.k49)))))) Try.ntmps48)

variable {Γ : Nat → List AV}

theorem pub_bool (n : Nat) : (decide (2 ≤ (n : Int)) && decide ((n : Int) ≤ 2305843009213693949)) = decide (Pub n) := by
  rw [← Bool.decide_and]
  apply decide_eq_decide.2
  unfold Pub
  omega
theorem rightP_calls (n : Nat) (s : AS) : ACalls Try.prog Γ 99 [.v (.int .u64 n)] s (fun r s' => r = .v (.bool (decide (Pub n))) ∧ s' = s) := by
  have := powerRight_calls (Γ := Γ) n s
  rwa [pub_bool] at this
theorem refRightP_calls (n : Nat) (s : AS) : ACalls Try.prog Γ 54 [.v (.int .u64 n)] s (fun r s' => r = .v (.bool (decide (Pub n))) ∧ s' = s) := by
  have := refRight07_calls (Γ := Γ) n s
  rwa [pub_bool] at this

theorem named_calls (l : List UInt8) (s : AS) : ACalls Try.prog Γ 49 [bytesV l .any] s (fun r s' => r = .v (.bool (decide (1 ≤ l.length ∧ l.length ≤ 16))) ∧ s' = s) := by
  refine acalls_body Try.func49 rfl Try.ntmps49 Try.results49 (by simp) ?_
  refine awp_reg_seq ?_
  intro K hK
  simp only [↓DN, UP, DF, qSh, qCv, qIA, qIx, qSl, qBu, qCe, qOn, reduceCtorEq, ↓reduceIte, nLT, nLE, nEQ, nAdd, nMul, nPow, nSub, zLT, zLE, zNat, RMsg149]
  refine hK _ _ ?_
  clear hK K
  rcases ff2 (decide ((1 : Int) ≤ (l.length : Int))) (decide ((l.length : Int) ≤ 16)) with hd | hd | hd
  all_goals
    refine awp_reg_seq ?_
    intro K hK
    simp only [↓DN, UP, DF, qSh, qCv, qIA, qIx, qSl, qBu, qCe, qOn, reduceCtorEq, ↓reduceIte, nLT, nLE, nEQ, nAdd, nMul, nPow, nSub, zLT, zLE, zNat, RMsg149, hd]
    refine hK _ _ ?_
    clear hK K
    refine awp_ret ?_
    simp only [retQ, AEnds, aresL, ares, List.toList_toArray, ↓upd_same]; try simp only [↓DN, UP, DF, qSh, qCv, qIA, qIx, qSl, qBu, qCe, qOn, reduceCtorEq, ↓reduceIte, nLT, nLE, nEQ, nAdd, nMul, nPow, nSub, zLT, zLE, zNat, RMsg149, DT]
    refine ⟨_, _, AV.weak.refl _, AS.le.refl _, ?_, rfl⟩
    simp only [decide_eq_true_eq, decide_eq_false_iff_not] at hd
    congr 2
    first
      | exact (decide_eq_true (by omega)).symm
      | exact (decide_eq_false (by omega)).symm

theorem leaf_calls (n : Int) (s : AS) : ACalls Try.prog Γ 50 [.v (.int .i64 n)] s (fun r s' => r = .v (.bool (decide (0 ≤ n ∧ n < 32))) ∧ s' = s) := by
  refine acalls_body Try.func50 rfl Try.ntmps50 Try.results50 (by simp) ?_
  refine awp_reg_seq ?_
  intro K hK
  simp only [↓DN, UP, DF, qSh, qCv, qIA, qIx, qSl, qBu, qCe, qOn, reduceCtorEq, ↓reduceIte, nLT, nLE, nEQ, nAdd, nMul, nPow, nSub, zLT, zLE, zNat, RMsg150]
  refine hK _ _ ?_
  clear hK K
  rcases ff2 (decide (0 ≤ n)) (decide (n < 32)) with hd | hd | hd
  all_goals
    refine awp_reg_seq ?_
    intro K hK
    simp only [↓DN, UP, DF, qSh, qCv, qIA, qIx, qSl, qBu, qCe, qOn, reduceCtorEq, ↓reduceIte, nLT, nLE, nEQ, nAdd, nMul, nPow, nSub, zLT, zLE, zNat, RMsg150, hd]
    refine hK _ _ ?_
    clear hK K
    refine awp_ret ?_
    simp only [retQ, AEnds, aresL, ares, List.toList_toArray, ↓upd_same]; try simp only [↓DN, UP, DF, qSh, qCv, qIA, qIx, qSl, qBu, qCe, qOn, reduceCtorEq, ↓reduceIte, nLT, nLE, nEQ, nAdd, nMul, nPow, nSub, zLT, zLE, zNat, RMsg150, DT]
    refine ⟨_, _, AV.weak.refl _, AS.le.refl _, ?_, rfl⟩
    simp only [decide_eq_true_eq, decide_eq_false_iff_not] at hd
    congr 2
    first
      | exact (decide_eq_true (by omega)).symm
      | exact (decide_eq_false (by omega)).symm

theorem yesI {a b : Int} (h : a = b) : (a == b) = true := by simpa using h
theorem notI {a b : Int} (h : a ≠ b) : (a == b) = false := by simpa using h
theorem nat0 {a : Nat} (h : a = 0) : ((a : Int) == 0) = true := by subst h; rfl
theorem nat0F {a : Nat} (h : a ≠ 0) : ((a : Int) == 0) = false := by simpa using h
set_option maxHeartbeats 4000000 in
theorem proper_calls (p : PropV) (s : AS) : ACalls Try.prog Γ 48 [.agg p.cells] s (fun r s' => r = .v (.bool (decide p.right)) ∧ s' = s) := by
  refine acalls_body Try.func48 rfl Try.ntmps48 Try.results48 (by simp) ?_
  obtain ⟨k, l, nm, key, ini⟩ := p
  unfold PropV.cells
  refine awp_reg_frz 1 (by simp [dsts]) ?_
  intro K hK
  simp only [↓AXq_nil, ↓AXq_cons, pval, DX, Nat.reduceBEq, ↓DN, UP, DF, qSh, qCv, qIA, qIx, qSl, qBu, qCe, qOn, reduceCtorEq, ↓reduceIte, nLT, nLE, nEQ, nAdd, nMul, nPow, nSub, zLT, zLE, zNat, RMsg148]
  intro o ho
  refine hK _ _ o _ (by simp only [upd, nEQ, ↓reduceIte]) ho ?_
  clear hK K ho
  refine awp_seq_k ?_
  intro K hK
  refine awp_reg_seq ?_
  intro K hK
  simp only [↓DN, UP, DF, qSh, qCv, qIA, qIx, qSl, qBu, qCe, qOn, reduceCtorEq, ↓reduceIte, nLT, nLE, nEQ, nAdd, nMul, nPow, nSub, zLT, zLE, zNat, RMsg148]
  refine hK _ _ ?_
  clear hK K
  refine awp_block ?_
  by_cases hk1 : k = 1
  · refine awp_reg_seq ?_
    intro K hK
    simp only [↓DN, UP, DF, qSh, qCv, qIA, qIx, qSl, qBu, qCe, qOn, reduceCtorEq, ↓reduceIte, nLT, nLE, nEQ, nAdd, nMul, nPow, nSub, zLT, zLE, zNat, RMsg148, yesI hk1]
    refine hK _ _ ?_
    clear hK K
    refine awp_cond_k ?_
    intro X Y hX hY
    simp only [↓DN, UP, DF, qSh, qCv, qIA, qIx, qSl, qBu, qCe, qOn, reduceCtorEq, ↓reduceIte, nLT, nLE, nEQ, nAdd, nMul, nPow, nSub, zLT, zLE, zNat, RMsg148, DB]
    refine hX ?_
    clear hX hY X Y
    by_cases h1 : l = 0
    · refine awp_reg_seq ?_
      intro K hK
      simp only [↓DN, UP, DF, qSh, qCv, qIA, qIx, qSl, qBu, qCe, qOn, reduceCtorEq, ↓reduceIte, nLT, nLE, nEQ, nAdd, nMul, nPow, nSub, zLT, zLE, zNat, RMsg148, yesI h1]
      refine acallk (named_calls nm _) ?_
      rintro r s1 ⟨rfl, rfl⟩
      by_cases h2 : 1 ≤ nm.length ∧ nm.length ≤ 16
      · simp only [↓AXq_nil, ↓AXq_cons, pval, DX, Nat.reduceBEq, ↓DN, UP, DF, qSh, qCv, qIA, qIx, qSl, qBu, qCe, qOn, reduceCtorEq, ↓reduceIte, nLT, nLE, nEQ, nAdd, nMul, nPow, nSub, zLT, zLE, zNat, RMsg148, decide_eq_true h2]
        refine acallk (rightP_calls key _) ?_
        rintro r s2 ⟨rfl, rfl⟩
        by_cases h3 : Pub key
        · simp only [↓AXq_nil, ↓AXq_cons, pval, DX, Nat.reduceBEq, ↓DN, UP, DF, qSh, qCv, qIA, qIx, qSl, qBu, qCe, qOn, reduceCtorEq, ↓reduceIte, nLT, nLE, nEQ, nAdd, nMul, nPow, nSub, zLT, zLE, zNat, RMsg148, decide_eq_true h3]
          refine acallk (rightP_calls ini _) ?_
          rintro r s3 ⟨rfl, rfl⟩
          simp only [↓AXq_nil, ↓AXq_cons, pval, DX, Nat.reduceBEq, ↓DN, UP, DF, qSh, qCv, qIA, qIx, qSl, qBu, qCe, qOn, reduceCtorEq, ↓reduceIte, nLT, nLE, nEQ, nAdd, nMul, nPow, nSub, zLT, zLE, zNat, RMsg148]
          refine hK _ _ ?_
          clear hK K
          refine awp_ret ?_
          try simp only [thenQ, blockQ]
          simp only [retQ, AEnds, aresL, ares, List.toList_toArray, ↓upd_same]; try simp only [↓DN, UP, DF, qSh, qCv, qIA, qIx, qSl, qBu, qCe, qOn, reduceCtorEq, ↓reduceIte, nLT, nLE, nEQ, nAdd, nMul, nPow, nSub, zLT, zLE, zNat, RMsg148, DT]
          exact ⟨_, _, AV.weak.refl _, AS.le.refl _, by simp [PropV.right, hk1, h1, h2, h3], rfl⟩
        · simp only [↓AXq_nil, ↓AXq_cons, pval, DX, Nat.reduceBEq, ↓DN, UP, DF, qSh, qCv, qIA, qIx, qSl, qBu, qCe, qOn, reduceCtorEq, ↓reduceIte, nLT, nLE, nEQ, nAdd, nMul, nPow, nSub, zLT, zLE, zNat, RMsg148, decide_eq_false h3]
          refine hK _ _ ?_
          clear hK K
          refine awp_ret ?_
          try simp only [thenQ, blockQ]
          simp only [retQ, AEnds, aresL, ares, List.toList_toArray, ↓upd_same]; try simp only [↓DN, UP, DF, qSh, qCv, qIA, qIx, qSl, qBu, qCe, qOn, reduceCtorEq, ↓reduceIte, nLT, nLE, nEQ, nAdd, nMul, nPow, nSub, zLT, zLE, zNat, RMsg148, DT]
          exact ⟨_, _, AV.weak.refl _, AS.le.refl _, by simp [PropV.right, hk1, h3], rfl⟩
      · simp only [↓AXq_nil, ↓AXq_cons, pval, DX, Nat.reduceBEq, ↓DN, UP, DF, qSh, qCv, qIA, qIx, qSl, qBu, qCe, qOn, reduceCtorEq, ↓reduceIte, nLT, nLE, nEQ, nAdd, nMul, nPow, nSub, zLT, zLE, zNat, RMsg148, decide_eq_false h2]
        refine hK _ _ ?_
        clear hK K
        refine awp_ret ?_
        try simp only [thenQ, blockQ]
        simp only [retQ, AEnds, aresL, ares, List.toList_toArray, ↓upd_same]; try simp only [↓DN, UP, DF, qSh, qCv, qIA, qIx, qSl, qBu, qCe, qOn, reduceCtorEq, ↓reduceIte, nLT, nLE, nEQ, nAdd, nMul, nPow, nSub, zLT, zLE, zNat, RMsg148, DT]
        exact ⟨_, _, AV.weak.refl _, AS.le.refl _, by simp [PropV.right, hk1]; omega, rfl⟩
    · refine awp_reg_seq ?_
      intro K hK
      simp only [↓DN, UP, DF, qSh, qCv, qIA, qIx, qSl, qBu, qCe, qOn, reduceCtorEq, ↓reduceIte, nLT, nLE, nEQ, nAdd, nMul, nPow, nSub, zLT, zLE, zNat, RMsg148, notI h1]
      refine hK _ _ ?_
      clear hK K
      refine awp_ret ?_
      try simp only [thenQ, blockQ]
      simp only [retQ, AEnds, aresL, ares, List.toList_toArray, ↓upd_same]; try simp only [↓DN, UP, DF, qSh, qCv, qIA, qIx, qSl, qBu, qCe, qOn, reduceCtorEq, ↓reduceIte, nLT, nLE, nEQ, nAdd, nMul, nPow, nSub, zLT, zLE, zNat, RMsg148, DT]
      exact ⟨_, _, AV.weak.refl _, AS.le.refl _, by simp [PropV.right, hk1, h1], rfl⟩
  · refine awp_reg_seq ?_
    intro K hK
    simp only [↓DN, UP, DF, qSh, qCv, qIA, qIx, qSl, qBu, qCe, qOn, reduceCtorEq, ↓reduceIte, nLT, nLE, nEQ, nAdd, nMul, nPow, nSub, zLT, zLE, zNat, RMsg148, notI hk1]
    refine hK _ _ ?_
    clear hK K
    refine awp_cond_k ?_
    intro X Y hX hY
    simp only [↓DN, UP, DF, qSh, qCv, qIA, qIx, qSl, qBu, qCe, qOn, reduceCtorEq, ↓reduceIte, nLT, nLE, nEQ, nAdd, nMul, nPow, nSub, zLT, zLE, zNat, RMsg148, DB]
    refine hY ?_
    clear hX hY X Y
    by_cases hk2 : k = 2
    · refine awp_reg_seq ?_
      intro K hK
      simp only [↓DN, UP, DF, qSh, qCv, qIA, qIx, qSl, qBu, qCe, qOn, reduceCtorEq, ↓reduceIte, nLT, nLE, nEQ, nAdd, nMul, nPow, nSub, zLT, zLE, zNat, RMsg148, yesI hk2]
      refine hK _ _ ?_
      clear hK K
      refine awp_cond_k ?_
      intro X Y hX hY
      simp only [↓DN, UP, DF, qSh, qCv, qIA, qIx, qSl, qBu, qCe, qOn, reduceCtorEq, ↓reduceIte, nLT, nLE, nEQ, nAdd, nMul, nPow, nSub, zLT, zLE, zNat, RMsg148, DB]
      refine hX ?_
      clear hX hY X Y
      refine awp_reg_seq ?_
      intro K hK
      simp only [↓DN, UP, DF, qSh, qCv, qIA, qIx, qSl, qBu, qCe, qOn, reduceCtorEq, ↓reduceIte, nLT, nLE, nEQ, nAdd, nMul, nPow, nSub, zLT, zLE, zNat, RMsg148]
      refine acallk (leaf_calls l _) ?_
      rintro r s1 ⟨rfl, rfl⟩
      by_cases h1 : 0 ≤ l ∧ l < 32
      · by_cases h2 : nm.length = 0
        · simp only [↓AXq_nil, ↓AXq_cons, pval, DX, Nat.reduceBEq, ↓DN, UP, DF, qSh, qCv, qIA, qIx, qSl, qBu, qCe, qOn, reduceCtorEq, ↓reduceIte, nLT, nLE, nEQ, nAdd, nMul, nPow, nSub, zLT, zLE, zNat, RMsg148, decide_eq_true h1, nat0 h2]
          refine acallk (rightP_calls key _) ?_
          rintro r s2 ⟨rfl, rfl⟩
          by_cases h3 : Pub key
          · by_cases h4 : ini = 0
            · simp only [↓AXq_nil, ↓AXq_cons, pval, DX, Nat.reduceBEq, ↓DN, UP, DF, qSh, qCv, qIA, qIx, qSl, qBu, qCe, qOn, reduceCtorEq, ↓reduceIte, nLT, nLE, nEQ, nAdd, nMul, nPow, nSub, zLT, zLE, zNat, RMsg148, decide_eq_true h3, nat0 h4]
              refine hK _ _ ?_
              clear hK K
              refine awp_ret ?_
              try simp only [thenQ, blockQ]
              simp only [retQ, AEnds, aresL, ares, List.toList_toArray, ↓upd_same]; try simp only [↓DN, UP, DF, qSh, qCv, qIA, qIx, qSl, qBu, qCe, qOn, reduceCtorEq, ↓reduceIte, nLT, nLE, nEQ, nAdd, nMul, nPow, nSub, zLT, zLE, zNat, RMsg148, DT]
              exact ⟨_, _, AV.weak.refl _, AS.le.refl _, by simp [PropV.right, hk2, h1, h3, h4, List.eq_nil_of_length_eq_zero h2], rfl⟩
            · simp only [↓AXq_nil, ↓AXq_cons, pval, DX, Nat.reduceBEq, ↓DN, UP, DF, qSh, qCv, qIA, qIx, qSl, qBu, qCe, qOn, reduceCtorEq, ↓reduceIte, nLT, nLE, nEQ, nAdd, nMul, nPow, nSub, zLT, zLE, zNat, RMsg148, decide_eq_true h3, nat0F h4]
              refine hK _ _ ?_
              clear hK K
              refine awp_ret ?_
              try simp only [thenQ, blockQ]
              simp only [retQ, AEnds, aresL, ares, List.toList_toArray, ↓upd_same]; try simp only [↓DN, UP, DF, qSh, qCv, qIA, qIx, qSl, qBu, qCe, qOn, reduceCtorEq, ↓reduceIte, nLT, nLE, nEQ, nAdd, nMul, nPow, nSub, zLT, zLE, zNat, RMsg148, DT]
              exact ⟨_, _, AV.weak.refl _, AS.le.refl _, by simp [PropV.right, hk2, h4], rfl⟩
          · simp only [↓AXq_nil, ↓AXq_cons, pval, DX, Nat.reduceBEq, ↓DN, UP, DF, qSh, qCv, qIA, qIx, qSl, qBu, qCe, qOn, reduceCtorEq, ↓reduceIte, nLT, nLE, nEQ, nAdd, nMul, nPow, nSub, zLT, zLE, zNat, RMsg148, decide_eq_false h3]
            refine hK _ _ ?_
            clear hK K
            refine awp_ret ?_
            try simp only [thenQ, blockQ]
            simp only [retQ, AEnds, aresL, ares, List.toList_toArray, ↓upd_same]; try simp only [↓DN, UP, DF, qSh, qCv, qIA, qIx, qSl, qBu, qCe, qOn, reduceCtorEq, ↓reduceIte, nLT, nLE, nEQ, nAdd, nMul, nPow, nSub, zLT, zLE, zNat, RMsg148, DT]
            exact ⟨_, _, AV.weak.refl _, AS.le.refl _, by simp [PropV.right, hk2, h3], rfl⟩
        · simp only [↓AXq_nil, ↓AXq_cons, pval, DX, Nat.reduceBEq, ↓DN, UP, DF, qSh, qCv, qIA, qIx, qSl, qBu, qCe, qOn, reduceCtorEq, ↓reduceIte, nLT, nLE, nEQ, nAdd, nMul, nPow, nSub, zLT, zLE, zNat, RMsg148, decide_eq_true h1, nat0F h2]
          refine hK _ _ ?_
          clear hK K
          refine awp_ret ?_
          try simp only [thenQ, blockQ]
          simp only [retQ, AEnds, aresL, ares, List.toList_toArray, ↓upd_same]; try simp only [↓DN, UP, DF, qSh, qCv, qIA, qIx, qSl, qBu, qCe, qOn, reduceCtorEq, ↓reduceIte, nLT, nLE, nEQ, nAdd, nMul, nPow, nSub, zLT, zLE, zNat, RMsg148, DT]
          exact ⟨_, _, AV.weak.refl _, AS.le.refl _, by simp [PropV.right, hk2]; intro _ _ h; exact absurd (by simp [h]) h2, rfl⟩
      · simp only [↓AXq_nil, ↓AXq_cons, pval, DX, Nat.reduceBEq, ↓DN, UP, DF, qSh, qCv, qIA, qIx, qSl, qBu, qCe, qOn, reduceCtorEq, ↓reduceIte, nLT, nLE, nEQ, nAdd, nMul, nPow, nSub, zLT, zLE, zNat, RMsg148, decide_eq_false h1]
        refine hK _ _ ?_
        clear hK K
        refine awp_ret ?_
        try simp only [thenQ, blockQ]
        simp only [retQ, AEnds, aresL, ares, List.toList_toArray, ↓upd_same]; try simp only [↓DN, UP, DF, qSh, qCv, qIA, qIx, qSl, qBu, qCe, qOn, reduceCtorEq, ↓reduceIte, nLT, nLE, nEQ, nAdd, nMul, nPow, nSub, zLT, zLE, zNat, RMsg148, DT]
        exact ⟨_, _, AV.weak.refl _, AS.le.refl _, by simp [PropV.right, hk2]; omega, rfl⟩
    · refine awp_reg_seq ?_
      intro K hK
      simp only [↓DN, UP, DF, qSh, qCv, qIA, qIx, qSl, qBu, qCe, qOn, reduceCtorEq, ↓reduceIte, nLT, nLE, nEQ, nAdd, nMul, nPow, nSub, zLT, zLE, zNat, RMsg148, notI hk2]
      refine hK _ _ ?_
      clear hK K
      refine awp_cond_k ?_
      intro X Y hX hY
      simp only [↓DN, UP, DF, qSh, qCv, qIA, qIx, qSl, qBu, qCe, qOn, reduceCtorEq, ↓reduceIte, nLT, nLE, nEQ, nAdd, nMul, nPow, nSub, zLT, zLE, zNat, RMsg148, DB]
      refine hY ?_
      clear hX hY X Y
      by_cases hk3 : k = 3
      · refine awp_reg_seq ?_
        intro K hK
        simp only [↓DN, UP, DF, qSh, qCv, qIA, qIx, qSl, qBu, qCe, qOn, reduceCtorEq, ↓reduceIte, nLT, nLE, nEQ, nAdd, nMul, nPow, nSub, zLT, zLE, zNat, RMsg148, yesI hk3]
        refine hK _ _ ?_
        clear hK K
        refine awp_cond_k ?_
        intro X Y hX hY
        simp only [↓DN, UP, DF, qSh, qCv, qIA, qIx, qSl, qBu, qCe, qOn, reduceCtorEq, ↓reduceIte, nLT, nLE, nEQ, nAdd, nMul, nPow, nSub, zLT, zLE, zNat, RMsg148, DB]
        refine hX ?_
        clear hX hY X Y
        refine awp_reg_seq ?_
        intro K hK
        simp only [↓DN, UP, DF, qSh, qCv, qIA, qIx, qSl, qBu, qCe, qOn, reduceCtorEq, ↓reduceIte, nLT, nLE, nEQ, nAdd, nMul, nPow, nSub, zLT, zLE, zNat, RMsg148]
        refine acallk (leaf_calls l _) ?_
        rintro r s1 ⟨rfl, rfl⟩
        by_cases h1 : 0 ≤ l ∧ l < 32
        · rcases ff3 ((nm.length : Int) == 0) ((key : Int) == 0) ((ini : Int) == 0) with hd | hd | hd | hd
          all_goals
            simp only [↓AXq_nil, ↓AXq_cons, pval, DX, Nat.reduceBEq, ↓DN, UP, DF, qSh, qCv, qIA, qIx, qSl, qBu, qCe, qOn, reduceCtorEq, ↓reduceIte, nLT, nLE, nEQ, nAdd, nMul, nPow, nSub, zLT, zLE, zNat, RMsg148, decide_eq_true h1, hd]
            refine hK _ _ ?_
            clear hK K
            refine awp_ret ?_
            try simp only [thenQ, blockQ]
            simp only [retQ, AEnds, aresL, ares, List.toList_toArray, ↓upd_same]; try simp only [↓DN, UP, DF, qSh, qCv, qIA, qIx, qSl, qBu, qCe, qOn, reduceCtorEq, ↓reduceIte, nLT, nLE, nEQ, nAdd, nMul, nPow, nSub, zLT, zLE, zNat, RMsg148, DT]
            refine ⟨_, _, AV.weak.refl _, AS.le.refl _, ?_, rfl⟩
            simp only [beq_iff_eq, beq_eq_false_iff_ne, ne_eq] at hd
            congr 2
            symm
            first
              | exact decide_eq_true (by unfold PropV.right; simp only; omega)
              | exact decide_eq_false (by unfold PropV.right; simp only; omega)
        · simp only [↓AXq_nil, ↓AXq_cons, pval, DX, Nat.reduceBEq, ↓DN, UP, DF, qSh, qCv, qIA, qIx, qSl, qBu, qCe, qOn, reduceCtorEq, ↓reduceIte, nLT, nLE, nEQ, nAdd, nMul, nPow, nSub, zLT, zLE, zNat, RMsg148, decide_eq_false h1]
          refine hK _ _ ?_
          clear hK K
          refine awp_ret ?_
          try simp only [thenQ, blockQ]
          simp only [retQ, AEnds, aresL, ares, List.toList_toArray, ↓upd_same]; try simp only [↓DN, UP, DF, qSh, qCv, qIA, qIx, qSl, qBu, qCe, qOn, reduceCtorEq, ↓reduceIte, nLT, nLE, nEQ, nAdd, nMul, nPow, nSub, zLT, zLE, zNat, RMsg148, DT]
          exact ⟨_, _, AV.weak.refl _, AS.le.refl _, by simp [PropV.right, hk3]; omega, rfl⟩
      · refine awp_reg_seq ?_
        intro K hK
        simp only [↓DN, UP, DF, qSh, qCv, qIA, qIx, qSl, qBu, qCe, qOn, reduceCtorEq, ↓reduceIte, nLT, nLE, nEQ, nAdd, nMul, nPow, nSub, zLT, zLE, zNat, RMsg148, notI hk3]
        refine hK _ _ ?_
        clear hK K
        refine awp_cond_k ?_
        intro X Y hX hY
        simp only [↓DN, UP, DF, qSh, qCv, qIA, qIx, qSl, qBu, qCe, qOn, reduceCtorEq, ↓reduceIte, nLT, nLE, nEQ, nAdd, nMul, nPow, nSub, zLT, zLE, zNat, RMsg148, DB]
        refine hY ?_
        clear hX hY X Y
        refine awp_skip ?_
        simp only [blockQ, thenQ, if_true, if_false]
        refine hK _ _ ?_
        clear hK K
        refine awp_reg_seq ?_
        intro K hK
        simp only [↓DN, UP, DF, qSh, qCv, qIA, qIx, qSl, qBu, qCe, qOn, reduceCtorEq, ↓reduceIte, nLT, nLE, nEQ, nAdd, nMul, nPow, nSub, zLT, zLE, zNat, RMsg148]
        refine hK _ _ ?_
        clear hK K
        refine awp_ret ?_
        try simp only [thenQ, blockQ]
        simp only [retQ, AEnds, aresL, ares, List.toList_toArray, ↓upd_same]; try simp only [↓DN, UP, DF, qSh, qCv, qIA, qIx, qSl, qBu, qCe, qOn, reduceCtorEq, ↓reduceIte, nLT, nLE, nEQ, nAdd, nMul, nPow, nSub, zLT, zLE, zNat, RMsg148, DT]
        exact ⟨_, _, AV.weak.refl _, AS.le.refl _, by simp [PropV.right, hk1, hk2, hk3], rfl⟩

end Go.Proofs.Ytcnilmidfhpckaa


set_option autoImplicit false
namespace Go.Proofs.Ytcnilmidfhpckaa
open Go Go.AM Go.Proofs

theorem RMsg252 : type_of% (And.intro (And.intro (And.intro (And.intro (And.intro (And.intro @Try.underlying3 T.c3) (And.intro T.g3 T.b3)) (And.intro (And.intro T.z3 @Try.underlying5) (And.intro T.c5 T.g5))) (And.intro (And.intro (And.intro T.b5 T.z5) (And.intro @Try.underlying28 T.c28)) (And.intro (And.intro T.g28 T.b28) (And.intro T.z28 T.s28)))) (And.intro (And.intro (And.intro (And.intro @Try.underlying42 T.c42) (And.intro T.g42 T.b42)) (And.intro (And.intro T.z42 @Try.underlying80) (And.intro T.c80 T.g80))) (And.intro (And.intro (And.intro T.b80 T.z80) (And.intro T.h80 T.f80_0)) (And.intro (And.intro T.f80_1 T.f80_2) (And.intro T.f80_3 (And.intro T.f80_4 T.k54)))))) Try.ntmps52) :=
  (And.intro (And.intro (And.intro (And.intro (And.intro (And.intro @Try.underlying3 T.c3) (And.intro T.g3 T.b3)) (And.intro (And.intro T.z3 @Try.underlying5) (And.intro T.c5 T.g5))) (And.intro (And.intro (And.intro T.b5 T.z5) (And.intro @Try.underlying28 T.c28)) (And.intro (And.intro T.g28 T.b28) (And.intro T.z28 T.s28)))) (And.intro (And.intro (And.intro (And.intro @Try.underlying42 T.c42) (And.intro T.g42 T.b42)) (And.intro (And.intro T.z42 @Try.underlying80) (And.intro T.c80 T.g80))) (And.intro (And.intro (And.intro T.b80 T.z80) (And.intro T.h80 T.f80_0)) (And.intro (And.intro T.f80_1 T.f80_2) (And.intro T.f80_3 (And.intro T.f80_4 T.k54)))))) Try.ntmps52)

variable {Γ : Nat → List AV}

theorem neI {a b : Int} (h : a ≠ b) : (a != b) = true := by simpa using h
theorem eqI {a b : Int} (h : a = b) : (a != b) = false := by simpa using h
theorem ne0N {a : Nat} (h : a ≠ 0) : ((a : Int) != 0) = true := by simpa using h
theorem eq0N {a : Nat} (h : a = 0) : ((a : Int) != 0) = false := by subst h; rfl

set_option maxHeartbeats 4000000 in
theorem refProper_calls (p : PropV) (s : AS) : ACalls Try.prog Γ 52 [.agg p.cells] s (fun r s' => r = .v (.bool (decide p.right)) ∧ s' = s) := by
  refine acalls_body Try.func52 rfl Try.ntmps52 Try.results52 (by simp) ?_
  obtain ⟨k, l, nm, key, ini⟩ := p
  unfold PropV.cells
  refine awp_reg_frz 1 (by simp [dsts]) ?_
  intro K hK
  simp only [↓AXq_nil, ↓AXq_cons, pval, DX, Nat.reduceBEq, ↓DN, UP, DF, qSh, qCv, qIA, qIx, qSl, qBu, qCe, qOn, reduceCtorEq, ↓reduceIte, nLT, nLE, nEQ, nAdd, nMul, nPow, nSub, zLT, zLE, zNat, RMsg252]
  intro o ho
  refine hK _ _ o _ (by simp only [upd, nEQ, ↓reduceIte]) ho ?_
  clear hK K ho
  refine awp_seq_k ?_
  intro K hK
  by_cases hk1 : k = 1
  · refine awp_reg_seq ?_
    intro K hK
    simp only [↓DN, UP, DF, qSh, qCv, qIA, qIx, qSl, qBu, qCe, qOn, reduceCtorEq, ↓reduceIte, nLT, nLE, nEQ, nAdd, nMul, nPow, nSub, zLT, zLE, zNat, RMsg252, yesI hk1]
    refine hK _ _ ?_
    clear hK K
    refine awp_cond_k ?_
    intro X Y hX hY
    simp only [↓DN, UP, DF, qSh, qCv, qIA, qIx, qSl, qBu, qCe, qOn, reduceCtorEq, ↓reduceIte, nLT, nLE, nEQ, nAdd, nMul, nPow, nSub, zLT, zLE, zNat, RMsg252, DB]
    refine hX ?_
    clear hX hY X Y
    rcases ff3 (l == 0) (decide ((1 : Int) ≤ (nm.length : Int))) (decide ((nm.length : Int) ≤ 16)) with hd | hd | hd | hd
    case inr.inr.inr =>
      refine awp_reg_seq ?_
      intro K hK
      simp only [↓DN, UP, DF, qSh, qCv, qIA, qIx, qSl, qBu, qCe, qOn, reduceCtorEq, ↓reduceIte, nLT, nLE, nEQ, nAdd, nMul, nPow, nSub, zLT, zLE, zNat, RMsg252, hd]
      refine acallk (refRightP_calls key _) ?_
      rintro r s2 ⟨rfl, rfl⟩
      simp only [beq_iff_eq, decide_eq_true_eq] at hd
      obtain ⟨h1, h2, h2'⟩ := hd
      by_cases h3 : Pub key
      · simp only [↓AXq_nil, ↓AXq_cons, pval, DX, Nat.reduceBEq, ↓DN, UP, DF, qSh, qCv, qIA, qIx, qSl, qBu, qCe, qOn, reduceCtorEq, ↓reduceIte, nLT, nLE, nEQ, nAdd, nMul, nPow, nSub, zLT, zLE, zNat, RMsg252, decide_eq_true h3]
        refine acallk (refRightP_calls ini _) ?_
        rintro r s3 ⟨rfl, rfl⟩
        simp only [↓AXq_nil, ↓AXq_cons, pval, DX, Nat.reduceBEq, ↓DN, UP, DF, qSh, qCv, qIA, qIx, qSl, qBu, qCe, qOn, reduceCtorEq, ↓reduceIte, nLT, nLE, nEQ, nAdd, nMul, nPow, nSub, zLT, zLE, zNat, RMsg252]
        refine hK _ _ ?_
        clear hK K
        refine awp_ret ?_
        try simp only [thenQ, blockQ]
        simp only [retQ, AEnds, aresL, ares, List.toList_toArray, ↓upd_same]; try simp only [↓DN, UP, DF, qSh, qCv, qIA, qIx, qSl, qBu, qCe, qOn, reduceCtorEq, ↓reduceIte, nLT, nLE, nEQ, nAdd, nMul, nPow, nSub, zLT, zLE, zNat, RMsg252, DT]
        refine ⟨_, _, AV.weak.refl _, AS.le.refl _, ?_, rfl⟩
        have q1 : 1 ≤ nm.length := by omega
        have q2 : nm.length ≤ 16 := by omega
        simp [PropV.right, hk1, h1, h3, q1, q2]
      · simp only [↓AXq_nil, ↓AXq_cons, pval, DX, Nat.reduceBEq, ↓DN, UP, DF, qSh, qCv, qIA, qIx, qSl, qBu, qCe, qOn, reduceCtorEq, ↓reduceIte, nLT, nLE, nEQ, nAdd, nMul, nPow, nSub, zLT, zLE, zNat, RMsg252, decide_eq_false h3]
        refine hK _ _ ?_
        clear hK K
        refine awp_ret ?_
        try simp only [thenQ, blockQ]
        simp only [retQ, AEnds, aresL, ares, List.toList_toArray, ↓upd_same]; try simp only [↓DN, UP, DF, qSh, qCv, qIA, qIx, qSl, qBu, qCe, qOn, reduceCtorEq, ↓reduceIte, nLT, nLE, nEQ, nAdd, nMul, nPow, nSub, zLT, zLE, zNat, RMsg252, DT]
        exact ⟨_, _, AV.weak.refl _, AS.le.refl _, by simp [PropV.right, hk1, h3], rfl⟩
    all_goals
      refine awp_reg_seq ?_
      intro K hK
      simp only [↓DN, UP, DF, qSh, qCv, qIA, qIx, qSl, qBu, qCe, qOn, reduceCtorEq, ↓reduceIte, nLT, nLE, nEQ, nAdd, nMul, nPow, nSub, zLT, zLE, zNat, RMsg252, hd]
      refine hK _ _ ?_
      clear hK K
      refine awp_ret ?_
      try simp only [thenQ, blockQ]
      simp only [retQ, AEnds, aresL, ares, List.toList_toArray, ↓upd_same]; try simp only [↓DN, UP, DF, qSh, qCv, qIA, qIx, qSl, qBu, qCe, qOn, reduceCtorEq, ↓reduceIte, nLT, nLE, nEQ, nAdd, nMul, nPow, nSub, zLT, zLE, zNat, RMsg252, DT]
      refine ⟨_, _, AV.weak.refl _, AS.le.refl _, ?_, rfl⟩
      simp only [beq_iff_eq, beq_eq_false_iff_ne, ne_eq, decide_eq_true_eq, decide_eq_false_iff_not] at hd
      congr 2
      symm
      exact decide_eq_false (by unfold PropV.right; simp only; omega)
  · refine awp_reg_seq ?_
    intro K hK
    simp only [↓DN, UP, DF, qSh, qCv, qIA, qIx, qSl, qBu, qCe, qOn, reduceCtorEq, ↓reduceIte, nLT, nLE, nEQ, nAdd, nMul, nPow, nSub, zLT, zLE, zNat, RMsg252, notI hk1]
    refine hK _ _ ?_
    clear hK K
    refine awp_cond_k ?_
    intro X Y hX hY
    simp only [↓DN, UP, DF, qSh, qCv, qIA, qIx, qSl, qBu, qCe, qOn, reduceCtorEq, ↓reduceIte, nLT, nLE, nEQ, nAdd, nMul, nPow, nSub, zLT, zLE, zNat, RMsg252, DB]
    refine hY ?_
    clear hX hY X Y
    refine awp_skip ?_
    refine hK _ _ ?_
    clear hK K
    refine awp_seq_k ?_
    intro K hK
    by_cases hk23 : k = 2 ∨ k = 3
    · have hkk : ((k != 2) = false ∧ (k == 2) = true ∧ (k == 3) = false) ∨ ((k != 2) = true ∧ (k != 3) = false ∧ (k == 2) = false ∧ (k == 3) = true) := by
        rcases hk23 with rfl | rfl
        · exact Or.inl ⟨rfl, rfl, rfl⟩
        · exact Or.inr ⟨rfl, rfl, rfl, rfl⟩
      rcases tt4 (decide (l < 0)) (decide (31 < l)) (decide (0 < (nm.length : Int))) ((ini : Int) != 0) with hd | hd | hd | hd | hd
      case inr.inr.inr.inr =>
        have hd' := hd
        simp only [decide_eq_false_iff_not, bne_eq_false_iff_eq] at hd'
        obtain ⟨h1, h2, h3, h4⟩ := hd'
        have h4 : ini = 0 := by omega
        have h3 : nm = [] := List.eq_nil_of_length_eq_zero (by omega)
        have q1 : 0 ≤ l := by omega
        have q2 : l < 32 := by omega
        rcases hkk with hkk | hkk
        · refine awp_reg_seq ?_
          intro K hK
          simp only [↓DN, UP, DF, qSh, qCv, qIA, qIx, qSl, qBu, qCe, qOn, reduceCtorEq, ↓reduceIte, nLT, nLE, nEQ, nAdd, nMul, nPow, nSub, zLT, zLE, zNat, RMsg252, hd, hkk]
          refine hK _ _ ?_
          clear hK K
          refine awp_cond_k ?_
          intro X Y hX hY
          simp only [↓DN, UP, DF, qSh, qCv, qIA, qIx, qSl, qBu, qCe, qOn, reduceCtorEq, ↓reduceIte, nLT, nLE, nEQ, nAdd, nMul, nPow, nSub, zLT, zLE, zNat, RMsg252, DB]
          refine hY ?_
          clear hX hY X Y
          refine awp_skip ?_
          refine hK _ _ ?_
          clear hK K
          refine awp_reg_seq ?_
          intro K hK
          simp only [↓DN, UP, DF, qSh, qCv, qIA, qIx, qSl, qBu, qCe, qOn, reduceCtorEq, ↓reduceIte, nLT, nLE, nEQ, nAdd, nMul, nPow, nSub, zLT, zLE, zNat, RMsg252, hkk]
          refine acallk (refRightP_calls key _) ?_
          rintro r s2 ⟨rfl, rfl⟩
          have hk2 : k = 2 := by simpa using hkk.2.1
          by_cases h5 : Pub key
          · simp only [↓AXq_nil, ↓AXq_cons, pval, DX, Nat.reduceBEq, ↓DN, UP, DF, qSh, qCv, qIA, qIx, qSl, qBu, qCe, qOn, reduceCtorEq, ↓reduceIte, nLT, nLE, nEQ, nAdd, nMul, nPow, nSub, zLT, zLE, zNat, RMsg252, decide_eq_true h5]
            refine hK _ _ ?_
            clear hK K
            refine awp_ret ?_
            simp only [retQ, AEnds, aresL, ares, List.toList_toArray, ↓upd_same]; try simp only [↓DN, UP, DF, qSh, qCv, qIA, qIx, qSl, qBu, qCe, qOn, reduceCtorEq, ↓reduceIte, nLT, nLE, nEQ, nAdd, nMul, nPow, nSub, zLT, zLE, zNat, RMsg252, DT]
            exact ⟨_, _, AV.weak.refl _, AS.le.refl _, by simp [PropV.right, hk2, h5, h3, h4, q1, q2], rfl⟩
          · simp only [↓AXq_nil, ↓AXq_cons, pval, DX, Nat.reduceBEq, ↓DN, UP, DF, qSh, qCv, qIA, qIx, qSl, qBu, qCe, qOn, reduceCtorEq, ↓reduceIte, nLT, nLE, nEQ, nAdd, nMul, nPow, nSub, zLT, zLE, zNat, RMsg252, decide_eq_false h5, hkk]
            refine hK _ _ ?_
            clear hK K
            refine awp_ret ?_
            simp only [retQ, AEnds, aresL, ares, List.toList_toArray, ↓upd_same]; try simp only [↓DN, UP, DF, qSh, qCv, qIA, qIx, qSl, qBu, qCe, qOn, reduceCtorEq, ↓reduceIte, nLT, nLE, nEQ, nAdd, nMul, nPow, nSub, zLT, zLE, zNat, RMsg252, DT]
            exact ⟨_, _, AV.weak.refl _, AS.le.refl _, by simp [PropV.right, hk2, h5], rfl⟩
        · refine awp_reg_seq ?_
          intro K hK
          simp only [↓DN, UP, DF, qSh, qCv, qIA, qIx, qSl, qBu, qCe, qOn, reduceCtorEq, ↓reduceIte, nLT, nLE, nEQ, nAdd, nMul, nPow, nSub, zLT, zLE, zNat, RMsg252, hd, hkk]
          refine hK _ _ ?_
          clear hK K
          refine awp_cond_k ?_
          intro X Y hX hY
          simp only [↓DN, UP, DF, qSh, qCv, qIA, qIx, qSl, qBu, qCe, qOn, reduceCtorEq, ↓reduceIte, nLT, nLE, nEQ, nAdd, nMul, nPow, nSub, zLT, zLE, zNat, RMsg252, DB]
          refine hY ?_
          clear hX hY X Y
          refine awp_skip ?_
          refine hK _ _ ?_
          clear hK K
          have hk3 : k = 3 := by simpa using hkk.2.2.2
          by_cases h5 : key = 0
          · refine awp_reg_seq ?_
            intro K hK
            simp only [↓DN, UP, DF, qSh, qCv, qIA, qIx, qSl, qBu, qCe, qOn, reduceCtorEq, ↓reduceIte, nLT, nLE, nEQ, nAdd, nMul, nPow, nSub, zLT, zLE, zNat, RMsg252, hkk, nat0 h5]
            refine hK _ _ ?_
            clear hK K
            refine awp_ret ?_
            simp only [retQ, AEnds, aresL, ares, List.toList_toArray, ↓upd_same]; try simp only [↓DN, UP, DF, qSh, qCv, qIA, qIx, qSl, qBu, qCe, qOn, reduceCtorEq, ↓reduceIte, nLT, nLE, nEQ, nAdd, nMul, nPow, nSub, zLT, zLE, zNat, RMsg252, DT]
            exact ⟨_, _, AV.weak.refl _, AS.le.refl _, by simp [PropV.right, hk3, h5, h3, h4, q1, q2], rfl⟩
          · refine awp_reg_seq ?_
            intro K hK
            simp only [↓DN, UP, DF, qSh, qCv, qIA, qIx, qSl, qBu, qCe, qOn, reduceCtorEq, ↓reduceIte, nLT, nLE, nEQ, nAdd, nMul, nPow, nSub, zLT, zLE, zNat, RMsg252, hkk, nat0F h5]
            refine hK _ _ ?_
            clear hK K
            refine awp_ret ?_
            simp only [retQ, AEnds, aresL, ares, List.toList_toArray, ↓upd_same]; try simp only [↓DN, UP, DF, qSh, qCv, qIA, qIx, qSl, qBu, qCe, qOn, reduceCtorEq, ↓reduceIte, nLT, nLE, nEQ, nAdd, nMul, nPow, nSub, zLT, zLE, zNat, RMsg252, DT]
            exact ⟨_, _, AV.weak.refl _, AS.le.refl _, by simp [PropV.right, hk3, h5], rfl⟩
      all_goals
        rcases hkk with hkk | hkk
        all_goals
          refine awp_reg_seq ?_
          intro K hK
          simp only [↓DN, UP, DF, qSh, qCv, qIA, qIx, qSl, qBu, qCe, qOn, reduceCtorEq, ↓reduceIte, nLT, nLE, nEQ, nAdd, nMul, nPow, nSub, zLT, zLE, zNat, RMsg252, hd, hkk]
          refine hK _ _ ?_
          clear hK K
          refine awp_cond_k ?_
          intro X Y hX hY
          simp only [↓DN, UP, DF, qSh, qCv, qIA, qIx, qSl, qBu, qCe, qOn, reduceCtorEq, ↓reduceIte, nLT, nLE, nEQ, nAdd, nMul, nPow, nSub, zLT, zLE, zNat, RMsg252, DB]
          refine hX ?_
          clear hX hY X Y
          refine awp_reg_seq ?_
          intro K hK
          simp only [↓DN, UP, DF, qSh, qCv, qIA, qIx, qSl, qBu, qCe, qOn, reduceCtorEq, ↓reduceIte, nLT, nLE, nEQ, nAdd, nMul, nPow, nSub, zLT, zLE, zNat, RMsg252]
          refine hK _ _ ?_
          clear hK K
          refine awp_ret ?_
          try simp only [thenQ, blockQ]
          simp only [retQ, AEnds, aresL, ares, List.toList_toArray, ↓upd_same]; try simp only [↓DN, UP, DF, qSh, qCv, qIA, qIx, qSl, qBu, qCe, qOn, reduceCtorEq, ↓reduceIte, nLT, nLE, nEQ, nAdd, nMul, nPow, nSub, zLT, zLE, zNat, RMsg252, DT]
          refine ⟨_, _, AV.weak.refl _, AS.le.refl _, ?_, rfl⟩
          simp only [beq_iff_eq, beq_eq_false_iff_ne, bne_eq_false_iff_eq, bne_iff_ne, ne_eq, decide_eq_true_eq, decide_eq_false_iff_not] at hd hkk
          congr 2
          symm
          exact decide_eq_false (by unfold PropV.right; simp only; omega)
    · have q2 : k ≠ 2 := fun h => hk23 (Or.inl h)
      have q3 : k ≠ 3 := fun h => hk23 (Or.inr h)
      refine awp_reg_seq ?_
      intro K hK
      simp only [↓DN, UP, DF, qSh, qCv, qIA, qIx, qSl, qBu, qCe, qOn, reduceCtorEq, ↓reduceIte, nLT, nLE, nEQ, nAdd, nMul, nPow, nSub, zLT, zLE, zNat, RMsg252, neI q2, neI q3]
      refine hK _ _ ?_
      clear hK K
      refine awp_cond_k ?_
      intro X Y hX hY
      simp only [↓DN, UP, DF, qSh, qCv, qIA, qIx, qSl, qBu, qCe, qOn, reduceCtorEq, ↓reduceIte, nLT, nLE, nEQ, nAdd, nMul, nPow, nSub, zLT, zLE, zNat, RMsg252, DB]
      refine hX ?_
      clear hX hY X Y
      refine awp_reg_seq ?_
      intro K hK
      simp only [↓DN, UP, DF, qSh, qCv, qIA, qIx, qSl, qBu, qCe, qOn, reduceCtorEq, ↓reduceIte, nLT, nLE, nEQ, nAdd, nMul, nPow, nSub, zLT, zLE, zNat, RMsg252]
      refine hK _ _ ?_
      clear hK K
      refine awp_ret ?_
      try simp only [thenQ, blockQ]
      simp only [retQ, AEnds, aresL, ares, List.toList_toArray, ↓upd_same]; try simp only [↓DN, UP, DF, qSh, qCv, qIA, qIx, qSl, qBu, qCe, qOn, reduceCtorEq, ↓reduceIte, nLT, nLE, nEQ, nAdd, nMul, nPow, nSub, zLT, zLE, zNat, RMsg252, DT]
      exact ⟨_, _, AV.weak.refl _, AS.le.refl _, by simp [PropV.right, hk1, q2, q3], rfl⟩

end Go.Proofs.Ytcnilmidfhpckaa


set_option autoImplicit false
namespace Go.Proofs.Ytcnilmidfhpckaa
open Go Go.AM Go.Proofs

theorem RMsg3100 : type_of% (And.intro (And.intro (And.intro (And.intro (And.intro (And.intro @Try.underlying3 (And.intro T.c3 T.g3)) (And.intro T.b3 (And.intro T.z3 @Try.underlying4))) (And.intro (And.intro T.c4 (And.intro T.g4 T.b4)) (And.intro T.z4 (And.intro @Try.underlying5 T.c5)))) (And.intro (And.intro (And.intro T.g5 (And.intro T.b5 T.z5)) (And.intro @Try.underlying28 (And.intro T.c28 T.g28))) (And.intro (And.intro T.b28 (And.intro T.z28 T.s28)) (And.intro @Try.underlying42 (And.intro T.c42 T.g42))))) (And.intro (And.intro (And.intro (And.intro T.b42 (And.intro T.z42 @Try.underlying81)) (And.intro T.c81 (And.intro T.g81 T.b81))) (And.intro (And.intro T.z81 (And.intro T.s81 @Try.underlying83)) (And.intro T.c83 (And.intro T.g83 T.b83)))) (And.intro (And.intro (And.intro T.z83 (And.intro T.h83 @Try.underlying85)) (And.intro T.c85 (And.intro T.g85 T.b85))) (And.intro (And.intro T.z85 (And.intro T.h85 T.f83_0)) (And.intro (And.intro T.f83_1 T.f85_0) (And.intro T.f85_1 T.k99)))))) Try.ntmps100) :=
  (And.intro (And.intro (And.intro (And.intro (And.intro (And.intro @Try.underlying3 (And.intro T.c3 T.g3)) (And.intro T.b3 (And.intro T.z3 @Try.underlying4))) (And.intro (And.intro T.c4 (And.intro T.g4 T.b4)) (And.intro T.z4 (And.intro @Try.underlying5 T.c5)))) (And.intro (And.intro (And.intro T.g5 (And.intro T.b5 T.z5)) (And.intro @Try.underlying28 (And.intro T.c28 T.g28))) (And.intro (And.intro T.b28 (And.intro T.z28 T.s28)) (And.intro @Try.underlying42 (And.intro T.c42 T.g42))))) (And.intro (And.intro (And.intro (And.intro T.b42 (And.intro T.z42 @Try.underlying81)) (And.intro T.c81 (And.intro T.g81 T.b81))) (And.intro (And.intro T.z81 (And.intro T.s81 @Try.underlying83)) (And.intro T.c83 (And.intro T.g83 T.b83)))) (And.intro (And.intro (And.intro T.z83 (And.intro T.h83 @Try.underlying85)) (And.intro T.c85 (And.intro T.g85 T.b85))) (And.intro (And.intro T.z85 (And.intro T.h85 T.f83_0)) (And.intro (And.intro T.f83_1 T.f85_0) (And.intro T.f85_1 T.k99)))))) Try.ntmps100)

variable {Γ : Nat → List AV}

theorem take_all {α : Type} {Q : α → Prop} {l : List α} {i : Nat} (h : i < l.length) (hall : ∀ x ∈ l.take i, Q x) (hx : Q l[i]) : ∀ x ∈ l.take (i + 1), Q x := by
  rw [List.take_succ_eq_append_getElem h]
  intro p hp
  rcases List.mem_append.1 hp with hp | hp
  · exact hall p hp
  · simp only [List.mem_singleton] at hp
    subst hp
    exact hx
theorem take_full {α : Type} {Q : α → Prop} {l : List α} {i : Nat} (h : ¬ i < l.length) (hall : ∀ x ∈ l.take i, Q x) : ∀ x ∈ l, Q x := by
  rwa [List.take_of_length_le (by omega)] at hall
theorem eye_succM (i : Nat) (h : i < 9223372036854775807) : iadd .i64 (i : Int) 1 = ((i + 1 : Nat) : Int) := by
  rw [iadd_i64 (by omega)]
  rfl
theorem n48 {n : Nat} (h : n = 48) : ((n : Int) != 48) = false := by subst h; rfl
theorem n48T {n : Nat} (h : n ≠ 48) : ((n : Int) != 48) = true := by simp only [bne_iff_ne, ne_eq]; omega

set_option maxHeartbeats 4000000 in
set_option maxRecDepth 100000 in
theorem step_calls (p : StepV) (hl : p.seals.length ≤ 9223372036854775807) (s : AS) : ACalls Try.prog Γ 100 [.agg p.cells] s (fun r s' => r = .v (.bool (decide p.right)) ∧ s' = s) := by
  refine acalls_body Try.func100 rfl Try.ntmps100 Try.results100 (by simp) ?_
  obtain ⟨key, ss⟩ := p
  simp only at hl
  unfold StepV.cells
  have hrow := fun i (h : i < ss.length) => row_at (c := SealV.cells) (k := 2) (fun _ => rfl) h
  generalize hX : rowC SealV.cells ss = X at *
  refine awp_reg_frz 1 (by simp [dsts]) ?_
  intro K hK
  simp only [↓AXq_nil, ↓AXq_cons, pval, DX, Nat.reduceBEq, ↓DN, UP, DF, qSh, qCv, qIA, qIx, qSl, qBu, qCe, qOn, reduceCtorEq, ↓reduceIte, nLT, nLE, nEQ, nAdd, nMul, nPow, nSub, zLT, zLE, zNat, RMsg3100]
  intro o ho
  refine hK _ _ o _ (by simp only [upd, nEQ, ↓reduceIte]) ho ?_
  clear hK K ho
  refine awp_seq_k ?_
  intro K hK
  refine awp_reg_seq ?_
  intro K hK
  simp only [↓DN, UP, DF, qSh, qCv, qIA, qIx, qSl, qBu, qCe, qOn, reduceCtorEq, ↓reduceIte, nLT, nLE, nEQ, nAdd, nMul, nPow, nSub, zLT, zLE, zNat, RMsg3100]
  refine hK _ _ ?_
  clear hK K
  refine awp_block ?_
  refine awp_loop (fun E s1 => ∃ i : Nat, i ≤ ss.length ∧ E 8 = .v (.int .i64 i) ∧ E 7 = .v (.int .i64 ss.length) ∧ E 6 = .sl 2 ss.length X .any ∧ E 1 = .rop [.v (.int .u64 key), .sl 2 ss.length X .any] ∧ (∀ p ∈ ss.take i, p.right) ∧ s1 = s)
    (fun E _ => match E 8 with | .v (.int _ i) => ss.length - i.toNat | _ => 0) ?_ ?_
  · exact ⟨0, Nat.zero_le _, by simp only [upd, ↓reduceIte]; rfl, by simp only [upd, nEQ, ↓reduceIte], by simp only [upd, nEQ, ↓reduceIte], by simp only [upd, nEQ, ↓reduceIte], by simp, rfl⟩
  · rintro E1 s1 ⟨i, hi, g8, g7, g6, g1, hall, rfl⟩ -
    by_cases hi' : i < ss.length
    · refine awp_reg_seq ?_
      intro K hK
      simp only [↓DN, UP, DF, qSh, qCv, qIA, qIx, qSl, qBu, qCe, qOn, reduceCtorEq, ↓reduceIte, nLT, nLE, nEQ, nAdd, nMul, nPow, nSub, zLT, zLE, zNat, RMsg3100, g8, g7, eye_lt_nat, decide_eq_true hi']
      refine hK _ _ ?_
      clear hK K
      refine awp_seq_k ?_
      intro K3 hK3
      refine awp_cond_k ?_
      intro X Y hX hY
      simp only [↓DN, UP, DF, qSh, qCv, qIA, qIx, qSl, qBu, qCe, qOn, reduceCtorEq, ↓reduceIte, nLT, nLE, nEQ, nAdd, nMul, nPow, nSub, zLT, zLE, zNat, RMsg3100, DB]
      refine hX ?_
      clear hX hY X Y
      refine awp_skip ?_
      refine hK3 _ _ ?_
      clear hK3 K3
      refine awp_seq_k ?_
      intro K3 hK3
      refine awp_block ?_
      have hat := hrow i hi'
      have hge : (0 : Int) ≤ (i : Int) := by omega
      obtain ⟨y, hy⟩ : ∃ y, y = ss[i] := ⟨_, rfl⟩
      rw [← hy] at hat
      have hym : y ∈ ss := by rw [hy]; exact List.getElem_mem hi'
      have htk : y.right → ∀ x ∈ ss.take (i + 1), x.right := fun h => take_all hi' hall (by rw [← hy]; exact h)
      have hbad : ¬ y.right → decide (StepV.right ⟨key, ss⟩) = false := fun h => decide_eq_false fun hr => h (hr.1 y hym)
      clear hy
      obtain ⟨f, t⟩ := y
      unfold SealV.cells at hat
      refine awp_reg_frz 4 (by simp [dsts]) ?_
      intro K2 hK2
      simp only [↓AXq_nil, ↓AXq_cons, pval, DX, Nat.reduceBEq, ↓DN, UP, DF, qSh, qCv, qIA, qIx, qSl, qBu, qCe, qOn, reduceCtorEq, ↓reduceIte, nLT, nLE, nEQ, nAdd, nMul, nPow, nSub, zLT, zLE, zNat, RMsg3100, g8, g6, eye_lt_nat, hi', hge, hat]
      intro o ho
      refine hK2 _ _ o _ (by simp only [upd, nEQ, ↓reduceIte]) ho ?_
      clear hK2 K2 ho
      refine awp_reg_seq ?_
      intro K hK
      simp only [↓DN, UP, DF, qSh, qCv, qIA, qIx, qSl, qBu, qCe, qOn, reduceCtorEq, ↓reduceIte, nLT, nLE, nEQ, nAdd, nMul, nPow, nSub, zLT, zLE, zNat, RMsg3100]
      refine acallk (rightP_calls f _) ?_
      rintro r s2 ⟨rfl, rfl⟩
      by_cases h1 : Pub f
      · by_cases h2 : t.length = 48
        · simp only [↓AXq_nil, ↓AXq_cons, pval, DX, Nat.reduceBEq, ↓DN, UP, DF, qSh, qCv, qIA, qIx, qSl, qBu, qCe, qOn, reduceCtorEq, ↓reduceIte, nLT, nLE, nEQ, nAdd, nMul, nPow, nSub, zLT, zLE, zNat, RMsg3100, decide_eq_true h1, n48 h2]
          refine hK _ _ ?_
          clear hK K
          refine awp_cond_k ?_
          intro X Y hX hY
          simp only [↓DN, UP, DF, qSh, qCv, qIA, qIx, qSl, qBu, qCe, qOn, reduceCtorEq, ↓reduceIte, nLT, nLE, nEQ, nAdd, nMul, nPow, nSub, zLT, zLE, zNat, RMsg3100, DB]
          refine hY ?_
          clear hX hY X Y
          refine awp_skip ?_
          simp only [blockQ, thenQ, if_true, if_false]
          refine hK3 _ _ ?_
          clear hK3 K3
          refine awp_reg_end ?_
          intro K hK
          simp only [↓DN, UP, DF, qSh, qCv, qIA, qIx, qSl, qBu, qCe, qOn, reduceCtorEq, ↓reduceIte, nLT, nLE, nEQ, nAdd, nMul, nPow, nSub, zLT, zLE, zNat, RMsg3100, g8, eye_succM i (by omega)]
          refine hK _ _ ?_
          clear hK K
          refine ⟨⟨i + 1, by omega, by simp only [upd, ↓reduceIte], by simp only [upd, g7, nEQ, ↓reduceIte], by simp only [upd, g6, nEQ, ↓reduceIte], by simp only [upd, g1, nEQ, ↓reduceIte], htk ⟨h1, h2⟩, rfl⟩, ?_⟩
          simp only [g8, upd, ↓reduceIte]
          omega
        · simp only [↓AXq_nil, ↓AXq_cons, pval, DX, Nat.reduceBEq, ↓DN, UP, DF, qSh, qCv, qIA, qIx, qSl, qBu, qCe, qOn, reduceCtorEq, ↓reduceIte, nLT, nLE, nEQ, nAdd, nMul, nPow, nSub, zLT, zLE, zNat, RMsg3100, decide_eq_true h1, n48T h2]
          refine hK _ _ ?_
          clear hK K
          refine awp_cond_k ?_
          intro X Y hX hY
          simp only [↓DN, UP, DF, qSh, qCv, qIA, qIx, qSl, qBu, qCe, qOn, reduceCtorEq, ↓reduceIte, nLT, nLE, nEQ, nAdd, nMul, nPow, nSub, zLT, zLE, zNat, RMsg3100, DB]
          refine hX ?_
          clear hX hY X Y
          refine awp_reg_seq ?_
          intro K hK
          simp only [↓DN, UP, DF, qSh, qCv, qIA, qIx, qSl, qBu, qCe, qOn, reduceCtorEq, ↓reduceIte, nLT, nLE, nEQ, nAdd, nMul, nPow, nSub, zLT, zLE, zNat, RMsg3100]
          refine hK _ _ ?_
          clear hK K
          refine awp_ret ?_
          try simp only [thenQ, blockQ]
          simp only [retQ, AEnds, aresL, ares, List.toList_toArray, ↓upd_same]; try simp only [↓DN, UP, DF, qSh, qCv, qIA, qIx, qSl, qBu, qCe, qOn, reduceCtorEq, ↓reduceIte, nLT, nLE, nEQ, nAdd, nMul, nPow, nSub, zLT, zLE, zNat, RMsg3100, DT]
          exact ⟨_, _, AV.weak.refl _, AS.le.refl _, by rw [hbad fun h => h2 h.2], rfl⟩
      · simp only [↓AXq_nil, ↓AXq_cons, pval, DX, Nat.reduceBEq, ↓DN, UP, DF, qSh, qCv, qIA, qIx, qSl, qBu, qCe, qOn, reduceCtorEq, ↓reduceIte, nLT, nLE, nEQ, nAdd, nMul, nPow, nSub, zLT, zLE, zNat, RMsg3100, decide_eq_false h1]
        refine hK _ _ ?_
        clear hK K
        refine awp_cond_k ?_
        intro X Y hX hY
        simp only [↓DN, UP, DF, qSh, qCv, qIA, qIx, qSl, qBu, qCe, qOn, reduceCtorEq, ↓reduceIte, nLT, nLE, nEQ, nAdd, nMul, nPow, nSub, zLT, zLE, zNat, RMsg3100, DB]
        refine hX ?_
        clear hX hY X Y
        refine awp_reg_seq ?_
        intro K hK
        simp only [↓DN, UP, DF, qSh, qCv, qIA, qIx, qSl, qBu, qCe, qOn, reduceCtorEq, ↓reduceIte, nLT, nLE, nEQ, nAdd, nMul, nPow, nSub, zLT, zLE, zNat, RMsg3100]
        refine hK _ _ ?_
        clear hK K
        refine awp_ret ?_
        try simp only [thenQ, blockQ]
        simp only [retQ, AEnds, aresL, ares, List.toList_toArray, ↓upd_same]; try simp only [↓DN, UP, DF, qSh, qCv, qIA, qIx, qSl, qBu, qCe, qOn, reduceCtorEq, ↓reduceIte, nLT, nLE, nEQ, nAdd, nMul, nPow, nSub, zLT, zLE, zNat, RMsg3100, DT]
        exact ⟨_, _, AV.weak.refl _, AS.le.refl _, by rw [hbad fun h => h1 h.1], rfl⟩
    · have hfull := take_full hi' hall
      refine awp_reg_seq ?_
      intro K hK
      simp only [↓DN, UP, DF, qSh, qCv, qIA, qIx, qSl, qBu, qCe, qOn, reduceCtorEq, ↓reduceIte, nLT, nLE, nEQ, nAdd, nMul, nPow, nSub, zLT, zLE, zNat, RMsg3100, g8, g7, eye_lt_nat, decide_eq_false hi']
      refine hK _ _ ?_
      clear hK K
      refine awp_seq_k ?_
      intro K3 hK3
      refine awp_cond_k ?_
      intro X Y hX hY
      simp only [↓DN, UP, DF, qSh, qCv, qIA, qIx, qSl, qBu, qCe, qOn, reduceCtorEq, ↓reduceIte, nLT, nLE, nEQ, nAdd, nMul, nPow, nSub, zLT, zLE, zNat, RMsg3100, DB]
      refine hY ?_
      clear hX hY X Y
      refine awp_exit ?_
      simp only [thenQ, blockQ, if_true]
      refine hK _ _ ?_
      clear hK K hK3 K3
      refine awp_reg_seq ?_
      intro K hK
      simp only [↓DN, UP, DF, qSh, qCv, qIA, qIx, qSl, qBu, qCe, qOn, reduceCtorEq, ↓reduceIte, nLT, nLE, nEQ, nAdd, nMul, nPow, nSub, zLT, zLE, zNat, RMsg3100, g1]
      refine acallk (rightP_calls key _) ?_
      rintro r s2 ⟨rfl, rfl⟩
      by_cases h1 : Pub key
      · simp only [↓AXq_nil, ↓AXq_cons, pval, DX, Nat.reduceBEq, ↓DN, UP, DF, qSh, qCv, qIA, qIx, qSl, qBu, qCe, qOn, reduceCtorEq, ↓reduceIte, nLT, nLE, nEQ, nAdd, nMul, nPow, nSub, zLT, zLE, zNat, RMsg3100, g1, decide_eq_true h1]
        refine hK _ _ ?_
        clear hK K
        refine awp_ret ?_
        simp only [retQ, AEnds, aresL, ares, List.toList_toArray, ↓upd_same]; try simp only [↓DN, UP, DF, qSh, qCv, qIA, qIx, qSl, qBu, qCe, qOn, reduceCtorEq, ↓reduceIte, nLT, nLE, nEQ, nAdd, nMul, nPow, nSub, zLT, zLE, zNat, RMsg3100, DT]
        refine ⟨_, _, AV.weak.refl _, AS.le.refl _, ?_, rfl⟩
        congr 2
        refine decide_eq_decide.2 ⟨fun h => ⟨hfull, h1, by simp only; omega⟩, fun h => by have := h.2.2; simp only at this; omega⟩
      · simp only [↓AXq_nil, ↓AXq_cons, pval, DX, Nat.reduceBEq, ↓DN, UP, DF, qSh, qCv, qIA, qIx, qSl, qBu, qCe, qOn, reduceCtorEq, ↓reduceIte, nLT, nLE, nEQ, nAdd, nMul, nPow, nSub, zLT, zLE, zNat, RMsg3100, g1, decide_eq_false h1]
        refine hK _ _ ?_
        clear hK K
        refine awp_ret ?_
        simp only [retQ, AEnds, aresL, ares, List.toList_toArray, ↓upd_same]; try simp only [↓DN, UP, DF, qSh, qCv, qIA, qIx, qSl, qBu, qCe, qOn, reduceCtorEq, ↓reduceIte, nLT, nLE, nEQ, nAdd, nMul, nPow, nSub, zLT, zLE, zNat, RMsg3100, DT]
        exact ⟨_, _, AV.weak.refl _, AS.le.refl _, by rw [decide_eq_false fun h => h1 h.2.1], rfl⟩

end Go.Proofs.Ytcnilmidfhpckaa


