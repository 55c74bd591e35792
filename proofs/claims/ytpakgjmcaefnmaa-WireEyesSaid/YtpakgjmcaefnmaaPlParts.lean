/- Plain laws of numbers and lists that the walks below need; no condition. -/
import Derived.Test.YtpakgjmcaefnmaaPlWire
import Derived.Test.YtpakgjmcaefnmaaAM30
set_option linter.unusedSimpArgs false
set_option linter.unusedVariables false
set_option autoImplicit false
namespace Go.AM
open Go

/-! ### Parts that are written or read -/
structure PartV where
  kind : Int
  n : Int
  b : List UInt8
def PartV.cells (p : PartV) : List AV := [.v (.int .i64 p.kind), .v (.int .i64 p.n), bytesV p.b .any]
def partsC (ps : List PartV) : List AV := (ps.map PartV.cells).flatten

theorem parts_at {ps : List PartV} {i : Nat} (h : i < ps.length) : List.take 3 (List.drop (i * 3) (partsC ps)) = [.v (.int .i64 ps[i].kind), .v (.int .i64 ps[i].n), .sl 1 ps[i].b.length (ps[i].b.map byteV) .any] := by
  have := flatten_at (sz := 3) (els := ps.map PartV.cells) (i := i) (by simpa using h) (by
    intro el hel
    obtain ⟨p, _, rfl⟩ := List.mem_map.1 hel
    rfl)
  unfold partsC
  rw [this]
  simp [PartV.cells, bytesV]

theorem IsTy.parts {avs : List AV} (h : IsTy (.slice 3 (.struct (.cons tyI (.cons tyI (.cons tyB .nil))))) avs) : ∃ ps : List PartV, avs = [.sl 3 ps.length (partsC ps) .any] := by
  obtain ⟨els, rfl, _, hall⟩ := IsTy.rows h
  have key : ∀ els : List (List AV), (∀ el ∈ els, el.length = 3 ∧ IsTy (.struct (.cons tyI (.cons tyI (.cons tyB .nil)))) el) → ∃ ps : List PartV, els = ps.map PartV.cells := by
    intro els
    induction els with
    | nil => intro _; exact ⟨[], rfl⟩
    | cons e els ih =>
      intro h
      obtain ⟨ps, rfl⟩ := ih (fun el hel => h el (by simp [hel]))
      obtain ⟨_, h1⟩ := h e (by simp)
      obtain ⟨x1, y1, rfl, t1, h1⟩ := isF_cons (isTy_struct h1)
      obtain ⟨x2, y2, rfl, t2, h1⟩ := isF_cons h1
      obtain ⟨x3, y3, rfl, t3, h1⟩ := isF_cons h1
      obtain rfl := isF_nil h1
      obtain ⟨n1, rfl, _⟩ := isTy_int t1
      obtain ⟨n2, rfl, _⟩ := isTy_int t2
      obtain ⟨l3, rfl, _⟩ := t3.bytes
      exact ⟨⟨n1, n2, l3⟩ :: ps, rfl⟩
  obtain ⟨ps, rfl⟩ := key els hall
  exact ⟨ps, by simp [partsC]⟩

def uN (n : Int) : Nat := (iconv .u64 n).toNat
theorem uN_eq (n : Int) : iconv .u64 n = (uN n : Int) := by
  unfold uN
  have : 0 ≤ iconv .u64 n := by
    simp only [iconv, IntKind.wrap, IntKind.signed, IntKind.bits, Bool.false_and, Bool.false_eq_true, if_false]
    omega
  omega
theorem uN_lt (n : Int) : uN n < 2 ^ 64 := by
  unfold uN
  have : iconv .u64 n < 2 ^ 64 := by
    simp only [iconv, IntKind.wrap, IntKind.signed, IntKind.bits, Bool.false_and, Bool.false_eq_true, if_false]
    omega
  omega

def encB (p : PartV) : List UInt8 := be 8 (uN p.n) ++ (be 2 p.b.length ++ p.b ++ be 2 p.b.length)
def encsB (ps : List PartV) : List UInt8 := (ps.map encB).flatten
theorem encsB_succ {ps : List PartV} {i : Nat} (h : i < ps.length) : encsB (ps.take (i + 1)) = encsB (ps.take i) ++ be 8 (uN ps[i].n) ++ be 2 ps[i].b.length ++ ps[i].b ++ be 2 ps[i].b.length := by
  unfold encsB
  rw [List.take_succ_eq_append_getElem h, List.map_append, List.flatten_append]
  simp only [List.map_cons, List.map_nil, List.flatten_cons, List.flatten_nil, List.append_nil, encB, List.append_assoc]
theorem encsB_drop {ps : List PartV} {i : Nat} (h : i < ps.length) : encsB (ps.drop i) = be 8 (uN ps[i].n) ++ (be 2 ps[i].b.length ++ ps[i].b ++ (be 2 ps[i].b.length ++ encsB (ps.drop (i + 1)))) := by
  unfold encsB
  rw [List.drop_eq_getElem_cons h]
  simp only [List.map_cons, List.flatten_cons, encB, List.append_assoc]
theorem encsB_len {ps : List PartV} (h : ∀ p ∈ ps, p.b.length ≤ 700) : (encsB ps).length ≤ ps.length * 712 := by
  induction ps with
  | nil => simp [encsB]
  | cons p ps ih =>
    have h1 := h p (by simp)
    have h2 := ih (fun q hq => h q (by simp [hq]))
    have e : encsB (p :: ps) = encB p ++ encsB ps := by simp [encsB]
    rw [e]
    simp only [List.length_append, encB, length_be, List.length_cons]
    omega
end Go.AM
