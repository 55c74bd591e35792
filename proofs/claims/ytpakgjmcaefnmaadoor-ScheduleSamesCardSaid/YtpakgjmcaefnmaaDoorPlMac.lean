/- Plain laws of numbers and lists that the walks below need; no condition. -/
import Derived.Test.YtpakgjmcaefnmaaDoorPlSha
set_option linter.unusedSimpArgs false
set_option linter.unusedVariables false
set_option autoImplicit false
namespace Go.AM

/-! ### The tag, in plain Lean -/
namespace Mac
def key (k : List UInt8) : List UInt8 := if 64 < k.length then Sha.sum k else k
def fill (k : List UInt8) : List UInt8 := k ++ List.replicate (64 - k.length) 0
def turn (x : UInt8) (l : List UInt8) : List UInt8 := l.map fun c => c ^^^ x
def inner (k l : List UInt8) : List UInt8 := Sha.sum (turn 54 (fill (key k)) ++ l)
def tag (k l : List UInt8) : List UInt8 := Sha.sum (turn 92 (fill (key k)) ++ inner k l)

theorem key_le (k : List UInt8) : (key k).length ≤ 64 := by
  unfold key
  split
  · rw [Sha.sum_length]; decide
  · omega
theorem fill_len (k : List UInt8) (h : k.length ≤ 64) : (fill k).length = 64 := by simp [fill]; omega
theorem turn_len (x : UInt8) (l : List UInt8) : (turn x l).length = l.length := by simp [turn]
theorem tag_len (k l : List UInt8) : (tag k l).length = 32 := Sha.sum_length _
theorem inner_len (k l : List UInt8) : (inner k l).length = 32 := Sha.sum_length _

/-- The first i octets turned. -/
def part (x : UInt8) (l : List UInt8) (i : Nat) : List UInt8 := turn x (l.take i) ++ l.drop i
theorem part_zero (x : UInt8) (l : List UInt8) : part x l 0 = l := by simp [part, turn]
theorem part_all (x : UInt8) (l : List UInt8) (i : Nat) (h : l.length ≤ i) : part x l i = turn x l := by
  rw [part, List.take_of_length_le h, List.drop_eq_nil_of_le h, List.append_nil]
theorem part_len (x : UInt8) (l : List UInt8) (i : Nat) : (part x l i).length = l.length := by simp [part, turn]; omega
theorem part_get (x : UInt8) (l : List UInt8) (i : Nat) (h : i < l.length) : List.drop i ((part x l i).map byteV) = byteV (l.getD i 0) :: List.drop (i + 1) ((part x l i).map byteV) := by
  have hl : ((part x l i).map byteV).length = l.length := by rw [List.length_map, part_len]
  rw [List.drop_eq_getElem_cons (by omega)]
  congr 1
  rw [List.getElem_map]
  congr 1
  simp only [part]
  rw [List.getElem_append_right (by simp [turn]; omega)]
  have e : (turn x (l.take i)).length = i := by simp [turn]; omega
  simp only [e, Nat.sub_self, List.getElem_drop, Nat.add_zero]
  simp [List.getD_eq_getElem?_getD, h]
theorem part_set (x : UInt8) (l : List UInt8) (i : Nat) (h : i < l.length) : ((part x l i).map byteV).set i (byteV (l.getD i 0 ^^^ x)) = (part x l (i + 1)).map byteV := by
  rw [← List.map_set]
  congr 1
  simp only [part]
  have e : (turn x (l.take i)).length = i := by simp [turn]; omega
  rw [List.set_append_right _ _ (by omega), e, Nat.sub_self, List.drop_eq_getElem_cons h, List.set_cons_zero, List.take_succ_eq_append_getElem h]
  simp only [turn, List.map_append, List.map_cons, List.map_nil, List.append_assoc, List.cons_append, List.nil_append, List.getD_eq_getElem?_getD, List.getElem?_eq_getElem h, Option.getD_some]
theorem byte_xor (a b : UInt8) : ixor .u8 (a.toNat : Int) (b.toNat : Int) = (((a ^^^ b).toNat : Nat) : Int) := by
  rw [ixor_u (k := .u8) rfl a.toNat b.toNat (by simpa [IntKind.bits] using a.toNat_lt) (by simpa [IntKind.bits] using b.toNat_lt), UInt8.toNat_xor]

/-- Copied to the front. -/
theorem asetAll_front : ∀ (ds cs : List AV) (off : Nat), off + ds.length ≤ cs.length → asetAll cs off ds = cs.take off ++ ds ++ cs.drop (off + ds.length)
  | [], cs, off, h => by simp [asetAll]
  | d :: ds, cs, off, h => by
    rw [asetAll, asetAll_front ds (cs.set off d) (off + 1) (by simp at h ⊢; omega)]
    simp only [List.length_cons] at h
    have h1 : (cs.set off d).take (off + 1) = cs.take off ++ [d] := by
      rw [List.take_succ_eq_append_getElem (by simp; omega), List.getElem_set_self, List.take_set_of_le (Nat.le_refl off)]
    have h2 : (cs.set off d).drop (off + 1 + ds.length) = cs.drop (off + (ds.length + 1)) := by
      rw [List.drop_set_of_lt (by omega)]
      congr 1
      omega
    rw [h1, h2, List.length_cons]
    simp
theorem fill_front (k : List UInt8) (h : k.length ≤ 64) : asetAll (List.replicate 64 (byteV 0)) 0 (k.map byteV) = (fill k).map byteV := by
  rw [asetAll_front _ _ _ (by simpa using h)]
  simp only [List.take_zero, List.nil_append, Nat.zero_add, List.length_map, fill, List.map_append, List.map_replicate, List.drop_replicate]
end Mac
end Go.AM


