/- An abstract machine for the model: abstract values, their relation to worlds, and the rules of its walk, each proved sound over the model; no condition. -/
import Derived.Test.YtpakgjmcaefnmaaAM23
set_option linter.unusedSimpArgs false
set_option linter.unusedVariables false
set_option autoImplicit false
namespace Go.AM
open Go Go.RowKit

/-! ### Strings, as lists of octets -/
theorem isAny_any : Sp.any.isAny = true := rfl
theorem isAny_no : Sp.no.isAny = false := rfl
theorem isAny_new : Sp.new.isAny = false := rfl
theorem isAny_full : Sp.full.isAny = false := rfl
theorem isAny_own (t e : Nat) : (Sp.own t e).isAny = false := rfl
theorem bs_size (l : List UInt8) : (ByteArray.mk l.toArray).size = l.length := rfl
theorem bs_append (l m : List UInt8) : (ByteArray.mk l.toArray) ++ (ByteArray.mk m.toArray) = ByteArray.mk (l ++ m).toArray := by
  apply ByteArray.ext
  simp
theorem bs_extract (l : List UInt8) (i j : Nat) : (ByteArray.mk l.toArray).extract i j = ByteArray.mk ((l.take j).drop i).toArray := by
  apply ByteArray.ext
  apply Array.ext'
  simp [List.extract_eq_take_drop, List.drop_take]
theorem bs_empty : (ByteArray.mk #[]) = ByteArray.mk ([] : List UInt8).toArray := rfl
theorem bs_empty' : ByteArray.empty = ByteArray.mk ([] : List UInt8).toArray := rfl
theorem i64_room {n : Nat} (h : n < 2 ^ 62) : (IntKind.i64.max < (n : Int)) = False := by
  have : IntKind.i64.max = 9223372036854775807 := rfl
  rw [this]
  simp
  omega
theorem bs_loop (b : ByteArray) : ∀ (n i : Nat) (r : List UInt8), b.size - i = n → ByteArray.toList.loop b i r = r.reverse ++ b.data.toList.drop i := by
  intro n
  induction n with
  | zero =>
    intro i r h
    unfold ByteArray.toList.loop
    rw [if_neg (by omega), List.drop_eq_nil_of_le (by have : b.data.toList.length = b.size := rfl; omega)]
    simp
  | succ n ih =>
    intro i r h
    have hi : i < b.size := by omega
    have hl : i < b.data.toList.length := hi
    unfold ByteArray.toList.loop
    rw [if_pos hi, ih (i + 1) _ (by omega), List.drop_eq_getElem_cons hl]
    simp only [List.reverse_cons, List.append_assoc, List.singleton_append]
    congr 2
    rw [show b.get! i = b.data.toList[i] from by
      have : b.get! i = b.data[i]! := rfl
      rw [this]
      simp [getElem!_pos b.data i hi]]
theorem bs_toList (l : List UInt8) : (ByteArray.mk l.toArray).toList = l := by
  rw [ByteArray.toList, bs_loop _ _ 0 [] rfl]
  simp
theorem beq_list (l m : List UInt8) : (l == m) = decide (l = m) := by
  by_cases h : l = m <;> simp [h]

theorem take_mapB (l : List UInt8) (n : Nat) : List.take n (l.map byteV) = (l.take n).map byteV := List.map_take.symm
theorem drop_mapB (l : List UInt8) (n : Nat) : List.drop n (l.map byteV) = (l.drop n).map byteV := List.map_drop.symm
theorem bytes_of {n : Nat} {cs : List AV} {sp : Sp} {m : List UInt8} (h1 : n = m.length) (h2 : cs = m.map byteV) : AV.sl 1 n cs sp = bytesV m sp := by subst h1; subst h2; rfl
theorem IsB.of {n : Nat} {cs : List AV} {sp : Sp} {m : List UInt8} (h1 : n = m.length) (h2 : cs = m.map byteV) : IsB (.sl 1 n cs sp) m := by subst h1; subst h2; exact IsB.mk m sp
theorem IsB.any (l : List UInt8) : IsB (bytesV l .any) l := IsB.mk l .any
theorem eat_one {α : Type} {l : List α} {i : Nat} (h : i < l.length) : (l.drop i).take 1 = [l[i]] := by
  rw [List.drop_eq_getElem_cons h]
  rfl
theorem eat_byte {l : List UInt8} {i : Nat} (h : i < l.length) : (((l.drop i).take 1).map byteV) = [byteV l[i]] := by rw [eat_one h]; rfl
theorem eye_succ (i : Nat) (h : i < 2 ^ 62) : iadd .i64 (i : Int) 1 = ((i + 1 : Nat) : Int) := by
  rw [iadd_i64 (by omega)]
  rfl
theorem eye_lt_nat {a b : Nat} : ((a : Int) < b) = (a < b) := by simp
theorem i64_ne_false (x : Int) (h : x = 0) : (x != 0) = false := by subst h; rfl
theorem i64_ne_true (x : Int) (h : x ≠ 0) : (x != 0) = true := by simpa using h
theorem i64_eq_true (x : Int) (h : x = 0) : (x == 0) = true := by subst h; rfl
theorem i64_eq_false (x : Int) (h : x ≠ 0) : (x == 0) = false := by simpa using h
theorem bs_get (l : List UInt8) (i : Nat) (h : i < l.length) : (ByteArray.mk l.toArray)[i]? = some l[i] := by
  rw [getElem?_pos (ByteArray.mk l.toArray) i (by simpa [bs_size] using h)]
  rfl

theorem penRaw_nat (m l : List UInt8) : penRaw m (l, false) = (l ++ m, false) := rfl
theorem penNum_nat (k n : Nat) (l : List UInt8) : penNum k n (l, false) = (l ++ be k n, false) := rfl
theorem penSmall_nat {k n : Nat} {l : List UInt8} (h : n < 256 ^ k) : penSmall k (n : Int) (l, false) = (l ++ be k n, false) := by
  unfold penSmall
  rw [if_pos]
  · rfl
  · refine ⟨by omega, ?_⟩
    have e : (2 : Int) ^ (8 * k) = ((256 ^ k : Nat) : Int) := by rw [show (256 : Nat) = 2 ^ 8 from rfl, ← Nat.pow_mul]; push_cast; rfl
    rw [e]
    exact Int.ofNat_lt.2 h
theorem penText_nat {k : Nat} {m l : List UInt8} (h : m.length < 256 ^ k) : penText k m (l, false) = (l ++ be k m.length ++ m, false) := by
  unfold penText
  rw [penSmall_nat h]
  rfl
theorem i64_conv {n : Nat} (h : n < 2 ^ 62) : iconv .i64 (n : Int) = n := iconv_i64 (by omega)
theorem u64_conv {n : Nat} (h : n < 2 ^ 62) : iconv .u64 (n : Int) = n := iconv_u64_nat n (by omega)

/-- The reference's eye at p. -/
structure REyeS (s0 s : AS) (p : Nat) (st : EyeSt) : Prop where
  le : s0.le s
  new : s0.objs p = none
  obj : s.objs p = some [.v (.string ⟨st.1.toArray⟩), .v (.int .i64 st.2)]

theorem REyeS.put {s0 s : AS} {p : Nat} {st : EyeSt} (h : REyeS s0 s p st) {l : List UInt8} {e : Int} : REyeS s0 (s.set p [.v (.string ⟨l.toArray⟩), .v (.int .i64 e)]) p (l, e) :=
  ⟨AS.le_set h.le h.new _, h.new, AS.set_objs_same _ _ _⟩
theorem REyeS.put' {s0 s : AS} {p : Nat} {st : EyeSt} (h : REyeS s0 s p st) {l : List UInt8} {e : Int} {cs : List AV} (hc : cs = [.v (.string ⟨l.toArray⟩), .v (.int .i64 e)]) : REyeS s0 (s.set p cs) p (l, e) := hc ▸ h.put
theorem REyeS.own {s0 s : AS} {p : Nat} {st : EyeSt} (h : REyeS s0 s p st) : REyeS (s.drop p) s p st := by
  refine ⟨⟨fun o cs hc => ?_, fun t e he => ?_⟩, ?_, h.obj⟩
  · simp only [AS.drop, upd] at hc
    split at hc
    · cases hc
    · exact hc
  · simpa [AS.drop] using he
  · simp [AS.drop]

theorem eyeNext_err {n : Int} {l : List UInt8} {e : Int} (h : e ≠ 0) : eyeNext n (l, e) = ([], l, e) := by unfold eyeNext; exact if_neg h
theorem eyeNext_neg {n : Int} {l : List UInt8} (h : n < 0) : eyeNext n (l, 0) = ([], l, 2) := by unfold eyeNext; exact (if_pos rfl).trans (if_pos h)
theorem eyeNext_short {n : Int} {l : List UInt8} (h : ¬ n < 0) (k : (l.length : Int) < n) : eyeNext n (l, 0) = ([], l, 10) := by unfold eyeNext; exact (if_pos rfl).trans ((if_neg h).trans (if_pos k))
theorem eyeNext_ok {m : Nat} {l : List UInt8} (k : m ≤ l.length) : eyeNext m (l, 0) = (l.take m, l.drop m, 0) := by unfold eyeNext; exact (if_pos rfl).trans ((if_neg (by omega)).trans (if_neg (by simp only; omega)))
theorem eyeNum_err {k : Nat} {l : List UInt8} {e : Int} (h : e ≠ 0) : eyeNum k (l, e) = (0, l, e) := by unfold eyeNum; rw [eyeNext_err h]; rfl
theorem eyeNum_short {k : Nat} {l : List UInt8} (h : l.length < k) : eyeNum k (l, 0) = (0, l, 10) := by unfold eyeNum; rw [eyeNext_short (by omega) (by omega)]; rfl
theorem eyeNum_ok {k : Nat} {l : List UInt8} (h : k ≤ l.length) : eyeNum k (l, 0) = (beNat (l.take k), l.drop k, 0) := by unfold eyeNum; rw [eyeNext_ok h]
theorem eyeText_err {k : Nat} {most : Int} {l : List UInt8} {e : Int} (h : e ≠ 0) : eyeText k most (l, e) = ([], l, e) := by unfold eyeText; rw [eyeNum_err h]; exact if_neg h
theorem eyeText_short {k : Nat} {most : Int} {l : List UInt8} (h : l.length < k) : eyeText k most (l, 0) = ([], l, 10) := by unfold eyeText; rw [eyeNum_short h]; exact if_neg (show ¬ (10 : Int) = 0 by decide)
theorem eyeText_long {k : Nat} {most : Int} {l : List UInt8} (h : k ≤ l.length) (h2 : most < (beNat (l.take k) : Int)) : eyeText k most (l, 0) = ([], l, 11) := by unfold eyeText; rw [eyeNum_ok h]; exact (if_pos rfl).trans (if_pos h2)
theorem eyeText_less {k : Nat} {most : Int} {l : List UInt8} (h : k ≤ l.length) (h2 : ¬ most < (beNat (l.take k) : Int)) (h3 : l.length - k < beNat (l.take k)) : eyeText k most (l, 0) = ([], l, 10) := by
  unfold eyeText; rw [eyeNum_ok h]; exact (if_pos rfl).trans ((if_neg h2).trans (if_pos (by simpa using h3)))
theorem eyeText_ok {k : Nat} {most : Int} {l : List UInt8} (h : k ≤ l.length) (h2 : ¬ most < (beNat (l.take k) : Int)) (h3 : ¬ l.length - k < beNat (l.take k)) :
    eyeText k most (l, 0) = ((l.take (k + beNat (l.take k))).drop k, l.drop (k + beNat (l.take k)), 0) := by
  unfold eyeText
  rw [eyeNum_ok h]
  refine (if_pos rfl).trans ((if_neg h2).trans ((if_neg (by simpa using h3)).trans ?_))
  simp only
  rw [eyeNext_ok (by simpa using h3), List.drop_take, List.drop_drop, Nat.add_sub_cancel_left]

end Go.AM
