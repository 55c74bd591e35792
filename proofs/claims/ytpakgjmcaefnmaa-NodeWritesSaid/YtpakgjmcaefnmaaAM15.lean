/- An abstract machine for the model: abstract values, their relation to worlds, and the rules of its walk, each proved sound over the model; no condition. -/
import Derived.Test.YtpakgjmcaefnmaaAM14
set_option linter.unusedSimpArgs false
set_option linter.unusedVariables false
set_option autoImplicit false
namespace Go.AM
open Go Go.RowKit

variable {P : Program} {Γ : Nat → List AV} {s : AS}

/-- A contract out of the body's walk, the function's own cells as equations. -/
theorem acalls_body {f : FuncId} {fn : Func} {c : Code} {rs : Array ResultVar} {N : Nat} {args : List AV} {Post : AV → AS → Prop} {s : AS} (hf : P.funcs[f]? = some fn) (hb : fn.body = some c) (hN : fn.ntmps = N) (hrs : fn.results = rs) (hn : args.length ≤ N)
    (h : AWp P Γ N c (retQ P rs.toList Post) (initE args) s) : ACalls P Γ f args s Post := by
  subst hN hrs
  exact acalls_of hf hb hn h

theorem AS.set_objs_eq (s : AS) (o : Nat) (cs : List AV) : (s.set o cs).objs = upd s.objs o (some cs) := rfl
theorem AS.gain_objs (s : AS) (t e : Nat) : (s.gain t e).objs = s.objs := rfl
theorem AS.drop_objs (s : AS) (o : Nat) : (s.drop o).objs = upd s.objs o none := rfl
theorem AS.set_own (s : AS) (o : Nat) (cs : List AV) : (s.set o cs).own = s.own := rfl
theorem AS.gain_own_eq (s : AS) (t e : Nat) : (s.gain t e).own = upd s.own t (some e) := rfl
theorem AS.drop_own (s : AS) (o : Nat) : (s.drop o).own = s.own := rfl
theorem AS.set_set (s : AS) (o : Nat) (a b : List AV) : (s.set o a).set o b = s.set o b := by
  simp only [AS.set, AS.mk.injEq, and_true]
  funext i
  simp only [upd]
  split <;> rfl

def markL (fl : List Nat) : Nat → List Oper → List (Oper × Bool)
  | _, [] => []
  | k, o :: L => (o, fl.contains k) :: markL fl (k + 1) L

theorem markL_get (fl : List Nat) : ∀ (L : List Oper) (k i : Nat), (markL fl k L)[i]? = (L[i]?).map fun o => (o, fl.contains (k + i))
  | [], k, i => by simp [markL]
  | o :: L, k, 0 => by simp [markL]
  | o :: L, k, i + 1 => by
    simp only [markL, List.getElem?_cons_succ]
    rw [markL_get fl L (k + 1) i, show k + 1 + i = k + (i + 1) from by omega]

theorem marked_eq (ops : Array Oper) (fl : List Nat) : marked ops fl = markL fl 0 ops.toList := by
  apply List.ext_getElem?
  intro i
  rw [markL_get]
  simp only [marked, List.getElem?_map, Nat.zero_add]
  by_cases hi : i < ops.size
  · simp [hi, opAt]
  · simp [hi]

section
variable {N : Nat} {E : Env} {Q : Exit → Env → AS → Prop}

theorem awp_seq_k {x y : Code} (h : ∀ K : Env → AS → Prop, (∀ E s, AWp P Γ N y Q E s → K E s) → AWp P Γ N x (thenQ K Q) E s) : AWp P Γ N (.seq x y) Q E s :=
  awp_seq (h _ fun _ _ h => h)

theorem awp_region_seq {id : Nat} {ops : Array Oper} {y : Code} (h : ∀ K : Env → AS → Prop, (∀ E s, AWp P Γ N y Q E s → K E s) → AX P Γ N ops ops.toList K E s) : AWp P Γ N (.seq (.region id ops false) y) Q E s :=
  awp_seq (awp_region (h _ fun _ _ h => h))

theorem awp_region_end {id : Nat} {ops : Array Oper} (h : ∀ K : Env → AS → Prop, (∀ E s, Q .normal E s → K E s) → AX P Γ N ops ops.toList K E s) : AWp P Γ N (.region id ops false) Q E s :=
  awp_region (h _ fun _ _ h => h)

theorem awp_cond_k {c : Operand} {x y : Code} (h : ∀ X Y : Prop, (AWp P Γ N x Q E s → X) → (AWp P Γ N y Q E s → Y) → match aeval Γ E c with | .v (.bool t) => (t = true → X) ∧ (t = false → Y) | _ => False) : AWp P Γ N (.cond c x y) Q E s := by
  have h1 := h _ _ id id
  split at h1
  · rename_i t hc; exact awp_cond_split hc h1.1 h1.2
  · exact h1.elim

theorem awp_draw_seq (hm : P.follows .mixedOrders = true) (fl : List Nat) {id : Nat} {ops : Array Oper} {y : Code} (hok : drawOk ops fl = true) (h : ∀ K : Env → AS → Prop, (∀ E s, AWp P Γ N y Q E s → K E s) → AXp P Γ N ops (markL fl 0 ops.toList) K E s) :
    AWp P Γ N (.seq (.region id ops true) y) Q E s :=
  awp_seq (awp_region_draw hm fl hok (by rw [marked_eq]; exact h _ fun _ _ h => h))

theorem awp_draw_end (hm : P.follows .mixedOrders = true) (fl : List Nat) {id : Nat} {ops : Array Oper} (hok : drawOk ops fl = true) (h : ∀ K : Env → AS → Prop, (∀ E s, Q .normal E s → K E s) → AXp P Γ N ops (markL fl 0 ops.toList) K E s) :
    AWp P Γ N (.region id ops true) Q E s :=
  awp_region_draw hm fl hok (by rw [marked_eq]; exact h _ fun _ _ h => h)

end
end Go.AM
