/- An abstract machine for the model: abstract values, their relation to worlds, and the rules of its walk, each proved sound over the model; no condition. -/
import Derived.Test.YtpakgjmcaefnmaaAM17
set_option linter.unusedSimpArgs false
set_option linter.unusedVariables false
set_option autoImplicit false
namespace Go.AM
open Go Go.RowKit

/-! ### The machine's equations, in the order in which a walk uses them -/
variable {P : Program} {Γ : Nat → List AV} {N : Nat} {ops : Array Oper} {K : Env → AS → Prop} {E : Env} {s : AS}

def isCall : Op → Bool
  | .call { callee := .value _, .. } => true
  | _ => false


/-! The walk's runs, closed to the kernel: no rewriting step is ever checked by running them on. -/
theorem ax_is : ∃ f : Program → (Nat → List AV) → Nat → Array Oper → List Oper → (Env → AS → Prop) → Env → AS → Prop, f = AX := ⟨_, rfl⟩
noncomputable def AY : Program → (Nat → List AV) → Nat → Array Oper → List Oper → (Env → AS → Prop) → Env → AS → Prop := Classical.choose ax_is
theorem ay : AY = AX := Classical.choose_spec ax_is

/-- A call that is met; what follows waits. -/
def ACallK (P : Program) (Γ : Nat → List AV) (N : Nat) (ops : Array Oper) (k : FuncId) (as : List AV) (dst : Option Tmp) (rest : List Oper) (K : Env → AS → Prop) (E : Env) (s : AS) : Prop :=
  ACalls P Γ k as s fun r s' => AY P Γ N ops rest K (updO E dst r) s'

def ACallO (P : Program) (Γ : Nat → List AV) (N : Nat) (ops : Array Oper) (fv : AV) (as : List AV) (dst : Option Tmp) (rest : List Oper) (K : Env → AS → Prop) (E : Env) (s : AS) : Prop :=
  match fv with
  | .v (.func (.func k) first caps) => first.isEmpty = true ∧ caps.isEmpty = true ∧ callable P k = true ∧ ACallK P Γ N ops k as dst rest K E s
  | .clo k caps => callable P k = true ∧ ACallK P Γ N ops k (as ++ caps) dst rest K E s
  | _ => False

theorem ACallO_fun (k : FuncId) (as : List AV) (dst : Option Tmp) (rest : List Oper) : ACallO P Γ N ops (.v (.func (.func k) #[] #[])) as dst rest K E s = (callable P k = true ∧ ACallK P Γ N ops k as dst rest K E s) := by
  simp [ACallO]
theorem ACallO_clo (k : FuncId) (caps as : List AV) (dst : Option Tmp) (rest : List Oper) : ACallO P Γ N ops (.clo k caps) as dst rest K E s = (callable P k = true ∧ ACallK P Γ N ops k (as ++ caps) dst rest K E s) := rfl

theorem acallk {k : FuncId} {as : List AV} {dst : Option Tmp} {rest : List Oper} {Q : AV → AS → Prop} (h : ACalls P Γ k as s Q) (hk : ∀ r s', Q r s' → AY P Γ N ops rest K (updO E dst r) s') : ACallK P Γ N ops k as dst rest K E s := h.mono hk

theorem AX_nil : AY P Γ N ops [] K E s = K E s := by rw [ay]; rfl
theorem AX_op {dst : Option Tmp} {op : Op} {ty : TypeId} {pos : String} {after : Array Edge} {rest : List Oper} (_hc : isCall op = false) :
    AY P Γ N ops ({ dst := dst, op := op, type := ty, pos := pos, after := after, guard := none } :: rest) K E s = ((∀ d, dst = some d → d < N) ∧ astep P Γ (aeval Γ E) s (fun r s' => AY P Γ N ops rest K (updO E dst r) s') op) := by
  simp only [ay, AX]
theorem AX_guarded {o : Oper} {rest : List Oper} {j d : Nat} {want t : Bool} (hg : o.guard = some (j, want)) (hj : gdst ops j = some d) (hE : E d = .v (.bool t)) :
    AY P Γ N ops (o :: rest) K E s = if t = want then AY P Γ N ops ({ o with guard := none } :: rest) K E s else ((∀ d, o.dst = some d → d < N) ∧ AY P Γ N ops rest K (updO E o.dst (.v undef)) s) := by
  simp only [ay, AX, hg, hj, hE]
  split <;> rfl
theorem AX_move {dst : Option Tmp} (x : Operand) {ty : TypeId} {pos : String} {after : Array Edge} {rest : List Oper} : AY P Γ N ops ({ dst := dst, op := (.move x), type := ty, pos := pos, after := after, guard := none } :: rest) K E s = ((∀ d, dst = some d → d < N) ∧ astep P Γ (aeval Γ E) s (fun r s' => AY P Γ N ops rest K (updO E dst r) s') (.move x)) := AX_op rfl
theorem AX_assign {dst : Option Tmp} (x : Operand) {ty : TypeId} {pos : String} {after : Array Edge} {rest : List Oper} : AY P Γ N ops ({ dst := dst, op := (.assign x), type := ty, pos := pos, after := after, guard := none } :: rest) K E s = ((∀ d, dst = some d → d < N) ∧ astep P Γ (aeval Γ E) s (fun r s' => AY P Γ N ops rest K (updO E dst r) s') (.assign x)) := AX_op rfl
theorem AX_pick {dst : Option Tmp} (a b c : Operand) {ty : TypeId} {pos : String} {after : Array Edge} {rest : List Oper} : AY P Γ N ops ({ dst := dst, op := (.pick a b c), type := ty, pos := pos, after := after, guard := none } :: rest) K E s = ((∀ d, dst = some d → d < N) ∧ astep P Γ (aeval Γ E) s (fun r s' => AY P Γ N ops rest K (updO E dst r) s') (.pick a b c)) := AX_op rfl
theorem AX_alloc {dst : Option Tmp} (t : TypeId) {ty : TypeId} {pos : String} {after : Array Edge} {rest : List Oper} : AY P Γ N ops ({ dst := dst, op := (.alloc t), type := ty, pos := pos, after := after, guard := none } :: rest) K E s = ((∀ d, dst = some d → d < N) ∧ astep P Γ (aeval Γ E) s (fun r s' => AY P Γ N ops rest K (updO E dst r) s') (.alloc t)) := AX_op rfl
theorem AX_box {dst : Option Tmp} (t : TypeId) (x : Operand) {ty : TypeId} {pos : String} {after : Array Edge} {rest : List Oper} : AY P Γ N ops ({ dst := dst, op := (.box t x), type := ty, pos := pos, after := after, guard := none } :: rest) K E s = ((∀ d, dst = some d → d < N) ∧ astep P Γ (aeval Γ E) s (fun r s' => AY P Γ N ops rest K (updO E dst r) s') (.box t x)) := AX_op rfl
theorem AX_build {dst : Option Tmp} (t : TypeId) (ps : Array (Nat × Operand)) {ty : TypeId} {pos : String} {after : Array Edge} {rest : List Oper} : AY P Γ N ops ({ dst := dst, op := (.build t ps), type := ty, pos := pos, after := after, guard := none } :: rest) K E s = ((∀ d, dst = some d → d < N) ∧ astep P Γ (aeval Γ E) s (fun r s' => AY P Γ N ops rest K (updO E dst r) s') (.build t ps)) := AX_op rfl
theorem AX_buildSlice {dst : Option Tmp} (t : TypeId) (n : Nat) (ps : Array (Nat × Operand)) {ty : TypeId} {pos : String} {after : Array Edge} {rest : List Oper} : AY P Γ N ops ({ dst := dst, op := (.buildSlice t n ps), type := ty, pos := pos, after := after, guard := none } :: rest) K E s = ((∀ d, dst = some d → d < N) ∧ astep P Γ (aeval Γ E) s (fun r s' => AY P Γ N ops rest K (updO E dst r) s') (.buildSlice t n ps)) := AX_op rfl
theorem AX_load {dst : Option Tmp} (t : TypeId) (x : Operand) {ty : TypeId} {pos : String} {after : Array Edge} {rest : List Oper} : AY P Γ N ops ({ dst := dst, op := (.load t x), type := ty, pos := pos, after := after, guard := none } :: rest) K E s = ((∀ d, dst = some d → d < N) ∧ astep P Γ (aeval Γ E) s (fun r s' => AY P Γ N ops rest K (updO E dst r) s') (.load t x)) := AX_op rfl
theorem AX_store {dst : Option Tmp} (t : TypeId) (x y : Operand) {ty : TypeId} {pos : String} {after : Array Edge} {rest : List Oper} : AY P Γ N ops ({ dst := dst, op := (.store t x y), type := ty, pos := pos, after := after, guard := none } :: rest) K E s = ((∀ d, dst = some d → d < N) ∧ astep P Γ (aeval Γ E) s (fun r s' => AY P Γ N ops rest K (updO E dst r) s') (.store t x y)) := AX_op rfl
theorem AX_nilCheck {dst : Option Tmp} (x : Operand) {ty : TypeId} {pos : String} {after : Array Edge} {rest : List Oper} : AY P Γ N ops ({ dst := dst, op := (.nilCheck x), type := ty, pos := pos, after := after, guard := none } :: rest) K E s = ((∀ d, dst = some d → d < N) ∧ astep P Γ (aeval Γ E) s (fun r s' => AY P Γ N ops rest K (updO E dst r) s') (.nilCheck x)) := AX_op rfl
theorem AX_binOp {dst : Option Tmp} (o : BinOp) (t : TypeId) (x y : Operand) (u : TypeId) {ty : TypeId} {pos : String} {after : Array Edge} {rest : List Oper} : AY P Γ N ops ({ dst := dst, op := (.binOp o t x y u), type := ty, pos := pos, after := after, guard := none } :: rest) K E s = ((∀ d, dst = some d → d < N) ∧ astep P Γ (aeval Γ E) s (fun r s' => AY P Γ N ops rest K (updO E dst r) s') (.binOp o t x y u)) := AX_op rfl
theorem AX_unOp {dst : Option Tmp} (o : UnOp) (t : TypeId) (x : Operand) {ty : TypeId} {pos : String} {after : Array Edge} {rest : List Oper} : AY P Γ N ops ({ dst := dst, op := (.unOp o t x), type := ty, pos := pos, after := after, guard := none } :: rest) K E s = ((∀ d, dst = some d → d < N) ∧ astep P Γ (aeval Γ E) s (fun r s' => AY P Γ N ops rest K (updO E dst r) s') (.unOp o t x)) := AX_op rfl
theorem AX_convert {dst : Option Tmp} (t u : TypeId) (x : Operand) {ty : TypeId} {pos : String} {after : Array Edge} {rest : List Oper} : AY P Γ N ops ({ dst := dst, op := (.convert t u x), type := ty, pos := pos, after := after, guard := none } :: rest) K E s = ((∀ d, dst = some d → d < N) ∧ astep P Γ (aeval Γ E) s (fun r s' => AY P Γ N ops rest K (updO E dst r) s') (.convert t u x)) := AX_op rfl
theorem AX_makeInterface {dst : Option Tmp} (t : TypeId) (x : Operand) {ty : TypeId} {pos : String} {after : Array Edge} {rest : List Oper} : AY P Γ N ops ({ dst := dst, op := (.makeInterface t x), type := ty, pos := pos, after := after, guard := none } :: rest) K E s = ((∀ d, dst = some d → d < N) ∧ astep P Γ (aeval Γ E) s (fun r s' => AY P Γ N ops rest K (updO E dst r) s') (.makeInterface t x)) := AX_op rfl
theorem AX_makeFunc {dst : Option Tmp} (f : Fn) (a b : Array Operand) {ty : TypeId} {pos : String} {after : Array Edge} {rest : List Oper} : AY P Γ N ops ({ dst := dst, op := (.makeFunc f a b), type := ty, pos := pos, after := after, guard := none } :: rest) K E s = ((∀ d, dst = some d → d < N) ∧ astep P Γ (aeval Γ E) s (fun r s' => AY P Γ N ops rest K (updO E dst r) s') (.makeFunc f a b)) := AX_op rfl
theorem AX_makeSlice {dst : Option Tmp} (t : TypeId) (x y : Operand) {ty : TypeId} {pos : String} {after : Array Edge} {rest : List Oper} : AY P Γ N ops ({ dst := dst, op := (.makeSlice t x y), type := ty, pos := pos, after := after, guard := none } :: rest) K E s = ((∀ d, dst = some d → d < N) ∧ astep P Γ (aeval Γ E) s (fun r s' => AY P Γ N ops rest K (updO E dst r) s') (.makeSlice t x y)) := AX_op rfl
theorem AX_slice {dst : Option Tmp} (t : TypeId) (x : Operand) (a b c : Option Operand) {ty : TypeId} {pos : String} {after : Array Edge} {rest : List Oper} : AY P Γ N ops ({ dst := dst, op := (.slice t x a b c), type := ty, pos := pos, after := after, guard := none } :: rest) K E s = ((∀ d, dst = some d → d < N) ∧ astep P Γ (aeval Γ E) s (fun r s' => AY P Γ N ops rest K (updO E dst r) s') (.slice t x a b c)) := AX_op rfl
theorem AX_fieldAddr {dst : Option Tmp} (t : TypeId) (x : Operand) (i : Nat) {ty : TypeId} {pos : String} {after : Array Edge} {rest : List Oper} : AY P Γ N ops ({ dst := dst, op := (.fieldAddr t x i), type := ty, pos := pos, after := after, guard := none } :: rest) K E s = ((∀ d, dst = some d → d < N) ∧ astep P Γ (aeval Γ E) s (fun r s' => AY P Γ N ops rest K (updO E dst r) s') (.fieldAddr t x i)) := AX_op rfl
theorem AX_field {dst : Option Tmp} (t : TypeId) (x : Operand) (i : Nat) {ty : TypeId} {pos : String} {after : Array Edge} {rest : List Oper} : AY P Γ N ops ({ dst := dst, op := (.field t x i), type := ty, pos := pos, after := after, guard := none } :: rest) K E s = ((∀ d, dst = some d → d < N) ∧ astep P Γ (aeval Γ E) s (fun r s' => AY P Γ N ops rest K (updO E dst r) s') (.field t x i)) := AX_op rfl
theorem AX_indexAddr {dst : Option Tmp} (t : TypeId) (x y : Operand) {ty : TypeId} {pos : String} {after : Array Edge} {rest : List Oper} : AY P Γ N ops ({ dst := dst, op := (.indexAddr t x y), type := ty, pos := pos, after := after, guard := none } :: rest) K E s = ((∀ d, dst = some d → d < N) ∧ astep P Γ (aeval Γ E) s (fun r s' => AY P Γ N ops rest K (updO E dst r) s') (.indexAddr t x y)) := AX_op rfl
theorem AX_index {dst : Option Tmp} (t : TypeId) (x y : Operand) {ty : TypeId} {pos : String} {after : Array Edge} {rest : List Oper} : AY P Γ N ops ({ dst := dst, op := (.index t x y), type := ty, pos := pos, after := after, guard := none } :: rest) K E s = ((∀ d, dst = some d → d < N) ∧ astep P Γ (aeval Γ E) s (fun r s' => AY P Γ N ops rest K (updO E dst r) s') (.index t x y)) := AX_op rfl
theorem AX_extract {dst : Option Tmp} (x : Operand) (i : Nat) {ty : TypeId} {pos : String} {after : Array Edge} {rest : List Oper} : AY P Γ N ops ({ dst := dst, op := (.extract x i), type := ty, pos := pos, after := after, guard := none } :: rest) K E s = ((∀ d, dst = some d → d < N) ∧ astep P Γ (aeval Γ E) s (fun r s' => AY P Γ N ops rest K (updO E dst r) s') (.extract x i)) := AX_op rfl
theorem AX_builtin {dst : Option Tmp} (b : Builtin) (a : Array Operand) (t : Array TypeId) {ty : TypeId} {pos : String} {after : Array Edge} {rest : List Oper} : AY P Γ N ops ({ dst := dst, op := (.call { callee := .builtin b, args := a, argTypes := t }), type := ty, pos := pos, after := after, guard := none } :: rest) K E s = ((∀ d, dst = some d → d < N) ∧ astep P Γ (aeval Γ E) s (fun r s' => AY P Γ N ops rest K (updO E dst r) s') (.call { callee := .builtin b, args := a, argTypes := t })) := AX_op rfl
theorem AX_call {dst : Option Tmp} {f : Operand} {args : Array Operand} {argTypes : Array TypeId} {ty : TypeId} {pos : String} {after : Array Edge} {rest : List Oper} :
    AY P Γ N ops ({ dst := dst, op := .call { callee := .value f, args := args, argTypes := argTypes }, type := ty, pos := pos, after := after, guard := none } :: rest) K E s =
      ((∀ d, dst = some d → d < N) ∧ ACallO P Γ N ops (aeval Γ E f) (args.toList.map (aeval Γ E)) dst rest K E s) := by
  simp only [ay, AX, astep, aval, aeff, ACallO, ACallK]
  rfl
theorem astep_eq {ρ : Operand → AV} {K : AV → AS → Prop} {op : Op} : astep P Γ ρ s K op = match aval P ρ op with | some r => K r s | none => aeff P Γ ρ s K op := rfl

section
variable {ρ : Operand → AV} {K : AV → AS → Prop}
theorem aeff_load_eq {T : TypeId} {x : Operand} : aeff P Γ ρ s K (.load T x) = (match ρ x with
    | .ptr o off => (match s.objs o with
      | some cs => P.cellsOf T ≠ 0 ∧ (match aload P T (cs.drop off) with | some v => K v s | none => False)
      | none => False)
    | _ => False) := rfl
theorem aeff_store_eq {T : TypeId} {a x : Operand} : aeff P Γ ρ s K (.store T a x) = (match ρ a with
    | .ptr o off => (match s.objs o with
      | some cs => P.cellsOf T ≠ 0 ∧ (ρ x).cells.length = P.cellsOf T ∧ off + (ρ x).cells.length ≤ cs.length ∧ (ρ x).cells.all AV.one = true ∧ K (.v undef) (s.set o (asetAll cs off (ρ x).cells))
      | none => False)
    | _ => False) := rfl
theorem aeff_alloc_eq {T : TypeId} : aeff P Γ ρ s K (.alloc T) = (match zcells P T with | some z => ∀ o, s.objs o = none → K (.ptr o 0) (s.set o z) | none => False) := rfl
theorem aeff_box_eq {T : TypeId} {x : Operand} : aeff P Γ ρ s K (.box T x) = ∀ o, s.objs o = none → K (.ptr o 0) (s.set o (ρ x).cells) := rfl
theorem aeff_makeSlice_eq {T : TypeId} {l c : Operand} : aeff P Γ ρ s K (.makeSlice T l c) = (match P.underlying T, ρ l, ρ c with
    | some (.slice e), .v (.int _ n), .v (.int _ m) =>
      (match zcells P e with
      | some z => 0 ≤ n ∧ m = n ∧ P.bytesOf e * n ≤ 2 ^ 46 ∧ n ≤ 2 ^ 46 ∧ P.cellsOf e ≠ 0 ∧ z.length = P.cellsOf e ∧
          ∀ o, s.objs o = none → K (.osl o 0 (P.cellsOf e) n.toNat n.toNat) (s.set o (zrow (n.toNat * P.cellsOf e) z))
      | none => False)
    | _, _, _ => False) := rfl
theorem aeff_append_eq {x y : Operand} {T xT : TypeId} : aeff P Γ ρ s K (.call { callee := .builtin .append, args := #[x, y], argTypes := #[T, xT] }) = (match P.underlying T with
      | some (.slice e) =>
        (match zcells P e, asrc (P.cellsOf e) s (ρ y) with
        | some z, some (m, ds) => srcOk P (some xT) = true ∧ P.cellsOf e ≠ 0 ∧ z.length = P.cellsOf e ∧ aappend P e (ρ x) m ds s K
        | _, _ => False)
      | _ => False) := rfl
theorem aeff_copy_eq {x y : Operand} {T xT : TypeId} : aeff P Γ ρ s K (.call { callee := .builtin .copy, args := #[x, y], argTypes := #[T, xT] }) = (match P.underlying T with
      | some (.slice e) =>
        (match asrc (P.cellsOf e) s (ρ y), ρ x with
        | some (m, ds), .osl o off _ n _ =>
          (match s.objs o with
          | some cs => P.cellsOf e ≠ 0 ∧ ds.all AV.one = true ∧ off + min m n * P.cellsOf e ≤ cs.length ∧
              K (.v (.int .i64 ((min m n : Nat) : Int))) (s.set o (asetAll cs off (ds.take (min m n * P.cellsOf e))))
          | none => False)
        | _, _ => False)
      | _ => False) := rfl
theorem aappend_nil {e : TypeId} {m : Nat} {ds : List AV} : aappend P e (.v (.slice none 0 0)) m ds s K = if m = 0 then K (.v (.slice none 0 0)) s
    else m * P.bytesOf e ≤ 2 ^ 46 ∧ m ≤ 2 ^ 46 ∧ ∀ t, s.own t = none → K (.sl (P.cellsOf e) m ds (.own t 0)) (s.gain t 0) := rfl
theorem aappend_full {e : TypeId} {sz n m : Nat} {cs ds : List AV} : aappend P e (.sl sz n cs .full) m ds s K = if m = 0 then K (.sl sz n cs .full) s
    else sz = P.cellsOf e ∧ (n + m) * P.bytesOf e ≤ 2 ^ 46 ∧ n + m ≤ 2 ^ 46 ∧ ds.all AV.one = true ∧ ∀ t, s.own t = none → K (.sl sz (n + m) (cs ++ ds) (.own t 0)) (s.gain t 0) := rfl
theorem aappend_new {e : TypeId} {sz n m : Nat} {cs ds : List AV} : aappend P e (.sl sz n cs .new) m ds s K = if m = 0 then K (.sl sz n cs .new) s
    else sz = P.cellsOf e ∧ (n + m) * P.bytesOf e ≤ 2 ^ 46 ∧ n + m ≤ 2 ^ 46 ∧ ds.all AV.one = true ∧ ∀ t, s.own t = none → K (.sl sz (n + m) (cs ++ ds) (.own t 0)) (s.gain t 0) := rfl
theorem aappend_own {e : TypeId} {sz n m t g : Nat} {cs ds : List AV} : aappend P e (.sl sz n cs (.own t g)) m ds s K = if m = 0 then K (.sl sz n cs (.own t g)) s
    else sz = P.cellsOf e ∧ (n + m) * P.bytesOf e ≤ 2 ^ 46 ∧ n + m ≤ 2 ^ 46 ∧ ds.all AV.one = true ∧ s.own t = some g ∧ K (.sl sz (n + m) (cs ++ ds) (.own t (g + 1))) (s.gain t (g + 1)) := rfl
end

/-- A guarded operation with its test, as the walk meets it. -/
theorem AX_guard {dst : Option Tmp} {op : Op} {ty : TypeId} {pos : String} {after : Array Edge} {j : Nat} {want : Bool} {rest : List Oper} :
    AY P Γ N ops ({ dst := dst, op := op, type := ty, pos := pos, after := after, guard := some (j, want) } :: rest) K E s =
      (match gdst ops j with
      | none => (∀ d, dst = some d → d < N) ∧ False
      | some d => match E d with
        | .v (.bool t) => if t = want then AY P Γ N ops ({ dst := dst, op := op, type := ty, pos := pos, after := after, guard := none } :: rest) K E s else ((∀ d, dst = some d → d < N) ∧ AY P Γ N ops rest K (updO E dst (.v undef)) s)
        | .v (.tuple _) => (∀ d, dst = some d → d < N) ∧ AY P Γ N ops rest K (updO E dst (.v undef)) s
        | _ => (∀ d, dst = some d → d < N) ∧ False) := by
  cases hj : gdst ops j with
  | none => simp only [ay, AX, hj]
  | some d =>
    simp only
    split
    · rename_i t hE
      exact AX_guarded (o := { dst := dst, op := op, type := ty, pos := pos, after := after, guard := some (j, want) }) rfl hj hE
    · rename_i c hE
      simp only [ay, AX, hj, hE]
    · rename_i hne
      simp only [ay, AX, hj]
theorem atuple_nil : atuple [] = .tup [] := rfl
theorem atuple_one (a : AV) : atuple [a] = a := rfl
theorem atuple_two (a b : AV) : atuple [a, b] = .tup [a, b] := rfl
theorem atuple_three (a b c : AV) : atuple [a, b, c] = .tup [a, b, c] := rfl
theorem atuple_four (a b c d : AV) : atuple [a, b, c, d] = .tup [a, b, c, d] := rfl
theorem atuple_five (a b c d e : AV) : atuple [a, b, c, d, e] = .tup [a, b, c, d, e] := rfl

/-- A region that draws, as the walk meets it. -/
def AXq0 (P : Program) (Γ : Nat → List AV) (N : Nat) (ops : Array Oper) (fl : List Nat) (k : Nat) (L : List Oper) (K : Env → AS → Prop) (E : Env) (s : AS) : Prop := AXp P Γ N ops (markL fl k L) K E s
theorem axq_is : ∃ f : Program → (Nat → List AV) → Nat → Array Oper → List Nat → Nat → List Oper → (Env → AS → Prop) → Env → AS → Prop, f = AXq0 := ⟨_, rfl⟩
noncomputable def AXq : Program → (Nat → List AV) → Nat → Array Oper → List Nat → Nat → List Oper → (Env → AS → Prop) → Env → AS → Prop := Classical.choose axq_is
theorem axq : AXq = AXq0 := Classical.choose_spec axq_is
theorem AXq_nil {fl : List Nat} {k : Nat} : AXq P Γ N ops fl k [] K E s = K E s := by rw [axq]; rfl
theorem AXq_cons {fl : List Nat} {k : Nat} {o : Oper} {rest : List Oper} : AXq P Γ N ops fl k (o :: rest) K E s =
    if fl.contains k = true then AY P Γ N ops [o] (AXq P Γ N ops fl (k + 1) rest K) E s
    else ((∀ d, o.dst = some d → d < N) ∧ match pval P Γ ops o E with | some v => AXq P Γ N ops fl (k + 1) rest K (updO E o.dst v) s | none => False) := by rw [axq, ay]; rfl

section
variable {Q : Exit → Env → AS → Prop}
theorem awp_reg_seq {id : Nat} {L : List Oper} {y : Code} (h : ∀ K : Env → AS → Prop, (∀ E s, AWp P Γ N y Q E s → K E s) → AY P Γ N L.toArray L K E s) : AWp P Γ N (.seq (.region id L.toArray false) y) Q E s :=
  awp_region_seq fun K hK => by simpa [ay] using h K hK
theorem awp_reg_end {id : Nat} {L : List Oper} (h : ∀ K : Env → AS → Prop, (∀ E s, Q .normal E s → K E s) → AY P Γ N L.toArray L K E s) : AWp P Γ N (.region id L.toArray false) Q E s :=
  awp_region_end fun K hK => by simpa [ay] using h K hK
theorem awp_drw_seq (hm : P.follows .mixedOrders = true) (fl : List Nat) {id : Nat} {L : List Oper} {y : Code} (hok : drawOk L.toArray fl = true) (h : ∀ K : Env → AS → Prop, (∀ E s, AWp P Γ N y Q E s → K E s) → AXq P Γ N L.toArray fl 0 L K E s) :
    AWp P Γ N (.seq (.region id L.toArray true) y) Q E s :=
  awp_draw_seq hm fl hok fun K hK => by simpa [axq, AXq0] using h K hK
theorem awp_drw_end (hm : P.follows .mixedOrders = true) (fl : List Nat) {id : Nat} {L : List Oper} (hok : drawOk L.toArray fl = true) (h : ∀ K : Env → AS → Prop, (∀ E s, Q .normal E s → K E s) → AXq P Γ N L.toArray fl 0 L K E s) :
    AWp P Γ N (.region id L.toArray true) Q E s :=
  awp_draw_end hm fl hok fun K hK => by simpa [axq, AXq0] using h K hK
end
end Go.AM
