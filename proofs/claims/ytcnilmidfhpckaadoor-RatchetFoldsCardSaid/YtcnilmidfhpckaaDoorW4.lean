/- Contracts of the program's functions, each walked once; the conditions stand in each theorem. -/
import Derived.Test.YtcnilmidfhpckaaDoorW3
import Derived.Test.YtcnilmidfhpckaaDoorAMp6
import Derived.Test.YtcnilmidfhpckaaDoorW1
import Derived.Test.YtcnilmidfhpckaaDoorAMp5
set_option linter.unusedSimpArgs false
set_option linter.unusedVariables false
open Nat renaming reduceLT → Na, reduceLeDiff → Nb, reduceEqDiff → Nc, reduceAdd → Nk, reduceMul → Nf, reducePow → Ng, reduceSub → Nh
open Int renaming reduceLT → Za, reduceLE → Zb, reduceToNat → Zc
open Go.AM renaming ashift → Qa, aconv → Qb, aindexAddr → Qc, aindex → Qd, aslice → Qe, abuiltin → Qf, awp_reg_seq → wS, awp_reg_end → wE, awp_seq_k → wK, awp_cond_k → wC
open Go.AM.AV renaming cells → Qg, one → Qh
set_option autoImplicit false
namespace Go.AM
open Go Go.RowKit

variable {P : Program} {Γ : Nat → List AV} {G : Gh} {s : AS} {w : World} {N : Nat}

theorem flat_bytes' (l : List UInt8) : ∀ c ∈ l.map byteV, ∃ x, c = .v x := by
  intro c hc
  obtain ⟨b, _, rfl⟩ := List.mem_map.1 hc
  exact ⟨_, rfl⟩
theorem flat_ints' (l : List Int) : ∀ c ∈ l.map intC, ∃ x, c = .v x := by
  intro c hc
  obtain ⟨b, _, rfl⟩ := List.mem_map.1 hc
  exact ⟨_, rfl⟩
theorem View.nilZ {sz : Nat} : View Γ s (.v (.slice none 0 0)) (.sl sz 0 [] .any) := fun G w u _ hv => AV.weak_nil _ _ (by simpa [Go.AM.nilS, VRel] using hv)

theorem OBuf.view {sz n : Nat} {x : AV} {cs ds : List AV} (h : OBuf sz s x n cs) (k : Views Γ s cs ds) (hd : cs = [] → ds = []) : View Γ s x (.sl sz n ds .any) := by
  rcases h with ⟨rfl, h0, hx⟩ | ⟨o, cap, rest, rfl, ho, hcl, _⟩
  · rw [hd h0]
    rcases hx with rfl | rfl | rfl
    · exact View.nilZ
    · exact View.empty (.inl rfl)
    · exact View.empty (.inr rfl)
  · exact View.osl2 ho hcl k

theorem views_row {s0 : AS} : ∀ {T : List (NodeV × AV)}, (∀ p ∈ T, OBuf 1 s p.2 p.1.unm.length (p.1.unm.map intC)) → Views Γ s (rowC cellsX T) (rowC NodeV.cells (T.map (·.1)))
  | [], _ => by simpa [rowC] using (Views.nil : Views Γ s [] [])
  | p :: T, h => by
    have h1 : Views Γ s (cellsX p) p.1.cells := by
      refine .cons .val (.cons (View.sl (flat_bytes' _)) (.cons .val (.cons (View.sl (flat_bytes' _)) (.cons ?_ .nil))))
      exact (h p (List.mem_cons_self)).view (Views.flat (flat_ints' _)) (fun e => e)
    have h2 := views_row (s0 := s0) (T := T) (fun q hq => h q (List.mem_cons_of_mem _ hq))
    have e1 : rowC cellsX (p :: T) = cellsX p ++ rowC cellsX T := by simp [rowC]
    have e2 : rowC NodeV.cells ((p :: T).map (·.1)) = p.1.cells ++ rowC NodeV.cells (T.map (·.1)) := by simp [rowC]
    rw [e1, e2]
    exact h1.append h2

theorem TreeO.view {s0 : AS} {X : AV} {T : List (NodeV × AV)} (h : TreeO s0 s X T) : View Γ s X (treeV (T.map (·.1))) := by
  have := h.row.view (views_row (Γ := Γ) (s0 := s0) h.xs.buf) (fun e => by
    cases T with
    | nil => rfl
    | cons p T => simp [rowC, cellsX] at e)
  unfold treeV
  rw [List.length_map]
  exact this

end Go.AM


set_option autoImplicit false
namespace Go.Proofs.YtcnilmidfhpckaaDoor
open Go Go.AM Go.Proofs



variable {Γ : Nat → List AV}

/-! ### Calls upon a tree of objects -/
theorem memberO_calls {sa s : AS} {X : AV} {TS : List (NodeV × AV)} (h : TreeO sa s X TS) (ht : TS.length ≤ 2 ^ 61) (i : Int) : ACalls Tryd.prog Γ 17 [X, .v (.int .i64 i)] s (fun r s' => r = .v (.bool (decide (memI (TS.map (·.1)) i))) ∧ s' = s) :=
  ACalls.view ((member_calls (Γ := Γ0) (TS.map (·.1)) (by simpa using ht) i s0).mono fun r s' h => h.1) (.cons h.view (.cons .val .nil))
theorem leavesO_calls {sa s : AS} {X : AV} {TS : List (NodeV × AV)} (h : TreeO sa s X TS) (ht : TS.length ≤ 2 ^ 61) : ACalls Tryd.prog Γ 18 [X] s (fun r s' => r = .v (.int .i64 (lvs (TS.map (·.1)))) ∧ s' = s) :=
  ACalls.view ((leaves_calls (Γ := Γ0) (TS.map (·.1)) (by simpa using ht) s0).mono fun r s' h => h.1) (.cons h.view .nil)
theorem membersO_calls {sa s : AS} {X : AV} {TS : List (NodeV × AV)} (h : TreeO sa s X TS) (ht : TS.length ≤ 2 ^ 61) (a k : Nat) (hak : a + k < 2 ^ 61) : ACalls Tryd.prog Γ 24 [X, .v (.int .i64 a), .v (.int .i64 (((a + k : Nat) : Int) - 1))] s (fun r s' => r = .v (.int .i64 (cntN (memI (TS.map (·.1))) a k)) ∧ s' = s) :=
  ACalls.view ((members_calls (Γ := Γ0) (TS.map (·.1)) (by simpa using ht) a k hak s0).mono fun r s' h => h.1) (.cons h.view (.cons .val (.cons .val .nil)))

end Go.Proofs.YtcnilmidfhpckaaDoor


set_option autoImplicit false
namespace Go.AM
open Go

/-! ### One leaf more -/
def leafN (name : List UInt8) (key : Nat) : NodeV := ⟨1, name, key, [], []⟩
def insU (u : List Int) (v : Int) : List Int := u.take (u.countP (· < v)) ++ v :: u.drop (u.countP (· < v))
def putU (v : Nat) (t : List NodeV) (up : Nat) : List NodeV := if (nd t up).kind = 2 then t.set up { nd t up with unm := insU (nd t up).unm (v : Int) } else t
def frT (t : List NodeV) : Nat → Nat → Nat
  | 0, i => i
  | f + 1, i => if memI t (i : Int) then frT t f (i + 1) else i
def freeT (t : List NodeV) : Nat := frT t 33 0
def moreT (t : List NodeV) (v : Nat) : List NodeV := if v = lvs t then t ++ List.replicate (t.length + 1) NodeV.nought else t
def addAt (t : List NodeV) (v : Nat) (n : NodeV) : List NodeV := (pathL v (lvs (moreT t v))).foldl (putU v) ((moreT t v).set (2 * v) n)

theorem insU_len (u : List Int) (v : Int) : (insU u v).length = u.length + 1 := by
  have : u.countP (· < v) ≤ u.length := List.countP_le_length
  simp [insU]
  omega
theorem putU_len (v : Nat) (t : List NodeV) (up : Nat) : (putU v t up).length = t.length := by
  unfold putU
  split <;> simp
theorem putsU_len (v : Nat) : ∀ (l : List Nat) (t : List NodeV), (l.foldl (putU v) t).length = t.length
  | [], _ => rfl
  | x :: l, t => by rw [List.foldl_cons, putsU_len v l, putU_len]
theorem memI_lt {t : List NodeV} {i : Nat} (h : memI t (i : Int)) : i < lvs t := by have := h.2.1; omega
theorem frT_spec (t : List NodeV) : ∀ f i, lvs t < i + f → i ≤ lvs t → (∀ j, j < i → memI t (j : Int)) → frT t f i ≤ lvs t ∧ ¬ memI t ((frT t f i : Nat) : Int) ∧ ∀ j, j < frT t f i → memI t (j : Int)
  | 0, i, h, h2, _ => by omega
  | f + 1, i, h, h2, hj => by
    simp only [frT]
    split
    · rename_i hm
      have := memI_lt hm
      refine frT_spec t f (i + 1) (by omega) (by omega) (fun j hlt => ?_)
      by_cases e : j = i
      · rw [e]; exact hm
      · exact hj j (by omega)
    · rename_i hm
      exact ⟨h2, hm, hj⟩
theorem freeT_spec (t : List NodeV) : freeT t ≤ lvs t ∧ ¬ memI t ((freeT t : Nat) : Int) ∧ ∀ j, j < freeT t → memI t (j : Int) :=
  frT_spec t 33 0 (by have := lvs_le t; omega) (Nat.zero_le _) (fun j h => by omega)
/-- What Add hands back: a tree or none, a leaf's number, an error. -/
def addR (t : List NodeV) (name : List UInt8) (key : Nat) : List NodeV × Nat × Int :=
  if ¬ rightT t then ([], 0, 40)
  else if ¬ (leafN name key).right then ([], 0, 2)
  else if 0 ≤ namedI t name 0 then ([], 0, 31)
  else if freeT t = 32 then ([], 0, 21)
  else (addAt t (freeT t) (leafN name key), freeT t, 0)
/-- A tree, or none: nil. -/
def treeN (t : List NodeV) : AV := if t = [] then nilS else treeV t

end Go.AM


set_option autoImplicit false
namespace Go.Proofs.YtcnilmidfhpckaaDoor
open Go Go.AM Go.Proofs


variable {Γ : Nat → List AV}

set_option maxRecDepth 100000 in
set_option maxHeartbeats 2000000 in
theorem leafOf20_calls (name : List UInt8) (key : Nat) (hn : name.length ≤ 2 ^ 45) (s : AS) : ACalls Tryd.prog Γ 12 [bytesV name .any, .v (.int .u64 key)] s (fun r s' => r = .agg (leafN name key).cells ∧ s' = s) := by
  refine acalls_body Tryd.func12 rfl Tryd.ntmps12 Tryd.results12 (by simp) ?_
  have hc := fun s => bytesClone_calls (Γ := Γ) name s hn
  unfold bytesV at *
  refine wS fun K hK => ?_
  simp only [↓DN,UP,DF,Qa,Qb,Qc,Qd,Qe,Qf,Qg,Qh,reduceCtorEq,↓reduceIte,Na,Nb,Nc,Nk,Nf,Ng,Nh,Za,Zb,Zc,TT]
  intro o ho
  refine hK _ _ ?_;clear hK K
  refine wS fun K hK => ?_
  simp only [↓DN,UP,DF,Qa,Qb,Qc,Qd,Qe,Qf,Qg,Qh,reduceCtorEq,↓reduceIte,Na,Nb,Nc,Nk,Nf,Ng,Nh,Za,Zb,Zc,TT]
  refine acallk (hc _) ?_
  rintro r s1 ⟨rfl, rfl⟩
  simp only [↓AXq_nil,↓AXq_cons,pval,DX,Nat.reduceBEq,↓DN,UP,DF,Qa,Qb,Qc,Qd,Qe,Qf,Qg,Qh,reduceCtorEq,↓reduceIte,Na,Nb,Nc,Nk,Nf,Ng,Nh,Za,Zb,Zc,TT]
  refine hK _ _ ?_;clear hK K
  refine awp_ret ?_
  refine aends_cell (o := o) (off := 0) (by simp only [upd, Nc, ↓reduceIte]) (AS.set_objs_same _ _ _) (by rw [T.c46]; decide) (by simp only [↓DN,UP,DF,Qa,Qb,Qc,Qd,Qe,Qf,Qg,Qh,reduceCtorEq,↓reduceIte,Na,Nb,Nc,Nk,Nf,Ng,Nh,Za,Zb,Zc,TT]; rfl) ?_
  exact ⟨_, s, AV.weak_agg (.cons (AV.weak.refl _) (.cons (AV.weak.refl _) (.cons (AV.weak.refl _) (.cons AV.weak_nil (.cons AV.weak_nil .nil))))), AS.le_set (AS.le.refl s) ho _, rfl, rfl⟩

set_option maxRecDepth 100000 in
set_option maxHeartbeats 2000000 in
theorem new20_calls (name : List UInt8) (key : Nat) (hn : name.length ≤ 2 ^ 45) (s : AS) : ACalls Tryd.prog Γ 5 [bytesV name .any, .v (.int .u64 key)] s
    (fun r s' => r = (if (leafN name key).right then .tup [treeV [leafN name key], .v (.int .i64 0)] else .tup [nilS, .v (.int .i64 2)]) ∧ s' = s) := by
  by_cases h : (leafN name key).right
  · rw [if_pos h]
    refine acalls_body Tryd.func5 rfl Tryd.ntmps5 Tryd.results5 (by simp) ?_
    have hc := fun s => leafOf20_calls (Γ := Γ) name key hn s
    have hr := fun s => nodeRight_calls (Γ := Γ) (leafN name key) (by simp [leafN]) s
    have hcells : (leafN name key).cells = [.v (.int .i64 1), bytesV name .any, .v (.int .u64 key), bytesV [] .any, intsV [] .any] := rfl
    have htree : treeV [leafN name key] = .sl 5 1 [.v (.int .i64 1), bytesV name .any, .v (.int .u64 key), bytesV [] .any, intsV [] .any] .any := rfl
    rw [htree]
    rw [hcells] at hc hr
    generalize leafN name key = N at *
    unfold bytesV intsV at *
    refine wS fun K hK => ?_
    simp only [↓DN,UP,DF,Qa,Qb,Qc,Qd,Qe,Qf,Qg,Qh,reduceCtorEq,↓reduceIte,Na,Nb,Nc,Nk,Nf,Ng,Nh,Za,Zb,Zc,TT]
    refine hK _ _ ?_;clear hK K
    refine awp_reg_frz 6 (by decide) ?_
    intro K hK
    simp only [↓AXq_nil,↓AXq_cons,pval,DX,Nat.reduceBEq,↓DN,UP,DF,Qa,Qb,Qc,Qd,Qe,Qf,Qg,Qh,reduceCtorEq,↓reduceIte,Na,Nb,Nc,Nk,Nf,Ng,Nh,Za,Zb,Zc,TT]
    refine acallk (hc _) ?_
    rintro r s1 ⟨rfl, rfl⟩
    simp only [↓AXq_nil,↓AXq_cons,pval,DX,Nat.reduceBEq,↓DN,UP,DF,Qa,Qb,Qc,Qd,Qe,Qf,Qg,Qh,reduceCtorEq,↓reduceIte,Na,Nb,Nc,Nk,Nf,Ng,Nh,Za,Zb,Zc,TT]
    intro o ho
    refine hK _ _ o _ (by simp only [upd, Nc, ↓reduceIte]) ho ?_
    clear hK K ho
    refine wK fun K hK => ?_
    refine wS fun K hK => ?_
    simp only [↓DN,UP,DF,Qa,Qb,Qc,Qd,Qe,Qf,Qg,Qh,reduceCtorEq,↓reduceIte,Na,Nb,Nc,Nk,Nf,Ng,Nh,Za,Zb,Zc,TT]
    refine acallk (hr _) ?_
    rintro r s2 ⟨rfl, rfl⟩
    rw [decide_eq_true h]
    simp only [↓AXq_nil,↓AXq_cons,pval,DX,Nat.reduceBEq,↓DN,UP,DF,Qa,Qb,Qc,Qd,Qe,Qf,Qg,Qh,reduceCtorEq,↓reduceIte,Na,Nb,Nc,Nk,Nf,Ng,Nh,Za,Zb,Zc,TT]
    refine hK _ _ ?_;clear hK K
    refine wC fun X Y hX hY => ?_
    simp only [↓DN,UP,DF,Qa,Qb,Qc,Qd,Qe,Qf,Qg,Qh,reduceCtorEq,↓reduceIte,Na,Nb,Nc,Nk,Nf,Ng,Nh,Za,Zb,Zc,TT, DB]
    refine hY ?_;clear hX hY X Y
    refine awp_skip ?_
    refine hK _ _ ?_;clear hK K
    refine wS fun K hK => ?_
    simp only [↓DN,UP,DF,Qa,Qb,Qc,Qd,Qe,Qf,Qg,Qh,reduceCtorEq,↓reduceIte,Na,Nb,Nc,Nk,Nf,Ng,Nh,Za,Zb,Zc,TT, zrow_quin]
    refine hK _ _ ?_;clear hK K
    refine awp_ret ?_
    try simp only [thenQ, blockQ]
    simp only [retQ, AEnds, aresL, ares, List.toList_toArray, ↓upd_same]; try simp only [UP,DF,Nc,↓reduceIte,DT]
    exact ⟨_, _, AV.weak_tup2 AV.weak_any (AV.weak.refl _), AS.le.refl _, rfl, rfl⟩
  · rw [if_neg h]
    refine acalls_body Tryd.func5 rfl Tryd.ntmps5 Tryd.results5 (by simp) ?_
    have hc := fun s => leafOf20_calls (Γ := Γ) name key hn s
    have hr := fun s => nodeRight_calls (Γ := Γ) (leafN name key) (by simp [leafN]) s
    have hcells : (leafN name key).cells = [.v (.int .i64 1), bytesV name .any, .v (.int .u64 key), bytesV [] .any, intsV [] .any] := rfl
    have htree : treeV [leafN name key] = .sl 5 1 [.v (.int .i64 1), bytesV name .any, .v (.int .u64 key), bytesV [] .any, intsV [] .any] .any := rfl
    clear htree
    rw [hcells] at hc hr
    generalize leafN name key = N at *
    unfold bytesV intsV at *
    refine wS fun K hK => ?_
    simp only [↓DN,UP,DF,Qa,Qb,Qc,Qd,Qe,Qf,Qg,Qh,reduceCtorEq,↓reduceIte,Na,Nb,Nc,Nk,Nf,Ng,Nh,Za,Zb,Zc,TT]
    refine hK _ _ ?_;clear hK K
    refine awp_reg_frz 6 (by decide) ?_
    intro K hK
    simp only [↓AXq_nil,↓AXq_cons,pval,DX,Nat.reduceBEq,↓DN,UP,DF,Qa,Qb,Qc,Qd,Qe,Qf,Qg,Qh,reduceCtorEq,↓reduceIte,Na,Nb,Nc,Nk,Nf,Ng,Nh,Za,Zb,Zc,TT]
    refine acallk (hc _) ?_
    rintro r s1 ⟨rfl, rfl⟩
    simp only [↓AXq_nil,↓AXq_cons,pval,DX,Nat.reduceBEq,↓DN,UP,DF,Qa,Qb,Qc,Qd,Qe,Qf,Qg,Qh,reduceCtorEq,↓reduceIte,Na,Nb,Nc,Nk,Nf,Ng,Nh,Za,Zb,Zc,TT]
    intro o ho
    refine hK _ _ o _ (by simp only [upd, Nc, ↓reduceIte]) ho ?_
    clear hK K ho
    refine wK fun K hK => ?_
    refine wS fun K hK => ?_
    simp only [↓DN,UP,DF,Qa,Qb,Qc,Qd,Qe,Qf,Qg,Qh,reduceCtorEq,↓reduceIte,Na,Nb,Nc,Nk,Nf,Ng,Nh,Za,Zb,Zc,TT]
    refine acallk (hr _) ?_
    rintro r s2 ⟨rfl, rfl⟩
    rw [decide_eq_false h]
    simp only [↓AXq_nil,↓AXq_cons,pval,DX,Nat.reduceBEq,↓DN,UP,DF,Qa,Qb,Qc,Qd,Qe,Qf,Qg,Qh,reduceCtorEq,↓reduceIte,Na,Nb,Nc,Nk,Nf,Ng,Nh,Za,Zb,Zc,TT]
    refine hK _ _ ?_;clear hK K
    refine wC fun X Y hX hY => ?_
    simp only [↓DN,UP,DF,Qa,Qb,Qc,Qd,Qe,Qf,Qg,Qh,reduceCtorEq,↓reduceIte,Na,Nb,Nc,Nk,Nf,Ng,Nh,Za,Zb,Zc,TT, DB]
    refine hX ?_;clear hX hY X Y
    refine wS fun K hK => ?_
    simp only [↓DN,UP,DF,Qa,Qb,Qc,Qd,Qe,Qf,Qg,Qh,reduceCtorEq,↓reduceIte,Na,Nb,Nc,Nk,Nf,Ng,Nh,Za,Zb,Zc,TT]
    refine hK _ _ ?_;clear hK K
    refine awp_ret ?_
    try simp only [thenQ, blockQ]
    simp only [retQ, AEnds, aresL, ares, List.toList_toArray, ↓upd_same]; try simp only [UP,DF,Nc,↓reduceIte,DT]
    exact ⟨_, _, AV.weak.refl _, AS.le.refl _, rfl, rfl⟩

end Go.Proofs.YtcnilmidfhpckaaDoor


set_option autoImplicit false
namespace Go.AM
open Go Go.RowKit

variable {Γ : Nat → List AV} {s : AS}

/-- Another node in a place: its unmerged leaves lie in an object that was there, or is new. -/
theorem TreeO.put {s0 s s1 : AS} {O cap : Nat} {rest : List AV} {T : List (NodeV × AV)} {i : Nat} {p : NodeV × AV} {n : Nat} (h : TreeO s0 s (.osl O 0 5 n cap) T) (hi : i < T.length) (hn : n = T.length)
    (hle : ∀ o, o ≠ O → (∀ ob, onm p.2 = some ob → o ≠ ob) → ∀ cs, s.objs o = some cs → s1.objs o = some cs) (hle0 : s0.le s1) (hb : OBuf 1 s1 p.2 p.1.unm.length (p.1.unm.map intC)) (hO : s1.objs O = some (rowC cellsX (T.set i p) ++ rest)) (hrl : rest.length = (cap - T.length) * 5) (hcap : T.length ≤ cap) (h63 : cap < 2 ^ 63)
    (hnew : ∀ ob, onm p.2 = some ob → ob ≠ O ∧ s0.objs ob = none ∧ ∀ j (hj : j < T.length), j ≠ i → onm (T[j]).2 ≠ some ob) : TreeO s0 s1 (.osl O 0 5 n cap) (T.set i p) := by
  have hsep := List.pairwise_iff_getElem.1 h.xs.sep
  have hget : ∀ j (hj : j < (T.set i p).length), (T.set i p)[j] = if i = j then p else T[j]'(by simpa using hj) := fun j hj => List.getElem_set ..
  refine ⟨⟨fun q hq => ?_, fun q hq o ho => ?_, ?_⟩, hle0, .inr ⟨O, cap, rest, by simp [hn], hO, by rw [row_len cellsX_len], by simpa using hrl, by simpa using hcap, h63⟩, h.newR, fun O' hO' q hq => ?_⟩
  · obtain ⟨j, hj, rfl⟩ := List.mem_iff_getElem.1 hq
    rw [hget]
    split
    · exact hb
    · rename_i hne
      have hj' : j < T.length := by simpa using hj
      rcases h.xs.buf _ (List.getElem_mem hj') with h1 | ⟨o, c, rs, h1, h2, h3⟩
      · exact .inl h1
      · have ho : onm (T[j]).2 = some o := by rw [h1]; rfl
        exact .inr ⟨o, c, rs, h1, hle o (fun e => h.sepR O rfl _ (List.getElem_mem hj') (by rw [ho, e])) (fun ob hob e => (hnew ob hob).2.2 j hj' (fun e => hne e.symm) (by rw [ho, e])) _ h2, h3⟩
  · obtain ⟨j, hj, rfl⟩ := List.mem_iff_getElem.1 hq
    rw [hget] at ho
    split at ho
    · exact (hnew o ho).2.1
    · exact h.xs.new _ (List.getElem_mem _) o ho
  · rw [List.pairwise_iff_getElem]
    intro a b ha hb' hab o ho
    rw [hget] at ho ⊢
    have ha' : a < T.length := by simpa using ha
    have hb'' : b < T.length := by simpa using hb'
    by_cases ea : i = a
    · rw [if_pos ea] at ho
      rw [if_neg (by omega)]
      exact (hnew o ho).2.2 b hb'' (by omega)
    · rw [if_neg ea] at ho
      by_cases eb : i = b
      · rw [if_pos eb]
        intro e
        exact (hnew o e).2.2 a ha' (by omega) ho
      · rw [if_neg eb]
        exact hsep a b ha' hb'' hab o ho
  · obtain ⟨j, hj, rfl⟩ := List.mem_iff_getElem.1 hq
    cases hO'
    rw [hget]
    split
    · exact fun e => (hnew O e).1 rfl
    · exact h.sepR O rfl _ (List.getElem_mem _)

end Go.AM


set_option autoImplicit false
namespace Go.AM

/-! ### The digest, in plain Lean: words are natural numbers below 2 ^ 32 -/
namespace Sha
def add32 (a b : Nat) : Nat := (a + b) % 4294967296
def rotr (x n : Nat) : Nat := (x / 2 ^ n) ||| ((x * 2 ^ (32 - n)) % 4294967296)
def sig3 (x a b c : Nat) : Nat := (rotr x a ^^^ rotr x b) ^^^ rotr x c
def sig2 (x a b c : Nat) : Nat := (rotr x a ^^^ rotr x b) ^^^ (x / 2 ^ c)
def be32 (a b c d : Nat) : Nat := ((a * 256 + b) * 256 + c) * 256 + d

/-- The next word of a block's row. -/
def word (c : List UInt8) (p : List Nat) (i : Nat) : Nat :=
  if i < 16 then be32 ((c.getD (4 * i) 0).toNat) ((c.getD (4 * i + 1) 0).toNat) ((c.getD (4 * i + 2) 0).toNat) ((c.getD (4 * i + 3) 0).toNat)
  else add32 (add32 (add32 (sig2 (p.getD (i - 2) 0) 17 19 10) (p.getD (i - 7) 0)) (sig2 (p.getD (i - 15) 0) 7 18 3)) (p.getD (i - 16) 0)
/-- The first n words of a block's row. -/
def sch (c : List UInt8) : Nat → List Nat
  | 0 => []
  | n + 1 => sch c n ++ [word c (sch c n) n]
def t1 (e f g h k w : Nat) : Nat := add32 (add32 (add32 (add32 h (sig3 e 6 11 25)) ((e &&& f) ^^^ ((4294967295 - e) &&& g))) k) w
def t2 (a b c : Nat) : Nat := add32 (sig3 a 2 13 22) (((a &&& b) ^^^ (a &&& c)) ^^^ (b &&& c))
structure St where
  a : Nat
  b : Nat
  c : Nat
  d : Nat
  e : Nat
  f : Nat
  g : Nat
  h : Nat
def St.step (s : St) (k w : Nat) : St :=
  ⟨add32 (t1 s.e s.f s.g s.h k w) (t2 s.a s.b s.c), s.a, s.b, s.c, add32 s.d (t1 s.e s.f s.g s.h k w), s.e, s.f, s.g⟩
def St.add (s t : St) : St := ⟨add32 s.a t.a, add32 s.b t.b, add32 s.c t.c, add32 s.d t.d, add32 s.e t.e, add32 s.f t.f, add32 s.g t.g, add32 s.h t.h⟩
def St.list (s : St) : List Nat := [s.a, s.b, s.c, s.d, s.e, s.f, s.g, s.h]
structure St.ok (s : St) : Prop where
  a : s.a < 4294967296
  b : s.b < 4294967296
  c : s.c < 4294967296
  d : s.d < 4294967296
  e : s.e < 4294967296
  f : s.f < 4294967296
  g : s.g < 4294967296
  h : s.h < 4294967296

def K : List Nat := [
  0x428a2f98, 0x71374491, 0xb5c0fbcf, 0xe9b5dba5, 0x3956c25b, 0x59f111f1, 0x923f82a4, 0xab1c5ed5,
  0xd807aa98, 0x12835b01, 0x243185be, 0x550c7dc3, 0x72be5d74, 0x80deb1fe, 0x9bdc06a7, 0xc19bf174,
  0xe49b69c1, 0xefbe4786, 0x0fc19dc6, 0x240ca1cc, 0x2de92c6f, 0x4a7484aa, 0x5cb0a9dc, 0x76f988da,
  0x983e5152, 0xa831c66d, 0xb00327c8, 0xbf597fc7, 0xc6e00bf3, 0xd5a79147, 0x06ca6351, 0x14292967,
  0x27b70a85, 0x2e1b2138, 0x4d2c6dfc, 0x53380d13, 0x650a7354, 0x766a0abb, 0x81c2c92e, 0x92722c85,
  0xa2bfe8a1, 0xa81a664b, 0xc24b8b70, 0xc76c51a3, 0xd192e819, 0xd6990624, 0xf40e3585, 0x106aa070,
  0x19a4c116, 0x1e376c08, 0x2748774c, 0x34b0bcb5, 0x391c0cb3, 0x4ed8aa4a, 0x5b9cca4f, 0x682e6ff3,
  0x748f82ee, 0x78a5636f, 0x84c87814, 0x8cc70208, 0x90befffa, 0xa4506ceb, 0xbef9a3f7, 0xc67178f2]
def H0 : St := ⟨0x6a09e667, 0xbb67ae85, 0x3c6ef372, 0xa54ff53a, 0x510e527f, 0x9b05688c, 0x1f83d9ab, 0x5be0cd19⟩

/-- The first n rounds over a row of words. -/
def rounds (w : List Nat) (s : St) : Nat → St
  | 0 => s
  | n + 1 => (rounds w s n).step (K.getD n 0) (w.getD n 0)
def mix (s : St) (c : List UInt8) : St := s.add (rounds (sch c 64) s 64)

def blk (l : List UInt8) (i : Nat) : List UInt8 := (l.drop (64 * i)).take 64
/-- The state behind the first n blocks. -/
def hash (l : List UInt8) : Nat → St
  | 0 => H0
  | n + 1 => mix (hash l n) (blk l n)

def zeros (n : Nat) : Nat := (119 - n % 64) % 64
def lenB (n : Nat) : List UInt8 := [UInt8.ofNat (8 * n / 2 ^ 56), UInt8.ofNat (8 * n / 2 ^ 48), UInt8.ofNat (8 * n / 2 ^ 40), UInt8.ofNat (8 * n / 2 ^ 32), UInt8.ofNat (8 * n / 2 ^ 24), UInt8.ofNat (8 * n / 2 ^ 16), UInt8.ofNat (8 * n / 2 ^ 8), UInt8.ofNat (8 * n)]
def pad (l : List UInt8) : List UInt8 := l ++ (128 :: (List.replicate (zeros l.length) 0 ++ lenB l.length))
def be (x : Nat) : List UInt8 := [UInt8.ofNat (x / 2 ^ 24), UInt8.ofNat (x / 2 ^ 16), UInt8.ofNat (x / 2 ^ 8), UInt8.ofNat x]
def St.bytes (s : St) : List UInt8 := be s.a ++ be s.b ++ be s.c ++ be s.d ++ be s.e ++ be s.f ++ be s.g ++ be s.h
/-- The digest. -/
def sum (l : List UInt8) : List UInt8 := (hash (pad l) ((pad l).length / 64)).bytes

theorem sum_length (l : List UInt8) : (sum l).length = 32 := rfl

/-! ### Bounds -/
theorem add32_lt (a b : Nat) : add32 a b < 4294967296 := Nat.mod_lt _ (by decide)
theorem St.ok.step {s : St} (h : s.ok) (k w : Nat) : (s.step k w).ok := ⟨add32_lt _ _, h.a, h.b, h.c, add32_lt _ _, h.e, h.f, h.g⟩
theorem St.ok.add (s t : St) : (s.add t).ok := ⟨add32_lt _ _, add32_lt _ _, add32_lt _ _, add32_lt _ _, add32_lt _ _, add32_lt _ _, add32_lt _ _, add32_lt _ _⟩
end Sha
end Go.AM


set_option autoImplicit false
namespace Go.AM

/-! ### The tag, in plain Lean -/
namespace Mac
def key (k : List UInt8) : List UInt8 := if 64 < k.length then Sha.sum k else k
def fill (k : List UInt8) : List UInt8 := k ++ List.replicate (64 - k.length) 0
def turn (x : UInt8) (l : List UInt8) : List UInt8 := l.map fun c => c ^^^ x
def inner (k l : List UInt8) : List UInt8 := Sha.sum (turn 54 (fill (key k)) ++ l)
def tag (k l : List UInt8) : List UInt8 := Sha.sum (turn 92 (fill (key k)) ++ inner k l)

theorem tag_len (k l : List UInt8) : (tag k l).length = 32 := Sha.sum_length _
/-- The first i octets turned. -/
def part (x : UInt8) (l : List UInt8) (i : Nat) : List UInt8 := turn x (l.take i) ++ l.drop i
/-- Copied to the front. -/
theorem asetAll_front : ∀ (ds cs : List AV) (off : Nat), off + ds.length ≤ cs.length → asetAll cs off ds = cs.take off ++ ds ++ cs.drop (off + ds.length)
  | [], cs, off, h => by simp [asetAll]
  | d :: ds, cs, off, h => by
    rw [asetAll, asetAll_front ds (cs.set off d) (off + 1) (by simp at h ⊢; omega)]
    simp only [List.length_cons] at h
    have h1 : (cs.set off d).take (off + 1) = cs.take off ++ [d] := by
      rw [List.take_succ_eq_append_getElem (by simp; omega), List.getElem_set_self, List.take_set_of_le (Nat.le_refl off)]
    have h2 : (cs.set off d).drop (off + 1 + ds.length) = cs.drop (off + (ds.length + 1)) := by
      rw [List.drop_set_of_lt (by omega)]
      congr 1
      omega
    rw [h1, h2, List.length_cons]
    simp
end Mac
end Go.AM


set_option autoImplicit false
namespace Go.AM
open Go

theorem right_small {n : NodeV} (h : n.right) : n.name.length ≤ 16 ∧ n.parent.length ≤ 32 ∧ n.unm.length ≤ 32 := by
  unfold NodeV.right at h
  split at h
  · rw [h]; simp [NodeV.nought]
  · split at h
    · obtain ⟨h1, h2, h3, h4⟩ := h
      have := h3.2.2
      omega
    · split at h
      · obtain ⟨h1, h3, h4⟩ := h
        have := h3.2.2
        have := rising_len h4
        omega
      · exact h.elim

theorem rising_lt {l : List Int} (h : Rising l) {i j : Nat} (hij : i < j) (hj : j < l.length) : l.getD i 0 < l.getD j 0 := by
  induction j with
  | zero => omega
  | succ j ih =>
    have h1 := (h (j + 1) hj).2.2 (by omega)
    rw [Nat.add_sub_cancel] at h1
    by_cases e : i = j
    · rw [e]; exact h1
    · have := ih (by omega) (by omega)
      omega
theorem rising_sorted {l : List Int} (h : Rising l) : l.Pairwise (· < ·) := by
  rw [List.pairwise_iff_getElem]
  intro i j hi hj hij
  have := rising_lt h hij hj
  simpa [List.getD, hi, hj] using this

end Go.AM


set_option autoImplicit false
namespace Go.AM
open Go

/-! ### Nodes of trees that are changed -/
theorem nd_set (t : List NodeV) (i : Nat) (x : NodeV) (j : Nat) : nd (t.set i x) j = if i = j ∧ i < t.length then x else nd t j := by
  unfold nd
  simp only [List.getD_eq_getElem?_getD, List.getElem?_set]
  by_cases h : i = j
  · by_cases k : i < t.length
    · rw [if_pos h, if_pos k, if_pos ⟨h, k⟩]; rfl
    · rw [if_pos h, if_neg k, if_neg (fun q => k q.2)]
      subst h
      rw [List.getElem?_eq_none (by omega)]
  · rw [if_neg h, if_neg (fun q => h q.1)]
theorem nd_out {t : List NodeV} {i : Nat} (h : t.length ≤ i) : nd t i = NodeV.nought := by
  unfold nd
  rw [List.getD_eq_getElem?_getD, List.getElem?_eq_none h]; rfl
theorem nd_more (t : List NodeV) (v j : Nat) : nd (moreT t v) j = nd t j := by
  unfold moreT
  split
  · by_cases h : j < t.length
    · unfold nd
      rw [List.getD_eq_getElem?_getD, List.getD_eq_getElem?_getD, List.getElem?_append_left h]
    · rw [nd_out (t := t) (by omega)]
      unfold nd
      rw [List.getD_eq_getElem?_getD, List.getElem?_append_right (by omega), List.getElem?_replicate]
      split <;> rfl
  · rfl
def insN (x : NodeV) (v : Nat) : NodeV := { x with unm := insU x.unm (v : Int) }
theorem putU_nd (v : Nat) (t : List NodeV) (up j : Nat) (h : up < t.length) : nd (putU v t up) j = if up = j ∧ (nd t j).kind = 2 then insN (nd t j) v else nd t j := by
  unfold putU
  by_cases hk : (nd t up).kind = 2
  · rw [if_pos hk, nd_set]
    by_cases e : up = j
    · subst e
      rw [if_pos ⟨rfl, h⟩, if_pos ⟨rfl, hk⟩]; rfl
    · rw [if_neg (fun q => e q.1), if_neg (fun q => e q.1)]
  · rw [if_neg hk]
    by_cases e : up = j
    · subst e
      rw [if_neg (fun q => hk q.2)]
    · rw [if_neg (fun q => e q.1)]
theorem putsU_nd (v : Nat) : ∀ (l : List Nat) (t : List NodeV), l.Nodup → (∀ u ∈ l, u < t.length) → ∀ j, nd (l.foldl (putU v) t) j = if j ∈ l ∧ (nd t j).kind = 2 then insN (nd t j) v else nd t j
  | [], t, _, _, j => by simp
  | x :: l, t, hn, hl, j => by
    have hn' := List.nodup_cons.1 hn
    have hx := hl x List.mem_cons_self
    rw [List.foldl_cons, putsU_nd v l (putU v t x) hn'.2 (fun u hu => by rw [putU_len]; exact hl u (List.mem_cons_of_mem _ hu)), putU_nd v t x j hx]
    by_cases e : x = j
    · subst e
      rw [if_neg (fun q => hn'.1 q.1)]
      by_cases hk : (nd t x).kind = 2
      · rw [if_pos ⟨rfl, hk⟩, if_pos ⟨List.mem_cons_self, hk⟩]
      · rw [if_neg (fun q => hk q.2), if_neg (fun q => hk q.2)]
    · rw [if_neg (show ¬ (x = j ∧ (nd t j).kind = 2) from fun q => e q.1)]
      have hm : j ∈ x :: l ↔ j ∈ l := by
        rw [List.mem_cons]
        exact ⟨fun h => h.resolve_left (fun q => e q.symm), .inr⟩
      simp only [hm]
theorem path_nodup {leaf l : Nat} (hl : Fit l) (h : leaf < l) : (pathL leaf l).Nodup := by
  obtain ⟨m, hm, rfl⟩ := hl.pow
  exact (by decide +kernel : ∀ m ≤ 5, ∀ leaf < 2 ^ m, (pathL leaf (2 ^ m)).Nodup) m hm leaf h
def pathChk : Bool := (List.range 6).all fun m => (List.range (2 ^ m)).all fun leaf => (List.range (2 * 2 ^ m - 1)).all fun u => !(decide (u % 2 = 1) && (decide (lo u ≤ leaf) && decide (leaf ≤ hi u))) || decide (u ∈ pathL leaf (2 ^ m))
theorem pathChk_true : pathChk = true := by decide +kernel
theorem path_iff {leaf l : Nat} (hl : Fit l) (h : leaf < l) (u : Nat) : u ∈ pathL leaf l ↔ u < 2 * l - 1 ∧ u % 2 = 1 ∧ lo u ≤ leaf ∧ leaf ≤ hi u := by
  refine ⟨path_mem hl h u, fun ⟨h1, h2, h3, h4⟩ => ?_⟩
  obtain ⟨m, hm, rfl⟩ := hl.pow
  have k := pathChk_true
  unfold pathChk at k
  rw [List.all_eq_true] at k
  have k1 := k m (List.mem_range.2 (by omega))
  rw [List.all_eq_true] at k1
  have k2 := k1 leaf (List.mem_range.2 h)
  rw [List.all_eq_true] at k2
  have k3 := k2 u (List.mem_range.2 h1)
  rw [decide_eq_true h2, decide_eq_true h3, decide_eq_true h4] at k3
  simpa using k3

/-! ### When a row is right, by its nodes -/
theorem memI_iff {t : List NodeV} {L : Nat} (hL : lvs t = L) (i : Int) : memI t i ↔ 0 ≤ i ∧ i < (L : Int) ∧ (nd t (2 * i.toNat)).kind = 1 := by unfold memI; rw [hL]
theorem memN_iff {t : List NodeV} {L : Nat} (hL : lvs t = L) (i : Nat) : memI t (i : Int) ↔ i < L ∧ (nd t (2 * i)).kind = 1 := by
  rw [memI_iff hL, Int.toNat_natCast]
  exact ⟨fun h => ⟨by omega, h.2.2⟩, fun h => ⟨by omega, by omega, h.2⟩⟩
theorem rightT_iff {t : List NodeV} {L : Nat} (hL : Fit L) (hlen : t.length = 2 * L - 1) : rightT t ↔
    (∀ i, i < 2 * L - 1 → (nd t i).right ∧ ((nd t i).kind = 0 ∨ ((nd t i).kind = 1 ↔ i % 2 = 0)) ∧ ∀ u ∈ (nd t i).unm, (lo i : Int) ≤ u ∧ u ≤ (hi i : Int) ∧ 0 ≤ u ∧ u < (L : Int) ∧ (nd t (2 * u.toNat)).kind = 1) ∧
    (∀ a b, a < b → b < L → (nd t (2 * a)).kind = 1 → (nd t (2 * b)).kind = 1 → (nd t (2 * b)).name ≠ (nd t (2 * a)).name) ∧
    (L = 1 ∨ ∃ j, L / 2 ≤ j ∧ j < L ∧ (nd t (2 * j)).kind = 1) := by
  have hl := lvs_of hL hlen
  have hb := hL.le
  have hh : hlf t = L := by unfold hlf; omega
  have hund : ∀ i, i < 2 * L - 1 → undI (i : Int) = ((lo i : Int), (hi i : Int)) := by
    intro i hi'
    unfold undI
    rw [if_pos (by omega), Int.toNat_natCast]
  have hcnt : 0 < cntN (memI t) (L / 2) (L - L / 2) ↔ ∃ j, L / 2 ≤ j ∧ j < L ∧ (nd t (2 * j)).kind = 1 := by
    rw [cntN_pos]
    constructor
    · rintro ⟨j, h1, h2⟩
      have := (memN_iff hl _).1 h2
      exact ⟨L / 2 + j, by omega, this.1, this.2⟩
    · rintro ⟨j, h1, h2, h3⟩
      refine ⟨j - L / 2, by omega, ?_⟩
      rw [show L / 2 + (j - L / 2) = j by omega]
      exact (memN_iff hl _).2 ⟨h2, h3⟩
  unfold rightT
  rw [hl, hcnt]
  constructor
  · rintro ⟨_, h2, h3⟩
    refine ⟨fun i hi' => ?_, fun a b hab hbL ha hb' => ?_, h3⟩
    · obtain ⟨⟨k1, k2, k3⟩, _⟩ := h2 i (by omega)
      refine ⟨k1, k2, fun u hu => ?_⟩
      obtain ⟨q1, q2, q3⟩ := k3 u hu
      rw [hund i hi'] at q1 q2
      have := (memI_iff hl u).1 q3
      exact ⟨q1, q2, this.1, this.2.1, this.2.2⟩
    · intro e
      have := (h2 (2 * a) (by omega)).2 (by omega) (by rw [show 2 * a / 2 = a by omega]; exact (memN_iff hl a).2 ⟨by omega, ha⟩) b (by omega) (by omega)
      exact this ⟨(memN_iff hl b).2 ⟨hbL, hb'⟩, e⟩
  · rintro ⟨h1, h2, h3⟩
    refine ⟨by omega, fun i hi' => ⟨⟨?_, ?_, ?_⟩, ?_⟩, h3⟩
    · exact (h1 i (by omega)).1
    · exact (h1 i (by omega)).2.1
    · intro u hu
      obtain ⟨q1, q2, q3, q4, q5⟩ := (h1 i (by omega)).2.2 u hu
      rw [hund i (by omega)]
      exact ⟨q1, q2, (memI_iff hl u).2 ⟨q3, q4, q5⟩⟩
    · intro he hm j hj hij ⟨hmj, hn⟩
      have h5 := (memN_iff hl _).1 hm
      have h6 := (memN_iff hl _).1 hmj
      rw [show 2 * (i / 2) = i by omega] at h5
      refine h2 (i / 2) j hij h6.1 (by rw [show 2 * (i / 2) = i by omega]; exact h5.2) h6.2 ?_
      rw [show 2 * (i / 2) = i by omega]
      exact hn

/-! ### Rising rows -/
theorem rising_of {l : List Int} (h : l.Pairwise (· < ·)) (k : ∀ x ∈ l, 0 ≤ x ∧ x < 32) : Rising l := by
  intro i hi
  refine okAt_of hi (k _ (List.getElem_mem hi)).1 (k _ (List.getElem_mem hi)).2 (fun h0 => ?_)
  exact List.pairwise_iff_getElem.1 h (i - 1) i (by omega) hi (by omega)
theorem mem_insU (u : List Int) (v x : Int) : x ∈ insU u v ↔ x = v ∨ x ∈ u := by
  unfold insU
  rw [List.mem_append, List.mem_cons]
  have : x ∈ u ↔ x ∈ u.take (u.countP (· < v)) ∨ x ∈ u.drop (u.countP (· < v)) := by
    rw [← List.mem_append, List.take_append_drop]
  rw [this]
  constructor
  · rintro (h | h | h)
    · exact .inr (.inl h)
    · exact .inl h
    · exact .inr (.inr h)
  · rintro (h | h | h)
    · exact .inr (.inl h)
    · exact .inl h
    · exact .inr (.inr h)
/-- Of a sorted row, those below a number come first. -/
theorem count_split (v : Int) : ∀ {u : List Int}, u.Pairwise (· < ·) → (∀ x ∈ u.take (u.countP (· < v)), x < v) ∧ (∀ x ∈ u.drop (u.countP (· < v)), v ≤ x)
  | [], _ => by simp
  | a :: u, h => by
    obtain ⟨h1, h2⟩ := List.pairwise_cons.1 h
    by_cases ha : a < v
    · have ih := count_split v h2
      rw [List.countP_cons_of_pos (by simpa using ha), List.take_succ_cons, List.drop_succ_cons]
      refine ⟨fun x hx => ?_, ih.2⟩
      rw [List.mem_cons] at hx
      rcases hx with rfl | hx
      · exact ha
      · exact ih.1 x hx
    · have h0 : u.countP (· < v) = 0 := by
        rw [List.countP_eq_zero]
        intro x hx
        have := h1 x hx
        simp; omega
      rw [List.countP_cons_of_neg (by simpa using ha), h0]
      refine ⟨by simp, fun x hx => ?_⟩
      simp only [List.drop_zero, List.mem_cons] at hx
      rcases hx with rfl | hx
      · omega
      · have := h1 x hx
        omega
theorem insU_sorted {u : List Int} {v : Int} (h : u.Pairwise (· < ·)) (hv : v ∉ u) : (insU u v).Pairwise (· < ·) := by
  obtain ⟨h1, h2⟩ := count_split v h
  unfold insU
  rw [List.pairwise_append, List.pairwise_cons]
  have hs := h
  rw [← List.take_append_drop (u.countP (· < v)) u, List.pairwise_append] at hs
  refine ⟨hs.1, ⟨fun x hx => ?_, hs.2.1⟩, fun x hx y hy => ?_⟩
  · have := h2 x hx
    have hne : v ≠ x := fun e => hv (by rw [e]; exact List.mem_of_mem_drop hx)
    omega
  · rw [List.mem_cons] at hy
    rcases hy with rfl | hy
    · exact h1 x hx
    · exact hs.2.2 x hx y hy
theorem insU_rising {u : List Int} {v : Nat} (h : Rising u) (hv : (v : Int) ∉ u) (h32 : v < 32) : Rising (insU u (v : Int)) := by
  refine rising_of (insU_sorted (rising_sorted h) hv) fun x hx => ?_
  rcases (mem_insU _ _ _).1 hx with rfl | hx
  · omega
  · exact rising_mem h hx
end Go.AM


set_option autoImplicit false
namespace Go.AM
open Go Go.RowKit

variable {P : Program} {Γ : Nat → List AV} {s : AS}

/-! ### Cells of a row that is an object -/
theorem rowX_split {T : List (NodeV × AV)} {u : Nat} (h : u < T.length) : rowC cellsX T = rowC cellsX (T.take u) ++ cellsX T[u] ++ rowC cellsX (T.drop (u + 1)) := by
  have e : T = T.take u ++ T[u] :: T.drop (u + 1) := by rw [List.getElem_cons_drop, List.take_append_drop]
  have e2 : rowC cellsX T = rowC cellsX (T.take u ++ T[u] :: T.drop (u + 1)) := by rw [← e]
  rw [e2]
  simp only [rowC, List.map_append, List.map_cons, List.flatten_append, List.flatten_cons, List.append_assoc]
theorem rowX_len (T : List (NodeV × AV)) : (rowC cellsX T).length = T.length * 5 := row_len cellsX_len T
theorem rowX_take_len {T : List (NodeV × AV)} {u : Nat} (h : u < T.length) : (rowC cellsX (T.take u)).length = u * 5 := by rw [rowX_len, List.length_take]; congr 1; omega
theorem rowX_set {T : List (NodeV × AV)} {u : Nat} (h : u < T.length) (p : NodeV × AV) (rest : List AV) : asetAll (rowC cellsX T ++ rest) (u * 5) (cellsX p) = rowC cellsX (T.set u p) ++ rest := by
  have hl := rowX_take_len h
  have e2 : rowC cellsX (T.set u p) = rowC cellsX (T.take u) ++ cellsX p ++ rowC cellsX (T.drop (u + 1)) := by
    rw [List.set_eq_take_append_cons_drop, if_pos h]
    simp [rowC]
  rw [e2, rowX_split h]
  rw [Mac.asetAll_front _ _ _ (by simp [cellsX, hl])]
  have a1 : (rowC cellsX (T.take u) ++ cellsX T[u] ++ rowC cellsX (T.drop (u + 1)) ++ rest).take (u * 5) = rowC cellsX (T.take u) := by
    rw [List.append_assoc, List.append_assoc, ← hl, List.take_left]
  have a2 : (rowC cellsX (T.take u) ++ cellsX T[u] ++ rowC cellsX (T.drop (u + 1)) ++ rest).drop (u * 5 + (cellsX p).length) = rowC cellsX (T.drop (u + 1)) ++ rest := by
    have e3 : u * 5 + (cellsX p).length = (rowC cellsX (T.take u) ++ cellsX T[u]).length := by rw [List.length_append, hl]; rfl
    rw [e3, List.append_assoc _ _ rest, List.drop_left]
  rw [a1, a2]
  simp
theorem rowX_put {T : List (NodeV × AV)} {u : Nat} (h : u < T.length) (l : List Int) (x : AV) (rest : List AV) : asetAll (rowC cellsX T ++ rest) (u * 5 + 4) [x] = rowC cellsX (T.set u ({ T[u].1 with unm := l }, x)) ++ rest := by
  have hl := rowX_take_len h
  have e2 : rowC cellsX (T.set u ({ T[u].1 with unm := l }, x)) = rowC cellsX (T.take u) ++ cellsX ({ T[u].1 with unm := l }, x) ++ rowC cellsX (T.drop (u + 1)) := by
    rw [List.set_eq_take_append_cons_drop, if_pos h]
    simp [rowC]
  rw [e2, rowX_split h]
  obtain ⟨N, y⟩ := T[u]
  have e3 : rowC cellsX (T.take u) ++ cellsX (N, y) ++ rowC cellsX (T.drop (u + 1)) ++ rest = (rowC cellsX (T.take u) ++ [.v (.int .i64 N.kind), bytesV N.name .any, .v (.int .u64 N.key), bytesV N.parent .any]) ++ (y :: (rowC cellsX (T.drop (u + 1)) ++ rest)) := by
    simp [cellsX]
  rw [e3]
  have e4 : u * 5 + 4 = (rowC cellsX (T.take u) ++ [.v (.int .i64 N.kind), bytesV N.name .any, .v (.int .u64 N.key), bytesV N.parent .any]).length := by
    rw [List.length_append, hl]; rfl
  rw [e4]
  simp only [asetAll]
  rw [List.set_append_right _ _ (Nat.le_refl _), Nat.sub_self, List.set_cons_zero]
  simp [cellsX]
theorem rowX_kind {T : List (NodeV × AV)} {u : Nat} (h : u < T.length) (rest : List AV) : (rowC cellsX T ++ rest).drop (u * 5) = cellsX T[u] ++ (rowC cellsX (T.drop (u + 1)) ++ rest) := by
  rw [rowX_split h, ← rowX_take_len h, List.append_assoc, List.append_assoc, List.drop_left]
theorem rowX_unm {T : List (NodeV × AV)} {u : Nat} (h : u < T.length) (rest : List AV) : (rowC cellsX T ++ rest).drop (u * 5 + 4) = T[u].2 :: (rowC cellsX (T.drop (u + 1)) ++ rest) := by
  rw [← List.drop_drop, rowX_kind h]
  rfl

theorem TreeO.osl {s0 s : AS} {X : AV} {T : List (NodeV × AV)} (h : TreeO s0 s X T) (h0 : T.length ≠ 0) : ∃ O cap rest, X = .osl O 0 5 T.length cap ∧ s.objs O = some (rowC cellsX T ++ rest) ∧ rest.length = (cap - T.length) * 5 ∧ T.length ≤ cap ∧ cap < 2 ^ 63 := by
  rcases h.row with ⟨h1, _⟩ | ⟨O, cap, rest, h1, h2, _, h4, h5, h6⟩
  · exact absurd h1 h0
  · exact ⟨O, cap, rest, h1, h2, h4, h5, h6⟩

/-- A node whose unmerged leaves are none is put in a place. -/
theorem TreeO.put0 {s0 s : AS} {O cap : Nat} {rest : List AV} {T : List (NodeV × AV)} {u : Nat} {p : NodeV × AV} (h : TreeO s0 s (.osl O 0 5 T.length cap) T) (hu : u < T.length) (hO : s.objs O = some (rowC cellsX T ++ rest)) (hrl : rest.length = (cap - T.length) * 5) (hcap : T.length ≤ cap) (h63 : cap < 2 ^ 63)
    (hp : p.1.unm = []) (hx : p.2 = nilS) : TreeO s0 (s.set O (asetAll (rowC cellsX T ++ rest) (u * 5) (cellsX p))) (.osl O 0 5 T.length cap) (T.set u p) := by
  have hO0 := h.newR O rfl
  refine h.put (s1 := s.set O (asetAll (rowC cellsX T ++ rest) (u * 5) (cellsX p))) hu rfl (fun o ho _ cs hc => by rw [AS.set_objs_ne _ ho]; exact hc) (AS.le_set h.le hO0 _) ?_ (by rw [AS.set_objs_same, rowX_set hu]) hrl hcap h63 (fun ob hob => ?_)
  · refine .inl ⟨by rw [hp]; rfl, by rw [hp]; rfl, .inl hx⟩
  · rw [hx] at hob; cases hob
/-- A node's unmerged leaves become another object. -/
theorem TreeO.ins {s0 s : AS} {O cap : Nat} {rest : List AV} {T : List (NodeV × AV)} {u ob cap' m : Nat} {l : List Int} {rest' : List AV} (h : TreeO s0 s (.osl O 0 5 T.length cap) T) (hu : u < T.length) (hO : s.objs O = some (rowC cellsX T ++ rest)) (hrl : rest.length = (cap - T.length) * 5) (hcap : T.length ≤ cap) (h63 : cap < 2 ^ 63)
    (hl1 : l.length ≤ cap') (hl2 : cap' < 2 ^ 63) (hl3 : rest'.length = cap' - l.length) (hfree : s.objs ob = none ∨ ∃ c0, (T[u]).2 = .osl ob 0 1 m c0) :
    TreeO s0 ((s.set ob (l.map intC ++ rest')).set O (asetAll (rowC cellsX T ++ rest) (u * 5 + 4) [.osl ob 0 1 l.length cap'])) (.osl O 0 5 T.length cap) (T.set u ({ (T[u]).1 with unm := l }, .osl ob 0 1 l.length cap')) := by
  have hO0 := h.newR O rfl
  have hsep := List.pairwise_iff_getElem.1 h.xs.sep
  have hob : ob ≠ O ∧ s0.objs ob = none ∧ ∀ j (hj : j < T.length), j ≠ u → onm (T[j]).2 ≠ some ob := by
    rcases hfree with hf | ⟨c0, hf⟩
    · refine ⟨fun e => (by rw [e, hO] at hf; cases hf), AS.le_none h.le hf, fun j hj _ e => ?_⟩
      obtain ⟨ds, hd⟩ := (h.xs.buf _ (List.getElem_mem hj)).some e
      rw [hf] at hd; cases hd
    · have ho : onm (T[u]).2 = some ob := by rw [hf]; rfl
      refine ⟨fun e => h.sepR O rfl _ (List.getElem_mem hu) (by rw [ho, e]), h.xs.new _ (List.getElem_mem hu) _ ho, fun j hj hne e => ?_⟩
      rcases Nat.lt_or_gt_of_ne hne with q | q
      · exact hsep j u hj hu q ob e ho
      · exact hsep u j hu hj q ob ho e
  refine h.put (s1 := (s.set ob (l.map intC ++ rest')).set O (asetAll (rowC cellsX T ++ rest) (u * 5 + 4) [.osl ob 0 1 l.length cap'])) hu rfl (fun o ho hp cs hc => ?_) (AS.le_set (AS.le_set h.le hob.2.1 _) hO0 _) ?_ (by rw [AS.set_objs_same, rowX_put hu]) hrl hcap h63 (fun ob' hob' => ?_)
  · rw [AS.set_objs_ne _ ho, AS.set_objs_ne _ (hp ob rfl)]; exact hc
  · refine .inr ⟨ob, cap', rest', rfl, by rw [AS.set_objs_ne _ hob.1, AS.set_objs_same], by simp, by simpa using hl3, hl1, hl2⟩
  · cases hob'
    exact hob

theorem Settles.tupL {s s' : AS} {x y : AV} (vs : List AV) (h : Settles Γ s x s' y) : Settles Γ s (.tup (x :: vs)) s' (.tup (y :: vs)) := by
  intro G w u hs hv
  simp only [VRel] at hv ⊢
  obtain ⟨us, rfl, hvs⟩ := hv
  simp only [VRels] at hvs
  obtain ⟨u0, us', rfl, h1, h2⟩ := hvs
  obtain ⟨G', k1, k2, k3⟩ := h G w u0 hs h1
  exact ⟨G', k1, k2, _, rfl, by simp only [VRels]; exact ⟨u0, us', rfl, k3, VRels.mono k1 _ _ h2⟩⟩

/-- What a step of the way up finds. -/
theorem puts_at {t : List NodeV} {L : Nat} (hL : Fit L) {v : Nat} (hv : v < L) (n : NodeV) (hlen : (moreT t v).length = 2 * L - 1) {i : Nat} (hi : i < (pathL v L).length) :
    nd (((pathL v L).take i).foldl (putU v) ((moreT t v).set (2 * v) n)) ((pathL v L)[i]) = nd t ((pathL v L)[i]) := by
  have hnd := path_nodup hL hv
  have hp := fun x hx => path_mem hL hv x hx
  have hi2 := hp _ (List.getElem_mem hi)
  rw [putsU_nd v _ _ (hnd.sublist (List.take_sublist _ _)) (fun u hu => by rw [List.length_set, hlen]; exact (hp u (List.mem_of_mem_take hu)).1), if_neg, nd_set, if_neg (fun q => by have := q.1; omega), nd_more]
  rintro ⟨q, _⟩
  obtain ⟨j, hj, e⟩ := List.mem_iff_getElem.1 q
  rw [List.getElem_take] at e
  rw [List.length_take] at hj
  have := (List.getElem_inj hnd).1 e
  omega

/-! ### New noughts behind a row -/
def zN : List AV := [.v (.int .i64 0), .v (.slice none 0 0), .v (.int .u64 0), .v (.slice none 0 0), .v (.slice none 0 0)]
def pN : NodeV × AV := (NodeV.nought, nilS)
theorem zrow_zN : ∀ k : Nat, zrow (k * 5) zN = (List.replicate k zN).flatten
  | 0 => rfl
  | k + 1 => by
    have ih := zrow_zN k
    unfold zrow at ih ⊢
    rw [Nat.succ_mul, List.range_add, List.map_append, ih, List.replicate_succ', List.flatten_append]
    congr 1
    have hl : zN.length = 5 := rfl
    have e : List.range 5 = [0, 1, 2, 3, 4] := rfl
    rw [e]
    simp only [List.map_cons, List.map_nil, hl]
    rw [show (k * 5 + 0) % 5 = 0 by omega, show (k * 5 + 1) % 5 = 1 by omega, show (k * 5 + 2) % 5 = 2 by omega, show (k * 5 + 3) % 5 = 3 by omega, show (k * 5 + 4) % 5 = 4 by omega]
    rfl
theorem zN_weak : ∀ k : Nat, AVs.weak (List.replicate k zN).flatten (rowC cellsX (List.replicate k pN))
  | 0 => .refl _
  | k + 1 => by
    have e1 : (List.replicate (k + 1) zN).flatten = zN ++ (List.replicate k zN).flatten := by rw [List.replicate_succ, List.flatten_cons]
    have e2 : rowC cellsX (List.replicate (k + 1) pN) = cellsX pN ++ rowC cellsX (List.replicate k pN) := by rw [List.replicate_succ]; rfl
    rw [e1, e2]
    exact AVs.weak.append (.cons (AV.weak.refl _) (.cons AV.weak_nil (.cons (AV.weak.refl _) (.cons AV.weak_nil (.cons (AV.weak.refl _) .nil))))) (zN_weak k)
theorem grow_weak (k : Nat) (T : List (NodeV × AV)) (rest : List AV) : AVs.weak (rowC cellsX T ++ zrow (k * 5) zN ++ rest) (rowC cellsX (T ++ List.replicate k pN) ++ rest) := by
  have e : rowC cellsX (T ++ List.replicate k pN) = rowC cellsX T ++ rowC cellsX (List.replicate k pN) := by simp only [rowC, List.map_append, List.flatten_append]
  rw [e, zrow_zN]
  exact AVs.weak.append (AVs.weak.append (.refl _) (zN_weak k)) (.refl _)
theorem TreeO.grow {s0 s : AS} {X : AV} {T : List (NodeV × AV)} {ob cap : Nat} (h : TreeO s0 s X T) (hf : s.objs ob = none ∨ ∃ cap0, X = .osl ob 0 5 T.length cap0) (h63 : cap < 2 ^ 63) :
    ∀ (k : Nat) (rest : List AV), T.length + (k + 1) ≤ cap → rest.length = (cap - (T.length + (k + 1))) * 5 → TreeO s0 (s.set ob (rowC cellsX (T ++ List.replicate (k + 1) pN) ++ rest)) (.osl ob 0 5 (T.length + (k + 1)) cap) (T ++ List.replicate (k + 1) pN)
  | 0, rest, h1, h2 => by
    have := h.push (p := pN) (ob := ob) (cap := cap) (rest := rest) (.inl ⟨rfl, rfl, .inl rfl⟩) (fun o ho => by cases ho) hf h1 h63 h2
    have e : rowC cellsX (T ++ List.replicate (0 + 1) pN) = rowC cellsX T ++ cellsX pN := row_snoc _ _
    rw [e]
    exact this
  | k + 1, rest, h1, h2 => by
    have ih := TreeO.grow h hf h63 k (cellsX pN ++ rest) (by omega) (by
      rw [List.length_append, h2]
      show 5 + _ = _
      rw [show cap - (T.length + (k + 1)) = (cap - (T.length + (k + 1 + 1))) + 1 by omega, Nat.succ_mul]
      omega)
    have hl : (T ++ List.replicate (k + 1) pN).length = T.length + (k + 1) := by simp
    have := ih.push (p := pN) (ob := ob) (cap := cap) (rest := rest) (.inl ⟨rfl, rfl, .inl rfl⟩) (fun o ho => by cases ho) (.inr ⟨cap, by rw [hl]⟩) (by rw [hl]; omega) h63 (by rw [hl, h2]; congr 1)
    rw [AS.set_set, hl] at this
    have e : T ++ List.replicate (k + 1 + 1) pN = T ++ List.replicate (k + 1) pN ++ [pN] := by rw [List.replicate_succ' (n := k + 1), List.append_assoc]
    have e2 : rowC cellsX (T ++ List.replicate (k + 1) pN ++ [pN]) = rowC cellsX (T ++ List.replicate (k + 1) pN) ++ cellsX pN := row_snoc _ _
    rw [e, e2]
    exact this
theorem grow_fst {T : List (NodeV × AV)} {t : List NodeV} (h : T.map (·.1) = t) (k : Nat) : (T ++ List.replicate k pN).map (·.1) = t ++ List.replicate k NodeV.nought := by
  rw [List.map_append, h, List.map_replicate]; rfl

theorem aset_weak {R a b : List AV} {off : Nat} (hl : a.length = b.length) (h : off + a.length ≤ R.length) (w : AVs.weak a b) : AVs.weak (asetAll R off a) (asetAll R off b) := by
  rw [Mac.asetAll_front _ _ _ h, Mac.asetAll_front _ _ _ (by omega), hl]
  exact AVs.weak.append (AVs.weak.append (.refl _) w) (.refl _)
theorem zN_weak1 : AVs.weak zN (cellsX pN) := .cons (AV.weak.refl _) (.cons AV.weak_nil (.cons (AV.weak.refl _) (.cons AV.weak_nil (.cons (AV.weak.refl _) .nil))))
theorem AS.tells_set {Γ : Nat → List AV} {s : AS} {O : Nat} {a b : List AV} (w : AVs.weak a b) : AS.tells Γ (s.set O a) (s.set O b) := by
  have := AS.tells_obj (Γ := Γ) (AS.set_objs_same s O a) w
  rwa [AS.set_set] at this

theorem TreeO.cut {s0 s : AS} {O cap k : Nat} {T : List (NodeV × AV)} (h : TreeO s0 s (.osl O 0 5 T.length cap) T) (hk : k ≤ T.length) : TreeO s0 s (.osl O 0 5 k cap) (T.take k) := by
  have hkl : (T.take k).length = k := by rw [List.length_take]; omega
  refine ⟨⟨fun p hp => h.xs.buf p (List.mem_of_mem_take hp), fun p hp => h.xs.new p (List.mem_of_mem_take hp), h.xs.sep.sublist (List.take_sublist _ _)⟩, h.le, ?_, fun O' hO' => h.newR O' hO', fun O' hO' p hp => h.sepR O' hO' p (List.mem_of_mem_take hp)⟩
  rcases h.row with ⟨h0, h1, h2⟩ | ⟨O2, cap2, rest, e, h2, h3, h4, h5, h6⟩
  · rcases h2 with h2 | h2 | h2 <;> cases h2
  · injection e with e1 _ _ _ e5
    subst e1 e5
    have hs : rowC cellsX T = rowC cellsX (T.take k) ++ rowC cellsX (T.drop k) := by
      conv => lhs; rw [← List.take_append_drop k T]
      simp only [rowC, List.map_append, List.flatten_append]
    refine .inr ⟨O, cap, rowC cellsX (T.drop k) ++ rest, by rw [hkl], by rw [h2, hs, List.append_assoc], rowX_len _, ?_, by omega, h6⟩
    rw [List.length_append, rowX_len, List.length_drop, h4, hkl, ← Nat.add_mul]
    congr 1
    omega
theorem TreeO.recopy {s0 s : AS} {O cap ob cap' : Nat} {T : List (NodeV × AV)} {rest' : List AV} (h : TreeO s0 s (.osl O 0 5 T.length cap) T) (hob : s.objs ob = none) (hl : T.length ≤ cap') (h63 : cap' < 2 ^ 63) (hrl : rest'.length = (cap' - T.length) * 5) :
    TreeO s0 (s.set ob (rowC cellsX T ++ rest')) (.osl ob 0 5 T.length cap') T := by
  have hne : ∀ p ∈ T, onm p.2 ≠ some ob := fun p hp e => by
    obtain ⟨ds, hd⟩ := (h.xs.buf p hp).some e
    rw [hob] at hd; cases hd
  refine ⟨⟨fun p hp => (h.xs.buf p hp).set_ne (hne p hp), h.xs.new, h.xs.sep⟩, AS.le_set h.le (AS.le_none h.le hob) _, .inr ⟨ob, cap', rest', rfl, AS.set_objs_same _ _ _, rowX_len _, hrl, hl, h63⟩, fun O' hO' => ?_, fun O' hO' p hp => ?_⟩
  · cases hO'; exact AS.le_none h.le hob
  · cases hO'; exact hne p hp
theorem TreeO.ones {s0 s : AS} {X : AV} {T : List (NodeV × AV)} (h : TreeO s0 s X T) : (rowC cellsX T).all AV.one = true := by
  rw [List.all_eq_true]
  intro c hc
  obtain ⟨r, hr, hc⟩ := List.mem_flatten.1 hc
  obtain ⟨p, hp, rfl⟩ := List.mem_map.1 hr
  simp only [cellsX, List.mem_cons, List.not_mem_nil, or_false] at hc
  rcases hc with rfl | rfl | rfl | rfl | rfl
  · rfl
  · rfl
  · rfl
  · rfl
  · rcases h.xs.buf p hp with ⟨_, _, q | q | q⟩ | ⟨_, _, _, q, _⟩ <;> rw [q] <;> rfl

theorem foldl_take_succ {α β : Type} (f : β → α → β) (b : β) {l : List α} {i : Nat} (h : i < l.length) : (l.take (i + 1)).foldl f b = f ((l.take i).foldl f b) l[i] := by
  rw [List.take_succ_eq_append_getElem h, List.foldl_append]
  rfl

end Go.AM


set_option autoImplicit false
namespace Go.AM
open Go

/-! ### Add, Update, Remove: rows that stay right -/
/-- A right row but for its right half, which may be empty. -/
def goodL (L : Nat) (t : List NodeV) : Prop := Fit L ∧ t.length = 2 * L - 1 ∧
    (∀ i, i < 2 * L - 1 → (nd t i).right ∧ ((nd t i).kind = 0 ∨ ((nd t i).kind = 1 ↔ i % 2 = 0)) ∧ ∀ u ∈ (nd t i).unm, (lo i : Int) ≤ u ∧ u ≤ (hi i : Int) ∧ 0 ≤ u ∧ u < (L : Int) ∧ (nd t (2 * u.toNat)).kind = 1) ∧
    (∀ a b, a < b → b < L → (nd t (2 * a)).kind = 1 → (nd t (2 * b)).kind = 1 → (nd t (2 * b)).name ≠ (nd t (2 * a)).name)
theorem rightT.good {t : List NodeV} (h : rightT t) : goodL (lvs t) t ∧ (lvs t = 1 ∨ ∃ j, lvs t / 2 ≤ j ∧ j < lvs t ∧ (Go.AM.nd t (2 * j)).kind = 1) := by
  obtain ⟨h1, h2⟩ := h.len
  obtain ⟨k1, k2, k3⟩ := (rightT_iff h2 h1).1 h
  exact ⟨⟨h2, h1, k1, k2⟩, k3⟩
theorem goodL.right {t : List NodeV} {L : Nat} (h : goodL L t) (k : L = 1 ∨ ∃ j, L / 2 ≤ j ∧ j < L ∧ (nd t (2 * j)).kind = 1) : rightT t :=
  (rightT_iff h.1 h.2.1).2 ⟨h.2.2.1, h.2.2.2, k⟩
theorem goodL.lvs {t : List NodeV} {L : Nat} (h : goodL L t) : lvs t = L := lvs_of h.1 h.2.1
theorem unm_branch {N : NodeV} (h : N.right) {u : Int} (hu : u ∈ N.unm) : N.kind = 2 := by
  rcases node_kind h with hk | hk | hk
  · rw [(right_zero hk).1 h] at hu; cases hu
  · have := ((right_one hk).1 h).2.2.2
    rw [List.eq_nil_of_length_eq_zero this] at hu; cases hu
  · exact hk

theorem moreT_shape {t : List NodeV} {L : Nat} (hL : Fit L) (hlen : t.length = 2 * L - 1) {v : Nat} (hv : v ≤ L) (h32 : v ≠ 32) :
    ∃ L', L' = (if v = L then 2 * L else L) ∧ Fit L' ∧ (moreT t v).length = 2 * L' - 1 ∧ v < L' ∧ lvs (moreT t v) = L' ∧ L ≤ L' := by
  have hl := lvs_of hL hlen
  have hb := hL.le
  refine ⟨_, rfl, ?_⟩
  have key : Fit (if v = L then 2 * L else L) ∧ (moreT t v).length = 2 * (if v = L then 2 * L else L) - 1 := by
    unfold moreT
    rw [hl]
    split
    · rename_i e
      refine ⟨?_, by simp; omega⟩
      rw [e] at h32
      unfold Fit at hL ⊢
      omega
    · exact ⟨hL, hlen⟩
  refine ⟨key.1, key.2, ?_, lvs_of key.1 key.2, ?_⟩
  · split <;> omega
  · split <;> omega

theorem freeT_le {t : List NodeV} : freeT t ≤ lvs t := (freeT_spec t).1
theorem free_kind {t : List NodeV} {L : Nat} (hL : Fit L) (hlen : t.length = 2 * L - 1) : (nd t (2 * freeT t)).kind ≠ 1 := by
  have hl := lvs_of hL hlen
  obtain ⟨h1, h2, _⟩ := freeT_spec t
  rw [hl] at h1
  intro hk
  by_cases e : freeT t < L
  · exact h2 ((memN_iff hl _).2 ⟨e, hk⟩)
  · rw [nd_out (by omega)] at hk
    cases hk
theorem named_none {t : List NodeV} {name : List UInt8} (h : ¬ 0 ≤ namedI t name 0) {L : Nat} (hL : Fit L) (hlen : t.length = 2 * L - 1) {j : Nat} (hj : j < L) (hk : (nd t (2 * j)).kind = 1) : (nd t (2 * j)).name ≠ name := by
  intro e
  have hl := lvs_of hL hlen
  have hb := hL.le
  have h1 := firstN_ge (fun j => decide (memI t j ∧ (nd t (2 * j)).name = name)) (hlf t - 0) 0
  have h2 : decide (0 ≤ namedI t name 0) = true := h1.2 ⟨j, Nat.zero_le _, by unfold hlf; omega, decide_eq_true ⟨(memN_iff hl _).2 ⟨hj, hk⟩, e⟩⟩
  exact h (of_decide_eq_true h2)

theorem addAt_nd {t : List NodeV} {L : Nat} (hL : Fit L) (hlen : t.length = 2 * L - 1) {v : Nat} (hv : v ≤ L) (h32 : v ≠ 32) (n : NodeV) (i : Nat) :
    nd (addAt t v n) i = if i = 2 * v then n else if i ∈ pathL v (lvs (moreT t v)) ∧ (nd t i).kind = 2 then insN (nd t i) v else nd t i := by
  obtain ⟨L', _, q2, q3, q4, q5, _⟩ := moreT_shape hL hlen hv h32
  unfold addAt
  rw [q5]
  have hp := fun x hx => path_mem q2 q4 x hx
  have hx : nd ((moreT t v).set (2 * v) n) i = if i = 2 * v then n else nd t i := by
    rw [nd_set, nd_more]
    by_cases e : i = 2 * v
    · rw [if_pos ⟨e.symm, by omega⟩, if_pos e]
    · rw [if_neg (fun q => e q.1.symm), if_neg e]
  rw [putsU_nd v _ _ (path_nodup q2 q4) (fun u hu => by rw [List.length_set, q3]; exact (hp u hu).1), hx]
  by_cases e : i = 2 * v
  · rw [if_pos e, if_pos e, if_neg]
    intro q
    have := (hp _ q.1).2.1
    omega
  · rw [if_neg e, if_neg e]
theorem addAt_len {t : List NodeV} (v : Nat) (n : NodeV) : (addAt t v n).length = (moreT t v).length := by
  unfold addAt
  rw [putsU_len, List.length_set]

theorem addAt_right {t : List NodeV} (h : rightT t) {n : NodeV} (hn : n.right) (hk : n.kind = 1) (hname : ¬ 0 ≤ namedI t n.name 0) (h32 : freeT t ≠ 32) : rightT (addAt t (freeT t) n) := by
  obtain ⟨⟨hL, hlen, h1, h2⟩, h3⟩ := h.good
  have hfr := freeT_le (t := t)
  have hfk := free_kind hL hlen
  have hnn := fun {j : Nat} => named_none hname hL hlen (j := j)
  generalize freeT t = v at *
  generalize lvs t = L at *
  obtain ⟨L', q1, q2, q3, q4, q5, q6⟩ := moreT_shape hL hlen hfr h32
  have hnd := addAt_nd hL hlen hfr h32 n
  rw [q5] at hnd
  have hlen' := addAt_len (t := t) v n
  rw [q3] at hlen'
  generalize addAt t v n = T at *
  have hp := fun u => path_iff q2 q4 u
  have heven : ∀ j, j ≠ v → nd T (2 * j) = nd t (2 * j) := by
    intro j hj
    rw [hnd, if_neg (by omega), if_neg]
    intro q
    have := ((hp _).1 q.1).2.1
    omega
  have hvn : nd T (2 * v) = n := by rw [hnd, if_pos rfl]
  have hkept : ∀ j, (nd t (2 * j)).kind = 1 → (nd T (2 * j)).kind = 1 := by
    intro j hj
    rw [heven j (fun e => hfk (by rw [← e]; exact hj))]
    exact hj
  have hold : ∀ i, (nd t i).kind ≠ 0 → i < 2 * L - 1 := by
    intro i hi
    by_cases e : i < 2 * L - 1
    · exact e
    · rw [nd_out (by omega)] at hi
      exact absurd rfl hi
  have hunm : ∀ i, ∀ u ∈ (nd t i).unm, (lo i : Int) ≤ u ∧ u ≤ (hi i : Int) ∧ 0 ≤ u ∧ u < (L' : Int) ∧ (nd T (2 * u.toNat)).kind = 1 := by
    intro i u hu
    by_cases e : i < 2 * L - 1
    · obtain ⟨a1, a2, a3, a4, a5⟩ := (h1 i e).2.2 u hu
      exact ⟨a1, a2, a3, by omega, hkept _ a5⟩
    · rw [nd_out (by omega)] at hu
      cases hu
  have hright : ∀ i, (nd t i).right ∧ ((nd t i).kind = 0 ∨ ((nd t i).kind = 1 ↔ i % 2 = 0)) := by
    intro i
    by_cases e : i < 2 * L - 1
    · exact ⟨(h1 i e).1, (h1 i e).2.1⟩
    · rw [nd_out (by omega)]
      exact ⟨nought_right, .inl rfl⟩
  refine (rightT_iff q2 hlen').2 ⟨fun i hi' => ?_, fun a b hab hbL ha hb => ?_, ?_⟩
  · rw [hnd i]
    by_cases e : i = 2 * v
    · rw [if_pos e]
      refine ⟨hn, .inr ⟨fun _ => by omega, fun _ => hk⟩, fun u hu => ?_⟩
      have := unm_branch hn hu
      omega
    · rw [if_neg e]
      by_cases e2 : i ∈ pathL v L' ∧ (nd t i).kind = 2
      · rw [if_pos e2]
        obtain ⟨r1, r2⟩ := hright i
        have hpi := (hp i).1 e2.1
        have h2' := (right_two e2.2).1 r1
        have hvu : (v : Int) ∉ (nd t i).unm := by
          intro hm
          have := ((h1 i (hold i (by omega))).2.2 _ hm).2.2.2.2
          rw [Int.toNat_natCast] at this
          exact hfk this
        refine ⟨(right_two (show (insN (nd t i) v).kind = 2 from e2.2)).2 ⟨h2'.1, h2'.2.1, insU_rising h2'.2.2 hvu ?_⟩, r2, fun u hu => ?_⟩
        · have := q2.le; omega
        · rcases (mem_insU _ _ _).1 hu with rfl | hu
          · refine ⟨by omega, by omega, by omega, by omega, ?_⟩
            rw [Int.toNat_natCast, hvn]
            exact hk
          · exact hunm i u hu
      · rw [if_neg e2]
        exact ⟨(hright i).1, (hright i).2, hunm i⟩
  · by_cases ea : a = v
    · rw [ea, hvn]
      rw [heven b (by omega)] at hb ⊢
      exact hnn (by have := hold _ (show (nd t (2 * b)).kind ≠ 0 by omega); omega) hb
    · rw [heven a ea] at ha ⊢
      by_cases eb : b = v
      · rw [eb, hvn]
        intro e
        exact hnn (j := a) (by have := hold _ (show (nd t (2 * a)).kind ≠ 0 by omega); omega) ha e.symm
      · rw [heven b eb] at hb ⊢
        exact h2 a b hab (by have := hold _ (show (nd t (2 * b)).kind ≠ 0 by omega); omega) ha hb
  · by_cases e : v = L
    · right
      rw [if_pos e] at q1
      exact ⟨v, by omega, q4, by rw [hvn]; exact hk⟩
    · rw [if_neg e] at q1
      subst q1
      rcases h3 with h3 | ⟨j, a1, a2, a3⟩
      · exact .inl h3
      · exact .inr ⟨j, a1, a2, hkept j a3⟩

/-! ### A leaf's path blanked -/
def blankL (l : List Nat) (t : List NodeV) : List NodeV := l.foldl (fun t u => t.set u NodeV.nought) t
def blankT (t : List NodeV) (leaf : Nat) : List NodeV := blankL (pathL leaf (lvs t)) t
theorem blankL_len : ∀ (l : List Nat) (t : List NodeV), (blankL l t).length = t.length
  | [], _ => rfl
  | x :: l, t => by
    have := blankL_len l (t.set x NodeV.nought)
    rw [List.length_set] at this
    exact this
theorem blankL_nd : ∀ (l : List Nat) (t : List NodeV) (j : Nat), nd (blankL l t) j = if j ∈ l then NodeV.nought else nd t j
  | [], t, j => by simp [blankL]
  | x :: l, t, j => by
    have ih := blankL_nd l (t.set x NodeV.nought) j
    have e : blankL (x :: l) t = blankL l (t.set x NodeV.nought) := rfl
    rw [e, ih]
    by_cases h : j ∈ l
    · rw [if_pos h, if_pos (List.mem_cons_of_mem _ h)]
    · rw [if_neg h, nd_set]
      by_cases h2 : x = j
      · rw [if_pos (show j ∈ x :: l by rw [h2]; exact List.mem_cons_self)]
        by_cases h3 : x < t.length
        · rw [if_pos ⟨h2, h3⟩]
        · rw [if_neg (fun q => h3 q.2), nd_out (by omega)]
      · rw [if_neg (fun q => h2 q.1), if_neg]
        rw [List.mem_cons]
        rintro (q | q)
        · exact h2 q.symm
        · exact h q
def putT (t : List NodeV) (leaf : Nat) (n : NodeV) : List NodeV := (blankT t leaf).set (2 * leaf) n
theorem putT_len (t : List NodeV) (leaf : Nat) (n : NodeV) : (putT t leaf n).length = t.length := by
  unfold putT blankT
  rw [List.length_set, blankL_len]
theorem putT_nd {t : List NodeV} {L : Nat} (hL : Fit L) (hlen : t.length = 2 * L - 1) {leaf : Nat} (hl : leaf < L) (n : NodeV) (i : Nat) :
    nd (putT t leaf n) i = if i = 2 * leaf then n else if i ∈ pathL leaf L then NodeV.nought else nd t i := by
  unfold putT blankT
  rw [lvs_of hL hlen, nd_set, blankL_nd, blankL_len]
  by_cases e : i = 2 * leaf
  · rw [if_pos ⟨e.symm, by omega⟩, if_pos e]
  · rw [if_neg (fun q => e q.1.symm), if_neg e]

/-- The leaf's own node may be another one of its name, or none. -/
theorem putT_good {t : List NodeV} {L : Nat} (h : goodL L t) {leaf : Nat} (hl : leaf < L) {n : NodeV} (hn : n.right) (hk : n.kind = 0 ∨ (n.kind = 1 ∧ (nd t (2 * leaf)).kind = 1 ∧ n.name = (nd t (2 * leaf)).name)) : goodL L (putT t leaf n) := by
  obtain ⟨hL, hlen, h1, h2⟩ := h
  have hnd := putT_nd hL hlen hl n
  have hlen' := putT_len t leaf n
  rw [hlen] at hlen'
  generalize putT t leaf n = T at *
  have hp := fun u => path_iff hL hl u
  have heven : ∀ j, j ≠ leaf → nd T (2 * j) = nd t (2 * j) := by
    intro j hj
    rw [hnd, if_neg (by omega), if_neg]
    intro q
    have := ((hp _).1 q).2.1
    omega
  have hvn : nd T (2 * leaf) = n := by rw [hnd, if_pos rfl]
  have hkind : ∀ a, (nd T (2 * a)).kind = 1 → (nd t (2 * a)).kind = 1 ∧ (nd T (2 * a)).name = (nd t (2 * a)).name := by
    intro a ha
    by_cases e : a = leaf
    · rw [e, hvn] at ha ⊢
      rcases hk with hk | hk
      · omega
      · exact ⟨hk.2.1, hk.2.2⟩
    · rw [heven a e] at ha ⊢
      exact ⟨ha, rfl⟩
  refine ⟨hL, hlen', fun i hi' => ?_, fun a b hab hbL ha hb => ?_⟩
  · rw [hnd i]
    by_cases e : i = 2 * leaf
    · rw [if_pos e]
      refine ⟨hn, ?_, fun u hu => ?_⟩
      · rcases hk with hk | hk
        · exact .inl hk
        · exact .inr ⟨fun _ => by omega, fun _ => hk.1⟩
      · have := unm_branch hn hu
        omega
    · rw [if_neg e]
      by_cases e2 : i ∈ pathL leaf L
      · rw [if_pos e2]
        exact ⟨nought_right, .inl rfl, fun u hu => by cases hu⟩
      · rw [if_neg e2]
        obtain ⟨a1, a2, a3⟩ := h1 i hi'
        refine ⟨a1, a2, fun u hu => ?_⟩
        obtain ⟨b1, b2, b3, b4, b5⟩ := a3 u hu
        refine ⟨b1, b2, b3, b4, ?_⟩
        rw [heven _ (fun q => e2 ((hp i).2 ⟨hi', ?_, by omega, by omega⟩))]
        · exact b5
        · have hk2 := unm_branch a1 hu
          rcases a2 with a2 | a2
          · omega
          · have : ¬ i % 2 = 0 := fun q => by have := a2.2 q; omega
            omega
  · obtain ⟨c1, c2⟩ := hkind a ha
    obtain ⟨d1, d2⟩ := hkind b hb
    rw [c2, d2]
    exact h2 a b hab hbL c1 d1

def keyR (key : Nat) : Prop := 2 ≤ (key : Int) ∧ (key : Int) ≤ 2305843009213693949
instance (key : Nat) : Decidable (keyR key) := by unfold keyR; infer_instance
def updT (t : List NodeV) (leaf key : Nat) : List NodeV := putT t leaf (leafN (nd t (2 * leaf)).name key)
/-- What Update hands back. -/
def updR (t : List NodeV) (leaf : Int) (key : Nat) : List NodeV × Int :=
  if ¬ rightT t then ([], 40) else if ¬ memI t leaf then ([], 43) else if ¬ keyR key then ([], 2) else (updT t leaf.toNat key, 0)
theorem updT_right {t : List NodeV} (h : rightT t) {leaf : Nat} (hm : memI t (leaf : Int)) {key : Nat} (hk : (leafN (nd t (2 * leaf)).name key).right) : rightT (updT t leaf key) := by
  obtain ⟨hg, h3⟩ := h.good
  have hl := (memN_iff rfl _).1 hm
  refine (putT_good hg hl.1 hk (.inr ⟨rfl, hl.2, rfl⟩)).right ?_
  rcases h3 with h3 | ⟨j, a1, a2, a3⟩
  · exact .inl h3
  · refine .inr ⟨j, a1, a2, ?_⟩
    rw [putT_nd hg.1 hg.2.1 hl.1]
    by_cases e : j = leaf
    · rw [if_pos (by omega)]; rfl
    · rw [if_neg (by omega), if_neg]
      · exact a3
      · intro q
        have := ((path_iff hg.1 hl.1 _).1 q).2.1
        omega

/-! ### A tree shrinks -/
def cutT (t : List NodeV) : List NodeV := t.take (2 * (lvs t / 2) - 1)
def shrT : Nat → List NodeV → List NodeV
  | 0, t => t
  | f + 1, t => if 1 < lvs t ∧ cntN (memI t) (lvs t / 2) (lvs t - lvs t / 2) = 0 then shrT f (cutT t) else t
theorem cut_good {t : List NodeV} {m : Nat} (h : goodL (2 ^ (m + 1)) t) (h0 : cntN (memI t) (2 ^ (m + 1) / 2) (2 ^ (m + 1) - 2 ^ (m + 1) / 2) = 0) : goodL (2 ^ m) (cutT t) := by
  have hl := h.lvs
  obtain ⟨hL, hlen, h1, h2⟩ := h
  have hpow : 2 ^ (m + 1) = 2 * 2 ^ m := by rw [Nat.pow_succ]; omega
  have hpos := Nat.two_pow_pos m
  have hb := hL.le
  have hM : Fit (2 ^ m) := fit_pow (by
    by_cases e : m ≤ 5
    · exact e
    · have : 2 ^ 6 ≤ 2 ^ m := Nat.pow_le_pow_right (by omega) (by omega)
      omega)
  unfold cutT
  rw [hl]
  generalize hQ : 2 ^ m = M at *
  rw [hpow] at hlen h1 h2 h0 hl hb
  have e1 : 2 * M / 2 = M := by omega
  rw [hpow, e1]
  rw [e1] at h0
  have hnone : ∀ j, M ≤ j → j < 2 * M → (nd t (2 * j)).kind ≠ 1 := by
    intro j a b c
    have : 0 < cntN (memI t) M (2 * M - M) := cntN_pos.2 ⟨j - M, by omega, by rw [show M + (j - M) = j by omega]; exact (memN_iff hl _).2 ⟨b, c⟩⟩
    omega
  have hnd : ∀ i, i < 2 * M - 1 → nd (t.take (2 * M - 1)) i = nd t i := by
    intro i hi'
    unfold nd
    rw [List.getD_eq_getElem?_getD, List.getD_eq_getElem?_getD, List.getElem?_take, if_pos hi']
  refine ⟨hM, by rw [List.length_take]; omega, fun i hi' => ?_, fun a b hab hbL ha hb' => ?_⟩
  · rw [hnd i hi']
    obtain ⟨a1, a2, a3⟩ := h1 i (by omega)
    refine ⟨a1, a2, fun u hu => ?_⟩
    obtain ⟨b1, b2, b3, b4, b5⟩ := a3 u hu
    have hu2 : u.toNat < M := by
      rcases Nat.lt_or_ge u.toNat M with q | q
      · exact q
      · exact absurd b5 (hnone _ q (by omega))
    refine ⟨b1, b2, b3, by omega, ?_⟩
    rw [hnd _ (by omega)]
    exact b5
  · rw [hnd _ (by omega)] at ha hb' ⊢
    rw [hnd _ (by omega)]
    exact h2 a b hab (by omega) ha hb'
theorem shrT_right : ∀ (f m : Nat) (t : List NodeV), m ≤ f → goodL (2 ^ m) t → rightT (shrT f t)
  | 0, m, t, hm, h => by
    obtain rfl : m = 0 := by omega
    exact h.right (.inl rfl)
  | f + 1, m, t, hm, h => by
    simp only [shrT, h.lvs]
    cases m with
    | zero =>
      rw [if_neg (fun q => by have := q.1; simp at this)]
      exact h.right (.inl rfl)
    | succ m =>
      by_cases h0 : cntN (memI t) (2 ^ (m + 1) / 2) (2 ^ (m + 1) - 2 ^ (m + 1) / 2) = 0
      · have hpos := Nat.two_pow_pos m
        rw [if_pos ⟨by rw [Nat.pow_succ]; omega, h0⟩]
        exact shrT_right f m _ (by omega) (cut_good h h0)
      · rw [if_neg (fun q => h0 q.2)]
        refine h.right (.inr ?_)
        obtain ⟨j, h1, h2⟩ := cntN_pos.1 (Nat.pos_of_ne_zero h0)
        have := (memN_iff h.lvs _).1 h2
        exact ⟨_, by omega, this.1, this.2⟩
def rmT (t : List NodeV) (leaf : Nat) : List NodeV := shrT 6 (putT t leaf NodeV.nought)
/-- What Remove hands back. -/
def remR (t : List NodeV) (leaf : Int) : List NodeV × Int :=
  if ¬ rightT t then ([], 40) else if ¬ memI t leaf then ([], 43) else if cntN (memI t) 0 (lvs t) = 1 then ([], 40) else (rmT t leaf.toNat, 0)
theorem rmT_right {t : List NodeV} (h : rightT t) {leaf : Nat} (hl : leaf < lvs t) : rightT (rmT t leaf) := by
  obtain ⟨hg, _⟩ := h.good
  have h1 := putT_good hg hl nought_right (.inl rfl)
  obtain ⟨m, hm, e⟩ := hg.1.pow
  rw [e] at h1
  exact shrT_right 6 m _ (by omega) h1

end Go.AM


set_option autoImplicit false
namespace Go.AM
open Go

/-! ### The members of a row that is changed -/
/-- A name, or none. -/
def nameAt (t : List NodeV) (k : Nat) : List UInt8 := if memI t (k : Int) then (nd t (2 * k)).name else []
def namesOf (t : List NodeV) (n : Nat) : List (List UInt8) := (List.range n).map (nameAt t)
theorem namesOf_len (t : List NodeV) (n : Nat) : (namesOf t n).length = n := by simp [namesOf]
theorem namesOf_get (t : List NodeV) {n k : Nat} (h : k < n) : (namesOf t n)[k]'(by rw [namesOf_len]; exact h) = nameAt t k := by simp [namesOf]
theorem nameAt_nil {t : List NodeV} (h : rightT t) (k : Nat) : nameAt t k = [] ↔ ¬ memI t (k : Int) := by
  unfold nameAt
  split
  · rename_i hm
    refine ⟨fun e => ?_, fun e => absurd hm e⟩
    have h1 := (right_one hm.2.2).1 (h.nd _)
    rw [Int.toNat_natCast] at h1
    rw [e] at h1
    have := h1.1
    simp at this
  · rename_i hm
    exact ⟨fun _ => hm, fun _ => rfl⟩
theorem memL_get {t : List NodeV} : ∀ {m k : Nat}, k < m → memI t (k : Int) → (memL t m)[(memL t k).length]? = some ⟨(k : Int), (nd t (2 * k)).name⟩
  | 0, k, h, _ => by omega
  | m + 1, k, h, hm => by
    simp only [memL]
    by_cases e : k = m
    · subst e
      rw [List.getElem?_append_right (Nat.le_refl _), if_pos hm]
      simp
    · have ih := memL_get (t := t) (m := m) (k := k) (by omega) hm
      have hlt : (memL t k).length < (memL t m).length := by
        rcases Nat.lt_or_ge (memL t k).length (memL t m).length with q | q
        · exact q
        · rw [List.getElem?_eq_none q] at ih; cases ih
      rw [List.getElem?_append_left hlt]
      exact ih
theorem memL_skip {t : List NodeV} {k : Nat} (h : ¬ memI t (k : Int)) : memL t (k + 1) = memL t k := by simp [memL, h]
theorem memL_more {t : List NodeV} {k : Nat} (h : memI t (k : Int)) : (memL t (k + 1)).length = (memL t k).length + 1 := by simp [memL, h]
theorem memL_end {t : List NodeV} {n : Nat} (h : ∀ k, n ≤ k → ¬ memI t (k : Int)) : ∀ m, n ≤ m → memL t m = memL t n
  | 0, hm => by obtain rfl : n = 0 := by omega
                rfl
  | m + 1, hm => by
    by_cases e : n = m + 1
    · rw [e]
    · rw [memL_skip (h m (by omega))]
      exact memL_end h m (by omega)
theorem memL_all {t : List NodeV} {n : Nat} (h : ∀ k, n ≤ k → ¬ memI t (k : Int)) : memL t (lvs t) = memL t n := by
  have h2 : ∀ k, lvs t ≤ k → ¬ memI t (k : Int) := fun k hk hm => by have := hm.2.1; omega
  rcases Nat.le_total n (lvs t) with q | q
  · exact memL_end h _ q
  · exact (memL_end h2 _ q).symm

theorem leafN_name {name : List UInt8} {key : Nat} : (leafN name key).right ↔ (1 ≤ name.length ∧ name.length ≤ 16 ∧ keyR key) := by
  rw [right_one (show (leafN name key).kind = 1 from rfl)]
  simp only [leafN, NodeV.held, keyR, List.length_nil]
  constructor
  · rintro ⟨h1, h2, ⟨h3, h4, _⟩, _⟩
    exact ⟨h1, h2, by omega, by omega⟩
  · rintro ⟨h1, h2, h3, h4⟩
    exact ⟨h1, h2, ⟨by omega, by omega, .inl trivial⟩, trivial⟩

/-- The names behind an Add. -/
theorem add_names {t : List NodeV} (h : rightT t) {n : NodeV} (hn : n.right) (hk : n.kind = 1) (hname : ¬ 0 ≤ namedI t n.name 0) (h32 : freeT t ≠ 32) (j : Nat) :
    (memI (addAt t (freeT t) n) (j : Int) ↔ j = freeT t ∨ memI t (j : Int)) ∧ nameAt (addAt t (freeT t) n) j = if j = freeT t then n.name else nameAt t j := by
  obtain ⟨⟨hL, hlen, h1, h2⟩, h3⟩ := h.good
  have hfr := freeT_le (t := t)
  have hfk := free_kind hL hlen
  have hR := addAt_right h hn hk hname h32
  have hl := lvs_of hL hlen
  generalize freeT t = v at *
  obtain ⟨L', q1, q2, q3, q4, q5, q6⟩ := moreT_shape hL hlen hfr h32
  have hnd := addAt_nd hL hlen hfr h32 n
  rw [q5] at hnd
  have hlen' := addAt_len (t := t) v n
  rw [q3] at hlen'
  have hl' := lvs_of q2 hlen'
  generalize addAt t v n = T at *
  have hp := fun u => path_iff q2 q4 u
  have heven : ∀ j, j ≠ v → nd T (2 * j) = nd t (2 * j) := by
    intro j hj
    rw [hnd, if_neg (by omega), if_neg]
    intro q
    have := ((hp _).1 q.1).2.1
    omega
  have hvn : nd T (2 * v) = n := by rw [hnd, if_pos rfl]
  have hm : memI T (j : Int) ↔ j = v ∨ memI t (j : Int) := by
    rw [memN_iff hl', memN_iff rfl]
    by_cases e : j = v
    · rw [e, hvn]
      exact ⟨fun _ => .inl rfl, fun _ => ⟨q4, hk⟩⟩
    · rw [heven j e]
      constructor
      · rintro ⟨a1, a2⟩
        refine .inr ⟨?_, a2⟩
        rcases Nat.lt_or_ge j (lvs t) with q | q
        · exact q
        · rw [nd_out (by omega)] at a2; cases a2
      · rintro (a | ⟨a1, a2⟩)
        · exact absurd a e
        · exact ⟨by omega, a2⟩
  refine ⟨hm, ?_⟩
  unfold nameAt
  by_cases e : j = v
  · rw [if_pos e, if_pos (hm.2 (.inl e)), e, hvn]
  · rw [if_neg e, heven j e]
    have : memI T (j : Int) ↔ memI t (j : Int) := by rw [hm]; exact ⟨fun q => q.resolve_left e, .inr⟩
    simp only [this]
theorem putT_names {t : List NodeV} {L : Nat} (hL : Fit L) (hlen : t.length = 2 * L - 1) {leaf : Nat} (hl : leaf < L) {n : NodeV} (j : Nat) :
    (memI (putT t leaf n) (j : Int) ↔ if j = leaf then n.kind = 1 else memI t (j : Int)) ∧ nameAt (putT t leaf n) j = if j = leaf then (if n.kind = 1 then n.name else []) else nameAt t j := by
  have hnd := putT_nd hL hlen hl n
  have hlen' := putT_len t leaf n
  rw [hlen] at hlen'
  have e1 := lvs_of hL hlen
  have e2 := lvs_of hL hlen'
  generalize putT t leaf n = T at *
  have heven : ∀ j, j ≠ leaf → nd T (2 * j) = nd t (2 * j) := by
    intro j hj
    rw [hnd, if_neg (by omega), if_neg]
    intro q
    have := ((path_iff hL hl _).1 q).2.1
    omega
  have hvn : nd T (2 * leaf) = n := by rw [hnd, if_pos rfl]
  have hm : memI T (j : Int) ↔ if j = leaf then n.kind = 1 else memI t (j : Int) := by
    rw [memN_iff e2]
    by_cases e : j = leaf
    · rw [if_pos e, e, hvn]
      exact ⟨fun q => q.2, fun q => ⟨hl, q⟩⟩
    · rw [if_neg e, heven j e, memN_iff e1]
  refine ⟨hm, ?_⟩
  unfold nameAt
  by_cases e : j = leaf
  · rw [if_pos e] at hm ⊢
    simp only [hm]
    rw [e, hvn]
  · rw [if_neg e] at hm ⊢
    simp only [hm, heven j e]
theorem cut_names {t : List NodeV} {m : Nat} (h : goodL (2 ^ (m + 1)) t) (h0 : cntN (memI t) (2 ^ (m + 1) / 2) (2 ^ (m + 1) - 2 ^ (m + 1) / 2) = 0) (j : Nat) : (memI (cutT t) (j : Int) ↔ memI t (j : Int)) ∧ nameAt (cutT t) j = nameAt t j := by
  have hg := cut_good h h0
  have e1 := h.lvs
  have e2 := hg.lvs
  have hpos := Nat.two_pow_pos m
  have hpow : 2 ^ (m + 1) = 2 * 2 ^ m := by rw [Nat.pow_succ]; omega
  have hnd : ∀ i, i < 2 * 2 ^ m - 1 → nd (cutT t) i = nd t i := by
    intro i hi'
    unfold cutT nd
    rw [List.getD_eq_getElem?_getD, List.getD_eq_getElem?_getD, List.getElem?_take, if_pos (by rw [e1, hpow]; omega)]
  have hm : memI (cutT t) (j : Int) ↔ memI t (j : Int) := by
    rw [memN_iff e2, memN_iff e1]
    constructor
    · rintro ⟨a1, a2⟩
      rw [hnd _ (by omega)] at a2
      exact ⟨by omega, a2⟩
    · rintro ⟨a1, a2⟩
      by_cases e : j < 2 ^ m
      · exact ⟨e, by rw [hnd _ (by omega)]; exact a2⟩
      · exfalso
        have : 0 < cntN (memI t) (2 ^ (m + 1) / 2) (2 ^ (m + 1) - 2 ^ (m + 1) / 2) :=
          cntN_pos.2 ⟨j - 2 ^ (m + 1) / 2, by omega, by rw [show 2 ^ (m + 1) / 2 + (j - 2 ^ (m + 1) / 2) = j by omega]; exact (memN_iff e1 _).2 ⟨a1, a2⟩⟩
        omega
  refine ⟨hm, ?_⟩
  unfold nameAt
  by_cases e : memI t (j : Int)
  · rw [if_pos e, if_pos (hm.2 e), hnd]
    have := ((memN_iff e2 _).1 (hm.2 e)).1
    omega
  · rw [if_neg e, if_neg (fun q => e (hm.1 q))]
theorem shrT_names : ∀ (f m : Nat) (t : List NodeV), m ≤ f → goodL (2 ^ m) t → ∀ j : Nat, (memI (shrT f t) (j : Int) ↔ memI t (j : Int)) ∧ nameAt (shrT f t) j = nameAt t j
  | 0, m, t, hm, h, j => ⟨Iff.rfl, rfl⟩
  | f + 1, m, t, hm, h, j => by
    simp only [shrT, h.lvs]
    cases m with
    | zero =>
      rw [if_neg (fun q => by have := q.1; simp at this)]
      exact ⟨Iff.rfl, rfl⟩
    | succ m =>
      by_cases h0 : cntN (memI t) (2 ^ (m + 1) / 2) (2 ^ (m + 1) - 2 ^ (m + 1) / 2) = 0
      · have hpos := Nat.two_pow_pos m
        rw [if_pos ⟨by rw [Nat.pow_succ]; omega, h0⟩]
        obtain ⟨a1, a2⟩ := shrT_names f m _ (by omega) (cut_good h h0) j
        obtain ⟨b1, b2⟩ := cut_names h h0 j
        exact ⟨a1.trans b1, a2.trans b2⟩
      · rw [if_neg (fun q => h0 q.2)]
        exact ⟨Iff.rfl, rfl⟩
theorem upd_names {t : List NodeV} (h : rightT t) {leaf : Nat} (hm : memI t (leaf : Int)) (key j : Nat) : (memI (updT t leaf key) (j : Int) ↔ memI t (j : Int)) ∧ nameAt (updT t leaf key) j = nameAt t j := by
  obtain ⟨h1, h2⟩ := h.len
  have hl := (memN_iff rfl _).1 hm
  obtain ⟨a1, a2⟩ := putT_names h2 h1 hl.1 (n := leafN (nd t (2 * leaf)).name key) j
  unfold updT
  by_cases e : j = leaf
  · rw [if_pos e] at a1 a2
    rw [if_pos (show (leafN (nd t (2 * leaf)).name key).kind = 1 from rfl)] at a2
    refine ⟨⟨fun _ => by rw [e]; exact hm, fun _ => a1.2 rfl⟩, ?_⟩
    rw [a2, e]
    unfold nameAt
    rw [if_pos hm]; rfl
  · rw [if_neg e] at a1 a2
    exact ⟨a1, a2⟩
theorem rm_names {t : List NodeV} (h : rightT t) {leaf : Nat} (hl : leaf < lvs t) (j : Nat) : (memI (rmT t leaf) (j : Int) ↔ j ≠ leaf ∧ memI t (j : Int)) ∧ nameAt (rmT t leaf) j = if j = leaf then [] else nameAt t j := by
  obtain ⟨hg, _⟩ := h.good
  have h1 := putT_good hg hl nought_right (.inl rfl)
  obtain ⟨m, hm, e⟩ := hg.1.pow
  rw [e] at h1
  obtain ⟨b1, b2⟩ := shrT_names 6 m _ (by omega) h1 j
  obtain ⟨a1, a2⟩ := putT_names hg.1 hg.2.1 hl (n := NodeV.nought) j
  unfold rmT
  rw [b1, b2, a1, a2]
  by_cases e : j = leaf
  · simp only [if_pos e]
    exact ⟨⟨fun q => (by cases q), fun q => absurd e q.1⟩, rfl⟩
  · simp only [if_neg e]
    exact ⟨⟨fun q => ⟨e, q⟩, fun q => q.2⟩, trivial⟩

end Go.AM


