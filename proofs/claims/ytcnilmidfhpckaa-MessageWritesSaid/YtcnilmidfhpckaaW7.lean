/- Contracts of the program's functions, each walked once; the conditions stand in each theorem. -/
import Derived.Test.YtcnilmidfhpckaaAMp6
import Derived.Test.YtcnilmidfhpckaaW6
import Derived.Test.YtcnilmidfhpckaaW4
import Derived.Test.YtcnilmidfhpckaaW2
set_option linter.unusedSimpArgs false
set_option linter.unusedVariables false
open Nat renaming reduceLT → nLT, reduceLeDiff → nLE, reduceEqDiff → nEQ, reduceAdd → nAdd, reduceMul → nMul, reducePow → nPow, reduceSub → nSub
open Int renaming reduceLT → zLT, reduceLE → zLE, reduceToNat → zNat
open Go.AM renaming ashift → qSh, aconv → qCv, aindexAddr → qIA, aindex → qIx, aslice → qSl, abuiltin → qBu
open Go.AM.AV renaming cells → qCe, one → qOn
set_option autoImplicit false
namespace Go.Proofs.Ytcnilmidfhpckaa
open Go Go.AM Go.Proofs

theorem RMsg1424 : type_of% (And.intro (And.intro (And.intro (And.intro (And.intro (And.intro (And.intro @Try.underlying3 T.c3) (And.intro T.g3 (And.intro T.b3 T.z3))) (And.intro (And.intro @Try.underlying4 T.c4) (And.intro T.g4 (And.intro T.b4 T.z4)))) (And.intro (And.intro (And.intro @Try.underlying5 T.c5) (And.intro T.g5 (And.intro T.b5 T.z5))) (And.intro (And.intro @Try.underlying9 T.c9) (And.intro T.g9 (And.intro T.b9 T.z9))))) (And.intro (And.intro (And.intro (And.intro @Try.underlying28 T.c28) (And.intro T.g28 (And.intro T.b28 T.z28))) (And.intro (And.intro T.s28 @Try.underlying41) (And.intro T.c41 (And.intro T.g41 T.b41)))) (And.intro (And.intro (And.intro T.z41 T.s41) (And.intro @Try.underlying42 (And.intro T.c42 T.g42))) (And.intro (And.intro T.b42 (And.intro T.z42 @Try.underlying43)) (And.intro T.c43 (And.intro T.g43 T.b43)))))) (And.intro (And.intro (And.intro (And.intro (And.intro T.z43 T.s43) (And.intro @Try.underlying45 (And.intro T.c45 T.g45))) (And.intro (And.intro T.b45 T.z45) (And.intro T.h45 (And.intro @Try.underlying47 T.c47)))) (And.intro (And.intro (And.intro T.g47 T.b47) (And.intro T.z47 (And.intro T.h47 @Try.underlying80))) (And.intro (And.intro T.c80 T.g80) (And.intro T.b80 (And.intro T.z80 T.h80))))) (And.intro (And.intro (And.intro (And.intro @Try.underlying83 T.c83) (And.intro T.g83 (And.intro T.b83 T.z83))) (And.intro (And.intro T.h83 T.f47_0) (And.intro T.f47_1 (And.intro T.f47_2 T.f47_3)))) (And.intro (And.intro (And.intro T.f47_4 T.f47_5) (And.intro T.f80_0 (And.intro T.f80_1 T.f80_2))) (And.intro (And.intro T.f80_3 (And.intro T.f80_4 T.k65)) (And.intro T.k66 (And.intro T.k67 T.k68))))))) Try.ntmps24) :=
  (And.intro (And.intro (And.intro (And.intro (And.intro (And.intro (And.intro @Try.underlying3 T.c3) (And.intro T.g3 (And.intro T.b3 T.z3))) (And.intro (And.intro @Try.underlying4 T.c4) (And.intro T.g4 (And.intro T.b4 T.z4)))) (And.intro (And.intro (And.intro @Try.underlying5 T.c5) (And.intro T.g5 (And.intro T.b5 T.z5))) (And.intro (And.intro @Try.underlying9 T.c9) (And.intro T.g9 (And.intro T.b9 T.z9))))) (And.intro (And.intro (And.intro (And.intro @Try.underlying28 T.c28) (And.intro T.g28 (And.intro T.b28 T.z28))) (And.intro (And.intro T.s28 @Try.underlying41) (And.intro T.c41 (And.intro T.g41 T.b41)))) (And.intro (And.intro (And.intro T.z41 T.s41) (And.intro @Try.underlying42 (And.intro T.c42 T.g42))) (And.intro (And.intro T.b42 (And.intro T.z42 @Try.underlying43)) (And.intro T.c43 (And.intro T.g43 T.b43)))))) (And.intro (And.intro (And.intro (And.intro (And.intro T.z43 T.s43) (And.intro @Try.underlying45 (And.intro T.c45 T.g45))) (And.intro (And.intro T.b45 T.z45) (And.intro T.h45 (And.intro @Try.underlying47 T.c47)))) (And.intro (And.intro (And.intro T.g47 T.b47) (And.intro T.z47 (And.intro T.h47 @Try.underlying80))) (And.intro (And.intro T.c80 T.g80) (And.intro T.b80 (And.intro T.z80 T.h80))))) (And.intro (And.intro (And.intro (And.intro @Try.underlying83 T.c83) (And.intro T.g83 (And.intro T.b83 T.z83))) (And.intro (And.intro T.h83 T.f47_0) (And.intro T.f47_1 (And.intro T.f47_2 T.f47_3)))) (And.intro (And.intro (And.intro T.f47_4 T.f47_5) (And.intro T.f80_0 (And.intro T.f80_1 T.f80_2))) (And.intro (And.intro T.f80_3 (And.intro T.f80_4 T.k65)) (And.intro T.k66 (And.intro T.k67 T.k68))))))) Try.ntmps24)

variable {Γ : Nat → List AV}

theorem u64_nat {n : Int} (h : 0 ≤ n) (k : n < 2 ^ 62) : iconv .u64 n = ((n.toNat : Nat) : Int) := by
  rw [← u64_conv (n := n.toNat) (by omega)]; congr 1; omega
theorem be_one : be 1 1 = [1] := rfl
theorem be_nought : be 1 0 = [0] := rfl
theorem room4 {a b c d : List UInt8} (h : a.length + b.length + c.length + d.length < 2 ^ 62) : (IntKind.i64.max < ((a.length + b.length + c.length + d.length : Nat) : Int)) = False ∧ (IntKind.i64.max < (((a ++ (b ++ c)).length + d.length : Nat) : Int)) = False ∧ (IntKind.i64.max < ((a.length + (b.length + c.length) + d.length : Nat) : Int)) = False :=
  ⟨i64_room h, i64_room (by simp; omega), i64_room (by omega)⟩

set_option maxHeartbeats 8000000 in
set_option maxRecDepth 100000 in
theorem refContent_calls (c : CommitV) (hw : c.wf) (hr : c.right) (s : AS) : ACalls Try.prog Γ 24 [.agg c.cells] s (fun r s' => r = .v (.string ⟨c.content.toArray⟩) ∧ s' = s) := by
  refine acalls_body Try.func24 rfl Try.ntmps24 Try.results24 (by simp) ?_
  obtain ⟨w1, w2, w3⟩ := hw
  obtain ⟨r1, r2, r3, r4, r5, r6, r7, r8⟩ := hr
  obtain ⟨g, e, sd, ps, hp, pa, cf, mb⟩ := c
  simp only at w1 w2 w3 r1 r2 r3 r4 r5 r6 r7 r8
  have hpath : hp = true → pa.right := r6.1
  clear r6
  have hCe : CommitV.content ⟨g, e, sd, ps, hp, pa, cf, mb⟩ = (be 1 1 ++ (txt 1 g ++ (be 8 e.toNat ++ (be 1 sd.toNat ++ be 1 ps.length)))) ++ flatT PropV.text ps ++ (if hp then be 1 1 ++ pa.text else be 1 0) := by
    unfold CommitV.content CommitV.tail
    simp only [List.append_assoc]
  rw [hCe]
  clear hCe
  have hfl : ∀ i, (flatT PropV.text (ps.take i)).length ≤ 640 := by
    intro i
    have h1 := flatT_len (f := PropV.text) (n := 40) (l := ps.take i) fun y hy => PropV.text_len (r1 y (List.mem_of_mem_take hy))
    have h2 : (ps.take i).length ≤ 16 := by rw [List.length_take]; omega
    have h3 : (ps.take i).length * 40 ≤ 16 * 40 := Nat.mul_le_mul_right _ h2
    omega
  have hpw := fun (h : hp = true) s => refPathWrite_calls (Γ := Γ) pa w2 (hpath h) s
  have hpl := fun (h : hp = true) => PathV.text_len (hpath h)
  obtain ⟨TX, hTX⟩ : ∃ q, q = pa.text := ⟨_, rfl⟩
  rw [← hTX]
  rw [← hTX] at hpl hpw
  clear hTX hpath w2
  obtain ⟨pk, pp, pst⟩ := pa
  unfold PathV.cells at hpw
  have hrow := fun i (h : i < ps.length) => row_at (c := PropV.cells) (k := 5) (fun _ => rfl) h
  unfold CommitV.cells
  simp only at hpw ⊢
  generalize hX : rowC StepV.cells pst = X at *
  generalize hZ : rowC PropV.cells ps = Z at *
  have hT1 := fun s => refText_calls (Γ := Γ) g 1 (by omega) (by decide) s
  change ∀ s, ACalls _ _ _ _ s (fun r s' => r = .v (.string ⟨(txt 1 g).toArray⟩) ∧ s' = s) at hT1
  have hN8 := fun s => num_calls (Γ := Γ) e e.toNat 8 (u64_nat r3.1 (by omega)) (by decide) (by omega) s
  have hN1 := fun s => num_calls (Γ := Γ) sd sd.toNat 1 (u64_nat r4.1 (by omega)) (by decide) (by omega) s
  have hNp := fun s => num_calls (Γ := Γ) (ps.length : Int) ps.length 1 (u64_conv (by omega)) (by decide) (by omega) s
  have l1 := txt_len 1 g
  have l2 := length_be 8 e.toNat
  have l3 := length_be 1 sd.toNat
  have l4 := length_be 1 ps.length
  rw [be_one]
  generalize txt 1 g = A1 at *
  generalize be 8 e.toNat = A2 at *
  generalize be 1 sd.toNat = A3 at *
  generalize be 1 ps.length = A4 at *
  refine awp_reg_frz 1 (by simp [dsts]) ?_
  intro K hK
  simp only [↓AXq_nil, ↓AXq_cons, pval, DX, Nat.reduceBEq, ↓DN, UP, DF, qSh, qCv, qIA, qIx, qSl, qBu, qCe, qOn, reduceCtorEq, ↓reduceIte, nLT, nLE, nEQ, nAdd, nMul, nPow, nSub, zLT, zLE, zNat, RMsg1424]
  intro o ho
  refine hK _ _ o _ (by simp only [upd, nEQ, ↓reduceIte]) ho ?_
  clear hK K ho
  refine awp_drw_seq T.mixed [3, 7, 11, 16] (by kernel_rfl) ?_
  intro K hK
  simp only [↓AXq_nil, ↓AXq_cons, pval, DX, Nat.reduceBEq, ↓DN, UP, DF, qSh, qCv, qIA, qIx, qSl, qBu, qCe, qOn, reduceCtorEq, ↓reduceIte, nLT, nLE, nEQ, nAdd, nMul, nPow, nSub, zLT, zLE, zNat, RMsg1424]
  refine acallk (hT1 _) ?_
  rintro r s1 ⟨rfl, rfl⟩
  simp only [↓AXq_nil, ↓AXq_cons, pval, DX, Nat.reduceBEq, ↓DN, UP, DF, qSh, qCv, qIA, qIx, qSl, qBu, qCe, qOn, reduceCtorEq, ↓reduceIte, nLT, nLE, nEQ, nAdd, nMul, nPow, nSub, zLT, zLE, zNat, RMsg1424, i64_room (show 1 + A1.length < 2 ^ 62 by omega)]
  refine acallk (hN8 _) ?_
  rintro r s2 ⟨rfl, rfl⟩
  have q1 : A1.length + 1 + A2.length < 2 ^ 62 := by omega
  have q2 : (1 :: A1).length + A2.length < 2 ^ 62 := by rw [List.length_cons]; omega
  simp only [↓AXq_nil, ↓AXq_cons, pval, DX, Nat.reduceBEq, ↓DN, UP, DF, qSh, qCv, qIA, qIx, qSl, qBu, qCe, qOn, reduceCtorEq, ↓reduceIte, nLT, nLE, nEQ, nAdd, nMul, nPow, nSub, zLT, zLE, zNat, RMsg1424, i64_room q1, i64_room q2]
  refine acallk (hN1 _) ?_
  rintro r s3 ⟨rfl, rfl⟩
  have q3 : A1.length + A2.length + 1 + A3.length < 2 ^ 62 := by omega
  have q4 : (1 :: (A1 ++ A2)).length + A3.length < 2 ^ 62 := by rw [List.length_cons, List.length_append]; omega
  simp only [↓AXq_nil, ↓AXq_cons, pval, DX, Nat.reduceBEq, ↓DN, UP, DF, qSh, qCv, qIA, qIx, qSl, qBu, qCe, qOn, reduceCtorEq, ↓reduceIte, nLT, nLE, nEQ, nAdd, nMul, nPow, nSub, zLT, zLE, zNat, RMsg1424, i64_room q3, i64_room q4]
  refine acallk (hNp _) ?_
  rintro r s4 ⟨rfl, rfl⟩
  have q5 : A1.length + (A2.length + A3.length) + 1 + A4.length < 2 ^ 62 := by omega
  have q6 : (1 :: (A1 ++ (A2 ++ A3))).length + A4.length < 2 ^ 62 := by rw [List.length_cons, List.length_append, List.length_append]; omega
  have q7 : A1.length + A2.length + A3.length + 1 + A4.length < 2 ^ 62 := by omega
  simp only [↓AXq_nil, ↓AXq_cons, pval, DX, Nat.reduceBEq, ↓DN, UP, DF, qSh, qCv, qIA, qIx, qSl, qBu, qCe, qOn, reduceCtorEq, ↓reduceIte, nLT, nLE, nEQ, nAdd, nMul, nPow, nSub, zLT, zLE, zNat, RMsg1424, i64_room q5, i64_room q6, i64_room q7]
  refine hK _ _ ?_
  clear hK K
  refine awp_seq_k ?_
  intro K hK
  refine awp_reg_seq ?_
  intro K hK
  simp only [↓DN, UP, DF, qSh, qCv, qIA, qIx, qSl, qBu, qCe, qOn, reduceCtorEq, ↓reduceIte, nLT, nLE, nEQ, nAdd, nMul, nPow, nSub, zLT, zLE, zNat, RMsg1424]
  refine hK _ _ ?_
  clear hK K
  refine awp_block ?_
  have hPl : (1 :: (A1 ++ (A2 ++ (A3 ++ A4)))).length ≤ 1000 := by rw [List.length_cons, List.length_append, List.length_append, List.length_append]; omega
  have hPe : ([1] : List UInt8) ++ (A1 ++ (A2 ++ (A3 ++ A4))) = 1 :: (A1 ++ (A2 ++ (A3 ++ A4))) := rfl
  rw [hPe] at hK ⊢
  clear hPe hT1 hN8 hN1 hNp q1 q2 q3 q4 q5 q6 q7
  generalize 1 :: (A1 ++ (A2 ++ (A3 ++ A4))) = PP0 at *
  refine awp_loop (fun E s9 => ∃ i : Nat, i ≤ ps.length ∧ E 4 = .v (.int .i64 i) ∧ E 3 = .v (.string ⟨(PP0 ++ flatT PropV.text (ps.take i)).toArray⟩) ∧ E 1 = .rop [.sl 1 g.length (g.map byteV) .any, .v (.int .i64 e), .v (.int .i64 sd), .sl 5 ps.length Z .any, .v (.bool hp), .v (.int .u64 pk), .sl 1 pp.length (pp.map byteV) .any, .sl 2 pst.length X .any, .sl 1 cf.length (cf.map byteV) .any, .sl 1 mb.length (mb.map byteV) .any] ∧ s9 = s4)
    (fun E _ => match E 4 with | .v (.int _ i) => ps.length - i.toNat | _ => 0) ?_ ?_
  · exact ⟨0, Nat.zero_le _, by simp only [upd, ↓reduceIte]; rfl, by simp only [upd, nEQ, ↓reduceIte]; simp [flatT], by simp only [upd, nEQ, ↓reduceIte], rfl⟩
  · rintro E1 s9 ⟨i, hi, g4, g3, g1, rfl⟩ -
    refine awp_seq_k ?_
    intro K2 hK2
    by_cases hi' : i < ps.length
    · refine awp_reg_seq ?_
      intro K hK
      simp only [↓DN, UP, DF, qSh, qCv, qIA, qIx, qSl, qBu, qCe, qOn, reduceCtorEq, ↓reduceIte, nLT, nLE, nEQ, nAdd, nMul, nPow, nSub, zLT, zLE, zNat, RMsg1424, g4, g1, eye_lt_nat, decide_eq_true hi']
      refine hK _ _ ?_
      clear hK K
      refine awp_cond_k ?_
      intro X Y hX hY
      simp only [↓DN, UP, DF, qSh, qCv, qIA, qIx, qSl, qBu, qCe, qOn, reduceCtorEq, ↓reduceIte, nLT, nLE, nEQ, nAdd, nMul, nPow, nSub, zLT, zLE, zNat, RMsg1424, DB]
      refine hX ?_
      clear hX hY X Y
      refine awp_skip ?_
      refine hK2 _ _ ?_
      clear hK2 K2
      refine awp_seq_k ?_
      intro K3 hK3
      refine awp_block ?_
      have hat := hrow i hi'
      have hge : (0 : Int) ≤ (i : Int) := by omega
      have hft := flatT_take PropV.text hi'
      have hfl1 := hfl i
      have hSl : (PP0 ++ flatT PropV.text (ps.take i)).length ≤ 20000 := by rw [List.length_append]; omega
      have hnx : PP0 ++ flatT PropV.text (ps.take (i + 1)) = (PP0 ++ flatT PropV.text (ps.take i)) ++ PropV.text ps[i] := by rw [hft, List.append_assoc]
      generalize PP0 ++ flatT PropV.text (ps.take i) = S at *
      obtain ⟨y, hy⟩ : ∃ y, y = ps[i] := ⟨_, rfl⟩
      rw [← hy] at hat hnx
      have hym : y ∈ ps := by rw [hy]; exact List.getElem_mem hi'
      have hyw := w1 y hym
      have hyr := r1 y hym
      clear hy hft
      obtain ⟨k, l, nm, key, ini⟩ := y
      obtain ⟨yw1, yw2⟩ := hyw
      simp only at yw1 yw2
      unfold PropV.cells at hat
      have hk : 0 ≤ k ∧ k < 256 := by rcases hyr with h | h | h <;> (have := h.1; simp only at this; omega)
      have hend : ∀ (E : Env) (s10 : AS), s10 = s9 → E 3 = .v (.string ⟨(PP0 ++ flatT PropV.text (ps.take (i + 1))).toArray⟩) → E 4 = .v (.int .i64 i) → E 1 = .rop [.sl 1 g.length (g.map byteV) .any, .v (.int .i64 e), .v (.int .i64 sd), .sl 5 ps.length Z .any, .v (.bool hp), .v (.int .u64 pk), .sl 1 pp.length (pp.map byteV) .any, .sl 2 pst.length X .any, .sl 1 cf.length (cf.map byteV) .any, .sl 1 mb.length (mb.map byteV) .any] → K3 E s10 := by
        have G4 := g4
        clear g4 g3 g1
        rintro E s10 rfl g3 g4 g1
        refine hK3 _ _ ?_
        clear hK3 K3
        refine awp_reg_end ?_
        intro K hK
        simp only [↓DN, UP, DF, qSh, qCv, qIA, qIx, qSl, qBu, qCe, qOn, reduceCtorEq, ↓reduceIte, nLT, nLE, nEQ, nAdd, nMul, nPow, nSub, zLT, zLE, zNat, RMsg1424, g4, eye_succM i (by omega)]
        refine hK _ _ ?_
        clear hK K
        refine ⟨⟨i + 1, by omega, by simp only [upd, ↓reduceIte], by simp only [upd, g3, nEQ, ↓reduceIte], by simp only [upd, g1, nEQ, ↓reduceIte], rfl⟩, ?_⟩
        simp only [G4, upd, ↓reduceIte]
        omega
      clear hK3
      refine awp_reg_frz 5 (by simp [dsts]) ?_
      intro K2 hK2
      simp only [↓AXq_nil, ↓AXq_cons, pval, DX, Nat.reduceBEq, ↓DN, UP, DF, qSh, qCv, qIA, qIx, qSl, qBu, qCe, qOn, reduceCtorEq, ↓reduceIte, nLT, nLE, nEQ, nAdd, nMul, nPow, nSub, zLT, zLE, zNat, RMsg1424, g4, g1, eye_lt_nat, hi', hge, hat]
      intro o ho
      refine hK2 _ _ o _ (by simp only [upd, nEQ, ↓reduceIte]) ho ?_
      clear hK2 K2 ho
      have lk := length_be 1 k.toNat
      have hNk := fun s => num_calls (Γ := Γ) k k.toNat 1 (u64_nat hk.1 (by omega)) (by decide) (by omega) s
      have hpt : PropV.text ⟨k, l, nm, key, ini⟩ = be 1 k.toNat ++ PropV.body ⟨k, l, nm, key, ini⟩ := rfl
      rw [hpt] at hnx
      clear hpt
      generalize be 1 k.toNat = B0 at *
      refine awp_reg_seq ?_
      intro K hK
      simp only [↓DN, UP, DF, qSh, qCv, qIA, qIx, qSl, qBu, qCe, qOn, reduceCtorEq, ↓reduceIte, nLT, nLE, nEQ, nAdd, nMul, nPow, nSub, zLT, zLE, zNat, RMsg1424, g3]
      refine acallk (hNk _) ?_
      rintro r s10 ⟨rfl, rfl⟩
      simp only [↓AXq_nil, ↓AXq_cons, pval, DX, Nat.reduceBEq, ↓DN, UP, DF, qSh, qCv, qIA, qIx, qSl, qBu, qCe, qOn, reduceCtorEq, ↓reduceIte, nLT, nLE, nEQ, nAdd, nMul, nPow, nSub, zLT, zLE, zNat, RMsg1424, room2 (show S.length + B0.length < 2 ^ 62 by omega)]
      refine hK _ _ ?_
      clear hK K
      have hSl1 : (S ++ B0).length ≤ 20001 := by rw [List.length_append]; omega
      rw [← List.append_assoc] at hnx
      generalize S ++ B0 = S1 at *
      refine awp_seq_k ?_
      intro K2 hK2
      rcases hyr with ⟨e1, e2, e3, e4, e5, e6⟩ | ⟨e1, e2, e3, e4, e5, e6⟩ | ⟨e1, e2, e3, e4, e5, e6⟩
      · simp only at e1 e2 e3 e4 e5 e6
        rw [show PropV.body ⟨k, l, nm, key, ini⟩ = txt 1 nm ++ (be 8 key ++ be 8 ini) from if_pos e1] at hnx
        have hTn := fun s => refText_calls (Γ := Γ) nm 1 (by omega) (by decide) s
        change ∀ s, ACalls _ _ _ _ s (fun r s' => r = .v (.string ⟨(txt 1 nm).toArray⟩) ∧ s' = s) at hTn
        have hNk8 := fun s => refNumber_calls (Γ := Γ) key 8 yw1 (by decide) s
        have hNi8 := fun s => refNumber_calls (Γ := Γ) ini 8 yw2 (by decide) s
        have m1 := txt_len 1 nm
        have m2 := length_be 8 key
        have m3 := length_be 8 ini
        generalize txt 1 nm = C1 at *
        generalize be 8 key = C2 at *
        generalize be 8 ini = C3 at *
        refine awp_reg_seq ?_
        intro K hK
        simp only [↓DN, UP, DF, qSh, qCv, qIA, qIx, qSl, qBu, qCe, qOn, reduceCtorEq, ↓reduceIte, nLT, nLE, nEQ, nAdd, nMul, nPow, nSub, zLT, zLE, zNat, RMsg1424, yesI e1]
        refine hK _ _ ?_
        clear hK K
        refine awp_cond_k ?_
        intro X Y hX hY
        simp only [↓DN, UP, DF, qSh, qCv, qIA, qIx, qSl, qBu, qCe, qOn, reduceCtorEq, ↓reduceIte, nLT, nLE, nEQ, nAdd, nMul, nPow, nSub, zLT, zLE, zNat, RMsg1424, DB]
        refine hX ?_
        clear hX hY X Y
        refine awp_drw_end T.mixed [4, 8, 12] (by kernel_rfl) ?_
        intro K hK
        simp only [↓AXq_nil, ↓AXq_cons, pval, DX, Nat.reduceBEq, ↓DN, UP, DF, qSh, qCv, qIA, qIx, qSl, qBu, qCe, qOn, reduceCtorEq, ↓reduceIte, nLT, nLE, nEQ, nAdd, nMul, nPow, nSub, zLT, zLE, zNat, RMsg1424]
        refine acallk (hTn _) ?_
        rintro r s11 ⟨rfl, rfl⟩
        simp only [↓AXq_nil, ↓AXq_cons, pval, DX, Nat.reduceBEq, ↓DN, UP, DF, qSh, qCv, qIA, qIx, qSl, qBu, qCe, qOn, reduceCtorEq, ↓reduceIte, nLT, nLE, nEQ, nAdd, nMul, nPow, nSub, zLT, zLE, zNat, RMsg1424, room2 (show S1.length + C1.length < 2 ^ 62 by omega)]
        refine acallk (hNk8 _) ?_
        rintro r s12 ⟨rfl, rfl⟩
        simp only [↓AXq_nil, ↓AXq_cons, pval, DX, Nat.reduceBEq, ↓DN, UP, DF, qSh, qCv, qIA, qIx, qSl, qBu, qCe, qOn, reduceCtorEq, ↓reduceIte, nLT, nLE, nEQ, nAdd, nMul, nPow, nSub, zLT, zLE, zNat, RMsg1424, room3 (show S1.length + C1.length + C2.length < 2 ^ 62 by omega)]
        refine acallk (hNi8 _) ?_
        rintro r s13 ⟨rfl, rfl⟩
        simp only [↓AXq_nil, ↓AXq_cons, pval, DX, Nat.reduceBEq, ↓DN, UP, DF, qSh, qCv, qIA, qIx, qSl, qBu, qCe, qOn, reduceCtorEq, ↓reduceIte, nLT, nLE, nEQ, nAdd, nMul, nPow, nSub, zLT, zLE, zNat, RMsg1424, room4 (show S1.length + C1.length + C2.length + C3.length < 2 ^ 62 by omega)]
        refine hK _ _ ?_
        clear hK K
        simp only [thenQ]
        refine hK2 _ _ ?_
        clear hK2 K2
        refine awp_reg_seq ?_
        intro K hK
        simp only [↓DN, UP, DF, qSh, qCv, qIA, qIx, qSl, qBu, qCe, qOn, reduceCtorEq, ↓reduceIte, nLT, nLE, nEQ, nAdd, nMul, nPow, nSub, zLT, zLE, zNat, RMsg1424, notI (show k ≠ 2 by omega)]
        refine hK _ _ ?_
        clear hK K
        refine awp_cond_k ?_
        intro X Y hX hY
        simp only [↓DN, UP, DF, qSh, qCv, qIA, qIx, qSl, qBu, qCe, qOn, reduceCtorEq, ↓reduceIte, nLT, nLE, nEQ, nAdd, nMul, nPow, nSub, zLT, zLE, zNat, RMsg1424, DB]
        refine hY ?_
        clear hX hY X Y
        refine awp_skip ?_
        simp only [blockQ, thenQ, if_true, if_false]
        exact hend _ _ rfl (by simp only [upd, nEQ, ↓reduceIte]; rw [hnx]) (by simp only [upd, g4, nEQ, ↓reduceIte]) (by simp only [upd, g1, nEQ, ↓reduceIte])
      · simp only at e1 e2 e3 e4 e5 e6
        rw [show PropV.body ⟨k, l, nm, key, ini⟩ = be 1 l.toNat ++ be 8 key from (if_neg (show ¬ k = 1 by omega)).trans (if_pos e1)] at hnx
        have hNl := fun s => num_calls (Γ := Γ) l l.toNat 1 (u64_nat e2 (by omega)) (by decide) (by omega) s
        have hNk8 := fun s => refNumber_calls (Γ := Γ) key 8 yw1 (by decide) s
        have m1 := length_be 1 l.toNat
        have m2 := length_be 8 key
        generalize be 1 l.toNat = C1 at *
        generalize be 8 key = C2 at *
        refine awp_reg_seq ?_
        intro K hK
        simp only [↓DN, UP, DF, qSh, qCv, qIA, qIx, qSl, qBu, qCe, qOn, reduceCtorEq, ↓reduceIte, nLT, nLE, nEQ, nAdd, nMul, nPow, nSub, zLT, zLE, zNat, RMsg1424, notI (show k ≠ 1 by omega)]
        refine hK _ _ ?_
        clear hK K
        refine awp_cond_k ?_
        intro X Y hX hY
        simp only [↓DN, UP, DF, qSh, qCv, qIA, qIx, qSl, qBu, qCe, qOn, reduceCtorEq, ↓reduceIte, nLT, nLE, nEQ, nAdd, nMul, nPow, nSub, zLT, zLE, zNat, RMsg1424, DB]
        refine hY ?_
        clear hX hY X Y
        refine awp_reg_end ?_
        intro K hK
        simp only [↓DN, UP, DF, qSh, qCv, qIA, qIx, qSl, qBu, qCe, qOn, reduceCtorEq, ↓reduceIte, nLT, nLE, nEQ, nAdd, nMul, nPow, nSub, zLT, zLE, zNat, RMsg1424]
        refine acallk (hNl _) ?_
        rintro r s11 ⟨rfl, rfl⟩
        simp only [↓AXq_nil, ↓AXq_cons, pval, DX, Nat.reduceBEq, ↓DN, UP, DF, qSh, qCv, qIA, qIx, qSl, qBu, qCe, qOn, reduceCtorEq, ↓reduceIte, nLT, nLE, nEQ, nAdd, nMul, nPow, nSub, zLT, zLE, zNat, RMsg1424, room2 (show S1.length + C1.length < 2 ^ 62 by omega)]
        refine hK _ _ ?_
        clear hK K
        simp only [thenQ]
        refine hK2 _ _ ?_
        clear hK2 K2
        refine awp_reg_seq ?_
        intro K hK
        simp only [↓DN, UP, DF, qSh, qCv, qIA, qIx, qSl, qBu, qCe, qOn, reduceCtorEq, ↓reduceIte, nLT, nLE, nEQ, nAdd, nMul, nPow, nSub, zLT, zLE, zNat, RMsg1424, yesI e1]
        refine hK _ _ ?_
        clear hK K
        refine awp_cond_k ?_
        intro X Y hX hY
        simp only [↓DN, UP, DF, qSh, qCv, qIA, qIx, qSl, qBu, qCe, qOn, reduceCtorEq, ↓reduceIte, nLT, nLE, nEQ, nAdd, nMul, nPow, nSub, zLT, zLE, zNat, RMsg1424, DB]
        refine hX ?_
        clear hX hY X Y
        refine awp_reg_end ?_
        intro K hK
        simp only [↓DN, UP, DF, qSh, qCv, qIA, qIx, qSl, qBu, qCe, qOn, reduceCtorEq, ↓reduceIte, nLT, nLE, nEQ, nAdd, nMul, nPow, nSub, zLT, zLE, zNat, RMsg1424]
        refine acallk (hNk8 _) ?_
        rintro r s12 ⟨rfl, rfl⟩
        simp only [↓AXq_nil, ↓AXq_cons, pval, DX, Nat.reduceBEq, ↓DN, UP, DF, qSh, qCv, qIA, qIx, qSl, qBu, qCe, qOn, reduceCtorEq, ↓reduceIte, nLT, nLE, nEQ, nAdd, nMul, nPow, nSub, zLT, zLE, zNat, RMsg1424, room3 (show S1.length + C1.length + C2.length < 2 ^ 62 by omega)]
        refine hK _ _ ?_
        clear hK K
        simp only [blockQ, thenQ, if_true, if_false]
        exact hend _ _ rfl (by simp only [upd, nEQ, ↓reduceIte]; rw [hnx]) (by simp only [upd, g4, nEQ, ↓reduceIte]) (by simp only [upd, g1, nEQ, ↓reduceIte])
      · simp only at e1 e2 e3 e4 e5 e6
        rw [show PropV.body ⟨k, l, nm, key, ini⟩ = be 1 l.toNat from (if_neg (show ¬ k = 1 by omega)).trans (if_neg (show ¬ k = 2 by omega))] at hnx
        have hNl := fun s => num_calls (Γ := Γ) l l.toNat 1 (u64_nat e2 (by omega)) (by decide) (by omega) s
        have m1 := length_be 1 l.toNat
        generalize be 1 l.toNat = C1 at *
        refine awp_reg_seq ?_
        intro K hK
        simp only [↓DN, UP, DF, qSh, qCv, qIA, qIx, qSl, qBu, qCe, qOn, reduceCtorEq, ↓reduceIte, nLT, nLE, nEQ, nAdd, nMul, nPow, nSub, zLT, zLE, zNat, RMsg1424, notI (show k ≠ 1 by omega)]
        refine hK _ _ ?_
        clear hK K
        refine awp_cond_k ?_
        intro X Y hX hY
        simp only [↓DN, UP, DF, qSh, qCv, qIA, qIx, qSl, qBu, qCe, qOn, reduceCtorEq, ↓reduceIte, nLT, nLE, nEQ, nAdd, nMul, nPow, nSub, zLT, zLE, zNat, RMsg1424, DB]
        refine hY ?_
        clear hX hY X Y
        refine awp_reg_end ?_
        intro K hK
        simp only [↓DN, UP, DF, qSh, qCv, qIA, qIx, qSl, qBu, qCe, qOn, reduceCtorEq, ↓reduceIte, nLT, nLE, nEQ, nAdd, nMul, nPow, nSub, zLT, zLE, zNat, RMsg1424]
        refine acallk (hNl _) ?_
        rintro r s11 ⟨rfl, rfl⟩
        simp only [↓AXq_nil, ↓AXq_cons, pval, DX, Nat.reduceBEq, ↓DN, UP, DF, qSh, qCv, qIA, qIx, qSl, qBu, qCe, qOn, reduceCtorEq, ↓reduceIte, nLT, nLE, nEQ, nAdd, nMul, nPow, nSub, zLT, zLE, zNat, RMsg1424, room2 (show S1.length + C1.length < 2 ^ 62 by omega)]
        refine hK _ _ ?_
        clear hK K
        simp only [thenQ]
        refine hK2 _ _ ?_
        clear hK2 K2
        refine awp_reg_seq ?_
        intro K hK
        simp only [↓DN, UP, DF, qSh, qCv, qIA, qIx, qSl, qBu, qCe, qOn, reduceCtorEq, ↓reduceIte, nLT, nLE, nEQ, nAdd, nMul, nPow, nSub, zLT, zLE, zNat, RMsg1424, notI (show k ≠ 2 by omega)]
        refine hK _ _ ?_
        clear hK K
        refine awp_cond_k ?_
        intro X Y hX hY
        simp only [↓DN, UP, DF, qSh, qCv, qIA, qIx, qSl, qBu, qCe, qOn, reduceCtorEq, ↓reduceIte, nLT, nLE, nEQ, nAdd, nMul, nPow, nSub, zLT, zLE, zNat, RMsg1424, DB]
        refine hY ?_
        clear hX hY X Y
        refine awp_skip ?_
        simp only [blockQ, thenQ, if_true, if_false]
        exact hend _ _ rfl (by simp only [upd, nEQ, ↓reduceIte]; rw [hnx]) (by simp only [upd, g4, nEQ, ↓reduceIte]) (by simp only [upd, g1, nEQ, ↓reduceIte])
    · refine awp_reg_seq ?_
      intro K hK
      simp only [↓DN, UP, DF, qSh, qCv, qIA, qIx, qSl, qBu, qCe, qOn, reduceCtorEq, ↓reduceIte, nLT, nLE, nEQ, nAdd, nMul, nPow, nSub, zLT, zLE, zNat, RMsg1424, g4, g1, eye_lt_nat, decide_eq_false hi']
      refine hK _ _ ?_
      clear hK K
      refine awp_cond_k ?_
      intro X Y hX hY
      simp only [↓DN, UP, DF, qSh, qCv, qIA, qIx, qSl, qBu, qCe, qOn, reduceCtorEq, ↓reduceIte, nLT, nLE, nEQ, nAdd, nMul, nPow, nSub, zLT, zLE, zNat, RMsg1424, DB]
      refine hY ?_
      clear hX hY X Y
      refine awp_exit ?_
      simp only [thenQ, blockQ, if_true]
      have hfl1 := hfl ps.length
      rw [List.take_of_length_le (by omega)] at g3
      rw [List.take_of_length_le (by omega)] at hfl1
      refine hK _ _ ?_
      clear hK K hK2 K2 g4
      have hSl : (PP0 ++ flatT PropV.text ps).length ≤ 20000 := by rw [List.length_append]; omega
      generalize PP0 ++ flatT PropV.text ps = S at *
      refine awp_seq_k ?_
      intro K hK
      cases hp with
      | false =>
        refine awp_reg_seq ?_
        intro K hK
        simp only [↓DN, UP, DF, qSh, qCv, qIA, qIx, qSl, qBu, qCe, qOn, reduceCtorEq, ↓reduceIte, nLT, nLE, nEQ, nAdd, nMul, nPow, nSub, zLT, zLE, zNat, RMsg1424, g1]
        refine hK _ _ ?_
        clear hK K
        refine awp_cond_k ?_
        intro X Y hX hY
        simp only [↓DN, UP, DF, qSh, qCv, qIA, qIx, qSl, qBu, qCe, qOn, reduceCtorEq, ↓reduceIte, nLT, nLE, nEQ, nAdd, nMul, nPow, nSub, zLT, zLE, zNat, RMsg1424, DB]
        refine hX ?_
        clear hX hY X Y
        refine awp_reg_seq ?_
        intro K hK
        simp only [↓DN, UP, DF, qSh, qCv, qIA, qIx, qSl, qBu, qCe, qOn, reduceCtorEq, ↓reduceIte, nLT, nLE, nEQ, nAdd, nMul, nPow, nSub, zLT, zLE, zNat, RMsg1424, g3, i64_room (show S.length + 1 < 2 ^ 62 by omega)]
        refine hK _ _ ?_
        clear hK K
        refine awp_ret ?_
        try simp only [thenQ, blockQ]
        simp only [retQ, AEnds, aresL, ares, List.toList_toArray, ↓upd_same]; try simp only [↓DN, UP, DF, qSh, qCv, qIA, qIx, qSl, qBu, qCe, qOn, reduceCtorEq, ↓reduceIte, nLT, nLE, nEQ, nAdd, nMul, nPow, nSub, zLT, zLE, zNat, RMsg1424, DT]
        exact ⟨_, _, AV.weak.refl _, AS.le.refl _, by simp [be_nought], rfl⟩
      | true =>
        have hpl := hpl rfl
        refine awp_reg_seq ?_
        intro K hK
        simp only [↓DN, UP, DF, qSh, qCv, qIA, qIx, qSl, qBu, qCe, qOn, reduceCtorEq, ↓reduceIte, nLT, nLE, nEQ, nAdd, nMul, nPow, nSub, zLT, zLE, zNat, RMsg1424, g1]
        refine hK _ _ ?_
        clear hK K
        refine awp_cond_k ?_
        intro X Y hX hY
        simp only [↓DN, UP, DF, qSh, qCv, qIA, qIx, qSl, qBu, qCe, qOn, reduceCtorEq, ↓reduceIte, nLT, nLE, nEQ, nAdd, nMul, nPow, nSub, zLT, zLE, zNat, RMsg1424, DB]
        refine hY ?_
        clear hX hY X Y
        refine awp_skip ?_
        refine hK _ _ ?_
        clear hK K
        refine awp_reg_seq ?_
        intro K hK
        simp only [↓DN, UP, DF, qSh, qCv, qIA, qIx, qSl, qBu, qCe, qOn, reduceCtorEq, ↓reduceIte, nLT, nLE, nEQ, nAdd, nMul, nPow, nSub, zLT, zLE, zNat, RMsg1424, g1, g3, i64_room (show S.length + 1 < 2 ^ 62 by omega)]
        refine acallk (hpw rfl _) ?_
        rintro r s10 ⟨rfl, rfl⟩
        have q1 : S.length + 1 + TX.length < 2 ^ 62 := by omega
        have q2 : (S ++ [1]).length + TX.length < 2 ^ 62 := by rw [List.length_append, List.length_singleton]; omega
        simp only [↓AXq_nil, ↓AXq_cons, pval, DX, Nat.reduceBEq, ↓DN, UP, DF, qSh, qCv, qIA, qIx, qSl, qBu, qCe, qOn, reduceCtorEq, ↓reduceIte, nLT, nLE, nEQ, nAdd, nMul, nPow, nSub, zLT, zLE, zNat, RMsg1424, i64_room q1, i64_room q2]
        refine hK _ _ ?_
        clear hK K
        refine awp_ret ?_
        simp only [retQ, AEnds, aresL, ares, List.toList_toArray, ↓upd_same]; try simp only [↓DN, UP, DF, qSh, qCv, qIA, qIx, qSl, qBu, qCe, qOn, reduceCtorEq, ↓reduceIte, nLT, nLE, nEQ, nAdd, nMul, nPow, nSub, zLT, zLE, zNat, RMsg1424, DT]
        exact ⟨_, _, AV.weak.refl _, AS.le.refl _, by simp, rfl⟩

end Go.Proofs.Ytcnilmidfhpckaa


set_option autoImplicit false
namespace Go.Proofs.Ytcnilmidfhpckaa
open Go Go.AM Go.Proofs



/-! ### What octets a commit is read from, and back -/
def sealR (st : EyeSt) : SealV × EyeSt := (⟨(hRead 48 st).1.1, (hRead 48 st).1.2⟩, (hRead 48 st).2)
/-- So many things, one after another. -/
def rowR {α : Type} (f : EyeSt → α × EyeSt) : Nat → EyeSt → List α × EyeSt
  | 0, st => ([], st)
  | n + 1, st => ((rowR f n st).1 ++ [(f (rowR f n st).2).1], (f (rowR f n st).2).2)
def stepR (st : EyeSt) : StepV × EyeSt :=
  let a := eyeNum 8 st
  let n := eyeNum 1 a.2
  let q := rowR sealR n.1 n.2
  (⟨a.1, q.1⟩, q.2)
def pathRaw (st : EyeSt) : PathV × EyeSt :=
  let a := eyeNum 8 st
  let b := eyeText 1 32 a.2
  let n := eyeNum 1 b.2
  let q := rowR stepR n.1 n.2
  (⟨a.1, b.1, q.1⟩, q.2)
def noPath : PathV := ⟨0, [], []⟩
def pathR (st : EyeSt) : PathV × EyeSt := (if (pathRaw st).2.2 = 0 then (pathRaw st).1 else noPath, (pathRaw st).2)
def eFail (c : Int) (st : EyeSt) : EyeSt := (st.1, if st.2 = 0 then c else st.2)
def propR (st : EyeSt) : PropV × EyeSt :=
  let a := eyeNum 1 st
  if a.1 = 1 then
    let b := eyeText 1 16 a.2
    let k := eyeNum 8 b.2
    let i := eyeNum 8 k.2
    (⟨1, 0, b.1, k.1, i.1⟩, i.2)
  else if a.1 = 2 then
    let l := eyeNum 1 a.2
    let k := eyeNum 8 l.2
    (⟨2, l.1, [], k.1, 0⟩, k.2)
  else if a.1 = 3 then
    let l := eyeNum 1 a.2
    (⟨3, l.1, [], 0, 0⟩, l.2)
  else (⟨a.1, 0, [], 0, 0⟩, eFail 12 a.2)
def propsR : Nat → EyeSt → List PropV × EyeSt
  | 0, st => ([], st)
  | n + 1, st => (if (propR (propsR n st).2).2.2 = 0 then (propsR n st).1 ++ [(propR (propsR n st).2).1] else (propsR n st).1, (propR (propsR n st).2).2)
def capR (most : Nat) (st : EyeSt) : Nat × EyeSt := ((eyeNum 1 st).1, if most < (eyeNum 1 st).1 then eFail 12 (eyeNum 1 st).2 else (eyeNum 1 st).2)
def pathIf (k : Nat) (st : EyeSt) : PathV × EyeSt := if k = 1 then pathR st else (noPath, st)
def headR (b : List UInt8) : EyeSt := if (eyeNum 1 (b, 0)).1 = 1 then (eyeNum 1 (b, 0)).2 else eFail 12 (eyeNum 1 (b, 0)).2
def mRaw (b : List UInt8) : CommitV × EyeSt :=
  let g := eyeText 1 16 (headR b)
  let e := eyeNum 8 g.2
  let sd := eyeNum 1 e.2
  let n := capR 16 sd.2
  let ps := propsR n.1 n.2
  let h := capR 1 ps.2
  let pa := pathIf h.1 h.2
  let cf := eyeText 1 32 pa.2
  let mb := eyeText 1 32 cf.2
  (⟨g.1, iconv .i64 (e.1 : Int), sd.1, ps.1, decide (h.1 = 1), pa.1, cf.1, mb.1⟩, mb.2)
def noCommit : CommitV := ⟨[], 0, 0, [], false, noPath, [], []⟩
def mRead (b : List UInt8) : CommitV × Int :=
  if eyeEnd (mRaw b).2 = 0 then (if (mRaw b).1.right then ((mRaw b).1, 0) else (noCommit, 12)) else (noCommit, eyeEnd (mRaw b).2)

/-! lengths, what fits -/
theorem hRead_left (most : Int) (st : EyeSt) : (hRead most st).2.1.length ≤ st.1.length := by
  unfold hRead hRaw
  simp only
  refine Nat.le_trans (eyeText_len _ _ _).2 ?_
  rw [hFail_len]
  exact eyeNum_len _ _
theorem sealR_left (st : EyeSt) : (sealR st).2.1.length ≤ st.1.length := hRead_left _ _
theorem rowR_left {α : Type} {f : EyeSt → α × EyeSt} (h : ∀ st, (f st).2.1.length ≤ st.1.length) : ∀ (n : Nat) (st : EyeSt), (rowR f n st).2.1.length ≤ st.1.length
  | 0, _ => Nat.le_refl _
  | n + 1, st => Nat.le_trans (h _) (rowR_left h n st)
theorem rowR_len {α : Type} {f : EyeSt → α × EyeSt} : ∀ (n : Nat) (st : EyeSt), (rowR f n st).1.length = n
  | 0, _ => rfl
  | n + 1, st => by simp [rowR, rowR_len n st]
theorem rowR_all {α : Type} {f : EyeSt → α × EyeSt} {Q : α → Prop} (h : ∀ st, Q (f st).1) : ∀ (n : Nat) (st : EyeSt), ∀ x ∈ (rowR f n st).1, Q x
  | 0, _ => by intro x hx; cases hx
  | n + 1, st => by
    intro x hx
    simp only [rowR, List.mem_append, List.mem_singleton] at hx
    rcases hx with hx | rfl
    · exact rowR_all h n st x hx
    · exact h _
theorem stepR_left (st : EyeSt) : (stepR st).2.1.length ≤ st.1.length :=
  Nat.le_trans (rowR_left sealR_left _ _) (Nat.le_trans (eyeNum_len _ _) (eyeNum_len _ _))
theorem pathRaw_left (st : EyeSt) : (pathRaw st).2.1.length ≤ st.1.length :=
  Nat.le_trans (rowR_left stepR_left _ _) (Nat.le_trans (eyeNum_len _ _) (Nat.le_trans (eyeText_len _ _ _).2 (eyeNum_len _ _)))
theorem pathR_left (st : EyeSt) : (pathR st).2.1.length ≤ st.1.length := pathRaw_left st
theorem propR_left (st : EyeSt) : (propR st).2.1.length ≤ st.1.length := by
  unfold propR
  simp only
  have h := eyeNum_len 1 st
  split
  · exact Nat.le_trans (eyeNum_len _ _) (Nat.le_trans (eyeNum_len _ _) (Nat.le_trans (eyeText_len _ _ _).2 h))
  · split
    · exact Nat.le_trans (eyeNum_len _ _) (Nat.le_trans (eyeNum_len _ _) h)
    · split
      · exact Nat.le_trans (eyeNum_len _ _) h
      · exact h
theorem propsR_left : ∀ (n : Nat) (st : EyeSt), (propsR n st).2.1.length ≤ st.1.length
  | 0, _ => Nat.le_refl _
  | n + 1, st => Nat.le_trans (propR_left _) (propsR_left n st)
theorem propsR_len : ∀ (n : Nat) (st : EyeSt), (propsR n st).1.length ≤ n
  | 0, _ => Nat.le_refl _
  | n + 1, st => by
    have := propsR_len n st
    simp only [propsR]
    split
    · simp; omega
    · omega
theorem eyeNum8_lt (st : EyeSt) : (eyeNum 8 st).1 < 2 ^ 64 := Nat.lt_of_lt_of_le (eyeNum_lt 8 st) (by decide)
theorem hRead_lt (most : Int) (st : EyeSt) : (hRead most st).1.1 < 2 ^ 64 := by
  unfold hRead hRaw
  simp only
  split
  · exact eyeNum8_lt st
  · decide
theorem sealR_wf (st : EyeSt) : (sealR st).1.wf := hRead_lt _ _
theorem eyeNum1_lt (st : EyeSt) : (eyeNum 1 st).1 < 256 := Nat.lt_of_lt_of_le (eyeNum_lt 1 st) (by decide)
theorem stepR_wf (st : EyeSt) : (stepR st).1.wf ∧ (stepR st).1.seals.length < 256 := by
  have h : (stepR st).1.seals.length < 256 := by simp only [stepR, rowR_len]; exact eyeNum1_lt _
  refine ⟨⟨eyeNum8_lt _, fun x hx => rowR_all sealR_wf _ _ x hx, ?_⟩, h⟩
  have : (256 : Nat) ≤ maxLen := by decide
  omega
theorem noPath_wf : noPath.wf := ⟨by decide, (by intro x hx; cases hx), by decide⟩
theorem pathRaw_wf (st : EyeSt) : (pathRaw st).1.wf ∧ (pathRaw st).1.steps.length < 256 := by
  have h : (pathRaw st).1.steps.length < 256 := by simp only [pathRaw, rowR_len]; exact eyeNum1_lt _
  refine ⟨⟨eyeNum8_lt _, fun x hx => rowR_all (fun st => (stepR_wf st).1) _ _ x hx, ?_⟩, h⟩
  have : (256 : Nat) ≤ maxLen := by decide
  omega
theorem pathR_wf (st : EyeSt) : (pathR st).1.wf := by
  simp only [pathR]
  split
  · exact (pathRaw_wf st).1
  · exact noPath_wf
theorem propR_wf (st : EyeSt) : (propR st).1.wf := by
  simp only [propR]
  split
  · exact ⟨eyeNum8_lt _, eyeNum8_lt _⟩
  · split
    · exact ⟨eyeNum8_lt _, Nat.two_pow_pos 64⟩
    · split
      · exact ⟨Nat.two_pow_pos 64, Nat.two_pow_pos 64⟩
      · exact ⟨Nat.two_pow_pos 64, Nat.two_pow_pos 64⟩
theorem propsR_wf : ∀ (n : Nat) (st : EyeSt), ∀ x ∈ (propsR n st).1, x.wf
  | 0, _ => by intro x hx; cases hx
  | n + 1, st => by
    intro x hx
    simp only [propsR] at hx
    split at hx
    · rw [List.mem_append, List.mem_singleton] at hx
      rcases hx with hx | rfl
      · exact propsR_wf n st x hx
      · exact propR_wf _
    · exact propsR_wf n st x hx
theorem pathIf_wf (k : Nat) (st : EyeSt) : (pathIf k st).1.wf := by
  unfold pathIf; split
  · exact pathR_wf st
  · exact noPath_wf
theorem mRaw_wf (b : List UInt8) : (mRaw b).1.wf := by
  refine ⟨fun x hx => propsR_wf _ _ x hx, pathIf_wf _ _, ?_⟩
  have h := propsR_len (capR 16 (eyeNum 1 (eyeNum 8 (eyeText 1 16 (headR b)).2).2).2).1 (capR 16 (eyeNum 1 (eyeNum 8 (eyeText 1 16 (headR b)).2).2).2).2
  have h2 := eyeNum1_lt (eyeNum 1 (eyeNum 8 (eyeText 1 16 (headR b)).2).2).2
  have h3 : (256 : Nat) ≤ maxLen := by decide
  exact Nat.le_trans h (Nat.le_trans (Nat.le_of_lt h2) h3)

/-! an error stays -/
/-! with no error, what was read is what stood there -/
/-! what was written is read back -/
theorem sealR_text {x : SealV} (h : x.right) (rest : List UInt8) : sealR (x.wtext ++ rest, 0) = (x, rest, 0) := by
  obtain ⟨f, t⟩ := x
  obtain ⟨h1, h2⟩ := h
  simp only at h1 h2
  have e1 : eyeNum 8 (SealV.wtext ⟨f, t⟩ ++ rest, 0) = (f, txt 2 t ++ rest, 0) := by
    unfold SealV.wtext
    rw [List.append_assoc]
    exact eyeNum_be (by have := h1.2; simp only; omega)
  have e2 : eyeText 2 48 (txt 2 t ++ rest, 0) = (t, rest, 0) := eyeText_be (by omega) (by omega)
  unfold sealR hRead hRaw
  rw [e1]
  simp only [hFail, if_pos (show pubOk f from h1), e2, if_true]
theorem rowR_text {α : Type} {f : EyeSt → α × EyeSt} {t : α → List UInt8} {l : List α} (hf : ∀ x ∈ l, ∀ rest, f (t x ++ rest, 0) = (x, rest, 0)) (rest : List UInt8) :
    ∀ n, n ≤ l.length → rowR f n (flatT t l ++ rest, 0) = (l.take n, flatT t (l.drop n) ++ rest, 0)
  | 0, _ => by simp [rowR]
  | n + 1, h => by
    have ih := rowR_text hf rest n (by omega)
    have hn : n < l.length := by omega
    have e : flatT t (l.drop n) = t l[n] ++ flatT t (l.drop (n + 1)) := by
      rw [List.drop_eq_getElem_cons hn]
      simp only [flatT, List.map_cons, List.flatten_cons]
    have e2 : f (flatT t (l.drop n) ++ rest, 0) = (l[n], flatT t (l.drop (n + 1)) ++ rest, 0) := by
      rw [e, List.append_assoc]
      exact hf _ (List.getElem_mem hn) _
    simp only [rowR, ih, e2]
    rw [List.take_succ_eq_append_getElem hn]
theorem rowR_whole {α : Type} {f : EyeSt → α × EyeSt} {t : α → List UInt8} {l : List α} (hf : ∀ x ∈ l, ∀ rest, f (t x ++ rest, 0) = (x, rest, 0)) (rest : List UInt8) :
    rowR f l.length (flatT t l ++ rest, 0) = (l, rest, 0) := by
  rw [rowR_text hf rest l.length (Nat.le_refl _)]
  simp [flatT]
theorem stepR_text {x : StepV} (h : x.right) (rest : List UInt8) : stepR (x.text ++ rest, 0) = (x, rest, 0) := by
  obtain ⟨k, l⟩ := x
  obtain ⟨h1, h2, h3⟩ := h
  simp only at h1 h2 h3
  have e1 : eyeNum 8 (StepV.text ⟨k, l⟩ ++ rest, 0) = (k, be 1 l.length ++ (flatT SealV.wtext l ++ rest), 0) := by
    unfold StepV.text
    rw [List.append_assoc, List.append_assoc]
    exact eyeNum_be (by have := h2.2; simp only; omega)
  have e2 : eyeNum 1 (be 1 l.length ++ (flatT SealV.wtext l ++ rest), 0) = (l.length, flatT SealV.wtext l ++ rest, 0) := eyeNum_be (by omega)
  have e3 := rowR_whole (f := sealR) (fun x hx rest => sealR_text (h1 x hx) rest) rest
  unfold stepR
  rw [e1]
  simp only [e2, e3]
theorem pathR_text {x : PathV} (h : x.right) (rest : List UInt8) : pathR (x.text ++ rest, 0) = (x, rest, 0) := by
  obtain ⟨k, p, l⟩ := x
  obtain ⟨h1, h2, h3, h4⟩ := h
  simp only at h1 h2 h3 h4
  have e1 : eyeNum 8 (PathV.text ⟨k, p, l⟩ ++ rest, 0) = (k, txt 1 p ++ (be 1 l.length ++ (flatT StepV.text l ++ rest)), 0) := by
    unfold PathV.text
    rw [List.append_assoc, List.append_assoc, List.append_assoc]
    exact eyeNum_be (by have := h2.2; simp only; omega)
  have e2 : eyeText 1 32 (txt 1 p ++ (be 1 l.length ++ (flatT StepV.text l ++ rest)), 0) = (p, be 1 l.length ++ (flatT StepV.text l ++ rest), 0) := eyeText_be (by omega) (by omega)
  have e3 : eyeNum 1 (be 1 l.length ++ (flatT StepV.text l ++ rest), 0) = (l.length, flatT StepV.text l ++ rest, 0) := eyeNum_be (by omega)
  have e4 := rowR_whole (f := stepR) (fun x hx rest => stepR_text (h1 x hx) rest) rest
  unfold pathR pathRaw
  rw [e1]
  simp only [e2, e3, e4, if_true]
theorem propR_text {x : PropV} (h : x.right) (rest : List UInt8) : propR (x.text ++ rest, 0) = (x, rest, 0) := by
  obtain ⟨k, l, n, y, i⟩ := x
  have hk : 0 ≤ k ∧ k < 256 := by rcases h with h | h | h <;> (have := h.1; simp only at this; omega)
  have e1 : eyeNum 1 (PropV.text ⟨k, l, n, y, i⟩ ++ rest, 0) = (k.toNat, PropV.body ⟨k, l, n, y, i⟩ ++ rest, 0) := by
    unfold PropV.text
    rw [List.append_assoc]
    exact eyeNum_be (by simp only; omega)
  unfold propR
  rw [e1]
  simp only
  rcases h with ⟨k1, k2, k3, k4, k5, k6⟩ | ⟨k1, k2, k3, k4, k5, k6⟩ | ⟨k1, k2, k3, k4, k5, k6⟩
  · simp only at k1 k2 k3 k4 k5 k6
    subst k1 k2
    rw [if_pos (by decide)]
    have e2 : eyeText 1 16 (PropV.body ⟨1, 0, n, y, i⟩ ++ rest, 0) = (n, be 8 y ++ (be 8 i ++ rest), 0) := by
      have : PropV.body ⟨1, 0, n, y, i⟩ ++ rest = be 1 n.length ++ n ++ (be 8 y ++ (be 8 i ++ rest)) := by simp [PropV.body, txt]
      rw [this]
      exact eyeText_be (by omega) (by omega)
    have e3 : eyeNum 8 (be 8 y ++ (be 8 i ++ rest), 0) = (y, be 8 i ++ rest, 0) := eyeNum_be (by have := k5.2; omega)
    have e4 : eyeNum 8 (be 8 i ++ rest, 0) = (i, rest, 0) := eyeNum_be (by have := k6.2; omega)
    rw [e2]
    simp only [e3, e4]
  · simp only at k1 k2 k3 k4 k5 k6
    subst k1 k6
    obtain rfl := List.eq_nil_of_length_eq_zero k4
    rw [if_neg (by decide), if_pos (by decide)]
    have e2 : eyeNum 1 (PropV.body ⟨2, l, [], y, 0⟩ ++ rest, 0) = (l.toNat, be 8 y ++ rest, 0) := by
      have : PropV.body ⟨2, l, [], y, 0⟩ ++ rest = be 1 l.toNat ++ (be 8 y ++ rest) := by simp [PropV.body]
      rw [this]
      exact eyeNum_be (by omega)
    have e3 : eyeNum 8 (be 8 y ++ rest, 0) = (y, rest, 0) := eyeNum_be (by have := k5.2; omega)
    rw [e2]
    simp only [e3, Int.toNat_of_nonneg k2]
  · simp only at k1 k2 k3 k4 k5 k6
    subst k1 k5 k6
    obtain rfl := List.eq_nil_of_length_eq_zero k4
    rw [if_neg (by decide), if_neg (by decide), if_pos (by decide)]
    have e2 : eyeNum 1 (PropV.body ⟨3, l, [], 0, 0⟩ ++ rest, 0) = (l.toNat, rest, 0) := by
      have : PropV.body ⟨3, l, [], 0, 0⟩ ++ rest = be 1 l.toNat ++ rest := by simp [PropV.body]
      rw [this]
      exact eyeNum_be (by omega)
    rw [e2]
    simp only [Int.toNat_of_nonneg k2]
theorem propsR_text {l : List PropV} (hf : ∀ x ∈ l, x.right) (rest : List UInt8) :
    ∀ n, n ≤ l.length → propsR n (flatT PropV.text l ++ rest, 0) = (l.take n, flatT PropV.text (l.drop n) ++ rest, 0)
  | 0, _ => by simp [propsR]
  | n + 1, h => by
    have ih := propsR_text hf rest n (by omega)
    have hn : n < l.length := by omega
    have e : flatT PropV.text (l.drop n) = PropV.text l[n] ++ flatT PropV.text (l.drop (n + 1)) := by
      rw [List.drop_eq_getElem_cons hn]
      simp only [flatT, List.map_cons, List.flatten_cons]
    have e2 : propR (flatT PropV.text (l.drop n) ++ rest, 0) = (l[n], flatT PropV.text (l.drop (n + 1)) ++ rest, 0) := by
      rw [e, List.append_assoc]
      exact propR_text (hf _ (List.getElem_mem hn)) _
    simp only [propsR, ih, e2, if_true]
    rw [List.take_succ_eq_append_getElem hn]
theorem capR_text {most n : Nat} (h : n ≤ most) (h2 : n < 256) (rest : List UInt8) : capR most (be 1 n ++ rest, 0) = (n, rest, 0) := by
  unfold capR
  rw [eyeNum_be (by omega)]
  simp only
  rw [if_neg (by omega)]
theorem mRaw_text (c : CommitV) (h : c.right) : mRaw c.text = (c, [], 0) := by
  obtain ⟨g, e, sd, ps, hp, pa, cf, mb⟩ := c
  obtain ⟨r1, r2, r3, r4, r5, r6, r7, r8⟩ := h
  simp only at r1 r2 r3 r4 r5 r6 r7 r8
  have et : CommitV.text ⟨g, e, sd, ps, hp, pa, cf, mb⟩ = be 1 1 ++ (txt 1 g ++ (be 8 e.toNat ++ (be 1 sd.toNat ++ (be 1 ps.length ++ (flatT PropV.text ps ++ ((if hp then be 1 1 ++ pa.text else be 1 0) ++ (txt 1 cf ++ (txt 1 mb ++ [])))))))) := by
    unfold CommitV.text CommitV.content CommitV.tail
    simp only [List.append_assoc, List.append_nil]
  rw [et]
  have e0 : ∀ rest, headR (be 1 1 ++ rest) = (rest, 0) := by
    intro rest
    unfold headR
    rw [eyeNum_be (by decide)]
    rfl
  have e1 : ∀ rest, eyeText 1 16 (txt 1 g ++ rest, 0) = (g, rest, 0) := fun rest => eyeText_be (by omega) (by omega)
  have e2 : ∀ rest, eyeNum 8 (be 8 e.toNat ++ rest, 0) = (e.toNat, rest, 0) := fun rest => eyeNum_be (by omega)
  have e3 : ∀ rest, eyeNum 1 (be 1 sd.toNat ++ rest, 0) = (sd.toNat, rest, 0) := fun rest => eyeNum_be (by omega)
  have e4 : ∀ rest, capR 16 (be 1 ps.length ++ rest, 0) = (ps.length, rest, 0) := fun rest => capR_text r5 (by omega) rest
  have e5 : ∀ rest, propsR ps.length (flatT PropV.text ps ++ rest, 0) = (ps, rest, 0) := by
    intro rest
    rw [propsR_text r1 rest ps.length (Nat.le_refl _)]
    simp [flatT]
  have e6 : ∀ rest, capR 1 ((if hp then be 1 1 ++ pa.text else be 1 0) ++ rest, 0) = (if hp then 1 else 0, (if hp then pa.text else []) ++ rest, 0) := by
    intro rest
    cases hp
    · exact capR_text (by decide) (by decide) rest
    · simp only [if_true, List.append_assoc]
      exact capR_text (by decide) (by decide) _
  have e7 : ∀ rest, pathIf (if hp then 1 else 0) ((if hp then pa.text else []) ++ rest, 0) = (pa, rest, 0) := by
    intro rest
    cases hp
    · obtain ⟨k1, k2, k3⟩ := r6.2 rfl
      obtain ⟨a1, a2, a3⟩ := pa
      simp only at k1 k2 k3
      rw [k1, List.eq_nil_of_length_eq_zero k2, List.eq_nil_of_length_eq_zero k3]
      rfl
    · exact pathR_text (r6.1 rfl) rest
  have e8 : ∀ rest, eyeText 1 32 (txt 1 cf ++ rest, 0) = (cf, rest, 0) := fun rest => eyeText_be (by omega) (by omega)
  have e9 : ∀ rest, eyeText 1 32 (txt 1 mb ++ rest, 0) = (mb, rest, 0) := fun rest => eyeText_be (by omega) (by omega)
  unfold mRaw
  simp only [e0, e1, e2, e3, e4, e5, e6, e7, e8, e9]
  rw [i64_back e r3.1 (by omega), Int.toNat_of_nonneg r4.1]
  cases hp <;> rfl
theorem mRead_text (c : CommitV) (h : c.right) : mRead c.text = (c, 0) := by
  unfold mRead
  rw [mRaw_text c h]
  rw [if_pos (show eyeEnd (([] : List UInt8), (0 : Int)) = 0 from by decide)]
  exact if_pos h

end Go.Proofs.Ytcnilmidfhpckaa


set_option autoImplicit false
namespace Go.AM
open Go

theorem some_neO {s : AS} {p o : Nat} {cs : List AV} (h : s.objs p = some cs) (k : s.objs o = none) : p ≠ o := by
  rintro rfl
  rw [h] at k
  cases k
theorem own_ne {s : AS} {t t' e : Nat} (h : s.own t = some e) (k : s.own t' = none) : t ≠ t' := by
  rintro rfl
  rw [h] at k
  cases k
/-- What an eye's reader knows of one more object. -/
structure Rd4 (s s1 : AS) (p o2 o3 o4 : Nat) (ce z cs ds : List AV) : Prop where
  rd : RdS s s1 p o2 o3 ce z cs
  obj : s1.objs o4 = some ds
  n4 : s.objs o4 = none
  p4 : p ≠ o4
  d2 : o2 ≠ o4
  d3 : o3 ≠ o4
theorem Rd4.setEye {s s1 : AS} {p o2 o3 o4 : Nat} {ce z cs ds : List AV} (h : Rd4 s s1 p o2 o3 o4 ce z cs ds) (ce' : List AV) : Rd4 s (s1.set p ce') p o2 o3 o4 ce' z cs ds :=
  ⟨h.rd.setEye ce', by rw [AS.set_objs_ne _ h.p4.symm]; exact h.obj, h.n4, h.p4, h.d2, h.d3⟩
theorem RdS.setNew {s s1 : AS} {p o2 o3 o4 : Nat} {ce z cs : List AV} (h : RdS s s1 p o2 o3 ce z cs) (h4 : s1.objs o4 = none) (ds : List AV) : Rd4 s (s1.set o4 ds) p o2 o3 o4 ce z cs ds := by
  have hp : p ≠ o4 := by rintro rfl; rw [h.eye] at h4; cases h4
  have h2 : o2 ≠ o4 := by rintro rfl; rw [h.res] at h4; cases h4
  have h3 : o3 ≠ o4 := by rintro rfl; rw [h.var] at h4; cases h4
  have hn : (s.drop p).objs o4 = none := by
    cases e : (s.drop p).objs o4 with
    | none => rfl
    | some x => have := h.le.objs _ _ e; rw [h4] at this; cases this
  have hn' : s.objs o4 = none := by simpa [AS.drop, upd, hp.symm] using hn
  refine ⟨⟨AS.le_set h.le hn _, ?_, ?_, ?_, h.n2, h.n3, h.p2, h.p3, h.d⟩, AS.set_objs_same _ _ _, hn', hp, h2, h3⟩
  · rw [AS.set_objs_ne _ hp]; exact h.eye
  · rw [AS.set_objs_ne _ h2]; exact h.res
  · rw [AS.set_objs_ne _ h3]; exact h.var
theorem Rd4.setObj {s s1 : AS} {p o2 o3 o4 : Nat} {ce z cs ds : List AV} (h : Rd4 s s1 p o2 o3 o4 ce z cs ds) (ds' : List AV) : Rd4 s (s1.set o4 ds') p o2 o3 o4 ce z cs ds' := by
  refine ⟨⟨AS.le_set h.rd.le (AS.drop_objs_none h.n4) _, ?_, ?_, ?_, h.rd.n2, h.rd.n3, h.rd.p2, h.rd.p3, h.rd.d⟩, AS.set_objs_same _ _ _, h.n4, h.p4, h.d2, h.d3⟩
  · rw [AS.set_objs_ne _ h.p4]; exact h.rd.eye
  · rw [AS.set_objs_ne _ h.d2]; exact h.rd.res
  · rw [AS.set_objs_ne _ h.d3]; exact h.rd.var
theorem Rd4.gain {s s1 : AS} {p o2 o3 o4 : Nat} {ce z cs ds : List AV} (h : Rd4 s s1 p o2 o3 o4 ce z cs ds) {t : Nat} (ht : s.own t = none) (e : Nat) : Rd4 s (s1.gain t e) p o2 o3 o4 ce z cs ds :=
  ⟨h.rd.gain ht e, h.obj, h.n4, h.p4, h.d2, h.d3⟩

theorem RdS.fresh {s s1 : AS} {p o2 o3 o5 : Nat} {ce z cs : List AV} (h : RdS s s1 p o2 o3 ce z cs) (h5 : s1.objs o5 = none) (ds : List AV) : RdS s (s1.set o5 ds) p o2 o3 ce z cs := (h.setNew h5 ds).rd
theorem Rd4.fresh {s s1 : AS} {p o2 o3 o4 o5 : Nat} {ce z cs ds : List AV} (h : Rd4 s s1 p o2 o3 o4 ce z cs ds) (h5 : s1.objs o5 = none) (es : List AV) : Rd4 s (s1.set o5 es) p o2 o3 o4 ce z cs ds :=
  ⟨h.rd.fresh h5 es, by rw [AS.set_objs_ne _ (some_neO h.obj h5)]; exact h.obj, h.n4, h.p4, h.d2, h.d3⟩
end Go.AM


set_option autoImplicit false
namespace Go.Proofs.Ytcnilmidfhpckaa
open Go Go.AM Go.Proofs

theorem RMsg1563 : type_of% (And.intro (And.intro (And.intro (And.intro (And.intro (And.intro (And.intro @Try.underlying3 T.c3) (And.intro T.g3 T.b3)) (And.intro (And.intro T.z3 @Try.underlying5) (And.intro T.c5 (And.intro T.g5 T.b5)))) (And.intro (And.intro (And.intro T.z5 @Try.underlying28) (And.intro T.c28 (And.intro T.g28 T.b28))) (And.intro (And.intro T.z28 T.s28) (And.intro @Try.underlying32 (And.intro T.c32 T.g32))))) (And.intro (And.intro (And.intro (And.intro T.b32 T.z32) (And.intro @Try.underlying42 (And.intro T.c42 T.g42))) (And.intro (And.intro T.b42 T.z42) (And.intro @Try.underlying43 (And.intro T.c43 T.g43)))) (And.intro (And.intro (And.intro T.b43 T.z43) (And.intro T.s43 (And.intro @Try.underlying45 T.c45))) (And.intro (And.intro T.g45 T.b45) (And.intro T.z45 (And.intro T.h45 @Try.underlying81)))))) (And.intro (And.intro (And.intro (And.intro (And.intro T.c81 T.g81) (And.intro T.b81 T.z81)) (And.intro (And.intro T.s81 @Try.underlying83) (And.intro T.c83 (And.intro T.g83 T.b83)))) (And.intro (And.intro (And.intro T.z83 T.h83) (And.intro @Try.underlying85 (And.intro T.c85 T.g85))) (And.intro (And.intro T.b85 T.z85) (And.intro T.h85 (And.intro @Try.underlying98 T.c98))))) (And.intro (And.intro (And.intro (And.intro T.g98 T.b98) (And.intro T.z98 (And.intro T.p98 @Try.underlying145))) (And.intro (And.intro T.c145 T.g145) (And.intro T.b145 (And.intro T.z145 T.h145)))) (And.intro (And.intro (And.intro T.f45_0 T.f45_1) (And.intro T.f45_2 (And.intro T.f83_0 T.f83_1))) (And.intro (And.intro T.k58 T.k62) (And.intro T.k103 (And.intro T.k59 T.k56))))))) Try.ntmps63) :=
  (And.intro (And.intro (And.intro (And.intro (And.intro (And.intro (And.intro @Try.underlying3 T.c3) (And.intro T.g3 T.b3)) (And.intro (And.intro T.z3 @Try.underlying5) (And.intro T.c5 (And.intro T.g5 T.b5)))) (And.intro (And.intro (And.intro T.z5 @Try.underlying28) (And.intro T.c28 (And.intro T.g28 T.b28))) (And.intro (And.intro T.z28 T.s28) (And.intro @Try.underlying32 (And.intro T.c32 T.g32))))) (And.intro (And.intro (And.intro (And.intro T.b32 T.z32) (And.intro @Try.underlying42 (And.intro T.c42 T.g42))) (And.intro (And.intro T.b42 T.z42) (And.intro @Try.underlying43 (And.intro T.c43 T.g43)))) (And.intro (And.intro (And.intro T.b43 T.z43) (And.intro T.s43 (And.intro @Try.underlying45 T.c45))) (And.intro (And.intro T.g45 T.b45) (And.intro T.z45 (And.intro T.h45 @Try.underlying81)))))) (And.intro (And.intro (And.intro (And.intro (And.intro T.c81 T.g81) (And.intro T.b81 T.z81)) (And.intro (And.intro T.s81 @Try.underlying83) (And.intro T.c83 (And.intro T.g83 T.b83)))) (And.intro (And.intro (And.intro T.z83 T.h83) (And.intro @Try.underlying85 (And.intro T.c85 T.g85))) (And.intro (And.intro T.b85 T.z85) (And.intro T.h85 (And.intro @Try.underlying98 T.c98))))) (And.intro (And.intro (And.intro (And.intro T.g98 T.b98) (And.intro T.z98 (And.intro T.p98 @Try.underlying145))) (And.intro (And.intro T.c145 T.g145) (And.intro T.b145 (And.intro T.z145 T.h145)))) (And.intro (And.intro (And.intro T.f45_0 T.f45_1) (And.intro T.f45_2 (And.intro T.f83_0 T.f83_1))) (And.intro (And.intro T.k58 T.k62) (And.intro T.k103 (And.intro T.k59 T.k56))))))) Try.ntmps63)

variable {Γ : Nat → List AV}

theorem zrow_two (a b : AV) : zrow 2 [a, b] = [a, b] := rfl
theorem path_weak {k : Nat} {pa : List UInt8} {l : List StepV} {x : AV} (h : x.weak (.sl 2 l.length (rowC StepV.cells l) .any)) :
    (AV.agg [.v (.int .u64 k), .sl 1 pa.length (pa.map byteV) .any, x]).weak (.agg (PathV.cells ⟨k, pa, l⟩)) :=
  AV.weak_agg (.cons (AV.weak.refl _) (.cons (AV.weak.refl _) (.cons h .nil)))
theorem noPath_weak : (AV.agg [.v (.int .u64 0), .v (.slice none 0 0), .v (.slice none 0 0)]).weak (.agg noPath.cells) :=
  AV.weak_agg (.cons (AV.weak.refl _) (.cons AV.weak_nil (.cons AV.weak_nil .nil)))

set_option maxRecDepth 100000 in
set_option maxHeartbeats 8000000 in
theorem pathRead_calls (s : AS) (p : Nat) (st : EyeSt) (hl : st.1.length ≤ 2 ^ 44) (h : s.objs p = some (eyeC st)) :
    ACalls Try.prog Γ 63 [.ptr p 0] s (fun r s' => r = .agg (pathR st).1.cells ∧ s' = s.set p (eyeC (pathR st).2)) := by
  refine acalls_body Try.func63 rfl Try.ntmps63 Try.results63 (by simp) ?_
  obtain ⟨q1, e1⟩ : ∃ q, q = eyeNum 8 st := ⟨_, rfl⟩
  obtain ⟨q2, e2⟩ : ∃ q, q = eyeText 1 32 q1.2 := ⟨_, rfl⟩
  obtain ⟨q3, e3⟩ : ∃ q, q = eyeNum 1 q2.2 := ⟨_, rfl⟩
  obtain ⟨q4, e4⟩ : ∃ q, q = rowR stepR q3.1 q3.2 := ⟨_, rfl⟩
  have l1 : q1.2.1.length ≤ 2 ^ 44 := by rw [e1]; exact Nat.le_trans (eyeNum_len _ _) hl
  have l2 : q2.2.1.length ≤ 2 ^ 44 := by rw [e2]; exact Nat.le_trans (eyeText_len _ _ _).2 l1
  have l3 : q3.2.1.length ≤ 2 ^ 44 := by rw [e3]; exact Nat.le_trans (eyeNum_len _ _) l2
  have k3 : q3.1 < 256 := by rw [e3]; exact eyeNum1_lt _
  have hrr : pathR st = (if q4.2.2 = 0 then ⟨q1.1, q2.1, q4.1⟩ else noPath, q4.2) := by subst e4 e3 e2 e1; rfl
  have q4l : q4.1.length = q3.1 := by rw [e4, rowR_len]
  refine awp_reg_seq ?_
  intro K hK
  simp only [↓DN, UP, DF, qSh, qCv, qIA, qIx, qSl, qBu, qCe, qOn, reduceCtorEq, ↓reduceIte, nLT, nLE, nEQ, nAdd, nMul, nPow, nSub, zLT, zLE, zNat, RMsg1563]
  intro o2 ho2
  have hp2 := some_neH h ho2
  refine hK _ _ ?_
  clear hK K
  obtain ⟨z, hz⟩ : ∃ z : List AV, z = [.v (.int .u64 0), .v (.slice none 0 0), .v (.slice none 0 0)] := ⟨_, rfl⟩
  refine awp_seq_k ?_
  intro K1 hK1
  have h1 : ∀ (E : Env) (s1 : AS) (o3 : Nat), E 0 = .ptr p 0 → E 2 = .ptr o2 0 → E 3 = .ptr o3 0 → RdS s s1 p o2 o3 (eyeC q2.2) z [.v (.int .u64 q1.1), bytesV q2.1 .any, .v (.slice none 0 0)] → K1 E s1 := by
    intro E s1 o3 g0 g2 g3 J
    refine hK1 _ _ ?_
    clear hK1 K1
    refine awp_seq_k ?_
    intro K2 hK2
    have h2 : ∀ (E : Env) (s1 : AS) (x : AV), E 0 = .ptr p 0 → E 2 = .ptr o2 0 → E 3 = .ptr o3 0 → RBuf 2 s s1 x q4.1.length (rowC StepV.cells q4.1) → RdS s s1 p o2 o3 (eyeC q4.2) z [.v (.int .u64 q1.1), bytesV q2.1 .any, x] → K2 E s1 := by
      clear J g0 g2 g3 E s1
      intro E s1 x g0 g2 g3 hx J
      refine hK2 _ _ ?_
      clear hK2 K2
      have jr := J.res
      have jv := J.var
      have jd := J.d
      have jd2 := J.d.symm
      have ox := hx.one
      have wx := hx.weak
      simp only [AV.one] at ox
      rw [hz] at jr
      refine awp_seq_k ?_
      intro K6 hK6
      refine awp_reg_seq ?_
      intro K hK
      simp only [↓DN, UP, DF, qSh, qCv, qIA, qIx, qSl, qBu, qCe, qOn, reduceCtorEq, ↓reduceIte, nLT, nLE, nEQ, nAdd, nMul, nPow, nSub, zLT, zLE, zNat, RMsg1563, g0]
      refine acallk (eyeErr_at _ p _ J.eye) ?_
      rintro r s2 ⟨rfl, rfl⟩
      by_cases he : q4.2.2 = 0
      · rw [he]
        simp only [↓AXq_nil, ↓AXq_cons, pval, DX, Nat.reduceBEq, ↓DN, UP, DF, qSh, qCv, qIA, qIx, qSl, qBu, qCe, qOn, reduceCtorEq, ↓reduceIte, nLT, nLE, nEQ, nAdd, nMul, nPow, nSub, zLT, zLE, zNat, RMsg1563, i64_ne_false 0 rfl]
        refine hK _ _ ?_
        clear hK K
        refine awp_cond_k ?_
        intro X Y hX hY
        simp only [↓DN, UP, DF, qSh, qCv, qIA, qIx, qSl, qBu, qCe, qOn, reduceCtorEq, ↓reduceIte, nLT, nLE, nEQ, nAdd, nMul, nPow, nSub, zLT, zLE, zNat, RMsg1563, DB]
        refine hY ?_
        clear hX hY X Y
        refine awp_skip ?_
        refine hK6 _ _ ?_
        clear hK6 K6
        refine awp_reg_seq ?_
        intro K hK
        simp only [↓DN, UP, DF, qSh, qCv, qIA, qIx, qSl, qBu, qCe, qOn, reduceCtorEq, ↓reduceIte, nLT, nLE, nEQ, nAdd, nMul, nPow, nSub, zLT, zLE, zNat, RMsg1563, g3, g2, jv, jr, jd, jd2, ox]
        refine hK _ _ ?_
        clear hK K
        refine awp_ret ?_
        refine aends_cell (o := o2) (off := 0) (by simp only [upd, g2, nEQ, ↓reduceIte]) (AS.set_objs_same _ _ _) (by rw [T.c45]; decide) (by simp only [↓DN, UP, DF, qSh, qCv, qIA, qIx, qSl, qBu, qCe, qOn, reduceCtorEq, ↓reduceIte, nLT, nLE, nEQ, nAdd, nMul, nPow, nSub, zLT, zLE, zNat, RMsg1563]; rfl) ?_
        rw [hrr, if_pos he]
        exact ⟨_, _, path_weak wx, (J.setRes _).out, rfl, rfl⟩
      · simp only [↓AXq_nil, ↓AXq_cons, pval, DX, Nat.reduceBEq, ↓DN, UP, DF, qSh, qCv, qIA, qIx, qSl, qBu, qCe, qOn, reduceCtorEq, ↓reduceIte, nLT, nLE, nEQ, nAdd, nMul, nPow, nSub, zLT, zLE, zNat, RMsg1563, i64_ne_true _ he]
        refine hK _ _ ?_
        clear hK K
        refine awp_cond_k ?_
        intro X Y hX hY
        simp only [↓DN, UP, DF, qSh, qCv, qIA, qIx, qSl, qBu, qCe, qOn, reduceCtorEq, ↓reduceIte, nLT, nLE, nEQ, nAdd, nMul, nPow, nSub, zLT, zLE, zNat, RMsg1563, DB]
        refine hX ?_
        clear hX hY X Y
        refine awp_reg_seq ?_
        intro K hK
        simp only [↓DN, UP, DF, qSh, qCv, qIA, qIx, qSl, qBu, qCe, qOn, reduceCtorEq, ↓reduceIte, nLT, nLE, nEQ, nAdd, nMul, nPow, nSub, zLT, zLE, zNat, RMsg1563, g3, g2, jv, jr, jd, jd2]
        refine hK _ _ ?_
        clear hK K
        refine awp_ret ?_
        try simp only [thenQ, blockQ]
        refine aends_cell (o := o2) (off := 0) (by simp only [upd, g2, nEQ, ↓reduceIte]) (AS.set_objs_same _ _ _) (by rw [T.c45]; decide) (by simp only [↓DN, UP, DF, qSh, qCv, qIA, qIx, qSl, qBu, qCe, qOn, reduceCtorEq, ↓reduceIte, nLT, nLE, nEQ, nAdd, nMul, nPow, nSub, zLT, zLE, zNat, RMsg1563]; rfl) ?_
        rw [hrr, if_neg he]
        exact ⟨_, _, noPath_weak, (J.setRes _).out, rfl, rfl⟩
    clear hK2
    refine awp_reg_seq ?_
    intro K hK
    simp only [↓DN, UP, DF, qSh, qCv, qIA, qIx, qSl, qBu, qCe, qOn, reduceCtorEq, ↓reduceIte, nLT, nLE, nEQ, nAdd, nMul, nPow, nSub, zLT, zLE, zNat, RMsg1563, g0]
    refine acallk (eyeU8_set _ p _ J.eye) ?_
    rintro r s2 ⟨rfl, rfl⟩
    rw [← e3]
    have J2 := J.setEye (eyeC q3.2)
    clear J
    generalize s1.set p (eyeC q3.2) = s2 at *
    simp only [↓AXq_nil, ↓AXq_cons, pval, DX, Nat.reduceBEq, ↓DN, UP, DF, qSh, qCv, qIA, qIx, qSl, qBu, qCe, qOn, reduceCtorEq, ↓reduceIte, nLT, nLE, nEQ, nAdd, nMul, nPow, nSub, zLT, zLE, zNat, RMsg1563]
    refine hK _ _ ?_
    clear hK K
    refine awp_block ?_
    refine awp_loop (fun E s2 => ∃ (i : Nat) (x : AV), i ≤ q3.1 ∧ E 12 = .v (.int .i64 i) ∧ E 11 = .v (.int .i64 q3.1) ∧ E 0 = .ptr p 0 ∧ E 2 = .ptr o2 0 ∧ E 3 = .ptr o3 0 ∧ RBuf 2 s s2 x i (rowC StepV.cells (rowR stepR i q3.2).1) ∧
        RdS s s2 p o2 o3 (eyeC (rowR stepR i q3.2).2) z [.v (.int .u64 q1.1), bytesV q2.1 .any, x])
      (fun E _ => match E 12 with | .v (.int _ i) => q3.1 - i.toNat | _ => 0) ?_ ?_
    · exact ⟨0, _, Nat.zero_le _, by simp only [upd, ↓reduceIte]; rfl, by simp only [upd, nEQ, ↓reduceIte], by simp only [upd, g0, nEQ, ↓reduceIte], by simp only [upd, g2, nEQ, ↓reduceIte], by simp only [upd, g3, nEQ, ↓reduceIte], RBuf.nil _ _ _, J2⟩
    · clear J2 g0 g2 g3 s2
      rintro E1 s4 ⟨i, x, hi, g12, g11, g0, g2, g3, hx, J⟩ -
      by_cases hi' : i < q3.1
      · refine awp_reg_seq ?_
        intro K hK
        simp only [↓DN, UP, DF, qSh, qCv, qIA, qIx, qSl, qBu, qCe, qOn, reduceCtorEq, ↓reduceIte, nLT, nLE, nEQ, nAdd, nMul, nPow, nSub, zLT, zLE, zNat, RMsg1563, g12, g11, eye_lt_nat, decide_eq_true hi']
        refine hK _ _ ?_
        clear hK K
        refine awp_seq_k ?_
        intro K7 hK7
        refine awp_cond_k ?_
        intro X Y hX hY
        simp only [↓DN, UP, DF, qSh, qCv, qIA, qIx, qSl, qBu, qCe, qOn, reduceCtorEq, ↓reduceIte, nLT, nLE, nEQ, nAdd, nMul, nPow, nSub, zLT, zLE, zNat, RMsg1563, DB]
        refine hX ?_
        clear hX hY X Y
        refine awp_skip ?_
        refine hK7 _ _ ?_
        clear hK7 K7
        refine awp_seq_k ?_
        intro K7 hK7
        refine awp_block ?_
        have hnext : ∀ (E2 : Env) (s5 : AS) (x1 x2 : AV), x1.weak x2 → E2 12 = .v (.int .i64 i) → E2 11 = .v (.int .i64 q3.1) → E2 0 = .ptr p 0 → E2 2 = .ptr o2 0 → E2 3 = .ptr o3 0 → RBuf 2 s s5 x2 (i + 1) (rowC StepV.cells (rowR stepR (i + 1) q3.2).1) →
            RdS s s5 p o2 o3 (eyeC (rowR stepR (i + 1) q3.2).2) z [.v (.int .u64 q1.1), bytesV q2.1 .any, x1] → K7 E2 s5 := by
          intro E2 s5 x1 x2 hw f12 f11 f0 f2 f3 fx fJ
          refine hK7 _ _ ?_
          clear hK7 K7
          refine awp_tells (AS.tells_obj fJ.var (.cons (AV.weak.refl _) (.cons (AV.weak.refl _) (.cons hw .nil)))) ?_
          replace fJ := fJ.setVar [.v (.int .u64 q1.1), bytesV q2.1 .any, x2]
          replace fx : RBuf 2 s (s5.set o3 [.v (.int .u64 q1.1), bytesV q2.1 .any, x2]) x2 (i + 1) (rowC StepV.cells (rowR stepR (i + 1) q3.2).1) := fx
          generalize s5.set o3 [.v (.int .u64 q1.1), bytesV q2.1 .any, x2] = s6 at *
          refine awp_reg_end ?_
          intro K hK
          simp only [↓DN, UP, DF, qSh, qCv, qIA, qIx, qSl, qBu, qCe, qOn, reduceCtorEq, ↓reduceIte, nLT, nLE, nEQ, nAdd, nMul, nPow, nSub, zLT, zLE, zNat, RMsg1563, f12, eye_succ i (by omega)]
          refine hK _ _ ?_
          clear hK K
          refine ⟨⟨i + 1, x2, by omega, by simp only [upd, ↓reduceIte], by simp only [upd, f11, nEQ, ↓reduceIte], by simp only [upd, f0, nEQ, ↓reduceIte], by simp only [upd, f2, nEQ, ↓reduceIte], by simp only [upd, f3, nEQ, ↓reduceIte], fx, fJ⟩, ?_⟩
          simp only [g12, upd, ↓reduceIte]
          omega
        clear hK7
        have hSt : ∀ n, (rowR stepR n q3.2).2.1.length ≤ 2 ^ 44 := fun n => Nat.le_trans (rowR_left stepR_left _ _) l3
        obtain ⟨sti, hsti⟩ : ∃ q, q = (rowR stepR i q3.2).2 := ⟨_, rfl⟩
        have li : sti.1.length ≤ 2 ^ 44 := by rw [hsti]; exact hSt i
        have hrow1 : (rowR stepR (i + 1) q3.2) = ((rowR stepR i q3.2).1 ++ [(stepR sti).1], (stepR sti).2) := by rw [hsti]; rfl
        rw [hrow1] at hnext
        rw [← hsti] at J
        obtain ⟨L, hL⟩ : ∃ q, q = (rowR stepR i q3.2).1 := ⟨_, rfl⟩
        have hLl : L.length = i := by rw [hL, rowR_len]
        rw [← hL] at hx hnext
        clear hrow1 hSt hL hsti
        obtain ⟨qa, ea⟩ : ∃ q, q = eyeNum 8 sti := ⟨_, rfl⟩
        obtain ⟨qb, eb⟩ : ∃ q, q = eyeNum 1 qa.2 := ⟨_, rfl⟩
        obtain ⟨qc, ec⟩ : ∃ q, q = rowR sealR qb.1 qb.2 := ⟨_, rfl⟩
        have la : qa.2.1.length ≤ 2 ^ 44 := by rw [ea]; exact Nat.le_trans (eyeNum_len _ _) li
        have lb : qb.2.1.length ≤ 2 ^ 44 := by rw [eb]; exact Nat.le_trans (eyeNum_len _ _) la
        have kb : qb.1 < 256 := by rw [eb]; exact eyeNum1_lt _
        have hcl : qc.1.length = qb.1 := by rw [ec, rowR_len]
        have hst : stepR sti = (⟨qa.1, qc.1⟩, qc.2) := by subst ec eb ea; rfl
        rw [hst] at hnext
        simp only at hnext
        clear hst
        refine awp_reg_seq ?_
        intro K hK
        simp only [↓DN, UP, DF, qSh, qCv, qIA, qIx, qSl, qBu, qCe, qOn, reduceCtorEq, ↓reduceIte, nLT, nLE, nEQ, nAdd, nMul, nPow, nSub, zLT, zLE, zNat, RMsg1563, g0]
        refine acallk (eyeU64_set _ p _ J.eye) ?_
        rintro r s5 ⟨rfl, rfl⟩
        rw [← ea]
        have J5 := J.setEye (eyeC qa.2)
        have hx5 : RBuf 2 s (s4.set p (eyeC qa.2)) x i (rowC StepV.cells L) := hx
        generalize s4.set p (eyeC qa.2) = s5 at *
        simp only [↓AXq_nil, ↓AXq_cons, pval, DX, Nat.reduceBEq, ↓DN, UP, DF, qSh, qCv, qIA, qIx, qSl, qBu, qCe, qOn, reduceCtorEq, ↓reduceIte, nLT, nLE, nEQ, nAdd, nMul, nPow, nSub, zLT, zLE, zNat, RMsg1563]
        intro o4 ho4
        have J6 := J5.setNew ho4 [.v (.int .u64 qa.1), .v (.slice none 0 0)]
        have hx6 : RBuf 2 s (s5.set o4 [.v (.int .u64 qa.1), .v (.slice none 0 0)]) x i (rowC StepV.cells L) := hx5
        have hJ6 : ∀ t, (s5.set o4 [.v (.int .u64 qa.1), .v (.slice none 0 0)]).own t = none → s.own t = none := fun t h => J6.rd.own_none h
        clear J5 hx5 hx J
        refine hK _ _ ?_
        clear hK K
        generalize s5.set o4 [.v (.int .u64 qa.1), .v (.slice none 0 0)] = s6 at *
        refine awp_seq_k ?_
        intro K8 hK8
        have h8 : ∀ (E : Env) (s7 : AS) (y : AV), E 12 = .v (.int .i64 i) → E 11 = .v (.int .i64 q3.1) → E 0 = .ptr p 0 → E 2 = .ptr o2 0 → E 3 = .ptr o3 0 → E 4 = .ptr o4 0 → RBuf 2 s s7 x i (rowC StepV.cells L) → RBuf 2 s6 s7 y qc.1.length (rowC SealV.cells qc.1) →
            Rd4 s s7 p o2 o3 o4 (eyeC qc.2) z [.v (.int .u64 q1.1), bytesV q2.1 .any, x] [.v (.int .u64 qa.1), y] → K8 E s7 := by
          clear J6 hx6 g12 g11 g0 g2 g3
          intro E s7 y g12 g11 g0 g2 g3 g4 hx hy J
          refine hK8 _ _ ?_
          clear hK8 K8
          have jv := J.rd.var
          have jo := J.obj
          have jd3 := J.d3
          have jd3' := J.d3.symm
          have oy := hy.one
          have wy := hy.weak
          simp only [AV.one] at oy
          have hwS : AVs.weak [.v (.int .u64 qa.1), y] (StepV.cells ⟨qa.1, qc.1⟩) := .cons (AV.weak.refl _) (.cons wy .nil)
          have hsn : rowC StepV.cells (L ++ [⟨qa.1, qc.1⟩]) = rowC StepV.cells L ++ StepV.cells ⟨qa.1, qc.1⟩ := row_snoc _ _
          rcases hx with ⟨rfl, hi0, hL0⟩ | ⟨t, e, rfl, ht, ht0⟩
          · refine awp_reg_end ?_
            intro K hK
            simp only [↓DN, UP, DF, qSh, qCv, qIA, qIx, qSl, qBu, qCe, qOn, reduceCtorEq, ↓reduceIte, nLT, nLE, nEQ, nAdd, nMul, nPow, nSub, zLT, zLE, zNat, RMsg1563, g3, g4, jv, jo, jd3, jd3', oy, nilS, zrow_two]
            intro t ht
            refine hK _ _ ?_
            clear hK K
            have ht0 := J.rd.own_none ht
            have hcl' : (rowC StepV.cells (L ++ [⟨qa.1, qc.1⟩])) = StepV.cells ⟨qa.1, qc.1⟩ := by rw [hsn, hL0]; rfl
            refine hnext _ _ _ (.sl 2 (i + 1) (rowC StepV.cells (L ++ [⟨qa.1, qc.1⟩])) (.own t 0)) ?_ (by simp only [upd, g12, nEQ, ↓reduceIte]) (by simp only [upd, g11, nEQ, ↓reduceIte]) (by simp only [upd, g0, nEQ, ↓reduceIte]) (by simp only [upd, g2, nEQ, ↓reduceIte]) (by simp only [upd, g3, nEQ, ↓reduceIte]) ?_ ((J.rd.gain ht0 0).setVar _)
            · rw [hcl', hi0]
              exact AV.weak_slc hwS
            · exact .inr ⟨t, 0, rfl, by simp [AS.set, AS.gain], ht0⟩
          · refine awp_reg_end ?_
            intro K hK
            simp only [↓DN, UP, DF, qSh, qCv, qIA, qIx, qSl, qBu, qCe, qOn, reduceCtorEq, ↓reduceIte, nLT, nLE, nEQ, nAdd, nMul, nPow, nSub, zLT, zLE, zNat, RMsg1563, g3, g4, jv, jo, jd3, jd3', oy, ht, zrow_two]
            refine ⟨by omega, by omega, ?_⟩
            refine hK _ _ ?_
            clear hK K
            refine hnext _ _ _ (.sl 2 (i + 1) (rowC StepV.cells (L ++ [⟨qa.1, qc.1⟩])) (.own t (e + 1))) ?_ (by simp only [upd, g12, nEQ, ↓reduceIte]) (by simp only [upd, g11, nEQ, ↓reduceIte]) (by simp only [upd, g0, nEQ, ↓reduceIte]) (by simp only [upd, g2, nEQ, ↓reduceIte]) (by simp only [upd, g3, nEQ, ↓reduceIte]) ?_ ((J.rd.gain ht0 (e + 1)).setVar _)
            · rw [hsn]
              exact AV.weak_slc (AVs.weak.append (AVs.weak.refl _) hwS)
            · exact .inr ⟨t, e + 1, rfl, by simp [AS.set, AS.gain], ht0⟩
        clear hK8 hnext
        refine awp_reg_seq ?_
        intro K hK
        simp only [↓DN, UP, DF, qSh, qCv, qIA, qIx, qSl, qBu, qCe, qOn, reduceCtorEq, ↓reduceIte, nLT, nLE, nEQ, nAdd, nMul, nPow, nSub, zLT, zLE, zNat, RMsg1563, g0]
        refine acallk (eyeU8_set _ p _ J6.rd.eye) ?_
        rintro r s7 ⟨rfl, rfl⟩
        rw [← eb]
        have J7 := J6.setEye (eyeC qb.2)
        simp only [↓AXq_nil, ↓AXq_cons, pval, DX, Nat.reduceBEq, ↓DN, UP, DF, qSh, qCv, qIA, qIx, qSl, qBu, qCe, qOn, reduceCtorEq, ↓reduceIte, nLT, nLE, nEQ, nAdd, nMul, nPow, nSub, zLT, zLE, zNat, RMsg1563]
        refine hK _ _ ?_
        clear hK K
        refine awp_block ?_
        refine awp_loop (fun E s8 => ∃ (j : Nat) (y : AV), j ≤ qb.1 ∧ E 19 = .v (.int .i64 j) ∧ E 18 = .v (.int .i64 qb.1) ∧ E 12 = .v (.int .i64 i) ∧ E 11 = .v (.int .i64 q3.1) ∧ E 0 = .ptr p 0 ∧ E 2 = .ptr o2 0 ∧ E 3 = .ptr o3 0 ∧ E 4 = .ptr o4 0 ∧
            (∀ t e, s6.own t = some e → s8.own t = some e) ∧ RBuf 2 s6 s8 y j (rowC SealV.cells (rowR sealR j qb.2).1) ∧ Rd4 s s8 p o2 o3 o4 (eyeC (rowR sealR j qb.2).2) z [.v (.int .u64 q1.1), bytesV q2.1 .any, x] [.v (.int .u64 qa.1), y])
          (fun E _ => match E 19 with | .v (.int _ j) => qb.1 - j.toNat | _ => 0) ?_ ?_
        · exact ⟨0, _, Nat.zero_le _, by simp only [upd, ↓reduceIte]; rfl, by simp only [upd, nEQ, ↓reduceIte], by simp only [upd, g12, nEQ, ↓reduceIte], by simp only [upd, g11, nEQ, ↓reduceIte], by simp only [upd, g0, nEQ, ↓reduceIte], by simp only [upd, g2, nEQ, ↓reduceIte], by simp only [upd, g3, nEQ, ↓reduceIte], by simp only [upd, nEQ, ↓reduceIte], fun t e h => h, RBuf.nil _ _ _, J7⟩
        · clear J7 J6 g12 g11 g0 g2 g3
          rintro E2 s8 ⟨j, y, hj, g19, g18, g12, g11, g0, g2, g3, g4, hown, hy, J⟩ -
          have jo := J.obj
          have jp := J.p4
          have jp2 := J.p4.symm
          by_cases hj' : j < qb.1
          · refine awp_reg_seq ?_
            intro K hK
            simp only [↓DN, UP, DF, qSh, qCv, qIA, qIx, qSl, qBu, qCe, qOn, reduceCtorEq, ↓reduceIte, nLT, nLE, nEQ, nAdd, nMul, nPow, nSub, zLT, zLE, zNat, RMsg1563, g19, g18, eye_lt_nat, decide_eq_true hj']
            refine hK _ _ ?_
            clear hK K
            refine awp_seq_k ?_
            intro K9 hK9
            refine awp_cond_k ?_
            intro X Y hX hY
            simp only [↓DN, UP, DF, qSh, qCv, qIA, qIx, qSl, qBu, qCe, qOn, reduceCtorEq, ↓reduceIte, nLT, nLE, nEQ, nAdd, nMul, nPow, nSub, zLT, zLE, zNat, RMsg1563, DB]
            refine hX ?_
            clear hX hY X Y
            refine awp_skip ?_
            refine hK9 _ _ ?_
            clear hK9 K9
            refine awp_seq_k ?_
            intro K9 hK9
            refine awp_block ?_
            have hnext : ∀ (E3 : Env) (s9 : AS) (y2 : AV), E3 19 = .v (.int .i64 j) → E3 18 = .v (.int .i64 qb.1) → E3 12 = .v (.int .i64 i) → E3 11 = .v (.int .i64 q3.1) → E3 0 = .ptr p 0 → E3 2 = .ptr o2 0 → E3 3 = .ptr o3 0 → E3 4 = .ptr o4 0 →
                (∀ t e, s6.own t = some e → s9.own t = some e) → RBuf 2 s6 s9 y2 (j + 1) (rowC SealV.cells (rowR sealR (j + 1) qb.2).1) → Rd4 s s9 p o2 o3 o4 (eyeC (rowR sealR (j + 1) qb.2).2) z [.v (.int .u64 q1.1), bytesV q2.1 .any, x] [.v (.int .u64 qa.1), y2] → K9 E3 s9 := by
              intro E3 s9 y2 f19 f18 f12 f11 f0 f2 f3 f4 fo fy fJ
              refine hK9 _ _ ?_
              clear hK9 K9
              refine awp_reg_end ?_
              intro K hK
              simp only [↓DN, UP, DF, qSh, qCv, qIA, qIx, qSl, qBu, qCe, qOn, reduceCtorEq, ↓reduceIte, nLT, nLE, nEQ, nAdd, nMul, nPow, nSub, zLT, zLE, zNat, RMsg1563, f19, eye_succ j (by omega)]
              refine hK _ _ ?_
              clear hK K
              refine ⟨⟨j + 1, y2, by omega, by simp only [upd, ↓reduceIte], by simp only [upd, f18, nEQ, ↓reduceIte], by simp only [upd, f12, nEQ, ↓reduceIte], by simp only [upd, f11, nEQ, ↓reduceIte], by simp only [upd, f0, nEQ, ↓reduceIte], by simp only [upd, f2, nEQ, ↓reduceIte], by simp only [upd, f3, nEQ, ↓reduceIte], by simp only [upd, f4, nEQ, ↓reduceIte], fo, fy, fJ⟩, ?_⟩
              simp only [g19, upd, ↓reduceIte]
              omega
            clear hK9
            have hlj : (rowR sealR j qb.2).2.1.length ≤ 2 ^ 44 := Nat.le_trans (rowR_left sealR_left _ _) lb
            have hrow1 : (rowR sealR (j + 1) qb.2) = ((rowR sealR j qb.2).1 ++ [(sealR (rowR sealR j qb.2).2).1], (sealR (rowR sealR j qb.2).2).2) := rfl
            rw [hrow1] at hnext
            have hMl : (rowR sealR j qb.2).1.length = j := rowR_len _ _
            generalize (rowR sealR j qb.2).1 = M at *
            generalize (rowR sealR j qb.2).2 = stj at *
            simp only [row_snoc] at hnext
            rcases hy with ⟨rfl, hj0, hM0⟩ | ⟨t, e, rfl, ht, ht0⟩
            · refine awp_mrk_end T.mixed [(o4, [.v (.int .u64 qa.1), nilS])] [3, 5] [1] [7] (by kernel_rfl) (by simp only [Pres_cons, Pres_nil, and_true]; simp [AS.set, upd, jo]) ?_
              intro K hK
              simp only [↓AXr_nil, ↓AXr_cons, gval, lval, fzGet_cons, fzGet_nil, Pres_cons, Pres_nil, List.any_cons, List.any_nil, List.contains_cons, List.contains_nil, Nat.reduceBEq, Bool.or_false, Bool.or_true, Bool.or_self, Bool.false_or, ↓DN, UP, DF, qSh, qCv, qIA, qIx, qSl, qBu, qCe, qOn, reduceCtorEq, ↓reduceIte, nLT, nLE, nEQ, nAdd, nMul, nPow, nSub, zLT, zLE, zNat, RMsg1563, g4, g0, nilS, jo, jp, jp2]
              refine acallk (hRead_calls _ p stj 48 hlj J.rd.eye) ?_
              rintro r s9 ⟨rfl, rfl⟩
              simp only [↓AXq_nil, ↓AXq_cons, pval, ↓AXr_nil, ↓AXr_cons, gval, lval, fzGet_cons, fzGet_nil, Pres_cons, Pres_nil, List.any_cons, List.any_nil, DX, Nat.reduceBEq, ↓DN, UP, DF, qSh, qCv, qIA, qIx, qSl, qBu, qCe, qOn, reduceCtorEq, ↓reduceIte, nLT, nLE, nEQ, nAdd, nMul, nPow, nSub, zLT, zLE, zNat, RMsg1563, g4, g0, jo, jp, jp2, zrow_two, nilS]
              intro t ht
              have ht0 := J.rd.own_none ht
              have hs6 : s6.own t = none := by
                cases e6 : s6.own t with
                | none => rfl
                | some e => have := hown t e e6; rw [ht] at this; cases this
              refine hK _ _ (hnext _ _ _ (by simp only [upd, g19, nEQ, ↓reduceIte]) (by simp only [upd, g18, nEQ, ↓reduceIte]) (by simp only [upd, g12, nEQ, ↓reduceIte]) (by simp only [upd, g11, nEQ, ↓reduceIte]) (by simp only [upd, g0, nEQ, ↓reduceIte]) (by simp only [upd, g2, nEQ, ↓reduceIte]) (by simp only [upd, g3, nEQ, ↓reduceIte]) (by simp only [upd, g4, nEQ, ↓reduceIte]) ?_ ?_ (((J.setEye _).gain ht0 0).setObj _))
              · intro t' e' h'
                have := own_ne h' hs6
                simp only [AS.set, AS.gain, upd, this, if_false]
                exact hown t' e' h'
              · exact .inr ⟨t, 0, by rw [hM0, hj0]; rfl, by simp [AS.set, AS.gain], hs6⟩
            · have hst0 : s.own t = none := hJ6 t ht0
              refine awp_mrk_end T.mixed [(o4, [.v (.int .u64 qa.1), .sl 2 j (rowC SealV.cells M) (.own t e)])] [3, 5] [1] [7] (by kernel_rfl) (by simp only [Pres_cons, Pres_nil, and_true]; simp [AS.set, upd, jo]) ?_
              intro K hK
              simp only [↓AXr_nil, ↓AXr_cons, gval, lval, fzGet_cons, fzGet_nil, Pres_cons, Pres_nil, List.any_cons, List.any_nil, List.contains_cons, List.contains_nil, Nat.reduceBEq, Bool.or_false, Bool.or_true, Bool.or_self, Bool.false_or, ↓DN, UP, DF, qSh, qCv, qIA, qIx, qSl, qBu, qCe, qOn, reduceCtorEq, ↓reduceIte, nLT, nLE, nEQ, nAdd, nMul, nPow, nSub, zLT, zLE, zNat, RMsg1563, g4, g0, jo, jp, jp2]
              refine acallk (hRead_calls _ p stj 48 hlj J.rd.eye) ?_
              rintro r s9 ⟨rfl, rfl⟩
              simp only [↓AXq_nil, ↓AXq_cons, pval, ↓AXr_nil, ↓AXr_cons, gval, lval, fzGet_cons, fzGet_nil, Pres_cons, Pres_nil, List.any_cons, List.any_nil, DX, Nat.reduceBEq, ↓DN, UP, DF, qSh, qCv, qIA, qIx, qSl, qBu, qCe, qOn, reduceCtorEq, ↓reduceIte, nLT, nLE, nEQ, nAdd, nMul, nPow, nSub, zLT, zLE, zNat, RMsg1563, g4, g0, jo, jp, jp2, zrow_two, ht]
              refine ⟨by omega, by omega, hK _ _ (hnext _ _ _ (by simp only [upd, g19, nEQ, ↓reduceIte]) (by simp only [upd, g18, nEQ, ↓reduceIte]) (by simp only [upd, g12, nEQ, ↓reduceIte]) (by simp only [upd, g11, nEQ, ↓reduceIte]) (by simp only [upd, g0, nEQ, ↓reduceIte]) (by simp only [upd, g2, nEQ, ↓reduceIte]) (by simp only [upd, g3, nEQ, ↓reduceIte]) (by simp only [upd, g4, nEQ, ↓reduceIte]) ?_ ?_ (((J.setEye _).gain hst0 (e + 1)).setObj _))⟩
              · intro t' e' h'
                have := own_ne h' ht0
                simp only [AS.set, AS.gain, upd, this, if_false]
                exact hown t' e' h'
              · exact .inr ⟨t, e + 1, rfl, by simp [AS.set, AS.gain], ht0⟩
          · refine awp_reg_seq ?_
            intro K hK
            simp only [↓DN, UP, DF, qSh, qCv, qIA, qIx, qSl, qBu, qCe, qOn, reduceCtorEq, ↓reduceIte, nLT, nLE, nEQ, nAdd, nMul, nPow, nSub, zLT, zLE, zNat, RMsg1563, g19, g18, eye_lt_nat, decide_eq_false hj']
            refine hK _ _ ?_
            clear hK K
            refine awp_seq_k ?_
            intro K9 hK9
            refine awp_cond_k ?_
            intro X Y hX hY
            simp only [↓DN, UP, DF, qSh, qCv, qIA, qIx, qSl, qBu, qCe, qOn, reduceCtorEq, ↓reduceIte, nLT, nLE, nEQ, nAdd, nMul, nPow, nSub, zLT, zLE, zNat, RMsg1563, DB]
            refine hY ?_
            clear hX hY X Y
            refine awp_exit ?_
            simp only [thenQ, blockQ, if_true]
            obtain rfl : j = qb.1 := by omega
            rw [← ec] at hy J
            rw [← hcl] at hy
            exact h8 _ _ _ (by simp only [upd, g12, nEQ, ↓reduceIte]) (by simp only [upd, g11, nEQ, ↓reduceIte]) (by simp only [upd, g0, nEQ, ↓reduceIte]) (by simp only [upd, g2, nEQ, ↓reduceIte]) (by simp only [upd, g3, nEQ, ↓reduceIte]) (by simp only [upd, g4, nEQ, ↓reduceIte]) (hx6.own fun t e h _ => hown t e h) hy J
      · refine awp_reg_seq ?_
        intro K hK
        simp only [↓DN, UP, DF, qSh, qCv, qIA, qIx, qSl, qBu, qCe, qOn, reduceCtorEq, ↓reduceIte, nLT, nLE, nEQ, nAdd, nMul, nPow, nSub, zLT, zLE, zNat, RMsg1563, g12, g11, eye_lt_nat, decide_eq_false hi']
        refine hK _ _ ?_
        clear hK K
        refine awp_seq_k ?_
        intro K7 hK7
        refine awp_cond_k ?_
        intro X Y hX hY
        simp only [↓DN, UP, DF, qSh, qCv, qIA, qIx, qSl, qBu, qCe, qOn, reduceCtorEq, ↓reduceIte, nLT, nLE, nEQ, nAdd, nMul, nPow, nSub, zLT, zLE, zNat, RMsg1563, DB]
        refine hY ?_
        clear hX hY X Y
        refine awp_exit ?_
        simp only [thenQ, blockQ, if_true]
        obtain rfl : i = q3.1 := by omega
        rw [← e4] at hx J
        rw [← q4l] at hx
        exact h2 _ _ _ (by simp only [upd, g0, nEQ, ↓reduceIte]) (by simp only [upd, g2, nEQ, ↓reduceIte]) (by simp only [upd, g3, nEQ, ↓reduceIte]) hx J
  clear hK1
  refine awp_reg_end ?_
  intro K hK
  simp only [↓DN, UP, DF, qSh, qCv, qIA, qIx, qSl, qBu, qCe, qOn, reduceCtorEq, ↓reduceIte, nLT, nLE, nEQ, nAdd, nMul, nPow, nSub, zLT, zLE, zNat, RMsg1563]
  refine acallk (eyeU64_set _ p st (by rw [AS.set_objs_ne _ hp2]; exact h)) ?_
  rintro r s1 ⟨rfl, rfl⟩
  rw [← e1]
  simp only [↓AXq_nil, ↓AXq_cons, pval, ↓AXr_nil, ↓AXr_cons, gval, lval, fzGet_cons, fzGet_nil, Pres_cons, Pres_nil, List.any_cons, List.any_nil, DX, Nat.reduceBEq, ↓DN, UP, DF, qSh, qCv, qIA, qIx, qSl, qBu, qCe, qOn, reduceCtorEq, ↓reduceIte, nLT, nLE, nEQ, nAdd, nMul, nPow, nSub, zLT, zLE, zNat, RMsg1563]
  refine acallk (eyeShort_set _ p _ 32 (by have := l1; omega) (AS.set_objs_same _ _ _)) ?_
  rintro r s1 ⟨rfl, rfl⟩
  rw [← e2]
  simp only [↓AXq_nil, ↓AXq_cons, pval, ↓AXr_nil, ↓AXr_cons, gval, lval, fzGet_cons, fzGet_nil, Pres_cons, Pres_nil, List.any_cons, List.any_nil, DX, Nat.reduceBEq, ↓DN, UP, DF, qSh, qCv, qIA, qIx, qSl, qBu, qCe, qOn, reduceCtorEq, ↓reduceIte, nLT, nLE, nEQ, nAdd, nMul, nPow, nSub, zLT, zLE, zNat, RMsg1563]
  intro o3 ho3
  have hp3 : o3 ≠ p := by
    rintro rfl
    simp at ho3
  have h32 : o3 ≠ o2 := by
    rintro rfl
    simp [hp2.symm] at ho3
  have ho30 : s.objs o3 = none := by simpa [hp3, h32] using ho3
  refine hK _ _ (h1 _ _ o3 (by simp only [upd, initE, nEQ, ↓reduceIte, List.getD_cons_zero]) (by simp only [upd, nEQ, ↓reduceIte]) (by simp only [upd, nEQ, ↓reduceIte]) ?_)
  refine ⟨AS.le_set (AS.le_set (AS.le_set (AS.drop_le s p) (AS.drop_objs_none ho2) _) (AS.drop_self _ _) _) (AS.drop_objs_none ho30) _, ?_, ?_, AS.set_objs_same _ _ _, ho2, ho30, hp2, hp3.symm, h32.symm⟩
  · rw [AS.set_objs_ne _ hp3.symm, AS.set_objs_same]
  · rw [AS.set_objs_ne _ h32.symm, AS.set_objs_ne _ hp2.symm, AS.set_objs_same, hz]

end Go.Proofs.Ytcnilmidfhpckaa


