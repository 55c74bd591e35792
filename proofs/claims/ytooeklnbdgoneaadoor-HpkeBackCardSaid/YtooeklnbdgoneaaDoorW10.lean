/- Contracts of the program's functions, each walked once; the conditions stand in each theorem. -/
import Derived.Test.YtooeklnbdgoneaaDoorAMp6
import Derived.Test.YtooeklnbdgoneaaDoorW9
import Derived.Test.YtooeklnbdgoneaaDoorAMp5
import Derived.Test.YtooeklnbdgoneaaDoorW8
import Derived.Test.YtooeklnbdgoneaaDoorRows
import Derived.Test.YtooeklnbdgoneaaDoorW1
import Derived.ProofKit
import Derived.LaidMore
import Derived.MakeChecks
import Derived.OpenShut
set_option linter.unusedSimpArgs false
set_option linter.unusedVariables false
open Nat renaming reduceLT → nLT, reduceLeDiff → nLE, reduceEqDiff → nEQ, reduceAdd → nAdd, reduceMul → nMul, reducePow → nPow, reduceSub → nSub
open Int renaming reduceLT → zLT, reduceLE → zLE, reduceToNat → zNat
open Go.AM renaming ashift → qSh, aconv → qCv, aindexAddr → qIA, aindex → qIx, aslice → qSl, abuiltin → qBu
open Go.AM.AV renaming cells → qCe, one → qOn
set_option autoImplicit false
namespace Go.Proofs.YtooeklnbdgoneaaDoor
open Go Go.AM Go.Proofs

theorem RHpk329 : type_of% (And.intro (And.intro (And.intro (And.intro (And.intro (And.intro @Tryd.underlying4 T.c4) (And.intro T.g4 T.b4)) (And.intro (And.intro T.z4 @Tryd.underlying5) (And.intro T.c5 T.g5))) (And.intro (And.intro (And.intro T.b5 T.z5) (And.intro @Tryd.underlying22 T.c22)) (And.intro (And.intro T.g22 T.b22) (And.intro T.z22 (And.intro T.s22 @Tryd.underlying41))))) (And.intro (And.intro (And.intro (And.intro T.c41 T.g41) (And.intro T.b41 T.z41)) (And.intro (And.intro @Tryd.underlying46 T.c46) (And.intro T.g46 T.b46))) (And.intro (And.intro (And.intro T.z46 T.h46) (And.intro T.f46_0 T.f46_1)) (And.intro (And.intro T.k62 T.k54) (And.intro T.k60 (And.intro T.k64 T.k63)))))) Tryd.ntmps29) :=
  (And.intro (And.intro (And.intro (And.intro (And.intro (And.intro @Tryd.underlying4 T.c4) (And.intro T.g4 T.b4)) (And.intro (And.intro T.z4 @Tryd.underlying5) (And.intro T.c5 T.g5))) (And.intro (And.intro (And.intro T.b5 T.z5) (And.intro @Tryd.underlying22 T.c22)) (And.intro (And.intro T.g22 T.b22) (And.intro T.z22 (And.intro T.s22 @Tryd.underlying41))))) (And.intro (And.intro (And.intro (And.intro T.c41 T.g41) (And.intro T.b41 T.z41)) (And.intro (And.intro @Tryd.underlying46 T.c46) (And.intro T.g46 T.b46))) (And.intro (And.intro (And.intro T.z46 T.h46) (And.intro T.f46_0 T.f46_1)) (And.intro (And.intro T.k62 T.k54) (And.intro T.k60 (And.intro T.k64 T.k63)))))) Tryd.ntmps29)
variable {Γ : Nat → List AV}

def openOk (key frm : Nat) : Prop := pubOk frm ∧ 1 ≤ key ∧ key ≤ 2305843009213693949
instance (key frm : Nat) : Decidable (openOk key frm) := by unfold openOk; infer_instance

set_option maxHeartbeats 2000000 in
theorem hopen_ok (hG0 : Γ 0 = stC Sha.H0) (hG : Γ 1 = Sha.K.map wV) (key frm : Nat) (hk : openOk key frm) (text info beside : List UInt8) (hi : info.length ≤ 60000) (hb : beside.length ≤ 2 ^ 30) (ht : text.length ≤ 2 ^ 30) (s : AS) :
    ACalls Tryd.prog Γ 29 [.v (.int .u64 key), .agg [.v (.int .u64 frm), bytesV text .any], bytesV info .any, bytesV beside .any] s
      (fun r s' => r = .tup [bytesV (hopenT key frm text info beside) .any, .v (.int .i64 ((hopenE key frm text info beside : Nat) : Int))] ∧ s' = s) := by
  refine acalls_body Tryd.func29 rfl Tryd.ntmps29 Tryd.results29 (by simp) ?_
  obtain ⟨hp, h1, h2⟩ := hk
  have hp64 : frm < 2 ^ 64 := by have := hp.2; omega
  have c2 := fun s => powPublic_calls (Γ := Γ) key (by omega) s
  have c3 := fun s => powShared_calls (Γ := Γ) key frm (by omega) hp64 s
  have c4 := fun s => hkeys_calls (Γ := Γ) hG0 hG (frm ^ key % PP) frm (3 ^ key % PP) info hp64 (pp_lt64 _) hi s
  have hkl := hk_len (osec key frm) info hi
  have hnl := hn_len (osec key frm) info hi
  have c5 := fun s => open_seal_calls (Γ := Γ) hG0 hG (Hpke.hk (osec key frm) info) (Hpke.hn (osec key frm) info) beside text hb ht s
  simp only [show opT (Hpke.hk (osec key frm) info) (Hpke.hn (osec key frm) info) beside text = hopenT key frm text info beside from by unfold opT; rw [if_pos ⟨hkl, hnl⟩]; rfl, show opE (Hpke.hk (osec key frm) info) (Hpke.hn (osec key frm) info) beside text = hopenE key frm text info beside from by unfold opE; rw [if_pos ⟨hkl, hnl⟩]; rfl] at c5
  simp only [show Hpke.sec (frm ^ key % PP) frm (3 ^ key % PP) = osec key frm from rfl] at c4
  generalize hopenT key frm text info beside = z at *
  generalize hopenE key frm text info beside = y at *
  generalize Hpke.hk (osec key frm) info = k at *
  generalize Hpke.hn (osec key frm) info = n at *
  generalize frm ^ key % PP = sh at *
  generalize 3 ^ key % PP = to at *
  refine awp_reg_frz 5 (by simp [dsts]) ?_
  intro K hK
  simp only [↓AXq_nil, ↓AXq_cons, pval, DX, Nat.reduceBEq, ↓DN, UP, DF, qSh, qCv, qIA, qIx, qSl, qBu, qCe, qOn, reduceCtorEq, ↓reduceIte, nLT, nLE, nEQ, nAdd, nMul, nPow, nSub, zLT, zLE, zNat, RHpk329]
  intro o ho
  refine hK _ _ o _ (by simp only [upd, nEQ, ↓reduceIte]) ho ?_
  clear hK K ho
  refine awp_seq_k ?_
  intro K hK
  refine awp_reg_seq ?_
  intro K hK
  simp only [↓DN, UP, DF, qSh, qCv, qIA, qIx, qSl, qBu, qCe, qOn, reduceCtorEq, ↓reduceIte, nLT, nLE, nEQ, nAdd, nMul, nPow, nSub, zLT, zLE, zNat, RHpk329]
  refine acallk (powerRight_calls frm _) ?_
  rintro r s1 ⟨rfl, rfl⟩
  simp only [↓AXq_nil, ↓AXq_cons, pval, DX, Nat.reduceBEq, ↓DN, UP, DF, qSh, qCv, qIA, qIx, qSl, qBu, qCe, qOn, reduceCtorEq, ↓reduceIte, nLT, nLE, nEQ, nAdd, nMul, nPow, nSub, zLT, zLE, zNat, RHpk329, pub_test hp, decide_eq_false (show ¬ (key : Int) < 1 by omega), decide_eq_false (show ¬ (2305843009213693949 : Int) < (key : Int) by omega)]
  refine hK _ _ ?_
  clear hK K
  refine awp_cond_k ?_
  intro X Y hX hY
  simp only [↓DN, UP, DF, qSh, qCv, qIA, qIx, qSl, qBu, qCe, qOn, reduceCtorEq, ↓reduceIte, nLT, nLE, nEQ, nAdd, nMul, nPow, nSub, zLT, zLE, zNat, RHpk329, DB]
  refine hY ?_
  clear hX hY X Y
  refine awp_skip ?_
  refine hK _ _ ?_
  clear hK K
  refine awp_drw_seq T.mixed [3, 7, 9] (by kernel_rfl) ?_
  intro K hK
  simp only [↓AXq_nil, ↓AXq_cons, pval, DX, Nat.reduceBEq, ↓DN, UP, DF, qSh, qCv, qIA, qIx, qSl, qBu, qCe, qOn, reduceCtorEq, ↓reduceIte, nLT, nLE, nEQ, nAdd, nMul, nPow, nSub, zLT, zLE, zNat, RHpk329]
  refine acallk (c3 _) ?_
  rintro r s2 ⟨rfl, rfl⟩
  simp only [↓AXq_nil, ↓AXq_cons, pval, DX, Nat.reduceBEq, ↓DN, UP, DF, qSh, qCv, qIA, qIx, qSl, qBu, qCe, qOn, reduceCtorEq, ↓reduceIte, nLT, nLE, nEQ, nAdd, nMul, nPow, nSub, zLT, zLE, zNat, RHpk329]
  refine acallk (c2 _) ?_
  rintro r s3 ⟨rfl, rfl⟩
  simp only [↓AXq_nil, ↓AXq_cons, pval, DX, Nat.reduceBEq, ↓DN, UP, DF, qSh, qCv, qIA, qIx, qSl, qBu, qCe, qOn, reduceCtorEq, ↓reduceIte, nLT, nLE, nEQ, nAdd, nMul, nPow, nSub, zLT, zLE, zNat, RHpk329]
  refine acallk (c4 _) ?_
  rintro r s4 ⟨rfl, rfl⟩
  simp only [↓AXq_nil, ↓AXq_cons, pval, DX, Nat.reduceBEq, ↓DN, UP, DF, qSh, qCv, qIA, qIx, qSl, qBu, qCe, qOn, reduceCtorEq, ↓reduceIte, nLT, nLE, nEQ, nAdd, nMul, nPow, nSub, zLT, zLE, zNat, RHpk329]
  refine hK _ _ ?_
  clear hK K
  refine awp_seq_k ?_
  intro K hK
  refine awp_reg_seq ?_
  intro K hK
  simp only [↓DN, UP, DF, qSh, qCv, qIA, qIx, qSl, qBu, qCe, qOn, reduceCtorEq, ↓reduceIte, nLT, nLE, nEQ, nAdd, nMul, nPow, nSub, zLT, zLE, zNat, RHpk329]
  refine hK _ _ ?_
  clear hK K
  refine awp_cond_k ?_
  intro X Y hX hY
  simp only [↓DN, UP, DF, qSh, qCv, qIA, qIx, qSl, qBu, qCe, qOn, reduceCtorEq, ↓reduceIte, nLT, nLE, nEQ, nAdd, nMul, nPow, nSub, zLT, zLE, zNat, RHpk329, DB]
  refine hY ?_
  clear hX hY X Y
  refine awp_skip ?_
  refine hK _ _ ?_
  clear hK K
  refine awp_reg_seq ?_
  intro K hK
  simp only [↓DN, UP, DF, qSh, qCv, qIA, qIx, qSl, qBu, qCe, qOn, reduceCtorEq, ↓reduceIte, nLT, nLE, nEQ, nAdd, nMul, nPow, nSub, zLT, zLE, zNat, RHpk329]
  refine acallk (c5 _) ?_
  rintro r s5 ⟨rfl, rfl⟩
  simp only [↓AXq_nil, ↓AXq_cons, pval, DX, Nat.reduceBEq, ↓DN, UP, DF, qSh, qCv, qIA, qIx, qSl, qBu, qCe, qOn, reduceCtorEq, ↓reduceIte, nLT, nLE, nEQ, nAdd, nMul, nPow, nSub, zLT, zLE, zNat, RHpk329]
  refine hK _ _ ?_
  clear hK K
  refine awp_ret ?_
  simp only [retQ, AEnds, aresL, ares, List.toList_toArray, ↓upd_same]; try simp only [↓DN, UP, DF, qSh, qCv, qIA, qIx, qSl, qBu, qCe, qOn, reduceCtorEq, ↓reduceIte, nLT, nLE, nEQ, nAdd, nMul, nPow, nSub, zLT, zLE, zNat, RHpk329, DT]
  exact ⟨_, _, AV.weak.refl _, AS.le.refl _, rfl, rfl⟩

end Go.Proofs.YtooeklnbdgoneaaDoor


set_option autoImplicit false
namespace Go.AM
open Go

theorem IsTy.record {avs : List AV} (h : IsTy (.struct (.cons tyI (.cons tyB (.cons tyI (.cons tyI (.cons tyI (.cons tyB (.cons tyB (.cons tyB (.cons tyB .nil)))))))))) avs) : ∃ R : Rec, avs = R.cells := by
  obtain ⟨x1, y1, rfl, t1, h⟩ := isF_cons (isTy_struct h)
  obtain ⟨x2, y2, rfl, t2, h⟩ := isF_cons h
  obtain ⟨x3, y3, rfl, t3, h⟩ := isF_cons h
  obtain ⟨x4, y4, rfl, t4, h⟩ := isF_cons h
  obtain ⟨x5, y5, rfl, t5, h⟩ := isF_cons h
  obtain ⟨x6, y6, rfl, t6, h⟩ := isF_cons h
  obtain ⟨x7, y7, rfl, t7, h⟩ := isF_cons h
  obtain ⟨x8, y8, rfl, t8, h⟩ := isF_cons h
  obtain ⟨x9, y9, rfl, t9, h⟩ := isF_cons h
  obtain rfl := isF_nil h
  obtain ⟨n1, rfl, _⟩ := isTy_int t1
  obtain ⟨l2, rfl, _⟩ := t2.bytes
  obtain ⟨n3, rfl, _⟩ := isTy_int t3
  obtain ⟨n4, rfl, _⟩ := isTy_int t4
  obtain ⟨n5, rfl, _⟩ := isTy_int t5
  obtain ⟨l6, rfl, _⟩ := t6.bytes
  obtain ⟨l7, rfl, _⟩ := t7.bytes
  obtain ⟨l8, rfl, _⟩ := t8.bytes
  obtain ⟨l9, rfl, _⟩ := t9.bytes
  exact ⟨⟨n1, l2, n3, n4, n5, l6, l7, l8, l9⟩, rfl⟩
end Go.AM


set_option autoImplicit false
namespace Go.Proofs.YtooeklnbdgoneaaDoor
open Go Go.AM Go.Proofs

theorem RHpk425 : type_of% (And.intro (And.intro (And.intro (And.intro (And.intro (And.intro @Tryd.underlying5 T.c5) (And.intro T.g5 T.b5)) (And.intro (And.intro T.z5 @Tryd.underlying9) (And.intro T.c9 (And.intro T.g9 T.b9)))) (And.intro (And.intro (And.intro T.z9 @Tryd.underlying22) (And.intro T.c22 T.g22)) (And.intro (And.intro T.b22 T.z22) (And.intro T.s22 (And.intro @Tryd.underlying30 T.c30))))) (And.intro (And.intro (And.intro (And.intro T.g30 T.b30) (And.intro T.z30 @Tryd.underlying41)) (And.intro (And.intro T.c41 T.g41) (And.intro T.b41 (And.intro T.z41 @Tryd.underlying46)))) (And.intro (And.intro (And.intro T.c46 T.g46) (And.intro T.b46 T.z46)) (And.intro (And.intro T.h46 T.k29) (And.intro T.k31 (And.intro T.k27 T.k32)))))) Tryd.ntmps25) :=
  (And.intro (And.intro (And.intro (And.intro (And.intro (And.intro @Tryd.underlying5 T.c5) (And.intro T.g5 T.b5)) (And.intro (And.intro T.z5 @Tryd.underlying9) (And.intro T.c9 (And.intro T.g9 T.b9)))) (And.intro (And.intro (And.intro T.z9 @Tryd.underlying22) (And.intro T.c22 T.g22)) (And.intro (And.intro T.b22 T.z22) (And.intro T.s22 (And.intro @Tryd.underlying30 T.c30))))) (And.intro (And.intro (And.intro (And.intro T.g30 T.b30) (And.intro T.z30 @Tryd.underlying41)) (And.intro (And.intro T.c41 T.g41) (And.intro T.b41 (And.intro T.z41 @Tryd.underlying46)))) (And.intro (And.intro (And.intro T.c46 T.g46) (And.intro T.b46 T.z46)) (And.intro (And.intro T.h46 T.k29) (And.intro T.k31 (And.intro T.k27 T.k32)))))) Tryd.ntmps25)
theorem RHpk426 : type_of% (And.intro (And.intro (And.intro (And.intro (And.intro @Tryd.underlying3 (And.intro T.c3 T.g3)) (And.intro T.b3 (And.intro T.z3 @Tryd.underlying5))) (And.intro (And.intro T.c5 (And.intro T.g5 T.b5)) (And.intro (And.intro T.z5 @Tryd.underlying22) (And.intro T.c22 T.g22)))) (And.intro (And.intro (And.intro T.b22 (And.intro T.z22 T.s22)) (And.intro @Tryd.underlying43 (And.intro T.c43 T.g43))) (And.intro (And.intro T.b43 (And.intro T.z43 T.h43)) (And.intro (And.intro T.f43_0 T.f43_1) (And.intro T.f43_2 T.f43_3))))) Tryd.ntmps26) :=
  (And.intro (And.intro (And.intro (And.intro (And.intro @Tryd.underlying3 (And.intro T.c3 T.g3)) (And.intro T.b3 (And.intro T.z3 @Tryd.underlying5))) (And.intro (And.intro T.c5 (And.intro T.g5 T.b5)) (And.intro (And.intro T.z5 @Tryd.underlying22) (And.intro T.c22 T.g22)))) (And.intro (And.intro (And.intro T.b22 (And.intro T.z22 T.s22)) (And.intro @Tryd.underlying43 (And.intro T.c43 T.g43))) (And.intro (And.intro T.b43 (And.intro T.z43 T.h43)) (And.intro (And.intro T.f43_0 T.f43_1) (And.intro T.f43_2 T.f43_3))))) Tryd.ntmps26)

variable {Γ : Nat → List AV}

theorem aw_ka : powKey [97] = 1514935092797558479 := by
  have h := Hpke.ka_is
  unfold powKey
  rw [show Kdf.label [97] keyW [] 8 = Hpke.la from Hpke.la_is]
  exact h
theorem aw_kd : powKey [100] = 1896543153640479001 := by
  have h := Hpke.kd_is
  unfold powKey
  rw [show Kdf.label [100] keyW [] 8 = Hpke.ld from Hpke.ld_is]
  exact h
theorem aw_pub : 3 ^ powKey [97] % PP = 1698461819911046417 := (congrArg (fun e => 3 ^ e % PP) aw_ka).trans Hpke.pub_is
theorem aw_from0 : 3 ^ powKey [100] % PP = 286126448538016316 := (congrArg (fun e => 3 ^ e % PP) aw_kd).trans Hpke.from_is
theorem hfrom_eq (d : List UInt8) : hfrom d = 3 ^ powKey d % PP := rfl
theorem hsec_eq (p : Nat) (d : List UInt8) : hsec p d = Hpke.sec (p ^ powKey d % PP) (hfrom d) p := rfl
theorem osec_eq (k f : Nat) : osec k f = Hpke.sec (f ^ k % PP) f (3 ^ k % PP) := rfl
theorem aw_from : hfrom [100] = 286126448538016316 := (hfrom_eq [100]).trans aw_from0
theorem aw_sh0 : 1698461819911046417 ^ powKey [100] % PP = 1257739691807743659 := (congrArg (fun e => 1698461819911046417 ^ e % PP) aw_kd).trans Hpke.sh_is
theorem aw_hs0 : 286126448538016316 ^ powKey [97] % PP = 1257739691807743659 := (congrArg (fun e => 286126448538016316 ^ e % PP) aw_ka).trans Hpke.hs_is
theorem aw_hsec : hsec (3 ^ powKey [97] % PP) [100] = Hpke.sec0 := by
  rw [aw_pub, hsec_eq, aw_from, aw_sh0]
  exact Hpke.sec_is
theorem aw_osec : osec (powKey [97]) (hfrom [100]) = Hpke.sec0 := by
  rw [aw_from, osec_eq, aw_hs0, aw_pub]
  exact Hpke.sec_is
/-- What the example's text is sealed to. -/
def z08 : List UInt8 := Aes.sealed Hpke.ki Hpke.ni [] Hpke.text0
theorem z08_is : z08 = Hpke.m0 ++ Hpke.t0 := by
  unfold z08
  rw [Aes.sealed, Hpke.m0_is, Hpke.t0_is]
theorem aw_hsealed : hsealed (3 ^ powKey [97] % PP) [105] [] Hpke.text0 [100] = z08 := by
  unfold hsealed z08
  rw [aw_hsec, Hpke.ki_is, Hpke.ni_is]
theorem aw_openT : hopenT (powKey [97]) (hfrom [100]) z08 [105] [] = Hpke.text0 := by
  unfold hopenT z08
  rw [aw_osec, Hpke.ki_is, Hpke.ni_is, opened_sealedT]
theorem aw_openE : hopenE (powKey [97]) (hfrom [100]) z08 [105] [] = 0 := by
  unfold hopenE z08
  rw [aw_osec, Hpke.ki_is, Hpke.ni_is, opened_sealedE]
theorem aw_openE2 : hopenE (powKey [97]) (hfrom [100]) z08 [106] [] = 14 := by
  unfold hopenE
  rw [aw_osec, Hpke.kj_is, Hpke.nj_is, z08_is]
  unfold openedE
  rw [if_neg (by decide), show (Hpke.m0 ++ Hpke.t0).take ((Hpke.m0 ++ Hpke.t0).length - 16) = Hpke.m0 from rfl, show (Hpke.m0 ++ Hpke.t0).drop ((Hpke.m0 ++ Hpke.t0).length - 16) = Hpke.t0 from rfl, if_neg Hpke.tj_not]
theorem aw_pubOk : pubOk (3 ^ powKey [97] % PP) := by rw [aw_pub]; decide
theorem aw_openOk : openOk (powKey [97]) (hfrom [100]) := by
  refine ⟨by rw [aw_from]; decide, powKey_pos _, ?_⟩
  have := powKey_lt [97]
  omega

set_option maxHeartbeats 4000000 in
set_option maxRecDepth 100000 in
theorem awake08_calls (hG0 : Γ 0 = stC Sha.H0) (hG : Γ 1 = Sha.K.map wV) (s : AS) :
    ACalls Tryd.prog Γ 25 [] s (fun r s' => r = .v (.bool true) ∧ s' = s) := by
  refine acalls_body Tryd.func25 rfl Tryd.ntmps25 Tryd.results25 (by simp) ?_
  have c0 := fun s => refKey07_calls (Γ := Γ) [97] (by decide) s
  have c1 := fun s => refPublic07_calls (Γ := Γ) (powKey [97]) (by have := powKey_lt [97]; omega) s
  have c2 := fun s => hseal_ok (Γ := Γ) hG0 hG (3 ^ powKey [97] % PP) aw_pubOk [105] [] Hpke.text0 [100] (by decide) (by decide) (by decide) (by decide) s
  have c3 := fun s => hopen_ok (Γ := Γ) hG0 hG (powKey [97]) (hfrom [100]) aw_openOk z08 [105] [] (by decide) (by decide) (by rw [z08_is]; decide) s
  have c4 := fun s => hopen_ok (Γ := Γ) hG0 hG (powKey [97]) (hfrom [100]) aw_openOk z08 [106] [] (by decide) (by decide) (by rw [z08_is]; decide) s
  rw [aw_hsealed] at c2
  rw [aw_openT, aw_openE] at c3
  rw [aw_openE2] at c4
  generalize hopenT (powKey [97]) (hfrom [100]) z08 [106] [] = u at *
  generalize 3 ^ powKey [97] % PP = pub at *
  generalize powKey [97] = K0 at *
  generalize hfrom [100] = f at *
  generalize z08 = z at *
  have hrep1 : ∀ x : AV, List.replicate 1 x = [x] := fun _ => rfl
  have hrep4 : ∀ x : AV, List.replicate 4 x = [x, x, x, x] := fun _ => rfl
  refine awp_reg_seq ?_
  intro K hK
  simp only [↓DN, UP, DF, qSh, qCv, qIA, qIx, qSl, qBu, qCe, qOn, reduceCtorEq, ↓reduceIte, nLT, nLE, nEQ, nAdd, nMul, nPow, nSub, zLT, zLE, zNat, RHpk425]
  refine hK _ _ ?_
  clear hK K
  refine awp_reg_seq ?_
  intro K hK
  simp only [↓DN, UP, DF, qSh, qCv, qIA, qIx, qSl, qBu, qCe, qOn, reduceCtorEq, ↓reduceIte, nLT, nLE, nEQ, nAdd, nMul, nPow, nSub, zLT, zLE, zNat, RHpk425]
  refine acallk (c0 _) ?_
  rintro r s1 ⟨rfl, rfl⟩
  simp only [↓AXq_nil, ↓AXq_cons, pval, DX, Nat.reduceBEq, ↓DN, UP, DF, qSh, qCv, qIA, qIx, qSl, qBu, qCe, qOn, reduceCtorEq, ↓reduceIte, nLT, nLE, nEQ, nAdd, nMul, nPow, nSub, zLT, zLE, zNat, RHpk425]
  refine hK _ _ ?_
  clear hK K
  refine awp_reg_seq ?_
  intro K hK
  simp only [↓DN, UP, DF, qSh, qCv, qIA, qIx, qSl, qBu, qCe, qOn, reduceCtorEq, ↓reduceIte, nLT, nLE, nEQ, nAdd, nMul, nPow, nSub, zLT, zLE, zNat, RHpk425]
  refine acallk (c1 _) ?_
  rintro r s2 ⟨rfl, rfl⟩
  simp only [↓AXq_nil, ↓AXq_cons, pval, DX, Nat.reduceBEq, ↓DN, UP, DF, qSh, qCv, qIA, qIx, qSl, qBu, qCe, qOn, reduceCtorEq, ↓reduceIte, nLT, nLE, nEQ, nAdd, nMul, nPow, nSub, zLT, zLE, zNat, RHpk425, hrep1, hrep4]
  refine acallk (ACalls.weaks (AVs.weak.cons (AV.weak.refl _) (AVs.weak.cons (AV.weak_any) (AVs.weak.cons (AV.weak_nil (sz := 1)) (AVs.weak.cons (AV.weak_any) (AVs.weak.cons (AV.weak_any) AVs.weak.nil))))) (c2 _)) ?_
  rintro r s3 ⟨rfl, rfl⟩
  simp only [↓AXq_nil, ↓AXq_cons, pval, DX, Nat.reduceBEq, ↓DN, UP, DF, qSh, qCv, qIA, qIx, qSl, qBu, qCe, qOn, reduceCtorEq, ↓reduceIte, nLT, nLE, nEQ, nAdd, nMul, nPow, nSub, zLT, zLE, zNat, RHpk425]
  intro o ho
  refine hK _ _ ?_
  clear hK K
  refine awp_reg_seq ?_
  intro K hK
  simp only [↓DN, UP, DF, qSh, qCv, qIA, qIx, qSl, qBu, qCe, qOn, reduceCtorEq, ↓reduceIte, nLT, nLE, nEQ, nAdd, nMul, nPow, nSub, zLT, zLE, zNat, RHpk425, hrep1]
  refine acallk (ACalls.weaks (AVs.weak.cons (AV.weak.refl _) (AVs.weak.cons (AV.weak.refl _) (AVs.weak.cons (AV.weak_any) (AVs.weak.cons (AV.weak_nil (sz := 1)) AVs.weak.nil)))) (c3 _)) ?_
  rintro r s4 ⟨rfl, rfl⟩
  simp only [↓AXq_nil, ↓AXq_cons, pval, DX, Nat.reduceBEq, ↓DN, UP, DF, qSh, qCv, qIA, qIx, qSl, qBu, qCe, qOn, reduceCtorEq, ↓reduceIte, nLT, nLE, nEQ, nAdd, nMul, nPow, nSub, zLT, zLE, zNat, RHpk425]
  refine hK _ _ ?_
  clear hK K
  refine awp_reg_seq ?_
  intro K hK
  simp only [↓DN, UP, DF, qSh, qCv, qIA, qIx, qSl, qBu, qCe, qOn, reduceCtorEq, ↓reduceIte, nLT, nLE, nEQ, nAdd, nMul, nPow, nSub, zLT, zLE, zNat, RHpk425, hrep1]
  refine acallk (ACalls.weaks (AVs.weak.cons (AV.weak.refl _) (AVs.weak.cons (AV.weak.refl _) (AVs.weak.cons (AV.weak_any) (AVs.weak.cons (AV.weak_nil (sz := 1)) AVs.weak.nil)))) (c4 _)) ?_
  rintro r s5 ⟨rfl, rfl⟩
  simp only [↓AXq_nil, ↓AXq_cons, pval, DX, Nat.reduceBEq, ↓DN, UP, DF, qSh, qCv, qIA, qIx, qSl, qBu, qCe, qOn, reduceCtorEq, ↓reduceIte, nLT, nLE, nEQ, nAdd, nMul, nPow, nSub, zLT, zLE, zNat, RHpk425]
  refine hK _ _ ?_
  clear hK K
  have htx : (ByteArray.mk Hpke.text0.toArray).toList = [116, 101, 120, 116] := by rw [ByteArray.toList_mk]; rfl
  refine awp_reg_seq ?_
  intro K hK
  simp only [↓DN, UP, DF, qSh, qCv, qIA, qIx, qSl, qBu, qCe, qOn, reduceCtorEq, ↓reduceIte, nLT, nLE, nEQ, nAdd, nMul, nPow, nSub, zLT, zLE, zNat, RHpk425, show (((0 : Nat) : Int) == 0) = true from rfl, show (((14 : Nat) : Int) == 14) = true from rfl, htx]
  refine hK _ _ ?_
  clear hK K
  refine awp_ret ?_
  simp only [retQ, AEnds, aresL, ares, List.toList_toArray, ↓upd_same]; try simp only [↓DN, UP, DF, qSh, qCv, qIA, qIx, qSl, qBu, qCe, qOn, reduceCtorEq, ↓reduceIte, nLT, nLE, nEQ, nAdd, nMul, nPow, nSub, zLT, zLE, zNat, RHpk425, DT]
  exact ⟨_, _, AV.weak.refl _, AS.le_set (AS.le.refl _) ho _, rfl, rfl⟩

set_option maxHeartbeats 1000000 in
theorem small08_calls (k n b t : List UInt8) (s : AS) : ACalls Tryd.prog Γ 26 [.agg (caseC k n b t)] s (fun r s' => ∃ v, r = .v (.bool v) ∧ s' = s ∧ (v = true → k.length ≤ 200 ∧ n.length ≤ 200 ∧ b.length ≤ 200 ∧ t.length ≤ 100)) := by
  refine acalls_body Tryd.func26 rfl Tryd.ntmps26 Tryd.results26 (by simp) ?_
  unfold caseC
  refine awp_reg_frz 1 (by simp [dsts]) ?_
  intro K hK
  simp only [↓AXq_nil, ↓AXq_cons, pval, DX, Nat.reduceBEq, ↓DN, UP, DF, qSh, qCv, qIA, qIx, qSl, qBu, qCe, qOn, reduceCtorEq, ↓reduceIte, nLT, nLE, nEQ, nAdd, nMul, nPow, nSub, zLT, zLE, zNat, RHpk426]
  intro o ho
  refine hK _ _ o _ (by simp only [upd, nEQ, ↓reduceIte]) ho ?_
  clear hK K ho
  rcases ff4 (decide ((k.length : Int) ≤ 200)) (decide ((n.length : Int) ≤ 200)) (decide ((b.length : Int) ≤ 200)) (decide ((t.length : Int) ≤ 100)) with hd | hd | hd | hd | hd
  all_goals
    refine awp_reg_seq ?_
    intro K hK
    simp only [↓DN, UP, DF, qSh, qCv, qIA, qIx, qSl, qBu, qCe, qOn, reduceCtorEq, ↓reduceIte, nLT, nLE, nEQ, nAdd, nMul, nPow, nSub, zLT, zLE, zNat, RHpk426, hd]
    refine hK _ _ ?_
    clear hK K
    refine awp_ret ?_
    simp only [retQ, AEnds, aresL, ares, List.toList_toArray, ↓upd_same]; try simp only [↓DN, UP, DF, qSh, qCv, qIA, qIx, qSl, qBu, qCe, qOn, reduceCtorEq, ↓reduceIte, nLT, nLE, nEQ, nAdd, nMul, nPow, nSub, zLT, zLE, zNat, RHpk426, DT]
    refine ⟨_, _, AV.weak.refl _, AS.le.refl _, _, rfl, rfl, ?_⟩
    intro ht
    try cases ht
  · simp only [decide_eq_true_eq, decide_eq_false_iff_not] at hd
    omega

end Go.Proofs.YtooeklnbdgoneaaDoor


set_option autoImplicit false
namespace Go.Proofs.YtooeklnbdgoneaaDoor
open Go Go.AM Go.Proofs

variable {Γ : Nat → List AV}

theorem case08 {avs : List AV} (h : IsTy (.struct (.cons tyB (.cons tyB (.cons tyB (.cons tyB .nil))))) avs) : ∃ k n b t : List UInt8, avs = caseC k n b t := by
  obtain ⟨x1, y1, rfl, t1, h⟩ := isF_cons (isTy_struct h)
  obtain ⟨x2, y2, rfl, t2, h⟩ := isF_cons h
  obtain ⟨x3, y3, rfl, t3, h⟩ := isF_cons h
  obtain ⟨x4, y4, rfl, t4, h⟩ := isF_cons h
  obtain rfl := isF_nil h
  obtain ⟨l1, rfl, _⟩ := t1.bytes
  obtain ⟨l2, rfl, _⟩ := t2.bytes
  obtain ⟨l3, rfl, _⟩ := t3.bytes
  obtain ⟨l4, rfl, _⟩ := t4.bytes
  exact ⟨l1, l2, l3, l4, rfl⟩
end Go.Proofs.YtooeklnbdgoneaaDoor


set_option autoImplicit false
namespace Go.Proofs.YtooeklnbdgoneaaDoor
open Go Go.AM Go.Proofs

theorem RHpk69 : type_of% (And.intro (And.intro (And.intro (And.intro (And.intro (And.intro @Tryd.underlying3 (And.intro T.c3 T.g3)) (And.intro (And.intro T.b3 T.z3) (And.intro @Tryd.underlying4 T.c4))) (And.intro (And.intro (And.intro T.g4 T.b4) (And.intro T.z4 @Tryd.underlying5)) (And.intro (And.intro T.c5 T.g5) (And.intro T.b5 T.z5)))) (And.intro (And.intro (And.intro @Tryd.underlying9 (And.intro T.c9 T.g9)) (And.intro (And.intro T.b9 T.z9) (And.intro @Tryd.underlying22 T.c22))) (And.intro (And.intro (And.intro T.g22 T.b22) (And.intro T.z22 T.s22)) (And.intro (And.intro @Tryd.underlying30 T.c30) (And.intro T.g30 T.b30))))) (And.intro (And.intro (And.intro (And.intro T.z30 (And.intro @Tryd.underlying41 T.c41)) (And.intro (And.intro T.g41 T.b41) (And.intro T.z41 @Tryd.underlying43))) (And.intro (And.intro (And.intro T.c43 T.g43) (And.intro T.b43 T.z43)) (And.intro (And.intro T.h43 @Tryd.underlying46) (And.intro T.c46 T.g46)))) (And.intro (And.intro (And.intro T.b46 (And.intro T.z46 T.h46)) (And.intro (And.intro T.f43_0 T.f43_1) (And.intro T.f43_2 T.f43_3))) (And.intro (And.intro (And.intro T.f46_1 T.k27) (And.intro T.k25 T.k26)) (And.intro (And.intro T.k31 T.k33) (And.intro T.k29 T.k32)))))) Tryd.ntmps9) :=
  (And.intro (And.intro (And.intro (And.intro (And.intro (And.intro @Tryd.underlying3 (And.intro T.c3 T.g3)) (And.intro (And.intro T.b3 T.z3) (And.intro @Tryd.underlying4 T.c4))) (And.intro (And.intro (And.intro T.g4 T.b4) (And.intro T.z4 @Tryd.underlying5)) (And.intro (And.intro T.c5 T.g5) (And.intro T.b5 T.z5)))) (And.intro (And.intro (And.intro @Tryd.underlying9 (And.intro T.c9 T.g9)) (And.intro (And.intro T.b9 T.z9) (And.intro @Tryd.underlying22 T.c22))) (And.intro (And.intro (And.intro T.g22 T.b22) (And.intro T.z22 T.s22)) (And.intro (And.intro @Tryd.underlying30 T.c30) (And.intro T.g30 T.b30))))) (And.intro (And.intro (And.intro (And.intro T.z30 (And.intro @Tryd.underlying41 T.c41)) (And.intro (And.intro T.g41 T.b41) (And.intro T.z41 @Tryd.underlying43))) (And.intro (And.intro (And.intro T.c43 T.g43) (And.intro T.b43 T.z43)) (And.intro (And.intro T.h43 @Tryd.underlying46) (And.intro T.c46 T.g46)))) (And.intro (And.intro (And.intro T.b46 (And.intro T.z46 T.h46)) (And.intro (And.intro T.f43_0 T.f43_1) (And.intro T.f43_2 T.f43_3))) (And.intro (And.intro (And.intro T.f46_1 T.k27) (And.intro T.k25 T.k26)) (And.intro (And.intro T.k31 T.k33) (And.intro T.k29 T.k32)))))) Tryd.ntmps9)

variable {Γ : Nat → List AV}

theorem pow_swap (a b : Nat) : (3 ^ a % PP) ^ b % PP = (3 ^ b % PP) ^ a % PP := by
  rw [← Nat.pow_mod, ← Nat.pow_mod, ← Nat.pow_mul, ← Nat.pow_mul, Nat.mul_comm]
theorem back_sec (k : Nat) (draw : List UInt8) : osec k (hfrom draw) = hsec (3 ^ k % PP) draw := by
  unfold osec hsec hfrom
  rw [pow_swap]
theorem back_T (k : Nat) (info beside text draw : List UInt8) : hopenT k (hfrom draw) (hsealed (3 ^ k % PP) info beside text draw) info beside = text := by
  unfold hopenT hsealed
  rw [back_sec, opened_sealedT]
theorem back_E (k : Nat) (info beside text draw : List UInt8) : hopenE k (hfrom draw) (hsealed (3 ^ k % PP) info beside text draw) info beside = 0 := by
  unfold hopenE hsealed
  rw [back_sec, opened_sealedE]

set_option maxHeartbeats 4000000 in
set_option maxRecDepth 100000 in
theorem hpkeBack_calls (hG0 : Γ 0 = stC Sha.H0) (hG : Γ 1 = Sha.K.map wV) (secret info beside text draw : List UInt8) (s : AS) :
    ACalls Tryd.prog Γ 9 [bytesV secret .any, .agg (caseC info beside text draw)] s (fun r s' => r = .v (.bool true)) := by
  refine acalls_body Tryd.func9 rfl Tryd.ntmps9 Tryd.results9 (by simp) ?_
  have hsm := fun s => small08_calls (Γ := Γ) info beside text draw s
  unfold caseC at *
  refine awp_reg_frz 3 (by simp [dsts]) ?_
  intro K hK
  simp only [↓AXq_nil, ↓AXq_cons, pval, DX, Nat.reduceBEq, ↓DN, UP, DF, qSh, qCv, qIA, qIx, qSl, qBu, qCe, qOn, reduceCtorEq, ↓reduceIte, nLT, nLE, nEQ, nAdd, nMul, nPow, nSub, zLT, zLE, zNat, RHpk69]
  intro o ho
  refine hK _ _ o _ (by simp only [upd, nEQ, ↓reduceIte]) ho ?_
  clear hK K ho
  refine awp_seq_k ?_
  intro K hK
  refine awp_reg_seq ?_
  intro K hK
  simp only [↓DN, UP, DF, qSh, qCv, qIA, qIx, qSl, qBu, qCe, qOn, reduceCtorEq, ↓reduceIte, nLT, nLE, nEQ, nAdd, nMul, nPow, nSub, zLT, zLE, zNat, RHpk69]
  refine acallk (awake08_calls hG0 hG _) ?_
  rintro r s1 ⟨rfl, rfl⟩
  simp only [↓AXq_nil, ↓AXq_cons, pval, DX, Nat.reduceBEq, ↓DN, UP, DF, qSh, qCv, qIA, qIx, qSl, qBu, qCe, qOn, reduceCtorEq, ↓reduceIte, nLT, nLE, nEQ, nAdd, nMul, nPow, nSub, zLT, zLE, zNat, RHpk69]
  refine acallk (hsm _) ?_
  rintro r s2 ⟨v, rfl, rfl, hv⟩
  have hgo : v = false ∨ (v = true ∧ decide ((100 : Int) < (secret.length : Int)) = true) ∨ (v = true ∧ decide ((100 : Int) < (secret.length : Int)) = false) := by
    cases v <;> cases decide ((100 : Int) < (secret.length : Int)) <;> simp
  rcases hgo with rfl | ⟨rfl, hz⟩ | ⟨rfl, hz⟩
  · simp only [↓AXq_nil, ↓AXq_cons, pval, DX, Nat.reduceBEq, ↓DN, UP, DF, qSh, qCv, qIA, qIx, qSl, qBu, qCe, qOn, reduceCtorEq, ↓reduceIte, nLT, nLE, nEQ, nAdd, nMul, nPow, nSub, zLT, zLE, zNat, RHpk69]
    refine hK _ _ ?_
    clear hK K
    refine awp_cond_k ?_
    intro X Y hX hY
    simp only [↓DN, UP, DF, qSh, qCv, qIA, qIx, qSl, qBu, qCe, qOn, reduceCtorEq, ↓reduceIte, nLT, nLE, nEQ, nAdd, nMul, nPow, nSub, zLT, zLE, zNat, RHpk69, DB]
    refine hX ?_
    clear hX hY X Y
    refine awp_reg_seq ?_
    intro K hK
    simp only [↓DN, UP, DF, qSh, qCv, qIA, qIx, qSl, qBu, qCe, qOn, reduceCtorEq, ↓reduceIte, nLT, nLE, nEQ, nAdd, nMul, nPow, nSub, zLT, zLE, zNat, RHpk69]
    refine acallk (awake08_calls hG0 hG _) ?_
    rintro r s3 ⟨rfl, rfl⟩
    simp only [↓AXq_nil, ↓AXq_cons, pval, DX, Nat.reduceBEq, ↓DN, UP, DF, qSh, qCv, qIA, qIx, qSl, qBu, qCe, qOn, reduceCtorEq, ↓reduceIte, nLT, nLE, nEQ, nAdd, nMul, nPow, nSub, zLT, zLE, zNat, RHpk69]
    refine hK _ _ ?_
    clear hK K
    refine awp_ret ?_
    try simp only [thenQ, blockQ]
    simp only [retQ, AEnds, aresL, ares, List.toList_toArray, ↓upd_same]; try simp only [↓DN, UP, DF, qSh, qCv, qIA, qIx, qSl, qBu, qCe, qOn, reduceCtorEq, ↓reduceIte, nLT, nLE, nEQ, nAdd, nMul, nPow, nSub, zLT, zLE, zNat, RHpk69, DT]
    exact ⟨_, _, AV.weak.refl _, AS.le.refl _, rfl⟩
  · simp only [↓AXq_nil, ↓AXq_cons, pval, DX, Nat.reduceBEq, ↓DN, UP, DF, qSh, qCv, qIA, qIx, qSl, qBu, qCe, qOn, reduceCtorEq, ↓reduceIte, nLT, nLE, nEQ, nAdd, nMul, nPow, nSub, zLT, zLE, zNat, RHpk69, hz]
    refine hK _ _ ?_
    clear hK K
    refine awp_cond_k ?_
    intro X Y hX hY
    simp only [↓DN, UP, DF, qSh, qCv, qIA, qIx, qSl, qBu, qCe, qOn, reduceCtorEq, ↓reduceIte, nLT, nLE, nEQ, nAdd, nMul, nPow, nSub, zLT, zLE, zNat, RHpk69, DB]
    refine hX ?_
    clear hX hY X Y
    refine awp_reg_seq ?_
    intro K hK
    simp only [↓DN, UP, DF, qSh, qCv, qIA, qIx, qSl, qBu, qCe, qOn, reduceCtorEq, ↓reduceIte, nLT, nLE, nEQ, nAdd, nMul, nPow, nSub, zLT, zLE, zNat, RHpk69]
    refine acallk (awake08_calls hG0 hG _) ?_
    rintro r s3 ⟨rfl, rfl⟩
    simp only [↓AXq_nil, ↓AXq_cons, pval, DX, Nat.reduceBEq, ↓DN, UP, DF, qSh, qCv, qIA, qIx, qSl, qBu, qCe, qOn, reduceCtorEq, ↓reduceIte, nLT, nLE, nEQ, nAdd, nMul, nPow, nSub, zLT, zLE, zNat, RHpk69]
    refine hK _ _ ?_
    clear hK K
    refine awp_ret ?_
    try simp only [thenQ, blockQ]
    simp only [retQ, AEnds, aresL, ares, List.toList_toArray, ↓upd_same]; try simp only [↓DN, UP, DF, qSh, qCv, qIA, qIx, qSl, qBu, qCe, qOn, reduceCtorEq, ↓reduceIte, nLT, nLE, nEQ, nAdd, nMul, nPow, nSub, zLT, zLE, zNat, RHpk69, DT]
    exact ⟨_, _, AV.weak.refl _, AS.le.refl _, rfl⟩
  · obtain ⟨hi, hb, ht, hd⟩ := hv rfl
    clear hv hsm
    simp only [↓AXq_nil, ↓AXq_cons, pval, DX, Nat.reduceBEq, ↓DN, UP, DF, qSh, qCv, qIA, qIx, qSl, qBu, qCe, qOn, reduceCtorEq, ↓reduceIte, nLT, nLE, nEQ, nAdd, nMul, nPow, nSub, zLT, zLE, zNat, RHpk69, hz]
    refine hK _ _ ?_
    clear hK K
    refine awp_cond_k ?_
    intro X Y hX hY
    simp only [↓DN, UP, DF, qSh, qCv, qIA, qIx, qSl, qBu, qCe, qOn, reduceCtorEq, ↓reduceIte, nLT, nLE, nEQ, nAdd, nMul, nPow, nSub, zLT, zLE, zNat, RHpk69, DB]
    refine hY ?_
    clear hX hY X Y
    refine awp_skip ?_
    refine hK _ _ ?_
    clear hK K
    have hzl : secret.length ≤ 100 := by simp only [decide_eq_false_iff_not] at hz; omega
    have hkl := powKey_lt secret
    have hk1 := powKey_pos secret
    have hel := powKey_lt draw
    have c0 := fun s => refKey07_calls (Γ := Γ) secret (by omega) s
    have c1 := fun s => refPublic07_calls (Γ := Γ) (powKey secret) (by omega) s
    have d0 := fun s => refKey07_calls (Γ := Γ) draw (by omega) s
    have d1 := fun s => refPublic07_calls (Γ := Γ) (powKey draw) (by omega) s
    simp only [show 3 ^ powKey draw % PP = hfrom draw from rfl] at d1
    have c2 := fun (hp : pubOk (3 ^ powKey secret % PP)) s => hseal_ok (Γ := Γ) hG0 hG (3 ^ powKey secret % PP) hp info beside text draw (by omega) (by omega) (by omega) (by omega) s
    have c2b := fun (hp : ¬ pubOk (3 ^ powKey secret % PP)) s => hseal_bad (Γ := Γ) (3 ^ powKey secret % PP) hp info beside text draw s
    have hzl : (hsealed (3 ^ powKey secret % PP) info beside text draw).length = text.length + 16 := sealed_len _ _ _ _
    have c3 := fun (hf : pubOk (hfrom draw)) s => hopen_ok (Γ := Γ) hG0 hG (powKey secret) (hfrom draw) ⟨hf, by omega, by omega⟩ (hsealed (3 ^ powKey secret % PP) info beside text draw) info beside (by omega) (by omega) (by omega) s
    rw [back_T, back_E] at c3
    generalize hsealed (3 ^ powKey secret % PP) info beside text draw = z at *
    generalize 3 ^ powKey secret % PP = pub at *
    generalize hfrom draw = f at *
    generalize powKey secret = k at *
    generalize powKey draw = e at *
    have r1 := fun s => refRight07_calls (Γ := Γ) pub s
    have r2 := fun s => refRight07_calls (Γ := Γ) f s
    refine awp_reg_seq ?_
    intro K hK
    simp only [↓DN, UP, DF, qSh, qCv, qIA, qIx, qSl, qBu, qCe, qOn, reduceCtorEq, ↓reduceIte, nLT, nLE, nEQ, nAdd, nMul, nPow, nSub, zLT, zLE, zNat, RHpk69]
    refine acallk (c0 _) ?_
    rintro r s3 ⟨rfl, rfl⟩
    simp only [↓AXq_nil, ↓AXq_cons, pval, DX, Nat.reduceBEq, ↓DN, UP, DF, qSh, qCv, qIA, qIx, qSl, qBu, qCe, qOn, reduceCtorEq, ↓reduceIte, nLT, nLE, nEQ, nAdd, nMul, nPow, nSub, zLT, zLE, zNat, RHpk69]
    refine hK _ _ ?_
    clear hK K
    by_cases hp : pubOk pub
    · rw [pub_test hp] at r1
      refine awp_drf_seq T.mixed [14, 15] [(1, .v (.int .u64 pub)), (10, .tup [.agg [.v (.int .u64 f), bytesV z .any], .v (.int .i64 ((0 : Nat) : Int))])] [14] (by kernel_rfl) ?_
      intro K hK
      simp only [↓AXz_nil, ↓AXz_cons, ↓AGiv_call, glook_nil, glook_cons, pval, DX, Nat.reduceBEq, List.toList_toArray, List.map_cons, List.map_nil, aeval, ↓DN, UP, DF, qSh, qCv, qIA, qIx, qSl, qBu, qCe, qOn, reduceCtorEq, ↓reduceIte, nLT, nLE, nEQ, nAdd, nMul, nPow, nSub, zLT, zLE, zNat, RHpk69]
      refine agivk c1 (agivk (c2 hp) ?_)
      intro o2 ho2
      refine hK _ _ ?_
      clear hK K
      refine awp_seq_k ?_
      intro K hK
      refine awp_reg_seq ?_
      intro K hK
      simp only [↓DN, UP, DF, qSh, qCv, qIA, qIx, qSl, qBu, qCe, qOn, reduceCtorEq, ↓reduceIte, nLT, nLE, nEQ, nAdd, nMul, nPow, nSub, zLT, zLE, zNat, RHpk69]
      refine acallk (c1 _) ?_
      rintro r s6 ⟨rfl, rfl⟩
      simp only [↓AXq_nil, ↓AXq_cons, pval, ↓AXz_nil, ↓AXz_cons, ↓AGiv_call, glook_nil, glook_cons, pval, DX, Nat.reduceBEq, List.toList_toArray, List.map_cons, List.map_nil, aeval, DX, Nat.reduceBEq, ↓DN, UP, DF, qSh, qCv, qIA, qIx, qSl, qBu, qCe, qOn, reduceCtorEq, ↓reduceIte, nLT, nLE, nEQ, nAdd, nMul, nPow, nSub, zLT, zLE, zNat, RHpk69]
      refine acallk (r1 _) ?_
      rintro r s7 ⟨rfl, rfl⟩
      simp only [↓AXq_nil, ↓AXq_cons, pval, ↓AXz_nil, ↓AXz_cons, ↓AGiv_call, glook_nil, glook_cons, pval, DX, Nat.reduceBEq, List.toList_toArray, List.map_cons, List.map_nil, aeval, DX, Nat.reduceBEq, ↓DN, UP, DF, qSh, qCv, qIA, qIx, qSl, qBu, qCe, qOn, reduceCtorEq, ↓reduceIte, nLT, nLE, nEQ, nAdd, nMul, nPow, nSub, zLT, zLE, zNat, RHpk69]
      refine acallk (d0 _) ?_
      rintro r s8 ⟨rfl, rfl⟩
      simp only [↓AXq_nil, ↓AXq_cons, pval, ↓AXz_nil, ↓AXz_cons, ↓AGiv_call, glook_nil, glook_cons, pval, DX, Nat.reduceBEq, List.toList_toArray, List.map_cons, List.map_nil, aeval, DX, Nat.reduceBEq, ↓DN, UP, DF, qSh, qCv, qIA, qIx, qSl, qBu, qCe, qOn, reduceCtorEq, ↓reduceIte, nLT, nLE, nEQ, nAdd, nMul, nPow, nSub, zLT, zLE, zNat, RHpk69]
      refine acallk (d1 _) ?_
      rintro r s9 ⟨rfl, rfl⟩
      simp only [↓AXq_nil, ↓AXq_cons, pval, ↓AXz_nil, ↓AXz_cons, ↓AGiv_call, glook_nil, glook_cons, pval, DX, Nat.reduceBEq, List.toList_toArray, List.map_cons, List.map_nil, aeval, DX, Nat.reduceBEq, ↓DN, UP, DF, qSh, qCv, qIA, qIx, qSl, qBu, qCe, qOn, reduceCtorEq, ↓reduceIte, nLT, nLE, nEQ, nAdd, nMul, nPow, nSub, zLT, zLE, zNat, RHpk69]
      refine acallk (r2 _) ?_
      rintro r s10 ⟨rfl, rfl⟩
      by_cases hf : pubOk f
      · rw [pub_test hf]
        simp only [↓AXq_nil, ↓AXq_cons, pval, ↓AXz_nil, ↓AXz_cons, ↓AGiv_call, glook_nil, glook_cons, pval, DX, Nat.reduceBEq, List.toList_toArray, List.map_cons, List.map_nil, aeval, DX, Nat.reduceBEq, ↓DN, UP, DF, qSh, qCv, qIA, qIx, qSl, qBu, qCe, qOn, reduceCtorEq, ↓reduceIte, nLT, nLE, nEQ, nAdd, nMul, nPow, nSub, zLT, zLE, zNat, RHpk69]
        refine hK _ _ ?_
        clear hK K
        refine awp_cond_k ?_
        intro X Y hX hY
        simp only [↓DN, UP, DF, qSh, qCv, qIA, qIx, qSl, qBu, qCe, qOn, reduceCtorEq, ↓reduceIte, nLT, nLE, nEQ, nAdd, nMul, nPow, nSub, zLT, zLE, zNat, RHpk69, DB]
        refine hY ?_
        clear hX hY X Y
        refine awp_skip ?_
        refine hK _ _ ?_
        clear hK K
        refine awp_reg_seq ?_
        intro K hK
        simp only [↓DN, UP, DF, qSh, qCv, qIA, qIx, qSl, qBu, qCe, qOn, reduceCtorEq, ↓reduceIte, nLT, nLE, nEQ, nAdd, nMul, nPow, nSub, zLT, zLE, zNat, RHpk69]
        refine acallk (c3 hf _) ?_
        rintro r s11 ⟨rfl, rfl⟩
        simp only [↓AXq_nil, ↓AXq_cons, pval, DX, Nat.reduceBEq, ↓DN, UP, DF, qSh, qCv, qIA, qIx, qSl, qBu, qCe, qOn, reduceCtorEq, ↓reduceIte, nLT, nLE, nEQ, nAdd, nMul, nPow, nSub, zLT, zLE, zNat, RHpk69]
        refine hK _ _ ?_
        clear hK K
        have hadd : iadd .i64 (text.length : Int) 16 = ((text.length + 16 : Nat) : Int) := by rw [iadd_i64 (by omega)]; omega
        refine awp_reg_seq ?_
        intro K hK
        simp only [↓DN, UP, DF, qSh, qCv, qIA, qIx, qSl, qBu, qCe, qOn, reduceCtorEq, ↓reduceIte, nLT, nLE, nEQ, nAdd, nMul, nPow, nSub, zLT, zLE, zNat, RHpk69, show (((0 : Nat) : Int) == 0) = true from rfl, hadd, hzl, show (((text.length + 16 : Nat) : Int) == ((text.length + 16 : Nat) : Int)) = true from by simp]
        refine hK _ _ ?_
        clear hK K
        refine awp_ret ?_
        simp only [retQ, AEnds, aresL, ares, List.toList_toArray, ↓upd_same]; try simp only [↓DN, UP, DF, qSh, qCv, qIA, qIx, qSl, qBu, qCe, qOn, reduceCtorEq, ↓reduceIte, nLT, nLE, nEQ, nAdd, nMul, nPow, nSub, zLT, zLE, zNat, RHpk69, DT]
        exact ⟨_, _, AV.weak.refl _, AS.le.refl _, rfl⟩
      · rw [pub_testF hf]
        simp only [↓AXq_nil, ↓AXq_cons, pval, DX, Nat.reduceBEq, ↓DN, UP, DF, qSh, qCv, qIA, qIx, qSl, qBu, qCe, qOn, reduceCtorEq, ↓reduceIte, nLT, nLE, nEQ, nAdd, nMul, nPow, nSub, zLT, zLE, zNat, RHpk69]
        refine hK _ _ ?_
        clear hK K
        refine awp_cond_k ?_
        intro X Y hX hY
        simp only [↓DN, UP, DF, qSh, qCv, qIA, qIx, qSl, qBu, qCe, qOn, reduceCtorEq, ↓reduceIte, nLT, nLE, nEQ, nAdd, nMul, nPow, nSub, zLT, zLE, zNat, RHpk69, DB]
        refine hX ?_
        clear hX hY X Y
        refine awp_reg_seq ?_
        intro K hK
        simp only [↓DN, UP, DF, qSh, qCv, qIA, qIx, qSl, qBu, qCe, qOn, reduceCtorEq, ↓reduceIte, nLT, nLE, nEQ, nAdd, nMul, nPow, nSub, zLT, zLE, zNat, RHpk69]
        refine hK _ _ ?_
        clear hK K
        refine awp_ret ?_
        try simp only [thenQ, blockQ]
        simp only [retQ, AEnds, aresL, ares, List.toList_toArray, ↓upd_same]; try simp only [↓DN, UP, DF, qSh, qCv, qIA, qIx, qSl, qBu, qCe, qOn, reduceCtorEq, ↓reduceIte, nLT, nLE, nEQ, nAdd, nMul, nPow, nSub, zLT, zLE, zNat, RHpk69, DT]
        exact ⟨_, _, AV.weak.refl _, AS.le.refl _, rfl⟩
    · rw [pub_testF hp] at r1
      refine awp_drf_seq T.mixed [14, 15] [(1, .v (.int .u64 pub)), (10, .tup [.agg [.v (.int .u64 ((0 : Nat) : Int)), bytesV [] .any], .v (.int .i64 ((30 : Nat) : Int))])] [14] (by kernel_rfl) ?_
      intro K hK
      simp only [↓AXz_nil, ↓AXz_cons, ↓AGiv_call, glook_nil, glook_cons, pval, DX, Nat.reduceBEq, List.toList_toArray, List.map_cons, List.map_nil, aeval, ↓DN, UP, DF, qSh, qCv, qIA, qIx, qSl, qBu, qCe, qOn, reduceCtorEq, ↓reduceIte, nLT, nLE, nEQ, nAdd, nMul, nPow, nSub, zLT, zLE, zNat, RHpk69]
      refine agivk c1 (agivk (c2b hp) ?_)
      intro o2 ho2
      refine hK _ _ ?_
      clear hK K
      refine awp_seq_k ?_
      intro K hK
      refine awp_reg_seq ?_
      intro K hK
      simp only [↓DN, UP, DF, qSh, qCv, qIA, qIx, qSl, qBu, qCe, qOn, reduceCtorEq, ↓reduceIte, nLT, nLE, nEQ, nAdd, nMul, nPow, nSub, zLT, zLE, zNat, RHpk69]
      refine acallk (c1 _) ?_
      rintro r s6 ⟨rfl, rfl⟩
      simp only [↓AXq_nil, ↓AXq_cons, pval, ↓AXz_nil, ↓AXz_cons, ↓AGiv_call, glook_nil, glook_cons, pval, DX, Nat.reduceBEq, List.toList_toArray, List.map_cons, List.map_nil, aeval, DX, Nat.reduceBEq, ↓DN, UP, DF, qSh, qCv, qIA, qIx, qSl, qBu, qCe, qOn, reduceCtorEq, ↓reduceIte, nLT, nLE, nEQ, nAdd, nMul, nPow, nSub, zLT, zLE, zNat, RHpk69]
      refine acallk (r1 _) ?_
      rintro r s7 ⟨rfl, rfl⟩
      simp only [↓AXq_nil, ↓AXq_cons, pval, ↓AXz_nil, ↓AXz_cons, ↓AGiv_call, glook_nil, glook_cons, pval, DX, Nat.reduceBEq, List.toList_toArray, List.map_cons, List.map_nil, aeval, DX, Nat.reduceBEq, ↓DN, UP, DF, qSh, qCv, qIA, qIx, qSl, qBu, qCe, qOn, reduceCtorEq, ↓reduceIte, nLT, nLE, nEQ, nAdd, nMul, nPow, nSub, zLT, zLE, zNat, RHpk69]
      refine hK _ _ ?_
      clear hK K
      refine awp_cond_k ?_
      intro X Y hX hY
      simp only [↓DN, UP, DF, qSh, qCv, qIA, qIx, qSl, qBu, qCe, qOn, reduceCtorEq, ↓reduceIte, nLT, nLE, nEQ, nAdd, nMul, nPow, nSub, zLT, zLE, zNat, RHpk69, DB]
      refine hX ?_
      clear hX hY X Y
      refine awp_reg_seq ?_
      intro K hK
      simp only [↓DN, UP, DF, qSh, qCv, qIA, qIx, qSl, qBu, qCe, qOn, reduceCtorEq, ↓reduceIte, nLT, nLE, nEQ, nAdd, nMul, nPow, nSub, zLT, zLE, zNat, RHpk69]
      refine hK _ _ ?_
      clear hK K
      refine awp_ret ?_
      try simp only [thenQ, blockQ]
      simp only [retQ, AEnds, aresL, ares, List.toList_toArray, ↓upd_same]; try simp only [↓DN, UP, DF, qSh, qCv, qIA, qIx, qSl, qBu, qCe, qOn, reduceCtorEq, ↓reduceIte, nLT, nLE, nEQ, nAdd, nMul, nPow, nSub, zLT, zLE, zNat, RHpk69, DT]
      exact ⟨_, _, AV.weak.refl _, AS.le.refl _, rfl⟩

end Go.Proofs.YtooeklnbdgoneaaDoor


set_option autoImplicit false
namespace Go.Proofs.YtooeklnbdgoneaaDoor
open Go Go.AM Go.Proofs



/-- The given tables, as words. -/
def Γd (g : Nat) : List AV := if g = 0 then [wV Sha.H0.a, wV Sha.H0.b, wV Sha.H0.c, wV Sha.H0.d, wV Sha.H0.e, wV Sha.H0.f, wV Sha.H0.g, wV Sha.H0.h] else if g = 1 then Sha.K.map wV else []
abbrev laidD : List (String × DataW Unit) := [("engrosser/sha.rounds", Rows.laid_engrosser_sha_rounds), ("engrosser/sha.start", Rows.laid_engrosser_sha_start)]

theorem ints_of_trod {H : Type} {enc : TypeId × Value → H} {P : Program} {W : World} {base : Nat} {sp : Nat → Bool} {held : Bool} {fuel : Nat} {t e : TypeId} {n : Nat} {cs : List Value} {p : List MemPlace} {l : List Nat}
    (hT : P.underlying t = some (.array n e)) (he : P.underlying e = some (.int .u32)) (hc : P.cellsOf e = 1)
    (h : DataW.trod enc P W base sp held fuel t cs = some (.agg (l.map fun (x : Nat) => .lit (.int .u32 (x : Int))), p)) : ∀ (i x : Nat), l[i]? = some x → cs[i]? = some (.int .u32 (x : Int)) := by
  obtain ⟨xs, m, rfl, hx, hlen, hn, hel⟩ := DataW.trod_array hT h
  simp only [Prod.mk.injEq, DataW.agg.injEq] at hx
  intro i x hi
  have h1 : (l.map fun (x : Nat) => DataW.lit (H := H) (.int .u32 (x : Int)))[i]? = some (.lit (.int .u32 (x : Int))) := by rw [List.getElem?_map, hi]; rfl
  rw [hx.1, List.getElem?_map] at h1
  cases hy : xs[i]? with
  | none => rw [hy] at h1; cases h1
  | some y =>
    rw [hy] at h1
    simp only [Option.map_some, Option.some.injEq] at h1
    have hlt := (List.getElem?_eq_some_iff.1 hy).1
    have h2 := hel i (by omega)
    rw [hy, hc, Nat.mul_one] at h2
    obtain ⟨k, e1, e2, _⟩ := DataW.trod_int he h2
    rw [e2] at h1
    simp only [DataW.lit.injEq, Lit.int.injEq, true_and] at h1
    have h3 : (List.take 1 (List.drop i cs))[0]? = some (.int .u32 k) := by rw [e1]; rfl
    rw [List.getElem?_take, if_pos (by decide), List.getElem?_drop, Nat.add_zero, h1] at h3
    exact h3

theorem gRounds : Tryd.prog.globalNamed "engrosser/sha.rounds" = some 1 := by kernel_rfl
theorem gStart : Tryd.prog.globalNamed "engrosser/sha.start" = some 0 := by kernel_rfl
theorem tRounds : (Tryd.prog.globals[1]?).map (·.type) = some 133 := by kernel_rfl
theorem tStart : (Tryd.prog.globals[0]?).map (·.type) = some 114 := by kernel_rfl

theorem words_at {W : World} {g : Nat} {cs : Array Value} {l : List Nat} (hc : ∀ i, W.cell? ⟨g, i, none⟩ = cs[i]?) (h : ∀ (i x : Nat), l[i]? = some x → cs.toList[i]? = some (.int .u32 (x : Int))) :
    ∃ vs, VRels (G0 W) (l.map wV) vs ∧ RoAt (G0 W) g 0 vs := by
  refine ⟨l.map fun (x : Nat) => .int .u32 (x : Int), ?_, ?_⟩
  · have := VRels.vals (G := G0 W) (l.map fun (x : Nat) => Value.int .u32 (x : Int))
    rwa [List.map_map] at this
  · intro j u hu
    rw [List.getElem?_map] at hu
    cases hj : l[j]? with
    | none => rw [hj] at hu; cases hu
    | some x =>
      rw [hj] at hu
      simp only [Option.map_some, Option.some.injEq] at hu
      have := h j x hj
      show W.cell? ⟨g, 0 + j, none⟩ = some u
      rw [Nat.zero_add, hc j, ← hu]
      simpa using this

/-- What the condition gives the walks: the two tables' cells. -/
theorem of_laid {W : World} (h : laidMetH Tryd.prog laidD W) : ∀ g, ∃ vs, VRels (G0 W) (Γd g) vs ∧ RoAt (G0 W) g 0 vs := by
  rw [MakeChecks.laidMetH_plain _ _ _ (by kernel_rfl)] at h
  obtain ⟨ps, ⟨g0, t0, cs0, f0, p0, q0, hg0, ht0, hv0, hd0, ⟨g1, t1, cs1, f1, p1, q1, hg1, ht1, hv1, hd1, _, _⟩, _⟩, _, _⟩ := h
  obtain rfl := Option.some.inj (gRounds.symm.trans hg0)
  obtain rfl := Option.some.inj (gStart.symm.trans hg1)
  obtain rfl := Option.some.inj (tRounds.symm.trans ht0)
  obtain rfl := Option.some.inj (tStart.symm.trans ht1)
  have h1 := words_at (World.var?_cell hg0 hv0) (ints_of_trod (l := Sha.K) Tryd.underlying133 Tryd.underlying81 T.c81 hd0)
  have h0 := words_at (World.var?_cell hg1 hv1) (ints_of_trod (l := Sha.H0.list) Tryd.underlying114 Tryd.underlying81 T.c81 hd1)
  intro g
  by_cases e0 : g = 0
  · subst e0; exact h0
  · by_cases e1 : g = 1
    · subst e1; exact h1
    · refine ⟨[], ?_, fun j u h => by simp at h⟩
      simp [Γd, e0, e1, VRels]

/-- The door's own heap meets the condition. -/
theorem door_met (os : Os) (args : Array Value) : laidMetH Tryd.prog laidD ((World.doorLaid Tryd.prog 400 os).forCall (fun _ _ => 0) ⟨#[], args, []⟩).memory := by
  rw [MakeChecks.laidMetH_plain _ _ _ (by kernel_rfl)]
  exact laidMet_of_run' 8 (by kernel_rfl) (by kernel_rfl)

end Go.Proofs.YtooeklnbdgoneaaDoor


set_option autoImplicit false
namespace Go.Proofs.YtooeklnbdgoneaaDoor
/-! ### The words of the translation's head, read once -/
set_option maxRecDepth 100000
def signs : List Char := [Char.ofNat 104, Char.ofNat 97, Char.ofNat 114, Char.ofNat 110, Char.ofNat 101, Char.ofNat 115, Char.ofNat 115, Char.ofNat 32, Char.ofNat 52, Char.ofNat 99, Char.ofNat 100, Char.ofNat 54, Char.ofNat 101, Char.ofNat 102, Char.ofNat 48, Char.ofNat 101, Char.ofNat 99, Char.ofNat 55, Char.ofNat 97, Char.ofNat 56, Char.ofNat 56, Char.ofNat 100, Char.ofNat 49, Char.ofNat 57, Char.ofNat 102, Char.ofNat 100, Char.ofNat 55, Char.ofNat 97, Char.ofNat 100, Char.ofNat 53, Char.ofNat 51, Char.ofNat 97, Char.ofNat 51, Char.ofNat 49, Char.ofNat 100, Char.ofNat 99, Char.ofNat 48, Char.ofNat 50, Char.ofNat 51, Char.ofNat 48, Char.ofNat 98, Char.ofNat 56, Char.ofNat 51, Char.ofNat 102, Char.ofNat 98, Char.ofNat 50, Char.ofNat 55, Char.ofNat 100, Char.ofNat 101, Char.ofNat 100, Char.ofNat 50, Char.ofNat 55, Char.ofNat 53, Char.ofNat 56, Char.ofNat 100, Char.ofNat 49, Char.ofNat 49, Char.ofNat 48, Char.ofNat 99, Char.ofNat 100, Char.ofNat 102, Char.ofNat 53, Char.ofNat 98, Char.ofNat 57, Char.ofNat 50, Char.ofNat 54, Char.ofNat 54, Char.ofNat 57, Char.ofNat 52, Char.ofNat 100, Char.ofNat 98, Char.ofNat 57, Char.ofNat 32, Char.ofNat 99, Char.ofNat 117, Char.ofNat 116, Char.ofNat 32, Char.ofNat 97, Char.ofNat 116, Char.ofNat 32, Char.ofNat 101, Char.ofNat 110, Char.ofNat 103, Char.ofNat 114, Char.ofNat 111, Char.ofNat 115, Char.ofNat 115, Char.ofNat 101, Char.ofNat 114, Char.ofNat 47, Char.ofNat 101, Char.ofNat 110, Char.ofNat 103, Char.ofNat 114, Char.ofNat 111, Char.ofNat 115, Char.ofNat 115, Char.ofNat 101, Char.ofNat 114, Char.ofNat 108, Char.ofNat 97, Char.ofNat 119, Char.ofNat 48, Char.ofNat 51, Char.ofNat 46, Char.ofNat 77, Char.ofNat 97, Char.ofNat 99, Char.ofNat 78, Char.ofNat 111, Char.ofNat 117, Char.ofNat 103, Char.ofNat 104, Char.ofNat 116, Char.ofNat 115, Char.ofNat 32, Char.ofNat 101, Char.ofNat 110, Char.ofNat 103, Char.ofNat 114, Char.ofNat 111, Char.ofNat 115, Char.ofNat 115, Char.ofNat 101, Char.ofNat 114, Char.ofNat 47, Char.ofNat 101, Char.ofNat 110, Char.ofNat 103, Char.ofNat 114, Char.ofNat 111, Char.ofNat 115, Char.ofNat 115, Char.ofNat 101, Char.ofNat 114, Char.ofNat 108, Char.ofNat 97, Char.ofNat 119, Char.ofNat 49, Char.ofNat 55, Char.ofNat 46, Char.ofNat 86, Char.ofNat 97, Char.ofNat 117, Char.ofNat 108, Char.ofNat 116, Char.ofNat 87, Char.ofNat 114, Char.ofNat 97, Char.ofNat 112, Char.ofNat 115, Char.ofNat 32, Char.ofNat 101, Char.ofNat 110, Char.ofNat 103, Char.ofNat 114, Char.ofNat 111, Char.ofNat 115, Char.ofNat 115, Char.ofNat 101, Char.ofNat 114, Char.ofNat 47, Char.ofNat 101, Char.ofNat 110, Char.ofNat 103, Char.ofNat 114, Char.ofNat 111, Char.ofNat 115, Char.ofNat 115, Char.ofNat 101, Char.ofNat 114, Char.ofNat 108, Char.ofNat 97, Char.ofNat 119, Char.ofNat 49, Char.ofNat 55, Char.ofNat 46, Char.ofNat 86, Char.ofNat 97, Char.ofNat 117, Char.ofNat 108, Char.ofNat 116, Char.ofNat 85, Char.ofNat 110, Char.ofNat 119, Char.ofNat 114, Char.ofNat 97, Char.ofNat 112, Char.ofNat 115, Char.ofNat 32, Char.ofNat 101, Char.ofNat 110, Char.ofNat 103, Char.ofNat 114, Char.ofNat 111, Char.ofNat 115, Char.ofNat 115, Char.ofNat 101, Char.ofNat 114, Char.ofNat 47, Char.ofNat 101, Char.ofNat 110, Char.ofNat 103, Char.ofNat 114, Char.ofNat 111, Char.ofNat 115, Char.ofNat 115, Char.ofNat 101, Char.ofNat 114, Char.ofNat 108, Char.ofNat 97, Char.ofNat 119, Char.ofNat 49, Char.ofNat 55, Char.ofNat 46, Char.ofNat 86, Char.ofNat 97, Char.ofNat 117, Char.ofNat 108, Char.ofNat 116, Char.ofNat 67, Char.ofNat 111, Char.ofNat 110, Char.ofNat 116, Char.ofNat 101, Char.ofNat 120, Char.ofNat 116, Char.ofNat 115, Char.ofNat 32, Char.ofNat 101, Char.ofNat 110, Char.ofNat 103, Char.ofNat 114, Char.ofNat 111, Char.ofNat 115, Char.ofNat 115, Char.ofNat 101, Char.ofNat 114, Char.ofNat 47, Char.ofNat 101, Char.ofNat 110, Char.ofNat 103, Char.ofNat 114, Char.ofNat 111, Char.ofNat 115, Char.ofNat 115, Char.ofNat 101, Char.ofNat 114, Char.ofNat 108, Char.ofNat 97, Char.ofNat 119, Char.ofNat 48, Char.ofNat 56, Char.ofNat 46, Char.ofNat 72, Char.ofNat 112, Char.ofNat 107, Char.ofNat 101, Char.ofNat 83, Char.ofNat 101, Char.ofNat 97, Char.ofNat 108, Char.ofNat 115, Char.ofNat 32, Char.ofNat 101, Char.ofNat 110, Char.ofNat 103, Char.ofNat 114, Char.ofNat 111, Char.ofNat 115, Char.ofNat 115, Char.ofNat 101, Char.ofNat 114, Char.ofNat 47, Char.ofNat 101, Char.ofNat 110, Char.ofNat 103, Char.ofNat 114, Char.ofNat 111, Char.ofNat 115, Char.ofNat 115, Char.ofNat 101, Char.ofNat 114, Char.ofNat 108, Char.ofNat 97, Char.ofNat 119, Char.ofNat 48, Char.ofNat 56, Char.ofNat 46, Char.ofNat 72, Char.ofNat 112, Char.ofNat 107, Char.ofNat 101, Char.ofNat 79, Char.ofNat 112, Char.ofNat 101, Char.ofNat 110, Char.ofNat 115, Char.ofNat 32, Char.ofNat 101, Char.ofNat 110, Char.ofNat 103, Char.ofNat 114, Char.ofNat 111, Char.ofNat 115, Char.ofNat 115, Char.ofNat 101, Char.ofNat 114, Char.ofNat 47, Char.ofNat 101, Char.ofNat 110, Char.ofNat 103, Char.ofNat 114, Char.ofNat 111, Char.ofNat 115, Char.ofNat 115, Char.ofNat 101, Char.ofNat 114, Char.ofNat 108, Char.ofNat 97, Char.ofNat 119, Char.ofNat 48, Char.ofNat 56, Char.ofNat 46, Char.ofNat 72, Char.ofNat 112, Char.ofNat 107, Char.ofNat 101, Char.ofNat 66, Char.ofNat 97, Char.ofNat 99, Char.ofNat 107, Char.ofNat 32, Char.ofNat 101, Char.ofNat 110, Char.ofNat 103, Char.ofNat 114, Char.ofNat 111, Char.ofNat 115, Char.ofNat 115, Char.ofNat 101, Char.ofNat 114, Char.ofNat 47, Char.ofNat 101, Char.ofNat 110, Char.ofNat 103, Char.ofNat 114, Char.ofNat 111, Char.ofNat 115, Char.ofNat 115, Char.ofNat 101, Char.ofNat 114, Char.ofNat 108, Char.ofNat 97, Char.ofNat 119, Char.ofNat 48, Char.ofNat 56, Char.ofNat 46, Char.ofNat 72, Char.ofNat 112, Char.ofNat 107, Char.ofNat 101, Char.ofNat 82, Char.ofNat 101, Char.ofNat 97, Char.ofNat 100, Char.ofNat 115]
def headWords : List (List Char) := [[Char.ofNat 104, Char.ofNat 97, Char.ofNat 114, Char.ofNat 110, Char.ofNat 101, Char.ofNat 115, Char.ofNat 115],
  [Char.ofNat 52, Char.ofNat 99, Char.ofNat 100, Char.ofNat 54, Char.ofNat 101, Char.ofNat 102, Char.ofNat 48, Char.ofNat 101, Char.ofNat 99, Char.ofNat 55, Char.ofNat 97, Char.ofNat 56, Char.ofNat 56, Char.ofNat 100, Char.ofNat 49, Char.ofNat 57, Char.ofNat 102, Char.ofNat 100, Char.ofNat 55, Char.ofNat 97, Char.ofNat 100, Char.ofNat 53, Char.ofNat 51, Char.ofNat 97, Char.ofNat 51, Char.ofNat 49, Char.ofNat 100, Char.ofNat 99, Char.ofNat 48, Char.ofNat 50, Char.ofNat 51, Char.ofNat 48, Char.ofNat 98, Char.ofNat 56, Char.ofNat 51, Char.ofNat 102, Char.ofNat 98, Char.ofNat 50, Char.ofNat 55, Char.ofNat 100, Char.ofNat 101, Char.ofNat 100, Char.ofNat 50, Char.ofNat 55, Char.ofNat 53, Char.ofNat 56, Char.ofNat 100, Char.ofNat 49, Char.ofNat 49, Char.ofNat 48, Char.ofNat 99, Char.ofNat 100, Char.ofNat 102, Char.ofNat 53, Char.ofNat 98, Char.ofNat 57, Char.ofNat 50, Char.ofNat 54, Char.ofNat 54, Char.ofNat 57, Char.ofNat 52, Char.ofNat 100, Char.ofNat 98, Char.ofNat 57],
  [Char.ofNat 99, Char.ofNat 117, Char.ofNat 116],
  [Char.ofNat 97, Char.ofNat 116],
  [Char.ofNat 101, Char.ofNat 110, Char.ofNat 103, Char.ofNat 114, Char.ofNat 111, Char.ofNat 115, Char.ofNat 115, Char.ofNat 101, Char.ofNat 114, Char.ofNat 47, Char.ofNat 101, Char.ofNat 110, Char.ofNat 103, Char.ofNat 114, Char.ofNat 111, Char.ofNat 115, Char.ofNat 115, Char.ofNat 101, Char.ofNat 114, Char.ofNat 108, Char.ofNat 97, Char.ofNat 119, Char.ofNat 48, Char.ofNat 51, Char.ofNat 46, Char.ofNat 77, Char.ofNat 97, Char.ofNat 99, Char.ofNat 78, Char.ofNat 111, Char.ofNat 117, Char.ofNat 103, Char.ofNat 104, Char.ofNat 116, Char.ofNat 115],
  [Char.ofNat 101, Char.ofNat 110, Char.ofNat 103, Char.ofNat 114, Char.ofNat 111, Char.ofNat 115, Char.ofNat 115, Char.ofNat 101, Char.ofNat 114, Char.ofNat 47, Char.ofNat 101, Char.ofNat 110, Char.ofNat 103, Char.ofNat 114, Char.ofNat 111, Char.ofNat 115, Char.ofNat 115, Char.ofNat 101, Char.ofNat 114, Char.ofNat 108, Char.ofNat 97, Char.ofNat 119, Char.ofNat 49, Char.ofNat 55, Char.ofNat 46, Char.ofNat 86, Char.ofNat 97, Char.ofNat 117, Char.ofNat 108, Char.ofNat 116, Char.ofNat 87, Char.ofNat 114, Char.ofNat 97, Char.ofNat 112, Char.ofNat 115],
  [Char.ofNat 101, Char.ofNat 110, Char.ofNat 103, Char.ofNat 114, Char.ofNat 111, Char.ofNat 115, Char.ofNat 115, Char.ofNat 101, Char.ofNat 114, Char.ofNat 47, Char.ofNat 101, Char.ofNat 110, Char.ofNat 103, Char.ofNat 114, Char.ofNat 111, Char.ofNat 115, Char.ofNat 115, Char.ofNat 101, Char.ofNat 114, Char.ofNat 108, Char.ofNat 97, Char.ofNat 119, Char.ofNat 49, Char.ofNat 55, Char.ofNat 46, Char.ofNat 86, Char.ofNat 97, Char.ofNat 117, Char.ofNat 108, Char.ofNat 116, Char.ofNat 85, Char.ofNat 110, Char.ofNat 119, Char.ofNat 114, Char.ofNat 97, Char.ofNat 112, Char.ofNat 115],
  [Char.ofNat 101, Char.ofNat 110, Char.ofNat 103, Char.ofNat 114, Char.ofNat 111, Char.ofNat 115, Char.ofNat 115, Char.ofNat 101, Char.ofNat 114, Char.ofNat 47, Char.ofNat 101, Char.ofNat 110, Char.ofNat 103, Char.ofNat 114, Char.ofNat 111, Char.ofNat 115, Char.ofNat 115, Char.ofNat 101, Char.ofNat 114, Char.ofNat 108, Char.ofNat 97, Char.ofNat 119, Char.ofNat 49, Char.ofNat 55, Char.ofNat 46, Char.ofNat 86, Char.ofNat 97, Char.ofNat 117, Char.ofNat 108, Char.ofNat 116, Char.ofNat 67, Char.ofNat 111, Char.ofNat 110, Char.ofNat 116, Char.ofNat 101, Char.ofNat 120, Char.ofNat 116, Char.ofNat 115],
  [Char.ofNat 101, Char.ofNat 110, Char.ofNat 103, Char.ofNat 114, Char.ofNat 111, Char.ofNat 115, Char.ofNat 115, Char.ofNat 101, Char.ofNat 114, Char.ofNat 47, Char.ofNat 101, Char.ofNat 110, Char.ofNat 103, Char.ofNat 114, Char.ofNat 111, Char.ofNat 115, Char.ofNat 115, Char.ofNat 101, Char.ofNat 114, Char.ofNat 108, Char.ofNat 97, Char.ofNat 119, Char.ofNat 48, Char.ofNat 56, Char.ofNat 46, Char.ofNat 72, Char.ofNat 112, Char.ofNat 107, Char.ofNat 101, Char.ofNat 83, Char.ofNat 101, Char.ofNat 97, Char.ofNat 108, Char.ofNat 115],
  [Char.ofNat 101, Char.ofNat 110, Char.ofNat 103, Char.ofNat 114, Char.ofNat 111, Char.ofNat 115, Char.ofNat 115, Char.ofNat 101, Char.ofNat 114, Char.ofNat 47, Char.ofNat 101, Char.ofNat 110, Char.ofNat 103, Char.ofNat 114, Char.ofNat 111, Char.ofNat 115, Char.ofNat 115, Char.ofNat 101, Char.ofNat 114, Char.ofNat 108, Char.ofNat 97, Char.ofNat 119, Char.ofNat 48, Char.ofNat 56, Char.ofNat 46, Char.ofNat 72, Char.ofNat 112, Char.ofNat 107, Char.ofNat 101, Char.ofNat 79, Char.ofNat 112, Char.ofNat 101, Char.ofNat 110, Char.ofNat 115],
  [Char.ofNat 101, Char.ofNat 110, Char.ofNat 103, Char.ofNat 114, Char.ofNat 111, Char.ofNat 115, Char.ofNat 115, Char.ofNat 101, Char.ofNat 114, Char.ofNat 47, Char.ofNat 101, Char.ofNat 110, Char.ofNat 103, Char.ofNat 114, Char.ofNat 111, Char.ofNat 115, Char.ofNat 115, Char.ofNat 101, Char.ofNat 114, Char.ofNat 108, Char.ofNat 97, Char.ofNat 119, Char.ofNat 48, Char.ofNat 56, Char.ofNat 46, Char.ofNat 72, Char.ofNat 112, Char.ofNat 107, Char.ofNat 101, Char.ofNat 66, Char.ofNat 97, Char.ofNat 99, Char.ofNat 107],
  [Char.ofNat 101, Char.ofNat 110, Char.ofNat 103, Char.ofNat 114, Char.ofNat 111, Char.ofNat 115, Char.ofNat 115, Char.ofNat 101, Char.ofNat 114, Char.ofNat 47, Char.ofNat 101, Char.ofNat 110, Char.ofNat 103, Char.ofNat 114, Char.ofNat 111, Char.ofNat 115, Char.ofNat 115, Char.ofNat 101, Char.ofNat 114, Char.ofNat 108, Char.ofNat 97, Char.ofNat 119, Char.ofNat 48, Char.ofNat 56, Char.ofNat 46, Char.ofNat 72, Char.ofNat 112, Char.ofNat 107, Char.ofNat 101, Char.ofNat 82, Char.ofNat 101, Char.ofNat 97, Char.ofNat 100, Char.ofNat 115]]
theorem initS : Tryd.prog.initOrder = String.ofList signs := by kernel_rfl
theorem words : wordsSigns Tryd.prog.initOrder.toList = headWords := by
  rw [initS, String.toList_ofList]
  kernel_rfl
theorem both {a b : Bool} (h : a = true) (k : b = true) : (a && b) = true := by rw [h, k]; rfl
theorem same_of {a b : Bool} (h : b = a) : (a == b) = true := by rw [h]; cases a <;> rfl
theorem make_of {a b : Option Make} (h : a = b) : (a == b) = true := by rw [h]; exact beq_self_eq_true _
theorem strip_cut (r : List (List Char)) : stripLifts liftWords ("cut".toList :: r) = ([], "cut".toList :: r) := by kernel_rfl
theorem lifts_cut {P : Program} {r} (h : behindMainWord (wordsSigns P.initOrder.toList) = "cut".toList :: r) : P.headLifts = [] := by
  unfold Program.headLifts
  rw [h, strip_cut]
  kernel_rfl
theorem make_cut {P : Program} {r} (h : behindMainWord (wordsSigns P.initOrder.toList) = "cut".toList :: r) : P.make = some .cut := by
  unfold Program.make
  rw [h, lifts_cut h]
  kernel_rfl
theorem final_cut {P : Program} {r} (h : behindMainWord (wordsSigns P.initOrder.toList) = "cut".toList :: r) : P.liftsFinal = false := by
  unfold Program.liftsFinal
  rw [h, lifts_cut h]
  kernel_rfl
theorem main_har {P : Program} {s r} (h : wordsSigns P.initOrder.toList = "harness".toList :: s :: r) (hs : isSumSigns s = true) : P.mainIs = some (true, s) := by
  unfold Program.mainIs
  rw [h]
  dsimp only
  rw [hs]
  kernel_rfl
theorem may_cut {P : Program} {r} (h : behindMainWord (wordsSigns P.initOrder.toList) = "cut".toList :: r) (hl : P.laysLater = false) (hr : P.bearsReflect = false) (hd : P.doorFits [] = true) : P.mayEnter = true := by
  unfold Program.mayEnter
  rw [h, hl, hr]
  dsimp only
  rw [strip_cut]
  dsimp only
  rw [hd]
  kernel_rfl
theorem behind : behindMainWord (wordsSigns Tryd.prog.initOrder.toList) = "cut".toList :: headWords.drop 3 := (congrArg behindMainWord words).trans (by kernel_rfl)
theorem headMake : Tryd.prog.make = some .cut := make_cut behind
theorem headMain : Tryd.prog.mainIs = some (true, "4cd6ef0ec7a88d19fd7ad53a31dc0230b83fb27ded2758d110cdf5b926694db9".toList) := main_har (r := headWords.drop 2) (words.trans (by kernel_rfl)) (by kernel_rfl)
theorem headMay : Tryd.prog.mayEnter = true := may_cut behind (by kernel_rfl) (by kernel_rfl) (by kernel_rfl)
theorem headFin : Tryd.prog.liftsFinal = false := final_cut behind
end Go.Proofs.YtooeklnbdgoneaaDoor


