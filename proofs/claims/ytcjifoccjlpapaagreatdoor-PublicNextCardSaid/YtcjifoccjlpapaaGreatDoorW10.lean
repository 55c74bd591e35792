/- Contracts of functions, each walked once; each theorem states its conditions. -/
import Derived.Test.YtcjifoccjlpapaaGreatDoorAMp6
import Derived.Test.YtcjifoccjlpapaaGreatDoorW1
import Derived.Test.YtcjifoccjlpapaaGreatDoorW9
import Derived.Test.YtcjifoccjlpapaaGreatDoorW8
import Derived.Test.YtcjifoccjlpapaaGreatDoorW7
import Derived.Test.YtcjifoccjlpapaaGreatDoorW6
import Derived.Test.YtcjifoccjlpapaaGreatDoorAMp7
set_option linter.unusedSimpArgs false
set_option linter.unusedVariables false
open Nat renaming reduceLT → Na, reduceLeDiff → Nb, reduceEqDiff → Nc, reduceAdd → Nk, reduceMul → Nf, reducePow → Ng, reduceSub → Nh, reduceBEq → Nz
open Int renaming reduceLT → Za, reduceLE → Zb, reduceToNat → Zc
open And renaming intro → Ai
open Go.AM renaming ashift → Qa, aconv → Qb, aindexAddr → Qc, aindex → Qd, aslice → Qe, abuiltin → Qf, awp_reg_seq → wS, awp_reg_end → wE, awp_seq_k → wK, awp_cond_k → wC
open Go.AM.AV renaming cells → Qg, one → Qh
set_option maxRecDepth 100000
set_option maxHeartbeats 8000000
namespace Go.Proofs.YtcjifoccjlpapaaGreatDoor
open Go Go.AM Go.Proofs Tryz
variable {Γ : Nat→List AV}
theorem n32 {n : Nat} (h : n = 32) : ((n : Int) != 32) = false:=by subst h; rfl
theorem xbo {n : Nat} (h : n≠32) : ((n : Int) != 32) = true:=by simp only [bne_iff_ne,ne_eq]; omega
def tl : ck:=⟨0,[],[]⟩
theorem HK (p : ck) : p.none↔p = tl:=by
 obtain ⟨a,b,c⟩:=p;unfold ck.none tl;simp only [ck.mk.injEq,List.length_eq_zero_iff]
theorem xY (c : aI) (hw : c.wf) (s : AS) : ah prog Γ 29 [.agg c.cells] s (fun r s'=>r = .v (.bool (decide c.right))∧s' = s):=by
 refine ab func29 rfl ntmps29 results29 (by simp) ?_;obtain ⟨w1,w2,w3⟩:=hw;have pz:=fun s=>Ds (Γ:=Γ) c.path tl w2 s;obtain ⟨g,e,sd,ps,hp,pa,cf,mb⟩:=c;simp only at w1 w2 w3 pz;have hcr : decide (aI.right ⟨g,e,sd,ps,hp,pa,cf,mb⟩) = decide (((1≤g.length∧g.length≤16)∧(0≤e∧e≤1048576)∧(0≤sd∧sd < 32)∧ps.length≤16∧cf.length = 32∧mb.length = 32)∧(∀ x ∈ ps,x.right)∧((hp = true→pa.right)∧(hp = false→pa = tl))):=by
  refine decide_eq_decide.2 ?_;unfold aI.right aI.pA;simp only [HK];constructor
  ·rintro ⟨a1,a2,a3,a4,a5,a6,a7,a8⟩; exact ⟨⟨a2,a3,a4,a5,a7,a8⟩,a1,a6⟩
  ·rintro ⟨⟨a2,a3,a4,a5,a7,a8⟩,a1,a6⟩; exact ⟨a1,a2,a3,a4,a5,a6,a7,a8⟩
 rw [hcr];clear hcr;obtain ⟨w4,w5,w6⟩:=w2;unfold maxLen at w3 w6;obtain ⟨pk,pp,dk⟩:=pa;simp only at w4 w5 w6;unfold aI.cells;unfold ck.cells tl at pz;simp only at pz ⊢;have fU:=fun i (h : i < ps.length)=>dB (c:=aF.cells) (k:=5) (fun _=>rfl) h;have X7:=fun i (h : i < dk.length)=>dB (c:=bk.cells) (k:=2) (fun _=>rfl) h;generalize au bk.cells dk = X at *
 generalize au aF.cells ps = Z at *
 refine az 1 (by simp [bP]) ?_;intro K hK;refine jM ?_;intro o ho;refine hK _ _ o _ rfl ho ?_;clear hK K ho;refine wK fun K hK=>?_;by_cases hA : (1≤g.length∧g.length≤16)∧(0≤e∧e≤1048576)∧(0≤sd∧sd < 32)∧ps.length≤16∧cf.length = 32∧mb.length = 32
 ·have hd : ∀ (A B : Prop) [Decidable A] [Decidable B],A→decide (A∧B) = decide B:=fun A B _ _ h=>decide_eq_decide.2 ⟨fun q=>q.2,fun q=>⟨h,q⟩⟩;rw [hd _ _ hA] at hK ⊢;clear hd;obtain ⟨⟨a1,a2⟩,⟨a3,a4⟩,⟨a5,a6⟩,a7,a8,a9⟩:=hA;refine jB (Ai (decide_eq_false (show ¬ (g.length : Int) < 1 by omega)) (Ai (decide_eq_false (show ¬ (16 : Int) < (g.length : Int) by omega)) (Ai (decide_eq_false (show ¬ e < 0 by omega)) (Ai (decide_eq_false (show ¬ (1048576 : Int) < e by omega)) (Ai (decide_eq_false (show ¬ sd < 0 by omega)) (Ai (decide_eq_false (show ¬ (31 : Int) < sd by omega)) (Ai (decide_eq_false (show ¬ (16 : Int) < (ps.length : Int) by omega)) (Ai (n32 a8) (n32 a9))))))))) ?_;refine jF ?_;refine ad ?_;refine hK _ _ ?_;clear hK K;refine wK fun K hK=>?_;refine jA ?_;refine ag ?_;refine aH (fun E s1=>∃ i : Nat,i≤ps.length∧E 3 = .v (.int .i64 i)∧E 1 = .cX [.sl 1 g.length (g.map aw) .any,.v (.int .i64 e),.v (.int .i64 sd),.sl 5 ps.length Z .any,.v (.bool hp),.v (.int .u64 pk),.sl 1 pp.length (pp.map aw) .any,.sl 2 dk.length X .any,.sl 1 cf.length (cf.map aw) .any,.sl 1 mb.length (mb.map aw) .any]∧(∀ p ∈ ps.take i,p.right)∧s1 = s)
   (fun E _=>match E 3 with | .v (.int _ i)=>ps.length - i.toNat | _=>0) ?_ ?_
  ·exact ⟨0,Nat.zero_le _,rfl,rfl,by simp,rfl⟩
  ·rintro E1 s1 ⟨i,hi,g8,g1,bT,rfl⟩ -
   refine wK fun K2 aX=>?_;by_cases aO : i < ps.length
   ·refine jB (Ai @g8 (Ai @g1 (Ai @af (decide_eq_true aO)))) ?_;refine jE ?_;refine ad ?_;refine aX _ _ ?_;clear aX K2;refine wK fun K3 bB=>?_;refine ag ?_;have bN:=fU i aO;have bK : (0 : Int)≤(i : Int):=(by omega);obtain ⟨y,hy⟩ : ∃ y,y = ps[i]:=⟨_,rfl⟩;rw [← hy] at bN;have zF : y ∈ ps:=(by rw [hy]; exact List.getElem_mem aO);have gQ : y.right→∀ x ∈ ps.take (i + 1),x.right:=fun h=>oH aO bT (by rw [← hy]; exact h);have il:=fun s=>xZ (Γ:=Γ) y s;clear hy;obtain ⟨pk1,pk2,pk3,pk4,pk5⟩:=y;unfold aF.cells at bN il;refine jS (Ai @g8 (Ai @g1 (Ai @af (Ai @aO (Ai @bK @bN))))) fun K hK=>?_;refine ae (il _) ?_;rintro r s2 ⟨rfl,rfl⟩;by_cases h1 : aF.right ⟨pk1,pk2,pk3,pk4,pk5⟩
    ·refine jV (decide_eq_true h1) hK ?_;clear hK K;refine jF ?_;refine ad ?_;simp only [aq,av,if_true,if_false];refine bB _ _ ?_;clear bB K3;refine jD (Ai @g8 (aQ i (by omega))) ?_;refine ⟨⟨i + 1,by omega,rfl,g1,gQ h1,rfl⟩,?_⟩;simp only [g8,aG,↓reduceIte];omega
    ·refine jV (decide_eq_false h1) hK ?_;clear hK K;refine jE ?_;refine jA ?_;refine jI ?_;exact jW ⟨by rw [decide_eq_false fun q=>h1 (q.1 _ zF)],rfl⟩
   ·have nI:=lR aO bT;have hd : ∀ (A B : Prop) [Decidable A] [Decidable B],A→decide (A∧B) = decide B:=fun A B _ _ h=>decide_eq_decide.2 ⟨fun q=>q.2,fun q=>⟨h,q⟩⟩;rw [hd _ _ nI] at hK ⊢;clear hd;refine jB (Ai @g8 (Ai @g1 (Ai @af (decide_eq_false aO)))) ?_;refine jF ?_;refine aB ?_;simp only [av,aq,if_true];refine hK _ _ ?_;clear hK K aX K2 g8;refine wK fun K hK=>?_;cases hp with
    | false =>
     refine jB @g1 ?_;refine jE ?_;refine jS @g1 fun K hK=>?_;refine ae (ah.jq (.cons (AV.aL.refl _) (.cons (AV.fR (.cons (AV.aL.refl _) (.cons AV.aP (.cons AV.aP .nil)))) .nil)) (pz _)) ?_;rintro r s2 ⟨rfl,rfl⟩;refine jR hK ?_;clear hK K;refine jI ?_;refine jW ⟨?_,rfl⟩;congr 2;exact decide_eq_decide.2 ⟨fun h _=>h,fun h=>h trivial⟩
    | true =>
     have IY : decide ((true = true→ck.right ⟨pk,pp,dk⟩)∧(true = false→(⟨pk,pp,dk⟩ : ck) = tl)) = decide (((uK pk∧(pp.length = 0∨pp.length = 32)∧dk.length≤5))∧∀ x ∈ dk,x.right):=by
      refine decide_eq_decide.2 ⟨fun h=>?_,fun h=>⟨fun _=>?_,fun q=>by cases q⟩⟩
      ·obtain ⟨b1,b2,b3,b4⟩:=h.1 rfl;exact ⟨⟨b2,b3,b4⟩,b1⟩
      ·obtain ⟨⟨b2,b3,b4⟩,b1⟩:=h;exact ⟨b1,b2,b3,b4⟩
     rw [IY] at hK ⊢;clear IY;refine jB @g1 ?_;refine jF ?_;refine ad ?_;refine hK _ _ ?_;clear hK K;refine wK fun K hK=>?_;by_cases hB : uK pk∧(pp.length = 0∨pp.length = 32)∧dk.length≤5
     ·have hd : ∀ (A B : Prop) [Decidable A] [Decidable B],A→decide (A∧B) = decide B:=fun A B _ _ h=>decide_eq_decide.2 ⟨fun q=>q.2,fun q=>⟨h,q⟩⟩;rw [hd _ _ hB] at hK ⊢;clear hd;obtain ⟨b1,b2,b3⟩:=hB;have b2' : (((pp.length : Int) != 0) = false)∨(((pp.length : Int) != 0) = true∧((pp.length : Int) != 32) = false):=by
       by_cases q : pp.length = 0
       ·exact Or.inl (X8 q)
       ·exact Or.inr ⟨SF q,n32 (by omega)⟩
      have SG : ∀ (E : Env),E 1 = .cX [.sl 1 g.length (g.map aw) .any,.v (.int .i64 e),.v (.int .i64 sd),.sl 5 ps.length Z .any,.v (.bool true),.v (.int .u64 pk),.sl 1 pp.length (pp.map aw) .any,.sl 2 dk.length X .any,.sl 1 cf.length (cf.map aw) .any,.sl 1 mb.length (mb.map aw) .any]→K E s1:=by
       clear g1 E1;intro E g1;refine hK _ _ ?_;clear hK K;refine wK fun K hK=>?_;refine jA ?_;refine ag ?_;refine aH (fun E s9=>∃ i : Nat,i≤dk.length∧E 4 = .v (.int .i64 i)∧E 1 = .cX [.sl 1 g.length (g.map aw) .any,.v (.int .i64 e),.v (.int .i64 sd),.sl 5 ps.length Z .any,.v (.bool true),.v (.int .u64 pk),.sl 1 pp.length (pp.map aw) .any,.sl 2 dk.length X .any,.sl 1 cf.length (cf.map aw) .any,.sl 1 mb.length (mb.map aw) .any]∧(∀ p ∈ dk.take i,p.right)∧s9 = s1)
        (fun E _=>match E 4 with | .v (.int _ i)=>dk.length - i.toNat | _=>0) ?_ ?_
       ·exact ⟨0,Nat.zero_le _,rfl,g1,by simp,rfl⟩
       ·clear g1;rintro E1 s9 ⟨i,hi,g4,g1,bT,rfl⟩ -
        refine wK fun K2 aX=>?_;by_cases aO : i < dk.length
        ·refine jB (Ai @g4 (Ai @g1 (Ai @af (decide_eq_true aO)))) ?_;refine jE ?_;refine ad ?_;refine aX _ _ ?_;clear aX K2;refine wK fun K3 bB=>?_;refine ag ?_;have bN:=X7 i aO;have bK : (0 : Int)≤(i : Int):=(by omega);obtain ⟨y,hy⟩ : ∃ y,y = dk[i]:=⟨_,rfl⟩;rw [← hy] at bN;have zF : y ∈ dk:=(by rw [hy]; exact List.getElem_mem aO);have gQ : y.right→∀ x ∈ dk.take (i + 1),x.right:=fun h=>oH aO bT (by rw [← hy]; exact h);have SH:=w5 y zF;clear hy;have dV : ¬ y.right→decide (∀ x ∈ dk,x.right) = false:=fun h=>decide_eq_false fun hr=>h (hr y zF);obtain ⟨f,t⟩:=y;obtain ⟨_,_,hyl⟩:=SH;simp only at hyl;unfold maxLen at hyl;unfold bk.cells at bN;have hrw:=fun i (h : i < t.length)=>dB (c:=bQ.cells) (k:=2) (fun _=>rfl) h;generalize au bQ.cells t = T at *
         refine az 5 (by simp [bP]) ?_;intro K2 aX;refine jN (Ai @g4 (Ai @g1 (Ai @af (Ai @aO (Ai @bK @bN))))) ?_;intro o ho;refine aX _ _ o _ rfl ho ?_;clear aX K2 ho;refine wK fun K2 aX=>?_;refine jQ fun K hK=>?_;refine ae (dW f _) ?_;rintro r s3 ⟨rfl,rfl⟩;by_cases c1 : uK f
         ·by_cases c2 : t.length≤32
          ·refine jV (Ai (decide_eq_true c1) (decide_eq_false (show ¬ (32 : Int) < (t.length : Int) by omega))) hK ?_;clear hK K;refine jF ?_;refine ad ?_;refine aX _ _ ?_;clear aX K2;refine jA ?_;refine ag ?_;refine aH (fun E s1=>∃ k : Nat,k≤t.length∧E 6 = .v (.int .i64 k)∧E 5 = .cX [.v (.int .u64 f),.sl 2 t.length T .any]∧E 4 = .v (.int .i64 i)∧E 1 = .cX [.sl 1 g.length (g.map aw) .any,.v (.int .i64 e),.v (.int .i64 sd),.sl 5 ps.length Z .any,.v (.bool true),.v (.int .u64 pk),.sl 1 pp.length (pp.map aw) .any,.sl 2 dk.length X .any,.sl 1 cf.length (cf.map aw) .any,.sl 1 mb.length (mb.map aw) .any]∧(∀ p ∈ t.take k,p.right)∧s1 = s3)
            (fun E _=>match E 6 with | .v (.int _ i)=>t.length - i.toNat | _=>0) ?_ ?_
           ·exact ⟨0,Nat.zero_le _,rfl,rfl,g4,g1,by simp,rfl⟩
           ·have G4:=g4;clear g4 g1 bT;rintro E2 s4 ⟨k,hk,g6,g5,g4,g1,bT,rfl⟩ -
            refine wK fun K2 aX=>?_;by_cases ll : k < t.length
            ·refine jB (Ai @g6 (Ai @g5 (Ai @af (decide_eq_true ll)))) ?_;refine jE ?_;refine ad ?_;refine aX _ _ ?_;clear aX K2;refine wK fun K4 fS=>?_;refine ag ?_;have bN:=hrw k ll;have bK : (0 : Int)≤(k : Int):=(by omega);obtain ⟨z,hz⟩ : ∃ z,z = t[k]:=⟨_,rfl⟩;rw [← hz] at bN;have KZ : z ∈ t:=(by rw [hz]; exact List.getElem_mem ll);have xbp : z.right→∀ x ∈ t.take (k + 1),x.right:=fun h=>oH ll bT (by rw [← hz]; exact h);clear hz;obtain ⟨u,v⟩:=z;unfold bQ.cells at bN;refine jS (Ai @g6 (Ai @g5 (Ai @af (Ai @ll (Ai @bK @bN))))) fun K hK=>?_;refine ae (dW u _) ?_;rintro r s5 ⟨rfl,rfl⟩;by_cases d1 : uK u
             ·by_cases d2 : v.length = 48
              ·refine jV (Ai @g6 (Ai @g5 (Ai @af (Ai @ll (Ai @bK (Ai @bN (Ai (decide_eq_true d1) (n48 d2)))))))) hK ?_;clear hK K;refine jF ?_;refine ad ?_;simp only [aq,av,if_true,if_false];refine fS _ _ ?_;clear fS K4;refine jD (Ai @g6 (aQ k (by omega))) ?_;refine ⟨⟨k + 1,by omega,rfl,g5,g4,g1,xbp ⟨d1,d2⟩,rfl⟩,?_⟩;simp only [g6,aG,↓reduceIte];omega
              ·refine jV (Ai @g6 (Ai @g5 (Ai @af (Ai @ll (Ai @bK (Ai @bN (Ai (decide_eq_true d1) (X9 d2)))))))) hK ?_;clear hK K;refine jE ?_;refine jA ?_;refine jI ?_;exact jW ⟨by rw [dV fun q=>d2 (q.1 _ KZ).2],rfl⟩
             ·refine jV (Ai @g6 (Ai @g5 (Ai @af (Ai @ll (Ai @bK (Ai @bN (decide_eq_false d1))))))) hK ?_;clear hK K;refine jE ?_;refine jA ?_;refine jI ?_;exact jW ⟨by rw [dV fun q=>d1 (q.1 _ KZ).1],rfl⟩
            ·refine jB (Ai @g6 (Ai @g5 (Ai @af (decide_eq_false ll)))) ?_;refine jF ?_;refine aB ?_;simp only [av,aq,if_true,if_false];refine bB _ _ ?_;clear bB aX K2 K3;refine jD (Ai @g4 (aQ i (by omega))) ?_;refine ⟨⟨i + 1,by omega,rfl,g1,gQ ⟨lR ll bT,c1,c2⟩,rfl⟩,?_⟩;simp only [G4,aG,↓reduceIte];omega
          ·refine jV (Ai (decide_eq_true c1) (decide_eq_true (show (32 : Int) < (t.length : Int) by omega))) hK ?_;clear hK K;refine jE ?_;refine jA ?_;refine jI ?_;exact jW ⟨by rw [dV fun q=>c2 q.2.2],rfl⟩
         ·refine jV (decide_eq_false c1) hK ?_;clear hK K;refine jE ?_;refine jA ?_;refine jI ?_;exact jW ⟨by rw [dV fun q=>c1 q.2.1],rfl⟩
        ·refine jB (Ai @g4 (Ai @g1 (Ai @af (decide_eq_false aO)))) ?_;refine jF ?_;refine aB ?_;simp only [av,aq,if_true];refine hK _ _ ?_;clear hK K aX K2;refine jA ?_;refine jI ?_;exact jW ⟨by rw [decide_eq_true (lR aO bT)],rfl⟩
      refine jS @g1 fun K hK=>?_;refine ae (dW pk _) ?_;rintro r s2 ⟨rfl,rfl⟩;rcases b2' with b2' | b2';all_goals
       refine jV (Ai @g1 (Ai (decide_eq_true b1) (Ai @b2' (decide_eq_false (show ¬ (5 : Int) < (dk.length : Int) by omega))))) hK ?_;clear hK K;refine jF ?_;refine ad ?_;exact SG _ g1
     ·have hx : decide ((uK pk∧(pp.length = 0∨pp.length = 32)∧dk.length≤5)∧∀ x ∈ dk,x.right) = false:=decide_eq_false fun q=>hB q.1;rw [hx] at hK ⊢;have SG : decide (uK pk) = false∨(decide (uK pk) = true∧((pp.length : Int) != 0) = true∧((pp.length : Int) != 32) = true)∨(decide (uK pk) = true∧((pp.length : Int) != 0) = false∧decide ((5 : Int) < (dk.length : Int)) = true)∨(decide (uK pk) = true∧((pp.length : Int) != 0) = true∧((pp.length : Int) != 32) = false∧decide ((5 : Int) < (dk.length : Int)) = true):=by
       by_cases q1 : uK pk
       ·by_cases q2 : pp.length = 0
        ·exact Or.inr (Or.inr (Or.inl ⟨decide_eq_true q1,X8 q2,decide_eq_true (by have : ¬ dk.length≤5:=fun q=>hB ⟨q1,Or.inl q2,q⟩; omega)⟩))
        ·by_cases q3 : pp.length = 32
         ·exact Or.inr (Or.inr (Or.inr ⟨decide_eq_true q1,SF q2,n32 q3,decide_eq_true (by have : ¬ dk.length≤5:=fun q=>hB ⟨q1,Or.inr q3,q⟩; omega)⟩))
         ·exact Or.inr (Or.inl ⟨decide_eq_true q1,SF q2,xbo q3⟩)
       ·exact Or.inl (decide_eq_false q1)
      refine jS @g1 fun K hK=>?_;refine ae (dW pk _) ?_;rintro r s2 ⟨rfl,rfl⟩;rcases SG with hd | hd | hd | hd;all_goals
       refine jV (Ai @g1 @hd) hK ?_;clear hK K;refine jE ?_;refine jA ?_;exact jJ
 ·have hx : decide (((1≤g.length∧g.length≤16)∧(0≤e∧e≤1048576)∧(0≤sd∧sd < 32)∧ps.length≤16∧cf.length = 32∧mb.length = 32)∧(∀ x ∈ ps,x.right)∧((hp = true→ck.right ⟨pk,pp,dk⟩)∧(hp = false→(⟨pk,pp,dk⟩ : ck) = tl))) = false:=decide_eq_false fun q=>hA q.1;rw [hx] at hK ⊢;clear hx;rcases tt9 (decide ((g.length : Int) < 1)) (decide ((16 : Int) < (g.length : Int))) (decide (e < 0)) (decide ((1048576 : Int) < e)) (decide (sd < 0)) (decide ((31 : Int) < sd)) (decide ((16 : Int) < (ps.length : Int))) ((cf.length : Int) != 32) ((mb.length : Int) != 32) with hd | hd | hd | hd | hd | hd | hd | hd | hd | hd;case inr.inr.inr.inr.inr.inr.inr.inr.inr =>
   simp only [decide_eq_false_iff_not,bne_eq_false_iff_eq] at hd;exact absurd (by omega) hA
  all_goals
   refine jB @hd ?_;refine jE ?_;refine jA ?_;exact jJ
theorem zG {a b : List UInt8} (h : a.length + b.length < 2 ^ 62) : (IntKind.i64.max < ((a.length + b.length : Nat) : Int)) = False:=bz h
theorem IZ {a b c : List UInt8} (h : a.length + b.length + c.length < 2 ^ 62) : (IntKind.i64.max < ((a.length + b.length + c.length : Nat) : Int)) = False∧(IntKind.i64.max < (((a ++ b).length + c.length : Nat) : Int)) = False:=⟨bz h,bz (by simpa using h)⟩
theorem lS (n : Int) (m k : Nat) (hm : ee .u64 n = (m : Int)) (hk : k≤8) (hl : m < 2 ^ 64) (s : AS) : ah prog Γ 110 [.v (.int .i64 n),.v (.int .i64 k)] s (fun r s'=>r = .v (.string ⟨(be k m).toArray⟩)∧s' = s):=by
 refine ab func110 rfl ntmps110 results110 (by simp) ?_;refine jA ?_;refine jS @hm fun K hK=>?_;refine ae (bJ m k hl hk _) ?_;rintro r s1 ⟨rfl,rfl⟩;refine jR hK ?_;clear hK K;exact jJ
theorem tm (x : ck) (hw : x.wf) (hx : x.right) (s : AS) : ah prog Γ 112 [.agg x.cells] s (fun r s'=>r = .v (.string ⟨x.text.toArray⟩)∧s' = s):=by
 refine ab func112 rfl ntmps112 results112 (by simp) ?_;obtain ⟨key,pa,ps⟩:=x;obtain ⟨w1,w2,w3⟩:=hw;obtain ⟨x1,x2,x3,x4⟩:=hx;simp only at w1 w2 w3 x1 x2 x3 x4;unfold ck.cells;have Pf : ck.text ⟨key,pa,ps⟩ = be 8 key ++ (qG 1 pa ++ (be 1 ps.length ++ bS bk.text ps)):=rfl;rw [Pf];clear Pf;have qH : ∀ i,(bS bk.text (ps.take i)).length≤9400:=by
  intro i;have h1:=gd (f:=bk.text) (n:=1865) (l:=ps.take i) fun y hy=>bk.dQ (x1 y (List.mem_of_mem_take hy));have h2 : (ps.take i).length≤5:=(by rw [List.length_take]; omega);have h3 : (ps.take i).length * 1865≤5 * 1865:=Nat.mul_le_mul_right _ h2;omega
 have fU:=fun i (h : i < ps.length)=>dB (c:=bk.cells) (k:=2) (fun _=>rfl) h;generalize hXX : au bk.cells ps = XX at *
 refine az 1 (by simp [bP]) ?_;intro K hK;refine jM ?_;intro o ho;refine hK _ _ o _ rfl ho ?_;clear hK K ho;have hu : ee .u64 (ps.length : Int) = (ps.length : Int):=kC (by omega);have SI:=fun s=>eA (Γ:=Γ) pa 1 (by omega) (by decide) s;change ∀ s,ah _ _ _ _ s (fun r s'=>r = .v (.string ⟨(qG 1 pa).toArray⟩)∧s' = s) at SI;have tT:=fJ 1 pa;have hb8:=aW 8 key;have oq:=aW 1 ps.length;have Ri:=fun s=>bJ (Γ:=Γ) key 8 w1 (by decide) s;have Rj:=fun s=>bJ (Γ:=Γ) ps.length 1 (by omega) (by decide) s;generalize qG 1 pa = A2 at *
 generalize be 8 key = A1 at *
 generalize be 1 ps.length = A3 at *
 refine aZ T.mixed [2,6,12] (by kernel_rfl) ?_;intro K hK;refine jN @hu ?_;refine ae (Ri _) ?_;rintro r s1 ⟨rfl,rfl⟩;refine jM ?_;refine ae (SI _) ?_;rintro r s2 ⟨rfl,rfl⟩;refine jN (Ai @hu (zG (show A1.length + A2.length < 2 ^ 62 by omega))) ?_;refine ae (Rj _) ?_;rintro r s3 ⟨rfl,rfl⟩;refine jV (IZ (show A1.length + A2.length + A3.length < 2 ^ 62 by omega)) hK ?_;clear hK K;refine wK fun K hK=>?_;refine jA ?_;refine ag ?_;have Mj : (A1 ++ (A2 ++ A3)).length≤1000:=(by rw [List.length_append,List.length_append]; omega);have Ui : A1 ++ (A2 ++ (A3 ++ bS bk.text ps)) = (A1 ++ (A2 ++ A3)) ++ bS bk.text ps:=(by simp only [List.append_assoc]);rw [Ui] at hK ⊢;clear Ui;generalize A1 ++ (A2 ++ A3) = HL at *
 refine aH (fun E s9=>∃ i : Nat,i≤ps.length∧E 4 = .v (.int .i64 i)∧E 3 = .v (.string ⟨(HL ++ bS bk.text (ps.take i)).toArray⟩)∧E 1 = .cX [.v (.int .u64 key),.sl 1 pa.length (pa.map aw) .any,.sl 2 ps.length XX .any]∧s9 = s3)
  (fun E _=>match E 4 with | .v (.int _ i)=>ps.length - i.toNat | _=>0) ?_ ?_
 ·exact ⟨0,Nat.zero_le _,rfl,by simp only [aG,Nc,↓reduceIte]; simp [bS],rfl,rfl⟩
 ·clear Ri Rj SI tT hb8 oq hu;rintro E1 s9 ⟨i,hi,g4,g3,g1,rfl⟩ -
  refine wK fun K2 aX=>?_;by_cases aO : i < ps.length
  ·refine jB (Ai @g4 (Ai @g1 (Ai @af (decide_eq_true aO)))) ?_;refine jE ?_;refine ad ?_;refine aX _ _ ?_;clear aX K2;refine wK fun K3 bB=>?_;refine ag ?_;have bN:=fU i aO;have bK : (0 : Int)≤(i : Int):=(by omega);have K9:=j8 bk.text aO;have HM:=qH i;have Uj : (HL ++ bS bk.text (ps.take i)).length≤20000:=(by rw [List.length_append]; omega);have tS : HL ++ bS bk.text (ps.take (i + 1)) = (HL ++ bS bk.text (ps.take i)) ++ bk.text ps[i]:=(by rw [K9,List.append_assoc]);generalize HL ++ bS bk.text (ps.take i) = S at *
   obtain ⟨y,hy⟩ : ∃ y,y = ps[i]:=⟨_,rfl⟩;rw [← hy] at bN tS;have zF : y ∈ ps:=(by rw [hy]; exact List.getElem_mem aO);have SH:=w2 y zF;have qo:=x1 y zF;clear hy K9;obtain ⟨f,t⟩:=y;obtain ⟨Pg,Rk,yw3⟩:=SH;obtain ⟨SJ,yr2,yr3⟩:=qo;simp only at Pg Rk yw3 SJ yr2 yr3;rw [show bk.text ⟨f,t⟩ = be 8 f ++ (be 1 t.length ++ bS bQ.gw t) from rfl] at tS;unfold bk.cells at bN;have SK : ∀ i,(bS bQ.gw (t.take i)).length≤1856:=by
    intro i;have h1:=gd (f:=bQ.gw) (n:=58) (l:=t.take i) fun y hy=>bQ.rB (SJ y (List.mem_of_mem_take hy));have h2 : (t.take i).length≤32:=(by rw [List.length_take]; omega);have h3 : (t.take i).length * 58≤32 * 58:=Nat.mul_le_mul_right _ h2;omega
   have uL:=fun i (h : i < t.length)=>dB (c:=bQ.cells) (k:=2) (fun _=>rfl) h;generalize au bQ.cells t = TZ at *
   refine az 5 (by simp [bP]) ?_;intro K2 aX;refine jN (Ai @g4 (Ai @g1 (Ai @af (Ai @aO (Ai @bK @bN))))) ?_;intro o ho;refine aX _ _ o _ rfl ho ?_;clear aX K2 ho;have hu : ee .u64 (t.length : Int) = (t.length : Int):=kC (by omega);have hb8:=aW 8 f;have oq:=aW 1 t.length;have Ri:=fun s=>bJ (Γ:=Γ) f 8 Pg (by decide) s;have Rj:=fun s=>bJ (Γ:=Γ) t.length 1 (by omega) (by decide) s;generalize be 8 f = B1 at *
   generalize be 1 t.length = B2 at *
   refine aZ T.mixed [3,9] (by kernel_rfl) ?_;intro K hK;refine jN @g3 ?_;refine ae (Ri _) ?_;rintro r s4 ⟨rfl,rfl⟩;refine jN (Ai @hu (zG (show S.length + B1.length < 2 ^ 62 by omega))) ?_;refine ae (Rj _) ?_;rintro r s5 ⟨rfl,rfl⟩;refine jV (IZ (show S.length + B1.length + B2.length < 2 ^ 62 by omega)) hK ?_;clear hK K;refine jA ?_;refine ag ?_;have xgK : (S ++ (B1 ++ B2)).length≤21000:=(by rw [List.length_append,List.length_append]; omega);have xbt : HL ++ bS bk.text (ps.take (i + 1)) = (S ++ (B1 ++ B2)) ++ bS bQ.gw t:=(by rw [tS]; simp only [List.append_assoc]);generalize S ++ (B1 ++ B2) = S2 at *
   clear tS Ri Rj bN;refine aH (fun E s9=>∃ k : Nat,k≤t.length∧E 6 = .v (.int .i64 k)∧E 3 = .v (.string ⟨(S2 ++ bS bQ.gw (t.take k)).toArray⟩)∧E 5 = .cX [.v (.int .u64 f),.sl 2 t.length TZ .any]∧E 4 = .v (.int .i64 i)∧E 1 = .cX [.v (.int .u64 key),.sl 1 pa.length (pa.map aw) .any,.sl 2 ps.length XX .any]∧s9 = s5)
    (fun E _=>match E 6 with | .v (.int _ i)=>t.length - i.toNat | _=>0) ?_ ?_
   ·exact ⟨0,Nat.zero_le _,rfl,by simp only [aG,Nc,↓reduceIte]; simp [bS],rfl,g4,g1,rfl⟩
   ·have G4:=g4;clear g4 g1 g3;rintro E2 Cs ⟨k,hk,g6,g3,g5,g4,g1,rfl⟩ -
    refine wK fun K2 aX=>?_;by_cases ll : k < t.length
    ·refine jB (Ai @g6 (Ai @g5 (Ai @af (decide_eq_true ll)))) ?_;refine jE ?_;refine ad ?_;refine aX _ _ ?_;clear aX K2;refine wK fun K4 fS=>?_;refine ag ?_;have bN:=uL k ll;have bK : (0 : Int)≤(k : Int):=(by omega);have Kc:=j8 bQ.gw ll;have xbu:=SK k;have xgL : (S2 ++ bS bQ.gw (t.take k)).length≤24000:=(by rw [List.length_append]; omega);have Ya : S2 ++ bS bQ.gw (t.take (k + 1)) = (S2 ++ bS bQ.gw (t.take k)) ++ bQ.gw t[k]:=(by rw [Kc,List.append_assoc]);generalize S2 ++ bS bQ.gw (t.take k) = S3 at *
     obtain ⟨z,hz⟩ : ∃ z,z = t[k]:=⟨_,rfl⟩;rw [← hz] at bN Ya;have KZ : z ∈ t:=(by rw [hz]; exact List.getElem_mem ll);have SM:=Rk z KZ;have hzr:=SJ z KZ;clear hz Kc;have yN:=bQ.rB hzr;obtain ⟨fz,tz⟩:=z;obtain ⟨zr1,zr2⟩:=hzr;simp only at zr1 zr2;have SM : fz < 2 ^ 64:=SM;have hWr:=fun s=>x9 (Γ:=Γ) fz tz SM (by omega) s;rw [show Ml fz tz = bQ.gw ⟨fz,tz⟩ from rfl] at hWr;generalize bQ.gw ⟨fz,tz⟩ = W0 at *
     unfold bQ.cells at bN;refine fy T.mixed [15] (by kernel_rfl) ?_;intro K hK;refine jN (Ai @g6 (Ai @g5 (Ai @g3 (Ai @af (Ai @ll (Ai @bK @bN)))))) ?_;refine ae (hWr _) ?_;rintro r Oc ⟨rfl,rfl⟩;refine jV (zG (show S3.length + W0.length < 2 ^ 62 by omega)) hK ?_;clear hK K;simp only [aq,av,if_true,if_false];refine fS _ _ ?_;clear fS K4;refine jD (Ai @g6 (aQ k (by omega))) ?_;refine ⟨⟨k + 1,by omega,rfl,by simp only [aG,Nc,↓reduceIte]; rw [Ya],g5,g4,g1,rfl⟩,?_⟩;simp only [g6,aG,↓reduceIte];omega
    ·refine jB (Ai @g6 (Ai @g5 (Ai @af (decide_eq_false ll)))) ?_;refine jF ?_;refine aB ?_;simp only [av,aq,if_true,if_false];rw [List.take_of_length_le (by omega),← xbt] at g3;refine bB _ _ ?_;clear bB aX K2 K3;refine jD (Ai @g4 (aQ i (by omega))) ?_;refine ⟨⟨i + 1,by omega,rfl,g3,g1,rfl⟩,?_⟩;simp only [G4,aG,↓reduceIte];omega
  ·refine jB (Ai @g4 (Ai @g1 (Ai @af (decide_eq_false aO)))) ?_;refine jF ?_;refine aB ?_;simp only [av,aq,if_true];rw [List.take_of_length_le (by omega)] at g3;refine hK _ _ ?_;clear hK K aX K2;refine jB @g3 ?_;exact jJ
theorem uM {n : Int} (h : 0≤n) (k : n < 2 ^ 62) : ee .u64 n = ((n.toNat : Nat) : Int):=by
 rw [← kC (n:=n.toNat) (by omega)]; congr 1; omega
theorem SP : be 1 1 = [1]:=rfl
theorem Kd : be 1 0 = [0]:=rfl
theorem Yb {a b c d : List UInt8} (h : a.length + b.length + c.length + d.length < 2 ^ 62) : (IntKind.i64.max < ((a.length + b.length + c.length + d.length : Nat) : Int)) = False∧(IntKind.i64.max < (((a ++ (b ++ c)).length + d.length : Nat) : Int)) = False∧(IntKind.i64.max < ((a.length + (b.length + c.length) + d.length : Nat) : Int)) = False :=
 ⟨bz h,bz (by simp; omega),bz (by omega)⟩
theorem vZ (c : aI) (hw : c.wf) (hr : c.right) (s : AS) : ah prog Γ 42 [.agg c.cells] s (fun r s'=>r = .v (.string ⟨c.content.toArray⟩)∧s' = s):=by
 refine ab func42 rfl ntmps42 results42 (by simp) ?_;obtain ⟨w1,w2,w3⟩:=hw;obtain ⟨r1,r2,r3,r4,r5,r6,r7,r8⟩:=hr;obtain ⟨g,e,sd,ps,hp,pa,cf,mb⟩:=c;simp only at w1 w2 w3 r1 r2 r3 r4 r5 r6 r7 r8;have kG : hp = true→pa.right:=r6.1;clear r6;have SQ : aI.content ⟨g,e,sd,ps,hp,pa,cf,mb⟩ = (be 1 1 ++ (qG 1 g ++ (be 8 e.toNat ++ (be 1 sd.toNat ++ be 1 ps.length)))) ++ bS aF.text ps ++ (if hp then be 1 1 ++ pa.text else be 1 0):=by
  unfold aI.content aI.tail;simp only [List.append_assoc]
 rw [SQ];clear SQ;have qH : ∀ i,(bS aF.text (ps.take i)).length≤640:=by
  intro i;have h1:=gd (f:=aF.text) (n:=40) (l:=ps.take i) fun y hy=>aF.dQ (r1 y (List.mem_of_mem_take hy));have h2 : (ps.take i).length≤16:=(by rw [List.length_take]; omega);have h3 : (ps.take i).length * 40≤16 * 40:=Nat.mul_le_mul_right _ h2;omega
 have Rl:=fun (h : hp = true) s=>tm (Γ:=Γ) pa w2 (kG h) s;have xd:=fun (h : hp = true)=>ck.dQ (kG h);obtain ⟨TX,hTX⟩ : ∃ q,q = pa.text:=⟨_,rfl⟩;rw [← hTX];rw [← hTX] at xd Rl;clear hTX kG w2;obtain ⟨pk,pp,dk⟩:=pa;unfold ck.cells at Rl;have fU:=fun i (h : i < ps.length)=>dB (c:=aF.cells) (k:=5) (fun _=>rfl) h;unfold aI.cells;simp only at Rl ⊢;generalize hX : au bk.cells dk = X at *
 generalize hZ : au aF.cells ps = Z at *
 have SI:=fun s=>eA (Γ:=Γ) g 1 (by omega) (by decide) s;change ∀ s,ah _ _ _ _ s (fun r s'=>r = .v (.string ⟨(qG 1 g).toArray⟩)∧s' = s) at SI;have Ri:=fun s=>lS (Γ:=Γ) e e.toNat 8 (uM r3.1 (by omega)) (by decide) (by omega) s;have Rj:=fun s=>lS (Γ:=Γ) sd sd.toNat 1 (uM r4.1 (by omega)) (by decide) (by omega) s;have hNp:=fun s=>lS (Γ:=Γ) (ps.length : Int) ps.length 1 (kC (by omega)) (by decide) (by omega) s;have l1:=fJ 1 g;have l2:=aW 8 e.toNat;have l3:=aW 1 sd.toNat;have l4:=aW 1 ps.length;rw [SP];generalize qG 1 g = A1 at *
 generalize be 8 e.toNat = A2 at *
 generalize be 1 sd.toNat = A3 at *
 generalize be 1 ps.length = A4 at *
 refine az 1 (by simp [bP]) ?_;intro K hK;refine jM ?_;intro o ho;refine hK _ _ o _ rfl ho ?_;clear hK K ho;refine aZ T.mixed [3,7,11,16] (by kernel_rfl) ?_;intro K hK;refine jM ?_;refine ae (SI _) ?_;rintro r s1 ⟨rfl,rfl⟩;refine jN (bz (show 1 + A1.length < 2 ^ 62 by omega)) ?_;refine ae (Ri _) ?_;rintro r s2 ⟨rfl,rfl⟩;have q1 : A1.length + 1 + A2.length < 2 ^ 62:=(by omega);have q2 : (1 :: A1).length + A2.length < 2 ^ 62:=(by rw [List.length_cons]; omega);refine jN (Ai (bz q1) (bz q2)) ?_;refine ae (Rj _) ?_;rintro r s3 ⟨rfl,rfl⟩;have q3 : A1.length + A2.length + 1 + A3.length < 2 ^ 62:=(by omega);have q4 : (1 :: (A1 ++ A2)).length + A3.length < 2 ^ 62:=(by rw [List.length_cons,List.length_append]; omega);refine jN (Ai (bz q3) (bz q4)) ?_;refine ae (hNp _) ?_;rintro r s4 ⟨rfl,rfl⟩;have q5 : A1.length + (A2.length + A3.length) + 1 + A4.length < 2 ^ 62:=(by omega);have q6 : (1 :: (A1 ++ (A2 ++ A3))).length + A4.length < 2 ^ 62:=(by rw [List.length_cons,List.length_append,List.length_append]; omega);have q7 : A1.length + A2.length + A3.length + 1 + A4.length < 2 ^ 62:=(by omega);refine jV (Ai (bz q5) (Ai (bz q6) (bz q7))) hK ?_;clear hK K;refine wK fun K hK=>?_;refine jA ?_;refine ag ?_;have Mj : (1 :: (A1 ++ (A2 ++ (A3 ++ A4)))).length≤1000:=(by rw [List.length_cons,List.length_append,List.length_append,List.length_append]; omega);have Ui : ([1] : List UInt8) ++ (A1 ++ (A2 ++ (A3 ++ A4))) = 1 :: (A1 ++ (A2 ++ (A3 ++ A4))):=rfl;rw [Ui] at hK ⊢;clear Ui SI Ri Rj hNp q1 q2 q3 q4 q5 q6 q7;generalize 1 :: (A1 ++ (A2 ++ (A3 ++ A4))) = HL at *
 refine aH (fun E s9=>∃ i : Nat,i≤ps.length∧E 4 = .v (.int .i64 i)∧E 3 = .v (.string ⟨(HL ++ bS aF.text (ps.take i)).toArray⟩)∧E 1 = .cX [.sl 1 g.length (g.map aw) .any,.v (.int .i64 e),.v (.int .i64 sd),.sl 5 ps.length Z .any,.v (.bool hp),.v (.int .u64 pk),.sl 1 pp.length (pp.map aw) .any,.sl 2 dk.length X .any,.sl 1 cf.length (cf.map aw) .any,.sl 1 mb.length (mb.map aw) .any]∧s9 = s4)
  (fun E _=>match E 4 with | .v (.int _ i)=>ps.length - i.toNat | _=>0) ?_ ?_
 ·exact ⟨0,Nat.zero_le _,rfl,by simp only [aG,Nc,↓reduceIte]; simp [bS],rfl,rfl⟩
 ·rintro E1 s9 ⟨i,hi,g4,g3,g1,rfl⟩ -
  refine wK fun K2 aX=>?_;by_cases aO : i < ps.length
  ·refine jB (Ai @g4 (Ai @g1 (Ai @af (decide_eq_true aO)))) ?_;refine jE ?_;refine ad ?_;refine aX _ _ ?_;clear aX K2;refine wK fun K3 bB=>?_;refine ag ?_;have bN:=fU i aO;have bK : (0 : Int)≤(i : Int):=(by omega);have K9:=j8 aF.text aO;have HM:=qH i;have Uj : (HL ++ bS aF.text (ps.take i)).length≤20000:=(by rw [List.length_append]; omega);have tS : HL ++ bS aF.text (ps.take (i + 1)) = (HL ++ bS aF.text (ps.take i)) ++ aF.text ps[i]:=(by rw [K9,List.append_assoc]);generalize HL ++ bS aF.text (ps.take i) = S at *
   obtain ⟨y,hy⟩ : ∃ y,y = ps[i]:=⟨_,rfl⟩;rw [← hy] at bN tS;have zF : y ∈ ps:=(by rw [hy]; exact List.getElem_mem aO);have SH:=w1 y zF;have qo:=r1 y zF;clear hy K9;obtain ⟨k,l,nm,key,zH⟩:=y;obtain ⟨Pg,Rk⟩:=SH;simp only at Pg Rk;unfold aF.cells at bN;have hk : 0≤k∧k < 256:=by rcases qo with h | h | h <;> (have:=h.1; simp only at this; omega)
   have bO : ∀ (E : Env) (Cs : AS),Cs = s9→E 3 = .v (.string ⟨(HL ++ bS aF.text (ps.take (i + 1))).toArray⟩)→E 4 = .v (.int .i64 i)→E 1 = .cX [.sl 1 g.length (g.map aw) .any,.v (.int .i64 e),.v (.int .i64 sd),.sl 5 ps.length Z .any,.v (.bool hp),.v (.int .u64 pk),.sl 1 pp.length (pp.map aw) .any,.sl 2 dk.length X .any,.sl 1 cf.length (cf.map aw) .any,.sl 1 mb.length (mb.map aw) .any]→K3 E Cs:=by
    have G4:=g4;clear g4 g3 g1;rintro E Cs rfl g3 g4 g1;refine bB _ _ ?_;clear bB K3;refine jD (Ai @g4 (aQ i (by omega))) ?_;refine ⟨⟨i + 1,by omega,rfl,g3,g1,rfl⟩,?_⟩;simp only [G4,aG,↓reduceIte];omega
   clear bB;refine az 5 (by simp [bP]) ?_;intro K2 aX;refine jN (Ai @g4 (Ai @g1 (Ai @af (Ai @aO (Ai @bK @bN))))) ?_;intro o ho;refine aX _ _ o _ rfl ho ?_;clear aX K2 ho;have lk:=aW 1 k.toNat;have hNk:=fun s=>lS (Γ:=Γ) k k.toNat 1 (uM hk.1 (by omega)) (by decide) (by omega) s;have hpt : aF.text ⟨k,l,nm,key,zH⟩ = be 1 k.toNat ++ aF.body ⟨k,l,nm,key,zH⟩:=rfl;rw [hpt] at tS;clear hpt;generalize be 1 k.toNat = B0 at *
   refine jS @g3 fun K hK=>?_;refine ae (hNk _) ?_;rintro r Cs ⟨rfl,rfl⟩;refine jV (zG (show S.length + B0.length < 2 ^ 62 by omega)) hK ?_;clear hK K;have xgN : (S ++ B0).length≤20001:=(by rw [List.length_append]; omega);rw [← List.append_assoc] at tS;generalize S ++ B0 = S1 at *
   refine wK fun K2 aX=>?_;rcases qo with ⟨e1,e2,e3,e4,e5,e6⟩ | ⟨e1,e2,e3,e4,e5,e6⟩ | ⟨e1,e2,e3,e4,e5,e6⟩
   ·simp only at e1 e2 e3 e4 e5 e6;rw [show aF.body ⟨k,l,nm,key,zH⟩ = qG 1 nm ++ (be 8 key ++ be 8 zH) from if_pos e1] at tS;have hTn:=fun s=>eA (Γ:=Γ) nm 1 (by omega) (by decide) s;change ∀ s,ah _ _ _ _ s (fun r s'=>r = .v (.string ⟨(qG 1 nm).toArray⟩)∧s' = s) at hTn;have SR:=fun s=>bJ (Γ:=Γ) key 8 Pg (by decide) s;have xby:=fun s=>bJ (Γ:=Γ) zH 8 Rk (by decide) s;have m1:=fJ 1 nm;have m2:=aW 8 key;have m3:=aW 8 zH;generalize qG 1 nm = C1 at *
    generalize be 8 key = C2 at *
    generalize be 8 zH = C3 at *
    refine jB (gB e1) ?_;refine jE ?_;refine fy T.mixed [4,8,12] (by kernel_rfl) ?_;intro K hK;refine jM ?_;refine ae (hTn _) ?_;rintro r Oc ⟨rfl,rfl⟩;refine jN (zG (show S1.length + C1.length < 2 ^ 62 by omega)) ?_;refine ae (SR _) ?_;rintro r s12 ⟨rfl,rfl⟩;refine jN (IZ (show S1.length + C1.length + C2.length < 2 ^ 62 by omega)) ?_;refine ae (xby _) ?_;rintro r s13 ⟨rfl,rfl⟩;refine jV (Yb (show S1.length + C1.length + C2.length + C3.length < 2 ^ 62 by omega)) hK ?_;clear hK K;simp only [av];refine aX _ _ ?_;clear aX K2;refine jB (e8 (show k≠2 by omega)) ?_;refine jF ?_;refine ad ?_;simp only [aq,av,if_true,if_false];exact bO _ _ rfl (by simp only [aG,Nc,↓reduceIte]; rw [tS]) g4 g1
   ·simp only at e1 e2 e3 e4 e5 e6;rw [show aF.body ⟨k,l,nm,key,zH⟩ = be 1 l.toNat ++ be 8 key from (if_neg (show ¬ k = 1 by omega)).trans (if_pos e1)] at tS;have hNl:=fun s=>lS (Γ:=Γ) l l.toNat 1 (uM e2 (by omega)) (by decide) (by omega) s;have SR:=fun s=>bJ (Γ:=Γ) key 8 Pg (by decide) s;have m1:=aW 1 l.toNat;have m2:=aW 8 key;generalize be 1 l.toNat = C1 at *
    generalize be 8 key = C2 at *
    refine jB (e8 (show k≠1 by omega)) ?_;refine jF ?_;refine jT fun K hK=>?_;refine ae (hNl _) ?_;rintro r Oc ⟨rfl,rfl⟩;refine jV (zG (show S1.length + C1.length < 2 ^ 62 by omega)) hK ?_;clear hK K;simp only [av];refine aX _ _ ?_;clear aX K2;refine jB (gB e1) ?_;refine jE ?_;refine jT fun K hK=>?_;refine ae (SR _) ?_;rintro r s12 ⟨rfl,rfl⟩;refine jV (IZ (show S1.length + C1.length + C2.length < 2 ^ 62 by omega)) hK ?_;clear hK K;simp only [aq,av,if_true,if_false];exact bO _ _ rfl (by simp only [aG,Nc,↓reduceIte]; rw [tS]) g4 g1
   ·simp only at e1 e2 e3 e4 e5 e6;rw [show aF.body ⟨k,l,nm,key,zH⟩ = be 1 l.toNat from (if_neg (show ¬ k = 1 by omega)).trans (if_neg (show ¬ k = 2 by omega))] at tS;have hNl:=fun s=>lS (Γ:=Γ) l l.toNat 1 (uM e2 (by omega)) (by decide) (by omega) s;have m1:=aW 1 l.toNat;generalize be 1 l.toNat = C1 at *
    refine jB (e8 (show k≠1 by omega)) ?_;refine jF ?_;refine jT fun K hK=>?_;refine ae (hNl _) ?_;rintro r Oc ⟨rfl,rfl⟩;refine jV (zG (show S1.length + C1.length < 2 ^ 62 by omega)) hK ?_;clear hK K;simp only [av];refine aX _ _ ?_;clear aX K2;refine jB (e8 (show k≠2 by omega)) ?_;refine jF ?_;refine ad ?_;simp only [aq,av,if_true,if_false];exact bO _ _ rfl (by simp only [aG,Nc,↓reduceIte]; rw [tS]) g4 g1
  ·refine jB (Ai @g4 (Ai @g1 (Ai @af (decide_eq_false aO)))) ?_;refine jF ?_;refine aB ?_;simp only [av,aq,if_true];have HM:=qH ps.length;rw [List.take_of_length_le (by omega)] at g3;rw [List.take_of_length_le (by omega)] at HM;refine hK _ _ ?_;clear hK K aX K2 g4;have Uj : (HL ++ bS aF.text ps).length≤20000:=(by rw [List.length_append]; omega);generalize HL ++ bS aF.text ps = S at *
   refine wK fun K hK=>?_;cases hp with
   | false =>
    refine jB @g1 ?_;refine jE ?_;refine jB (Ai @g3 (bz (show S.length + 1 < 2 ^ 62 by omega))) ?_;refine jI ?_;exact jW ⟨by simp [Kd],rfl⟩
   | true =>
    have xd:=xd rfl;refine jB @g1 ?_;refine jF ?_;refine ad ?_;refine hK _ _ ?_;clear hK K;refine jS (Ai @g1 (Ai @g3 (bz (show S.length + 1 < 2 ^ 62 by omega)))) fun K hK=>?_;refine ae (Rl rfl _) ?_;rintro r Cs ⟨rfl,rfl⟩;have q1 : S.length + 1 + TX.length < 2 ^ 62:=(by omega);have q2 : (S ++ [1]).length + TX.length < 2 ^ 62:=(by rw [List.length_append,List.length_singleton]; omega);refine jV (Ai (bz q1) (bz q2)) hK ?_;clear hK K;refine jI ?_;exact jW ⟨by simp,rfl⟩
theorem Fw (c : aI) (ha : c.wf) (s : AS) : ah prog Γ 7 [.agg c.cells] s (fun r s'=>(∃ n,r = .v (.int .i64 n))∧s' = s):=by
 refine ab func7 rfl ntmps7 results7 (by simp) ?_;obtain ⟨g,e,d,l,p,⟨uk,up,us⟩,c,m⟩:=c;obtain ⟨hw,⟨_,hu,Od⟩,hl⟩:=ha;simp only at hw hu hl Od;unfold maxLen at hl Od;unfold aI.cells;simp only;have Fx:=fun i (h : i < l.length)=>dB (c:=aF.cells) (k:=5) (fun _=>rfl) h;have uL:=fun i (h : i < us.length)=>dB (c:=bk.cells) (k:=2) (fun _=>rfl) h;generalize au aF.cells l = XX at *
 generalize au bk.cells us = YY at *
 refine az 1 (by simp [bP]) ?_;intro K hK;refine jM ?_;intro o ho;refine hK _ _ o _ rfl ho ?_;clear hK K ho;refine jA ?_;refine wK fun K1 tQ=>?_;refine jA ?_;refine ag ?_;refine aH (fun E s1=>∃ (i : Nat) (n : Int),i≤l.length∧E 4 = .v (.int .i64 i)∧E 3 = .v (.int .i64 n)∧E 1 = .cX [.sl 1 g.length (g.map aw) .any,.v (.int .i64 e),.v (.int .i64 d),.sl 5 l.length XX .any,.v (.bool p),.v (.int .u64 uk),.sl 1 up.length (up.map aw) .any,.sl 2 us.length YY .any,.sl 1 c.length (c.map aw) .any,.sl 1 m.length (m.map aw) .any]∧s1 = s)
  (fun E _=>match E 4 with | .v (.int _ i)=>l.length - i.toNat | _=>0) ?_ ?_
 ·exact ⟨0,_,Nat.zero_le _,rfl,rfl,rfl,rfl⟩
 ·rintro E1 s1 ⟨i,n,hi,g4,g3,g1,rfl⟩ -
  refine wK fun K2 aX=>?_;by_cases aO : i < l.length
  ·refine jB (Ai @g4 (Ai @g1 (Ai @af (decide_eq_true aO)))) ?_;refine jE ?_;refine ad ?_;refine aX _ _ ?_;clear aX K2;refine wK fun K3 bB=>?_;refine ag ?_;have bN:=Fx i aO;have bK : (0 : Int)≤(i : Int):=(by omega);generalize l[i] = y1 at *
   obtain ⟨k1,f1,n1,x1,i1⟩:=y1;unfold aF.cells at bN;simp only at bN;refine jD (Ai @g4 (Ai @g3 (Ai @g1 (Ai @af (Ai @aO (Ai @bK @bN)))))) ?_;simp only [aq,av,if_true,if_false];refine bB _ _ ?_;clear bB K3;refine jD (Ai @g4 (aQ i (by omega))) ?_;refine ⟨⟨i + 1,_,by omega,rfl,rfl,g1,rfl⟩,?_⟩;simp only [g4,aG,↓reduceIte];omega
  ·refine jB (Ai @g4 (Ai @g1 (Ai @af (decide_eq_false aO)))) ?_;refine jF ?_;refine aB ?_;simp only [av,aq,if_true];refine tQ _ _ ?_;clear tQ K1 aX K2;refine wK fun K1 tQ=>?_;refine jA ?_;refine ag ?_;refine aH (fun E s2=>∃ (i : Nat) (n : Int),i≤us.length∧E 5 = .v (.int .i64 i)∧E 3 = .v (.int .i64 n)∧E 1 = .cX [.sl 1 g.length (g.map aw) .any,.v (.int .i64 e),.v (.int .i64 d),.sl 5 l.length XX .any,.v (.bool p),.v (.int .u64 uk),.sl 1 up.length (up.map aw) .any,.sl 2 us.length YY .any,.sl 1 c.length (c.map aw) .any,.sl 1 m.length (m.map aw) .any]∧s2 = s1)
    (fun E _=>match E 5 with | .v (.int _ i)=>us.length - i.toNat | _=>0) ?_ ?_
   ·exact ⟨0,_,Nat.zero_le _,rfl,by simp only [aG,g3,Nc,↓reduceIte]; rfl,g1,rfl⟩
   ·clear g4 g3 g1 aO;rintro E2 s2 ⟨i,n,hi,g5,g3,g1,rfl⟩ -
    refine wK fun K2 aX=>?_;by_cases aO : i < us.length
    ·refine jB (Ai @g5 (Ai @g1 (Ai @af (decide_eq_true aO)))) ?_;refine jE ?_;refine ad ?_;refine aX _ _ ?_;clear aX K2;refine wK fun K3 bB=>?_;refine ag ?_;have bN:=uL i aO;have bK : (0 : Int)≤(i : Int):=(by omega);have hsw:=hu us[i] (List.getElem_mem aO);generalize us[i] = y1 at *
     obtain ⟨k1,t1⟩:=y1;obtain ⟨_,_,tT⟩:=hsw;simp only at tT;unfold maxLen at tT;unfold bk.cells at bN;simp only at bN;have Yc:=fun i (h : i < t1.length)=>dB (c:=bQ.cells) (k:=2) (fun _=>rfl) h;generalize au bQ.cells t1 = T at *
     refine jB @g3 ?_;refine jA ?_;refine ag ?_;refine aH (fun E s3=>∃ (j : Nat) (n : Int),j≤t1.length∧E 6 = .v (.int .i64 j)∧E 5 = .v (.int .i64 i)∧E 3 = .v (.int .i64 n)∧E 1 = .cX [.sl 1 g.length (g.map aw) .any,.v (.int .i64 e),.v (.int .i64 d),.sl 5 l.length XX .any,.v (.bool p),.v (.int .u64 uk),.sl 1 up.length (up.map aw) .any,.sl 2 us.length YY .any,.sl 1 c.length (c.map aw) .any,.sl 1 m.length (m.map aw) .any]∧s3 = s2)
      (fun E _=>match E 6 with | .v (.int _ i)=>t1.length - i.toNat | _=>0) ?_ ?_
     ·exact ⟨0,_,Nat.zero_le _,rfl,g5,rfl,g1,rfl⟩
     ·have G5:=g5;clear g5 g3 g1;rintro E3 s3 ⟨j,n,hj,g6,g5,g3,g1,rfl⟩ -
      refine wK fun K4 fS=>?_;by_cases gh : j < t1.length
      ·refine jB (Ai @g6 (Ai @g5 (Ai @g1 (Ai @af (Ai @aO (Ai @bK (Ai @bN (decide_eq_true gh)))))))) ?_;refine jE ?_;refine ad ?_;refine fS _ _ ?_;clear fS K4;refine wK fun K5 js=>?_;refine ag ?_;have Ph:=Yc j gh;have Pj : (0 : Int)≤(j : Int):=(by omega);generalize t1[j] = z1 at *
       obtain ⟨q1,q2⟩:=z1;unfold bQ.cells at Ph;simp only at Ph;refine jD (Ai @g6 (Ai @g5 (Ai @g3 (Ai @g1 (Ai @af (Ai @aO (Ai @bK (Ai @bN (Ai @gh (Ai @Pj @Ph)))))))))) ?_;simp only [aq,av,if_true,if_false];refine js _ _ ?_;clear js K5;refine jD (Ai @g6 (aQ j (by omega))) ?_;refine ⟨⟨j + 1,_,by omega,rfl,g5,rfl,g1,rfl⟩,?_⟩;simp only [g6,aG,↓reduceIte];omega
      ·refine jB (Ai @g6 (Ai @g5 (Ai @g1 (Ai @af (Ai @aO (Ai @bK (Ai @bN (decide_eq_false gh)))))))) ?_;refine jF ?_;refine aB ?_;simp only [av,aq,if_true];refine bB _ _ ?_;clear bB K3 fS K4;refine jD (Ai @g5 (aQ i (by omega))) ?_;refine ⟨⟨i + 1,_,by omega,rfl,by simp only [aG,g3,Nc,↓reduceIte]; rfl,g1,rfl⟩,?_⟩;simp only [G5,aG,↓reduceIte];omega
    ·refine jB (Ai @g5 (Ai @g1 (Ai @af (decide_eq_false aO)))) ?_;refine jF ?_;refine aB ?_;simp only [av,aq,if_true];refine tQ _ _ ?_;clear tQ K1 aX K2;refine jB @g3 ?_;refine jI ?_;exact ⟨_,_,AV.aL.refl _,AS.le.refl _,⟨n,rfl⟩,rfl⟩
theorem jd (S : gy) (C : aI) (F : List aa × List Int × Bool) : (∃ e : Int,e≠0∧bl S C F = ([],[],e))∨(S.right∧C.right∧F.2.2 = true∧bl S C F = (F.1,F.2.1,0)):=by
  unfold bl;by_cases h1 : S.right∧C.right
  · rw [if_neg (fun k=>k h1)];by_cases h2 : C.group≠S.group
    · exact .inl ⟨41,by decide,if_pos h2⟩
    · rw [if_neg h2];by_cases h3 : C.b8≠S.b8
      · exact .inl ⟨42,by decide,if_pos h3⟩
      · rw [if_neg h3];by_cases h4 : S.b8 = 1048576
        · exact .inl ⟨47,by decide,if_pos h4⟩
        · rw [if_neg h4];by_cases h5 : ¬ bx S.tree C.br
          · exact .inl ⟨43,by decide,if_pos h5⟩
          · rw [if_neg h5];by_cases h6 : F.2.2 = true
            · exact .inr ⟨h1.1,h1.2,h6,if_pos h6⟩
            · exact .inl ⟨44,by decide,if_neg h6⟩
  · exact .inl ⟨12,by decide,if_pos h1⟩
theorem qI (hG : Γ 3 = eW.map nj) (S : gy) (ht : S.wf) (C : aI) (hf : aI.fits C) (s : AS) :
    ah prog Γ 8 [.agg S.cells,.agg C.cells] s (fun r s'=>r = .dZ [fm (bl S C (cS S.tree C.br C.props)).1,aC (bl S C (cS S.tree C.br C.props)).2.1 .any,.v (.int .i64 (bl S C (cS S.tree C.br C.props)).2.2)]∧s' = s) :=
  sJ hG S ht C hf _ (fun hS hC _ s=>zI hG S.tree hS.2.2.2.1 C.br C.props hC.1 hC.2.2.2.2.1 s) (fun hS _ _ h=>kH hS.2.2.2.1 h) s
end Go.Proofs.YtcjifoccjlpapaaGreatDoor
namespace Go.AM
open Go
def qJ : List Int→List aF→Bool
  | _,[]=>false
  | us,p :: ps=>if p.kind≠1 then (if p.leaf ∈ us then true else qJ (us ++ [p.leaf]) ps) else qJ us ps
structure HN where
  t : List aa
  fresh : List Int
def uN (k : Int) (p : aF) (st : HN) : Option HN :=
  if p.kind≠k then some st
  else if (bV st.t p).2.2≠0 then none
  else some ⟨(bV st.t p).1,if k = 1 then st.fresh ++ [(bV st.t p).2.1] else st.fresh⟩
def jt (k : Int) : List aF→HN→Option HN
  | [],st=>some st
  | p :: ps,st=>(uN k p st).bind (jt k ps)
def gz (ps : List aF) : List Int→HN→Option HN
  | [],st=>some st
  | k :: ks,st=>(jt k ps st).bind (gz ps ks)
def iP (t : List aa) (sd : Int) (ps : List aF) : List aa × List Int × Bool :=
  if qJ [sd] ps = true then ([],[],false)
  else match gz ps [2,3,1] ⟨t,[]⟩ with
  | some st=>(st.t,st.fresh,true)
  | none=>([],[],false)
theorem HO {k : Int} {ps : List aF} {j : Nat} (h : j < ps.length) (st : HN) : jt k (ps.drop j) st = (uN k ps[j] st).bind (jt k (ps.drop (j + 1))):=by
  rw [List.drop_eq_getElem_cons h]; rfl
theorem tn {k : Int} {p : aF} (st : HN) (h : p.kind≠k) : uN k p st = some st:=if_pos h
theorem v7 {k : Int} {p : aF} {st : HN} (h : p.kind = k) (he : (bV st.t p).2.2≠0) : uN k p st = none:=by
  unfold uN; rw [if_neg (fun q=>q h),if_pos he]
theorem Ct {p : aF} {st : HN} (h : p.kind = 1) (he : (bV st.t p).2.2 = 0) : uN 1 p st = some ⟨(bV st.t p).1,st.fresh ++ [(bV st.t p).2.1]⟩:=by
  unfold uN; rw [if_neg (fun q=>q h),if_neg (fun q=>q he),if_pos rfl]
theorem Cu {k : Int} {p : aF} {st : HN} (h : p.kind = k) (h1 : k≠1) (he : (bV st.t p).2.2 = 0) : uN k p st = some ⟨(bV st.t p).1,st.fresh⟩:=by
  unfold uN; rw [if_neg (fun q=>q h),if_neg (fun q=>q he),if_neg h1]
def gp (k : Int) (ps : List aF) : List Int:=(ps.filter fun p=>decide (p.kind = k)).map (·.leaf)
theorem Ke {t : List aa} {p : aF} (h : p.kind = 2∨p.kind = 3) : (bV t p).2.1 = p.leaf:=by
  unfold bV;rcases h with h | h
  · rw [if_pos h]
  · rw [if_neg (by omega),if_pos h]
def Dt (old l : List Int) : Prop:=l.Nodup∧∀ x ∈ l,x ∉ old
instance (old l : List Int) : Decidable (Dt old l):=by unfold Dt; infer_instance
theorem oI {old l : List Int} {x : Int} : Dt old (x :: l)↔x ∉ old∧Dt (old ++ [x]) l:=by
  unfold Dt;simp only [List.nodup_cons,List.mem_cons,forall_eq_or_imp,List.mem_append,List.not_mem_nil,or_false,not_or];constructor
  · rintro ⟨⟨a,b⟩,c,d⟩;exact ⟨c,b,fun y hy=>⟨d y hy,fun e=>a (e ▸ hy)⟩⟩
  · rintro ⟨a,b,c⟩;exact ⟨⟨fun h=>(c x h).2 rfl,b⟩,a,fun y hy=>(c y hy).1⟩
theorem v8 {k : Int} (hk : k = 2∨k = 3) : ∀ (ps : List aF) (st : xA),gI k ps st = if Dt st.old (gp k ps) then (jt k ps ⟨st.t,st.fresh⟩).map fun q=>⟨q.t,st.old ++ gp k ps,q.fresh⟩ else none
  | [],st=>by
    have h : Dt st.old (gp k []):=⟨by simp [gp],by intro x hx; cases hx⟩;rw [if_pos h];simp [gI,jt,gp]
  | p :: ps,st=>by
    have ih:=v8 hk ps;have oB : k≠1:=(by omega);simp only [gI,jt];by_cases h : p.kind = k
    · have hl : gp k (p :: ps) = p.leaf :: gp k ps:=(by simp [gp,h]);rw [hl];have tT : (bV st.t p).2.1 = p.leaf:=Ke (by omega);by_cases he : (bV st.t p).2.2 = 0
      · rw [Cu (st:=⟨st.t,st.fresh⟩) h oB he];by_cases hd : (bV st.t p).2.1 ∈ st.old
        · rw [rC h oB hd,if_neg]
          · rfl
          · rw [oI,← tT];exact fun q=>q.1 hd
        · rw [rD h oB he hd];simp only [Option.bind_some];rw [ih];simp only [tT];by_cases hq : Dt (st.old ++ [p.leaf]) (gp k ps)
          · rw [if_pos hq,if_pos (oI.2 ⟨by rw [← tT]; exact hd,hq⟩)];simp only [List.append_assoc,List.cons_append,List.nil_append]
          · rw [if_neg hq,if_neg (fun q=>hq (oI.1 q).2)]
      · rw [lT h he,v7 (st:=⟨st.t,st.fresh⟩) h he];simp
    · have hl : gp k (p :: ps) = gp k ps:=(by simp [gp,h]);rw [hl,j9 st h,tn ⟨st.t,st.fresh⟩ h];simp only [Option.bind_some];exact ih st
theorem Cv : ∀ (ps : List aF) (st : xA),gI 1 ps st = (jt 1 ps ⟨st.t,st.fresh⟩).map fun q=>⟨q.t,st.old,q.fresh⟩
  | [],st=>rfl
  | p :: ps,st=>by
    have ih:=Cv ps;simp only [gI,jt];by_cases h : p.kind = 1
    · by_cases he : (bV st.t p).2.2 = 0
      · rw [wc h he,Ct (st:=⟨st.t,st.fresh⟩) h he];simp only [Option.bind_some];exact ih _
      · rw [lT h he,v7 (st:=⟨st.t,st.fresh⟩) h he];rfl
    · rw [j9 st h,tn ⟨st.t,st.fresh⟩ h];simp only [Option.bind_some];exact ih st
theorem Pk {old a b : List Int} : Dt old (a ++ b)↔Dt old a∧Dt (old ++ a) b:=by
  induction a generalizing old with
  | nil=>simp [Dt]
  | cons x a ih=>rw [List.cons_append,oI,oI,ih,List.append_assoc]; simp only [List.cons_append,List.nil_append,and_assoc]
theorem Mm {old a b : List Int} (h : a.Perm b) : Dt old a↔Dt old b:=by
  unfold Dt;rw [h.nodup_iff];simp only [h.mem_iff]
def qc (ps : List aF) : List Int:=(ps.filter fun p=>decide (p.kind≠1)).map (·.leaf)
theorem Du : ∀ (ps : List aF) (us : List Int),qJ us ps = true↔¬ Dt us (qc ps)
  | [],us=>by simp [qJ,qc,Dt]
  | p :: ps,us=>by
    simp only [qJ];by_cases h : p.kind≠1
    · have hl : qc (p :: ps) = p.leaf :: qc ps:=(by simp [qc,h]);rw [if_pos h,hl,oI];by_cases hm : p.leaf ∈ us
      · simp [hm]
      · rw [if_neg hm,Du ps];simp [hm]
    · have hl : qc (p :: ps) = qc ps:=(by simp [qc,h]);rw [if_neg h,hl,Du ps]
theorem Cw : ∀ {ps : List aF},(∀ p ∈ ps,p.kind = 1∨p.kind = 2∨p.kind = 3)→(qc ps).Perm (gp 2 ps ++ gp 3 ps)
  | [],_=>List.Perm.refl _
  | p :: ps,h=>by
    have ih:=Cw (ps:=ps) fun q hq=>h q (by simp [hq]);rcases h p (by simp) with hk | hk | hk
    · have h1 : qc (p :: ps) = qc ps:=(by simp [qc,hk]);have h2 : gp 2 (p :: ps) = gp 2 ps:=(by simp [gp,hk]);have h3 : gp 3 (p :: ps) = gp 3 ps:=(by simp [gp,hk]);rw [h1,h2,h3];exact ih
    · have h1 : qc (p :: ps) = p.leaf :: qc ps:=(by simp [qc,hk]);have h2 : gp 2 (p :: ps) = p.leaf :: gp 2 ps:=(by simp [gp,hk]);have h3 : gp 3 (p :: ps) = gp 3 ps:=(by simp [gp,hk]);rw [h1,h2,h3];exact ih.cons _
    · have h1 : qc (p :: ps) = p.leaf :: qc ps:=(by simp [qc,hk]);have h2 : gp 2 (p :: ps) = gp 2 ps:=(by simp [gp,hk]);have h3 : gp 3 (p :: ps) = p.leaf :: gp 3 ps:=(by simp [gp,hk]);rw [h1,h2,h3];exact (ih.cons _).trans List.perm_middle.symm
theorem fold_eq (t : List aa) (sd : Int) {ps : List aF} (h : ∀ p ∈ ps,p.right) : cS t sd ps = iP t sd ps:=by
  have hp:=Cw (ps:=ps) fun p hp=>pB (h p hp);have hd:=Du ps [sd];rw [Mm hp,Pk] at hd;have key : ka ps [2,3,1] ⟨t,[sd],[]⟩ = if qJ [sd] ps = true then none else (gz ps [2,3,1] ⟨t,[]⟩).map fun q=>⟨q.t,[sd] ++ gp 2 ps ++ gp 3 ps,q.fresh⟩:=by
    simp only [ka,gz];rw [v8 (.inl rfl)];simp only;by_cases h2 : Dt [sd] (gp 2 ps)
    · rw [if_pos h2];cases qz : jt 2 ps ⟨t,[]⟩ with
      | none=>simp
      | some q2 =>
        simp only [Option.map_some,Option.bind_some];rw [v8 (.inr rfl)];simp only;by_cases h3 : Dt ([sd] ++ gp 2 ps) (gp 3 ps)
        · rw [if_pos h3,if_neg (fun q=>(hd.1 q) ⟨h2,h3⟩)];cases sF : jt 3 ps ⟨q2.t,q2.fresh⟩ with
          | none=>rfl
          | some q3 =>
            simp only [Option.map_some,Option.bind_some];rw [Cv];cases nF : jt 1 ps ⟨q3.t,q3.fresh⟩ with
            | none=>rfl
            | some q1=>simp only [Option.map_some,Option.bind_some]
        · rw [if_neg h3,if_pos (hd.2 fun q=>h3 q.2)];rfl
    · rw [if_neg h2,if_pos (hd.2 fun q=>h2 q.1)];rfl
  unfold cS iP;rw [key];by_cases hb : qJ [sd] ps = true
  · rw [if_pos hb,if_pos hb]
  · rw [if_neg hb,if_neg hb];cases gz ps [2,3,1] ⟨t,[]⟩ <;> rfl
end Go.AM
namespace Go.Proofs.YtcjifoccjlpapaaGreatDoor
open Go Go.AM Go.Proofs Tryz
variable {Γ : Nat→List AV}
theorem oJ (S : gy) (ht : S.wf) (C : aI) (hw : C.wf) (s : AS) :
  ah prog Γ 9 [.agg S.cells,.agg C.cells] s (fun r s'=>r = .dZ [fm (bl S C (iP S.tree C.br C.props)).1,aC (bl S C (iP S.tree C.br C.props)).2.1 .any,.v (.int .i64 (bl S C (iP S.tree C.br C.props)).2.2)]∧s' = s):=by
 refine ah.tidy (Q:=fun r=>r = .dZ [fm (bl S C (iP S.tree C.br C.props)).1,aC (bl S C (iP S.tree C.br C.props)).2.1 .any,.v (.int .i64 (bl S C (iP S.tree C.br C.props)).2.2)]) ?_;refine ab func9 rfl ntmps9 results9 (by simp) ?_;have h1:=fun s=>uP (Γ:=Γ) S ht s;have h2:=fun s=>xY (Γ:=Γ) C hw s;have h3:=fun s=>cn (Γ:=Γ) S.tree ht.1 C.br s;obtain ⟨R0,Rm⟩ : ∃ R0,R0 = gz C.props [2,3,1] ⟨S.tree,[]⟩:=⟨_,rfl⟩;obtain ⟨PT,A8⟩ : ∃ PT,PT = bl S C (iP S.tree C.br C.props):=⟨_,rfl⟩;rw [← A8];have dV : ∀ e : Int,PT = ([],[],e)→∀ s6 : AS,s.le s6→∃ r s',(AV.dZ [.v (.slice none 0 0),.v (.slice none 0 0),.v (.int .i64 e)]).aL r∧s'.le s6∧(r = .dZ [fm PT.1,aC PT.2.1 .any,.v (.int .i64 PT.2.2)]∧s.le s'):=fun e h s6 hle=>by
  rw [h];exact ⟨_,s6,gW e,AS.le.refl _,rfl,hle⟩
 unfold bl at A8;have KX:=A8;by_cases hS : S.right
 ·by_cases hC : C.right
  ·have fN : aA S.tree:=hS.2.2.2.1;have hC1:=hC.2.2.2.1;have xbC:=hC.1;have xd:=hC.2.2.2.2.1;rw [decide_eq_true hS] at h1;rw [decide_eq_true hC] at h2;rw [if_neg (fun k=>k ⟨hS,hC⟩)] at A8;have hmI:=tp fN C.br;have hmd : decide (c7 S.tree C.br) = decide (bx S.tree C.br):=(by simp only [hmI]);rw [hmd] at h3;clear KX hS hC hmI hmd ht hw;obtain ⟨cg,ce,cs,cp,ch,qd,cc,cm⟩:=C;obtain ⟨sg,se,st,sc,si⟩:=S;unfold aI.cells gy.cells at *
   simp only at *
   have Uk : ∀ u,ax u = .sl 5 u.length (au aa.cells u) .any:=fun _=>rfl;have fU:=fun i (h : i < cp.length)=>dB (c:=aF.cells) (k:=5) (fun _=>rfl) h;have Yd:=fun (i : Nat) (h : i < 3)=>show List.take 1 (List.drop i [AV.v (.int .i64 2),.v (.int .i64 3),.v (.int .i64 1)]) = _ from Rn h;unfold ax at h1 h3 ⊢;unfold ak at *
   generalize Ul : au aa.cells st = X at *
   generalize au aF.cells cp = CP at *
   generalize au bk.cells qd.steps = CS at *
   obtain ⟨VS,I0⟩ : ∃ VS,VS = AV.cX [.sl 1 sg.length (sg.map aw) .any,.v (.int .i64 se),.sl 5 st.length X .any,.sl 1 sc.length (sc.map aw) .any,.sl 1 si.length (si.map aw) .any]:=⟨_,rfl⟩;obtain ⟨VC,qK⟩ : ∃ VC,VC = AV.cX [.sl 1 cg.length (cg.map aw) .any,.v (.int .i64 ce),.v (.int .i64 cs),.sl 5 cp.length CP .any,.v (.bool ch),.v (.int .u64 qd.key),.sl 1 qd.parent.length (qd.parent.map aw) .any,.sl 2 qd.steps.length CS .any,.sl 1 cc.length (cc.map aw) .any,.sl 1 cm.length (cm.map aw) .any]:=⟨_,rfl⟩;refine bY 2 3 (by decide) (by decide) (by decide) ?_;intro K hK;refine jM ?_;intro o1 q1 o2 q2;refine hK _ _ o1 o2 _ _ rfl rfl q1 (by rw [AS.cQ]; exact q2) ?_;clear hK K q1 q2;refine wK fun K hK=>?_;refine jQ fun K hK=>?_;refine ae (h1 _) ?_;rintro r s1 ⟨rfl,rfl⟩;refine jM ?_;refine ae (h2 _) ?_;rintro r s2 ⟨rfl,rfl⟩;refine jR hK ?_;clear hK K;refine jF ?_;refine ad ?_;refine hK _ _ ?_;clear hK K;have vC : s2.le s2:=AS.le.refl _;by_cases hg : cg = sg
   ·rw [if_neg (fun k=>k hg)] at A8;refine wK fun K hK=>?_;refine jB (vX hg) ?_;refine jF ?_;refine ad ?_;refine hK _ _ ?_;clear hK K;by_cases he : ce = se
    ·rw [if_neg (fun k=>k he)] at A8;refine wK fun K hK=>?_;refine jB (cC he) ?_;refine jF ?_;refine ad ?_;refine hK _ _ ?_;clear hK K;by_cases Mn : se = 1048576
     ·rw [if_pos Mn] at A8;refine wK fun K hK=>?_;refine jB (gJ Mn) ?_;refine jE ?_;refine jA ?_;refine jI ?_;exact dV _ A8 _ vC
     ·rw [if_neg Mn] at A8;refine wK fun K hK=>?_;refine jB (dU Mn) ?_;refine jF ?_;refine ad ?_;refine hK _ _ ?_;clear hK K;by_cases hm : bx st cs
      ·rw [if_neg (fun k=>k hm)] at A8;rw [decide_eq_true hm] at h3;refine wK fun K hK=>?_;refine jK (h3 _) ?_;rintro s3 rfl;refine jF ?_;refine ad ?_;refine hK _ _ ?_;clear hK K;refine jA ?_;refine jA ?_;refine wS fun K hK=>?_;simp only [↓DN,Qa,Qb,Qc,Qd,Qe,Qf,Qg,Qh,reduceCtorEq,↓reduceIte,Na,Nb,Nc,Nk,Nf,Ng,Nh,Za,Zb,Zc,TT,List.replicate_succ,List.replicate_zero];refine hK _ _ ?_;clear hK K;have Ye : qJ [cs] cp = true→PT = ([],[],44):=by
        intro h;rw [A8,if_neg];unfold iP;rw [if_pos h];simp
       have qL : qJ [cs] cp = false→R0 = none→PT = ([],[],44):=by
        intro h h0;rw [A8,if_neg];unfold iP;rw [h,← Rm,h0];simp
       have Fy : qJ [cs] cp = false→∀ q,R0 = some q→PT = (q.t,q.fresh,0):=by
        intro h q h0;rw [A8];unfold iP;rw [h,← Rm,h0];simp
       clear A8 h1 h2 h3;have hs3 : s3.le s3:=AS.le.refl _;refine (fun (k : ∀ (E : Env) (s5 : AS),s3 = s5→E 2 = VS→E 3 = VC→E 7 = .sl 5 st.length X .any→E 8 = bL→E 9 = .sl 1 1 [.v (.int .i64 cs)] .new→_)=>k _ _ rfl (by rw [I0]; exact (by simp only [aG,Nc,↓reduceIte])) (by rw [qK]; exact (by simp only [aG,Nc,↓reduceIte])) (by simp only [aG,Nc,↓reduceIte]) (by simp only [aG,Nc,↓reduceIte]; rfl) (by simp only [aG,Nc,↓reduceIte])) ?_;rintro E s4 rfl g2 g3 g7 g8 g9;refine wK fun K hK=>?_;refine jA ?_;refine ag ?_;refine aH (fun E s4=>∃ (i : Nat) (us : List Int),i≤cp.length∧us.length≤1 + i∧qJ us (cp.drop i) = qJ [cs] cp∧E 10 = .v (.int .i64 i)∧E 2 = VS∧E 3 = VC∧E 7 = .sl 5 st.length X .any∧E 8 = bL∧Bo s3 s4 (E 9) us∧s3.le s4)
        (fun E _=>match E 10 with | .v (.int _ i)=>cp.length - i.toNat | _=>0) ?_ ?_
       ·exact ⟨0,[cs],Nat.zero_le _,by simp,rfl,rfl,g2,g3,g7,g8,.inl (by simp only [aG,g9,Nc,↓reduceIte]; rfl),hs3⟩
       ·clear g2 g3 g7 g8 g9;rintro E1 s4 ⟨i,us,hi,Od,GP,g10,g2,g3,g7,g8,h9,hle⟩ -
        by_cases aO : i < cp.length
        ·refine wK fun K2 aX=>?_;refine jB (Ai @g10 (Ai @g3 (Ai @qK (Ai @af (decide_eq_true aO))))) ?_;refine jE ?_;refine ad ?_;refine aX _ _ ?_;clear aX K2;refine wK fun K3 bB=>?_;refine ag ?_;have bK : (0 : Int)≤((i : Nat) : Int):=(by omega);have gA:=fU i aO;rw [List.drop_eq_getElem_cons aO] at GP;generalize cp[i] = p at *
         obtain ⟨pk,pl,pn,py,pi⟩:=p;unfold aF.cells ak at gA;simp only [qJ] at gA GP;have tS : ∀ (E : Env) (s5 : AS) (us : List Int),us.length≤2 + i→qJ us (cp.drop (i + 1)) = qJ [cs] cp→E 10 = .v (.int .i64 i)→E 2 = VS→E 3 = VC→E 7 = .sl 5 st.length X .any→E 8 = bL→Bo s3 s5 (E 9) us→s3.le s5→K3 E s5:=by
          intro E s5 us Od GP Uf g2 g3 g7 g8 h9 hle;refine bB _ _ ?_;clear bB K3;refine jD (Ai @Uf (aQ i (by omega))) ?_;refine ⟨⟨i + 1,us,by omega,by omega,GP,rfl,g2,g3,g7,g8,by simpa only [aG,Nc,↓reduceIte] using h9,hle⟩,?_⟩;simp only [g10,aG,↓reduceIte];omega
         clear bB;by_cases hk : pk = 1
         ·rw [if_neg (fun q=>q hk)] at GP;refine jB (Ai @g3 (Ai @qK (Ai @g10 (Ai @af (Ai @aO (Ai @bK (Ai @gA (cC hk)))))))) ?_;refine jF ?_;refine ad ?_;refine tS _ _ us (by omega) GP g10 g2 g3 g7 g8 ?_ hle;simpa only [aG,Nc,↓reduceIte] using h9
         ·rw [if_pos hk] at GP;have Um:=fun s=>rE (Γ:=Γ) us pl (by omega) s;refine jB (Ai @g3 (Ai @qK (Ai @g10 (Ai @af (Ai @aO (Ai @bK (Ai @gA (bF hk)))))))) ?_;refine jE ?_;refine wK fun K4 fS=>?_;refine jS (Ai @g3 (Ai @qK (Ai @g10 (Ai @af (Ai @aO (Ai @bK @gA)))))) fun K hK=>?_;refine ae (ah.jq (.cons h9.aL (.cons (AV.aL.refl _) .nil)) (Um _)) ?_;rintro r s5 ⟨rfl,rfl⟩;by_cases hm : pl ∈ us
          ·rw [if_pos hm] at GP;rw [decide_eq_true hm];refine jR hK ?_;clear hK K;refine jE ?_;refine jA ?_;refine jI ?_;exact dV _ (Ye GP.symm) _ hle
          ·rw [if_neg hm] at GP;rw [decide_eq_false hm];refine jR hK ?_;clear hK K;refine jF ?_;refine ad ?_;refine fS _ _ ?_;clear fS K4;have gC : ∀ (E : Env) (s8 : AS),E 10 = .v (.int .i64 i)→E 2 = VS→E 3 = VC→E 7 = .sl 5 st.length X .any→E 8 = bL→Bo s3 s8 (E 9) (us ++ [pl])→s3.le s8→K3 E s8 :=
            fun E s8 a1 a2 a3 a4 a5 a6 a7=>tS E s8 _ (by rw [List.length_append]; simp; omega) GP a1 a2 a3 a4 a5 a6 a7
           rcases h9 with h9 | ⟨tk,e,h9,gQ,pC⟩
           ·refine wE fun K hK=>?_;simp only [↓DN,Qa,Qb,Qc,Qd,Qe,Qf,Qg,Qh,reduceCtorEq,↓reduceIte,Na,Nb,Nc,Nk,Nf,Ng,Nh,Za,Zb,Zc,TT,h9,g3,qK,g10,af,aO,bK,gA,List.replicate_succ,List.replicate_zero];refine ⟨by omega,by omega,fun tk gQ=>?_⟩;refine hK _ _ (gC _ _ g10 g2 g3 g7 g8 ?_ (AS.bC hle (bd hle gQ) 0));refine .inr ⟨tk,0,?_,by simp [AS.cd],bd hle gQ⟩;simp only [aG,Nc,↓reduceIte];rw [List.length_append,List.map_append];rfl
           ·refine wE fun K hK=>?_;simp only [↓DN,Qa,Qb,Qc,Qd,Qe,Qf,Qg,Qh,reduceCtorEq,↓reduceIte,Na,Nb,Nc,Nk,Nf,Ng,Nh,Za,Zb,Zc,TT,h9,g3,qK,g10,af,aO,bK,gA,List.replicate_succ,List.replicate_zero,gQ];refine ⟨by omega,by omega,hK _ _ (gC _ _ g10 g2 g3 g7 g8 ?_ (AS.bC hle pC (e + 1)))⟩;refine .inr ⟨tk,e + 1,?_,by simp [AS.cd],pC⟩;simp only [aG,Nc,↓reduceIte];rw [List.length_append,List.map_append];rfl
        ·refine wK fun K2 aX=>?_;refine jB (Ai @g10 (Ai @g3 (Ai @qK (Ai @af (decide_eq_false aO))))) ?_;refine jF ?_;refine aB ?_;simp only [av,aq,if_true];refine hK _ _ ?_;clear hK aX K2 K;obtain rfl : i = cp.length:=(by omega);rw [List.drop_length] at GP;simp only [qJ] at GP;replace qL:=qL GP.symm;replace Fy:=Fy GP.symm;clear Ye GP h9 Od g10;refine (fun (k : ∀ (E : Env) (s5 : AS),s3.le s5→E 2 = VS→E 3 = VC→E 7 = .sl 5 st.length X .any→E 8 = bL→_)=>k _ _ hle (by simp only [aG,g2,Nc,↓reduceIte]) (by simp only [aG,g3,Nc,↓reduceIte]) (by simp only [aG,g7,Nc,↓reduceIte]) (by simp only [aG,g8,Nc,↓reduceIte])) ?_;clear g2 g3 g7 g8 hle;intro E s5 hle g2 g3 g7 g8;refine wK fun K hK=>?_;refine jA ?_;refine ag ?_;refine aH (fun E s5=>∃ (i : Nat) (q : HN),i≤3∧aA q.t∧gz cp ([2,3,1].drop i) q = R0∧E 11 = .v (.int .i64 i)∧E 2 = VS∧E 3 = VC∧E 7 = .sl 5 q.t.length (au aa.cells q.t) .any∧cU 1 s3 s5 (E 8) q.fresh.length (q.fresh.map aE)∧q.fresh.length≤i * 16∧s3.le s5)
          (fun E _=>match E 11 with | .v (.int _ i)=>3 - i.toNat | _=>0) ?_ ?_
         ·exact ⟨0,⟨st,[]⟩,by decide,fN,Rm.symm,rfl,g2,g3,by simp only [aG,g7,Nc,↓reduceIte,Ul],by simp only [aG,g8,Nc,↓reduceIte]; exact cU.nil _ _ _,by simp,hle⟩
         ·clear g2 g3 g7 g8 hle Rm;rintro E2 s5 ⟨i,q,hi,Mo,cv,g11,g2,g3,g7,h8,hlen,hle⟩ -
          by_cases aO : i < 3
          ·refine wK fun K2 aX=>?_;refine jB (Ai @g11 (decide_eq_true (show ((i : Nat) : Int) < 3 by omega))) ?_;refine jE ?_;refine ad ?_;refine aX _ _ ?_;clear aX K2;refine wK fun K3 bB=>?_;refine ag ?_;have bK : (0 : Int)≤((i : Nat) : Int):=(by omega);have gq:=Yd i aO;rw [I5 aO] at cv;have tS : ∀ (E : Env) (s6 : AS) (q : HN),aA q.t→gz cp ([2,3,1].drop (i + 1)) q = R0→E 11 = .v (.int .i64 i)→E 2 = VS→E 3 = VC→E 7 = .sl 5 q.t.length (au aa.cells q.t) .any→cU 1 s3 s6 (E 8) q.fresh.length (q.fresh.map aE)→q.fresh.length≤(i + 1) * 16→s3.le s6→K3 E s6:=by
            intro E s6 q Mo cv GN g2 g3 g7 h8 hlen hle;refine bB _ _ ?_;clear bB K3;refine jD (Ai @GN (aQ i (by omega))) ?_;refine ⟨⟨i + 1,q,by omega,Mo,cv,rfl,g2,g3,g7,by simpa only [aG,Nc,↓reduceIte] using h8,hlen,hle⟩,?_⟩;simp only [g11,aG,↓reduceIte];omega
           clear bB;refine wS fun K hK=>?_;simp only [↓DN,Qa,Qb,Qc,Qd,Qe,Qf,Qg,Qh,reduceCtorEq,↓reduceIte,Na,Nb,Nc,Nk,Nf,Ng,Nh,Za,Zb,Zc,TT,g11,bK,aO,gq,af,List.replicate_succ,List.replicate_zero];refine hK _ _ ?_;clear hK K;refine jA ?_;refine ag ?_;obtain ⟨k,yB⟩ : ∃ k,k = kn i:=⟨_,rfl⟩;rw [← yB] at cv ⊢;have GK : k = 2∨k = 3∨k = 1:=by
            unfold kn at yB;have : i = 0∨i = 1∨i = 2:=(by omega);rcases this with rfl | rfl | rfl <;> simp at yB <;> omega
           refine aH (fun E s6=>∃ (j : Nat) (q : HN),j≤cp.length∧aA q.t∧(jt k (cp.drop j) q).bind (gz cp ([2,3,1].drop (i + 1))) = R0∧E 13 = .v (.int .i64 j)∧E 12 = .v (.int .i64 k)∧E 11 = .v (.int .i64 i)∧E 2 = VS∧E 3 = VC∧E 7 = .sl 5 q.t.length (au aa.cells q.t) .any∧cU 1 s3 s6 (E 8) q.fresh.length (q.fresh.map aE)∧q.fresh.length≤i * 16 + j∧s3.le s6)
            (fun E _=>match E 13 with | .v (.int _ i)=>cp.length - i.toNat | _=>0) ?_ ?_
           ·exact ⟨0,q,Nat.zero_le _,Mo,cv,rfl,rfl,g11,g2,g3,g7,by simpa only [aG,Nc,↓reduceIte] using h8,by omega,hle⟩
           ·clear g11 g2 g3 g7 h8 hlen hle Mo cv gq Yd q;rintro E3 s6 ⟨j,q,hj,Mo,cv,g13,g12,g11,g2,g3,g7,h8,hlen,hle⟩ -
            by_cases gh : j < cp.length
            ·refine wK fun K2 aX=>?_;refine jB (Ai @g13 (Ai @g3 (Ai @qK (Ai @af (decide_eq_true gh))))) ?_;refine jE ?_;refine ad ?_;refine aX _ _ ?_;clear aX K2;refine wK fun K4 fS=>?_;refine ag ?_;have SS : (0 : Int)≤((j : Nat) : Int):=(by omega);have gA:=fU j gh;have IY:=xbC _ (List.getElem_mem gh);rw [HO gh] at cv;generalize cp[j] = p at *
             have dc : ∀ (E : Env) (s7 : AS) (q : HN),aA q.t→(jt k (cp.drop (j + 1)) q).bind (gz cp ([2,3,1].drop (i + 1))) = R0→E 13 = .v (.int .i64 j)→E 12 = .v (.int .i64 k)→E 11 = .v (.int .i64 i)→E 2 = VS→E 3 = VC→E 7 = .sl 5 q.t.length (au aa.cells q.t) .any→cU 1 s3 s7 (E 8) q.fresh.length (q.fresh.map aE)→q.fresh.length≤i * 16 + (j + 1)→s3.le s7→K4 E s7:=by
              intro E s7 q Mo cv GO Fq g11 g2 g3 g7 h8 hlen hle;refine fS _ _ ?_;clear fS K4;refine jD (Ai @GO (aQ j (by omega))) ?_;refine ⟨⟨j + 1,q,by omega,Mo,cv,rfl,Fq,g11,g2,g3,g7,by simpa only [aG,Nc,↓reduceIte] using h8,hlen,hle⟩,?_⟩;simp only [g13,aG,↓reduceIte];omega
             clear fS;have La:=tq q.t p;have Oe:=pB IY;have f1:=tn (k:=k) (p:=p) q;have f2:=v7 (k:=k) (p:=p) (st:=q);have f4:=Ct (p:=p) (st:=q);have f5:=Cu (k:=k) (p:=p) (st:=q);have htq:=tr Mo;have Of : p.name.length≤2 ^ 45:=by rcases IY with h | h | h <;> omega
             have ha:=fun s=>ah.tidy (zJ (Γ:=Γ) q.t htq p.name p.key Of s);have hu:=fun s=>uQ (Γ:=Γ) q.t htq p.leaf p.key s;have Pl:=fun s=>uR (Γ:=Γ) q.t htq p.leaf s;obtain ⟨pk,pl,pn,py,pi⟩:=p;simp only at f1 f2 f4 f5 Oe ha hu Pl;unfold aF.cells ak at gA;simp only at gA;rw [Uk q.t] at ha hu Pl;refine jS (Ai @g3 (Ai @qK (Ai @g13 (Ai @SS (Ai @gh (Ai @gA @af)))))) fun K hK=>?_;intro ob eU;refine hK _ _ ?_;clear hK K;have I6:=AS.aj s6 ob [.v (.int .i64 pk),.v (.int .i64 pl),.sl 1 pn.length (pn.map aw) .any,.v (.int .u64 py),.v (.int .u64 pi)];have nn : s3.le (s6.set ob [.v (.int .i64 pk),.v (.int .i64 pl),.sl 1 pn.length (pn.map aw) .any,.v (.int .u64 py),.v (.int .u64 pi)]):=AS.bg hle (AS.le_none hle eU) _;have Yf : cU 1 s3 (s6.set ob [.v (.int .i64 pk),.v (.int .i64 pl),.sl 1 pn.length (pn.map aw) .any,.v (.int .u64 py),.v (.int .u64 pi)]) (E3 8) q.fresh.length (q.fresh.map aE):=by
              rcases h8 with h8 | ⟨tk,e,h8,gQ,pC⟩
              ·exact .inl h8
              ·exact .inr ⟨tk,e,h8,by rw [AS.C9]; exact gQ,pC⟩
             generalize s6.set ob [.v (.int .i64 pk),.v (.int .i64 pl),.sl 1 pn.length (pn.map aw) .any,.v (.int .u64 py),.v (.int .u64 pi)] = s7 at I6 nn Yf ⊢;clear h8 hle eU;refine wK fun K5 js=>?_;by_cases HP : pk = k
             ·replace f2:=f2 HP;refine jB (Ai @g12 (Ai @I6 (cC HP))) ?_;refine jF ?_;refine ad ?_;refine js _ _ ?_;clear js K5;refine jA ?_;refine jB @g7 ?_;refine wK fun K6 oE=>?_;have hJ : ∀ (E : Env) (s8 : AS) (u : List aa) (er : Int) (fr : List Int),(er≠0→R0 = none)→(er = 0→aA u∧(jt k (cp.drop (j + 1)) ⟨u,fr⟩).bind (gz cp ([2,3,1].drop (i + 1))) = R0)→E 15 = .v (.int .i64 er)→E 17 = fm u→E 13 = .v (.int .i64 j)→E 12 = .v (.int .i64 k)→E 11 = .v (.int .i64 i)→E 2 = VS→E 3 = VC→cU 1 s3 s8 (E 8) fr.length (fr.map aE)→fr.length≤i * 16 + (j + 1)→s3.le s8→K6 E s8:=by
               intro E s8 u er fr hn hy g15 g17 g13 g12 g11 g2 g3 h8 hlen hle;refine oE _ _ ?_;clear oE K6;refine wK fun K7 Ep=>?_;by_cases GQ : er = 0
               ·subst GQ;obtain ⟨SU,hp2⟩:=hy rfl;rw [gK (oK SU),Uk] at g17;refine jB (Ai @g15 (show ((0 : Int) != 0) = false from rfl)) ?_;refine jF ?_;refine ad ?_;refine Ep _ _ ?_;clear Ep K7;refine jD @g17 ?_;exact dc _ _ ⟨u,fr⟩ SU hp2 g13 g12 g11 g2 g3 rfl (by simpa only [aG,Nc,↓reduceIte] using h8) hlen hle
               ·refine jB (Ai @g15 (bF GQ)) ?_;refine jE ?_;refine jA ?_;refine jI ?_;exact dV _ (qL (hn GQ)) _ hle
              clear oE dc f1;refine jB @g12 ?_;refine ag ?_;rcases Oe with rfl | rfl | rfl
              ·subst HP;have e1 : bV q.t ⟨1,pl,pn,py,pi⟩ = ((eo q.t pn py).1,((eo q.t pn py).2.1 : Int),(eo q.t pn py).2.2):=by
                unfold bV;rw [if_neg (show ¬ (1 : Int) = 2 from by decide),if_neg (show ¬ (1 : Int) = 3 from by decide)]
               rw [e1] at La f2 f4;clear f5 hu Pl e1;generalize (eo q.t pn py).1 = u at *
               generalize (eo q.t pn py).2.1 = lf at *
               generalize (eo q.t pn py).2.2 = er at *
               simp only at La f2 f4;have hn : er≠0→R0 = none:=(fun h=>by rw [f2 h] at cv; exact cv.symm);have hy : er = 0→aA u∧(jt 1 (cp.drop (j + 1)) ⟨u,q.fresh ++ [(lf : Int)]⟩).bind (gz cp ([2,3,1].drop (i + 1))) = R0:=by
                intro h;refine ⟨La.resolve_left (fun k=>k.2 h) |>.1,?_⟩;rw [f4 trivial h] at cv;exact cv
               refine jB (show ((1 : Int) == 2) = false from rfl) ?_;refine jF ?_;refine jB (show ((1 : Int) == 3) = false from rfl) ?_;refine jF ?_;refine jS (Ai @g7 @I6) fun K hK=>?_;refine ae (ha _) ?_;rintro r s8 ⟨rfl,rfl⟩;refine jR hK ?_;clear hK K;rcases Yf with ⟨h9,hz,G7⟩ | ⟨tk,e,h9,gQ,pC⟩
               ·refine wE fun K hK=>?_;simp only [↓DN,Qa,Qb,Qc,Qd,Qe,Qf,Qg,Qh,reduceCtorEq,↓reduceIte,Na,Nb,Nc,Nk,Nf,Ng,Nh,Za,Zb,Zc,TT,h9,bL,List.replicate_succ,List.replicate_zero];intro tk gQ;have hfe : q.fresh = []:=List.length_eq_zero_iff.1 hz;refine hK _ _ (hJ _ _ u er (q.fresh ++ [(lf : Int)]) hn hy rfl rfl g13 g12 g11 g2 g3 ?_ (by simp only [List.length_append,List.length_singleton]; omega) (AS.bC nn (bd nn gQ) 0));refine .inr ⟨tk,0,?_,by simp [AS.cd],bd nn gQ⟩;simp only [aG,Nc,↓reduceIte];rw [hfe];rfl
               ·refine wE fun K hK=>?_;simp only [↓DN,Qa,Qb,Qc,Qd,Qe,Qf,Qg,Qh,reduceCtorEq,↓reduceIte,Na,Nb,Nc,Nk,Nf,Ng,Nh,Za,Zb,Zc,TT,h9,List.replicate_succ,List.replicate_zero,gQ];refine ⟨by omega,by omega,hK _ _ (hJ _ _ u er (q.fresh ++ [(lf : Int)]) hn hy rfl rfl g13 g12 g11 g2 g3 ?_ (by simp only [List.length_append,List.length_singleton]; omega) (AS.bC nn pC (e + 1)))⟩;refine .inr ⟨tk,e + 1,?_,by simp [AS.cd],pC⟩;simp only [aG,Nc,↓reduceIte];rw [List.length_append,List.map_append];rfl
              ·subst HP;have e1 : bV q.t ⟨2,pl,pn,py,pi⟩ = ((fV q.t pl py).1,pl,(fV q.t pl py).2):=if_pos rfl;rw [e1] at La f2 f5;clear f4 ha Pl e1;generalize (fV q.t pl py).1 = u at *
               generalize (fV q.t pl py).2 = er at *
               simp only at La f2 f5;have hn : er≠0→R0 = none:=(fun h=>by rw [f2 h] at cv; exact cv.symm);have hy : er = 0→aA u∧(jt 2 (cp.drop (j + 1)) ⟨u,q.fresh⟩).bind (gz cp ([2,3,1].drop (i + 1))) = R0:=by
                intro h;refine ⟨La.resolve_left (fun k=>k.2 h) |>.1,?_⟩;rw [f5 trivial (by decide) h] at cv;exact cv
               refine jB (show ((2 : Int) == 2) = true from rfl) ?_;refine jE ?_;refine jU (Ai @g7 @I6) fun K hK=>?_;refine ae (hu _) ?_;rintro r s8 ⟨rfl,rfl⟩;refine jM ?_;exact hK _ _ (hJ _ _ u er q.fresh hn hy rfl rfl g13 g12 g11 g2 g3 (by simpa only [aG,Nc,↓reduceIte] using Yf) (by omega) nn)
              ·subst HP;have e1 : bV q.t ⟨3,pl,pn,py,pi⟩ = ((fW q.t pl).1,pl,(fW q.t pl).2):=by
                unfold bV;rw [if_neg (show ¬ (3 : Int) = 2 from by decide),if_pos rfl]
               rw [e1] at La f2 f5;clear f4 ha hu e1;generalize (fW q.t pl).1 = u at *
               generalize (fW q.t pl).2 = er at *
               simp only at La f2 f5;have hn : er≠0→R0 = none:=(fun h=>by rw [f2 h] at cv; exact cv.symm);have hy : er = 0→aA u∧(jt 3 (cp.drop (j + 1)) ⟨u,q.fresh⟩).bind (gz cp ([2,3,1].drop (i + 1))) = R0:=by
                intro h;refine ⟨La.resolve_left (fun k=>k.2 h) |>.1,?_⟩;rw [f5 trivial (by decide) h] at cv;exact cv
               refine jB (show ((3 : Int) == 2) = false from rfl) ?_;refine jF ?_;refine jB (show ((3 : Int) == 3) = true from rfl) ?_;refine jE ?_;refine jU (Ai @g7 @I6) fun K hK=>?_;refine ae (Pl _) ?_;rintro r s8 ⟨rfl,rfl⟩;refine jM ?_;exact hK _ _ (hJ _ _ u er q.fresh hn hy rfl rfl g13 g12 g11 g2 g3 (by simpa only [aG,Nc,↓reduceIte] using Yf) (by omega) nn)
             ·rw [f1 HP] at cv;refine jB (Ai @g12 (Ai @I6 (bF HP))) ?_;refine jE ?_;refine aB ?_;simp only [av,aq,if_true,if_false,Nc];exact dc _ _ q Mo cv g13 g12 g11 g2 g3 g7 (by simpa only [aG,Nc,↓reduceIte] using Yf) (by omega) nn
            ·refine wK fun K2 aX=>?_;refine jB (Ai @g13 (Ai @g3 (Ai @qK (Ai @af (decide_eq_false gh))))) ?_;refine jF ?_;refine aB ?_;simp only [av,aq,if_true,if_false,Nc];obtain rfl : j = cp.length:=(by omega);rw [List.drop_length] at cv;exact tS _ _ q Mo cv g11 g2 g3 g7 (by simpa only [aG,Nc,↓reduceIte] using h8) (by omega) hle
          ·refine wK fun K2 aX=>?_;refine jB (Ai @g11 (decide_eq_false (show ¬ ((i : Nat) : Int) < 3 by omega))) ?_;refine jF ?_;refine aB ?_;simp only [av,aq,if_true,if_false,Nc];refine hK _ _ ?_;clear hK aX K2 K;obtain rfl : i = 3:=(by omega);have hp0 : some q = R0:=cv;rw [Fy q hp0.symm];refine jB @g7 ?_;refine jI ?_;refine ⟨_,_,AV.eD (by rw [gK (oK Mo),Uk]; exact AV.aL.refl _) h8.aL (AV.aL.refl _),AS.le.refl _,rfl,hle⟩
      ·rw [if_pos hm] at A8;rw [decide_eq_false hm] at h3;refine wK fun K hK=>?_;refine jK (h3 _) ?_;rintro s3 rfl;refine jE ?_;refine jA ?_;refine jI ?_;exact dV _ A8 _ vC
    ·rw [if_pos he] at A8;refine wK fun K hK=>?_;refine jB (bF he) ?_;refine jE ?_;refine jA ?_;refine jI ?_;exact dV _ A8 _ vC
   ·rw [if_pos hg] at A8;refine wK fun K hK=>?_;refine jB (zD hg) ?_;refine jE ?_;refine jA ?_;refine jI ?_;exact dV _ A8 _ vC
  ·rw [if_pos (fun k=>hC k.2)] at KX;rw [decide_eq_true hS] at h1;rw [decide_eq_false hC] at h2;clear A8 hS hC h3 ht hw;obtain ⟨cg,ce,cs,cp,ch,qd,cc,cm⟩:=C;obtain ⟨sg,se,st,sc,si⟩:=S;unfold aI.cells gy.cells at *
   simp only at *
   unfold ax ak at *
   generalize au aa.cells st = X at *
   generalize au aF.cells cp = CP at *
   generalize au bk.cells qd.steps = CS at *
   refine bY 2 3 (by decide) (by decide) (by decide) ?_;intro K hK;refine jM ?_;intro o1 q1 o2 q2;refine hK _ _ o1 o2 _ _ rfl rfl q1 (by rw [AS.cQ]; exact q2) ?_;clear hK K q1 q2;refine wK fun K hK=>?_;refine jQ fun K hK=>?_;refine ae (h1 _) ?_;rintro r s1 ⟨rfl,rfl⟩;refine jM ?_;refine ae (h2 _) ?_;rintro r s2 ⟨rfl,rfl⟩;refine jR hK ?_;clear hK K;refine jE ?_;refine jA ?_;refine jI ?_;exact dV _ KX _ (AS.le.refl _)
 ·rw [if_pos (fun k=>hS k.1)] at KX;rw [decide_eq_false hS] at h1;clear A8 hS h3 ht hw h2;obtain ⟨cg,ce,cs,cp,ch,qd,cc,cm⟩:=C;obtain ⟨sg,se,st,sc,si⟩:=S;unfold aI.cells gy.cells at *
  simp only at *
  unfold ax ak at *
  generalize au aa.cells st = X at *
  generalize au aF.cells cp = CP at *
  generalize au bk.cells qd.steps = CS at *
  refine bY 2 3 (by decide) (by decide) (by decide) ?_;intro K hK;refine jM ?_;intro o1 q1 o2 q2;refine hK _ _ o1 o2 _ _ rfl rfl q1 (by rw [AS.cQ]; exact q2) ?_;clear hK K q1 q2;refine wK fun K hK=>?_;refine jK (h1 _) ?_;rintro s1 rfl;refine jE ?_;refine jA ?_;refine jI ?_;exact dV _ KX _ (AS.le.refl _)
theorem uS {k : Int} (h1 : -4611686018427387904≤k) (h2 : k≤4611686018427387904) : ed .i64 k 1 = k - 1:=IntWalk.i64_in _ (by omega)
theorem Dv (n : Nat) (cs : List AV) (s : AS) :
  ah prog Γ 154 [.sl 1 n cs .any] s (fun r s'=>r = .tN 205 [.cX [.sl 1 n cs .any]]∧s' = s):=by
 refine ab func154 rfl ntmps154 results154 (by simp) ?_;refine az 1 (by decide) ?_;intro K hK;refine jM ?_;intro o1 h1;refine hK _ _ o1 _ rfl h1 ?_;clear hK K;refine jA ?_;exact jJ
theorem zK (n : Nat) (cs : List AV) (s : AS) :
  ah prog Γ 152 [.sl 1 n cs .any] s (fun r s'=>r = .tN 202 [.cX [.sl 1 n cs .any]]∧s' = s):=by
 refine ab func152 rfl ntmps152 results152 (by simp) ?_;refine az 1 (by decide) ?_;intro K hK;refine jM ?_;intro o1 h1;refine hK _ _ o1 _ rfl h1 ?_;clear hK K;refine jA ?_;exact jJ
theorem Dw (cs : List AV) (n : Nat) (hl : cs.length = n) (hn : n≤2 ^ 40) :
  xx prog Γ 205 [.cX [.sl 1 n cs .any]] (cs.map fun c=>[c]):=by
 refine Fo func205 rfl ntmps205 results205 (by simp) ?_;intro I l s G h0 hy;refine fE (cI.y ?_);refine jC ?_;refine ry ?_;refine Fm (fun E s'=>∃ i : Nat,i≤n∧E 0 = .v (.func (.yield l) #[] #[])∧E 5 = .sl 1 n cs .any∧E 6 = .v (.int .i64 n)∧E 7 = .v (.int .i64 i)∧I i s')
  (fun E _=>match E 7 with | .v (.int _ i)=>n - i.toNat | _=>0) ?_ ?_
 ·exact ⟨0,Nat.zero_le _,rfl,rfl,rfl,rfl,h0⟩
 rintro E s' ⟨i,hi,e0,e5,e6,e7,hI⟩ -
 by_cases aO : i < n
 ·have cN : ((i : Nat) : Int) < ((n : Nat) : Int):=(by omega);have h0i : (0 : Int)≤((i : Nat) : Int):=(by omega);obtain ⟨c,hc⟩ : ∃ c,cs[i]? = some c:=⟨cs[i]'(by omega),by simp [hl,aO]⟩;have kF : (List.take 1 (List.drop i cs))[0]? = some c:=(by simp [List.getElem?_take,hc]);refine fE (cI.y ?_);refine jD (Ai @e6 (Ai @e7 (decide_eq_true cN))) ?_;refine fE (cI.y (sw (by simp only [aN,aG,↓reduceIte]) (ad ?_)));refine fE (ry ?_);refine fE (cI.y ?_);refine jD (Ai @e5 (Ai @e7 (Ai @cN (Ai @h0i @kF)))) ?_;refine Hz (l:=l) (xs:=[_]) rfl rfl (by decide) ?_;intro K hK ops;refine jN @e0 ?_;refine ⟨_,hy i [c] _ (by simp [hc]) hI,?_⟩;intro s2 vC;refine hK _ _ ?_;clear hK K;refine cI.y (gE (by simp only [aN,aG,↓reduceIte]) (ad ?_));simp only [aq,av];refine cI.y ?_;refine jD (Ai @e7 (aQ i (by omega))) ?_;refine ⟨⟨i + 1,by omega,e0,e5,e6,rfl,vC⟩,?_⟩;simp only [aG,e7,↓reduceIte,Int.toNat_natCast];omega
 ·have cN : ¬ ((i : Nat) : Int) < ((n : Nat) : Int):=(by omega);obtain rfl : i = n:=(by omega);refine fE (cI.y ?_);refine jD (Ai @e6 (Ai @e7 (decide_eq_false cN))) ?_;refine fE (cI.y (gE (by simp only [aN,aG,↓reduceIte]) (aB ?_)));simp only [aq,av,↓reduceIte];exact ⟨by simp,by simpa [hl] using hI⟩
theorem zL (l0 : List Int) (n : Nat) (hl : l0.length = n) (hn : n≤2 ^ 40) :
  xx prog Γ 202 [.cX [.sl 1 n (l0.map aE) .any]] ((List.range n).map fun i=>[aE ((n - 1 - i : Nat) : Int),aE (l0.getD (n - 1 - i) 0)]):=by
 refine Fo func202 rfl ntmps202 results202 (by simp) ?_;intro I l s G h0 hy;refine fE (cI.y ?_);refine jC ?_;refine ry ?_;refine Fm (fun E s'=>∃ i : Nat,i≤n∧E 0 = .v (.func (.yield l) #[] #[])∧E 1 = .cX [.sl 1 n (l0.map aE) .any]∧E 3 = .v (.int .i64 ((n : Int) - 1 - i))∧I i s')
  (fun E _=>match E 3 with | .v (.int _ i)=>(i + 1).toNat | _=>0) ?_ ?_
 ·refine ⟨0,Nat.zero_le _,rfl,rfl,?_,h0⟩;simp only [aG,↓reduceIte,Nc];rw [uS (by omega) (by omega)];simp
 rintro E s' ⟨i,hi,e0,e1,e3,hI⟩ -
 by_cases aO : i < n
 ·have bK : (n : Int) - 1 - i ≥ 0:=(by omega);have Yg : (0 : Int)≤(n : Int) - 1 - i:=(by omega);have cN : (n : Int) - 1 - i < (n : Int):=(by omega);obtain ⟨k,hk⟩ : ∃ k : Nat,(n : Int) - 1 - i = (k : Int):=⟨n - 1 - i,by omega⟩;have Ro : n - 1 - i = k:=(by omega);rw [hk] at e3 bK Yg cN;have kF : (List.take 1 (List.drop k (l0.map aE)))[0]? = some (aE (l0.getD k 0)):=by
   have ll : k < l0.length:=(by omega);simp [List.getElem?_take,List.getD,ll]
  refine fE (fE (cI.y ?_));refine jD (Ai @e3 (decide_eq_true bK)) ?_;refine cI.y (sw (by simp only [aN,aG,↓reduceIte]) (ad ?_));simp only [av];refine fE (ry ?_);refine HA (l:=l) (xs:=[_,_]) rfl rfl (by decide) ?_;intro K hK ops;refine jN (Ai @e0 (Ai @e1 (Ai @e3 (Ai @Yg (Ai @cN @kF))))) ?_;refine ⟨_,hy i [aE (k : Int),aE (l0.getD k 0)] _ (by simp [aO,Ro]) hI,?_⟩;intro s2 vC;refine hK _ _ ?_;clear hK K;refine cI.y (gE (by simp only [aN,aG,↓reduceIte]) (ad ?_));simp only [aq,av];refine cI.y ?_;refine jD (Ai @e3 (uS (k:=(k : Int)) (by omega) (by omega))) ?_;refine ⟨⟨i + 1,by omega,e0,e1,?_,vC⟩,?_⟩
  ·simp only [aG,↓reduceIte,Nc];rw [show ((k : Nat) : Int) - 1 = (n : Int) - 1 - ((i + 1 : Nat) : Int) by omega]
  ·simp only [aG,e3,↓reduceIte,Nc];omega
 ·obtain rfl : i = n:=(by omega);have bK : ¬ (((i : Nat) : Int) - 1 - i ≥ 0):=(by omega);refine fE (fE (cI.y ?_));refine jD (Ai @e3 (decide_eq_false bK)) ?_;refine cI.y (gE (by simp only [aN,aG,↓reduceIte]) (aB ?_));simp only [aq,av,↓reduceIte];exact ⟨by simp,by simpa using hI⟩
end Go.Proofs.YtcjifoccjlpapaaGreatDoor
