/- Contracts of functions, each walked once; each theorem states its conditions. -/
import Derived.Test.YtcjifoccjlpapaaGreatDoorAMp6
import Derived.Test.YtcjifoccjlpapaaGreatDoorW1
import Derived.Test.YtcjifoccjlpapaaGreatDoorAMp4
import Derived.Test.YtcjifoccjlpapaaGreatDoorAMp3
import Derived.Test.YtcjifoccjlpapaaGreatDoorAMp5
set_option linter.unusedSimpArgs false
set_option linter.unusedVariables false
open Nat renaming reduceLT → Na, reduceLeDiff → Nb, reduceEqDiff → Nc, reduceAdd → Nk, reduceMul → Nf, reducePow → Ng, reduceSub → Nh, reduceBEq → Nz
open Int renaming reduceLT → Za, reduceLE → Zb, reduceToNat → Zc
open And renaming intro → Ai
open Go.AM renaming ashift → Qa, aconv → Qb, aindexAddr → Qc, aindex → Qd, aslice → Qe, abuiltin → Qf, awp_reg_seq → wS, awp_reg_end → wE, awp_seq_k → wK, awp_cond_k → wC
open Go.AM.AV renaming cells → Qg, one → Qh
set_option maxRecDepth 100000
set_option maxHeartbeats 8000000
namespace Go.Proofs.YtcjifoccjlpapaaGreatDoor
open Go Go.AM Go.Proofs Tryz
variable {Γ : Nat→List AV}
theorem H4 (s0 s : AS) (p : Nat) (l : List UInt8) (n size : Int) (hs : 0≤size∧size≤8) (h : yv s0 s p l true) :
  ah prog Γ 159 [.ptr p 0,.v (.int .u64 n),.v (.int .i64 size)] s (fun r s'=>r = .dZ []∧yv s0 s' p l true):=by
 refine ab func159 rfl ntmps159 results159 (by simp) ?_;obtain ⟨x,hx,hb⟩:=h.obj;have zE : ed .i64 size 1 = size - 1:=b6 (by omega);refine jB @zE ?_;refine ag ?_;refine aH (fun E s1=>E 6 = .v (.int .i64 (size - 1))∧E 0 = .ptr p 0∧s1 = s) (fun _ _=>0) ?_ ?_
 ·exact ⟨by simp [aG],by simp [aG,dE],rfl⟩
 ·rintro E1 s1 ⟨h6,h0,rfl⟩ -
  refine wK fun K hK=>?_;by_cases hi : 0≤size - 1
  ·refine jB (Ai @h6 (Ai @h0 (Ai @hx (decide_eq_true hi)))) ?_;refine jF ?_;refine aB ?_;simp only [av,aq,if_true,cF,bI,bM,fg,List.toList_toArray];exact ⟨_,s1,AV.aL.refl _,AS.le.refl _,rfl,h⟩
  ·refine jB (Ai @h6 (Ai @h0 (Ai @hx (decide_eq_false hi)))) ?_;refine jF ?_;refine aB ?_;simp only [av,aq,if_true,cF,bI,bM,fg,List.toList_toArray];exact ⟨_,s1,AV.aL.refl _,AS.le.refl _,rfl,h⟩
theorem z8 (s0 s : AS) (p : Nat) (st : List UInt8 × Bool) (n size : Nat) (hn : n < 2 ^ 64) (hs : size≤8) (hl : st.1.length + 8≤2 ^ 45) (h : fu s0 s p st) :
  ah prog Γ 159 [.ptr p 0,.v (.int .u64 n),.v (.int .i64 size)] s (fun r s'=>r = .dZ []∧fu s0 s' p (gj size n st)):=by
 obtain ⟨l,b⟩:=st;cases b
 ·exact Dr s0 s p l n size hn hs hl h
 ·exact H4 s0 s p l n size (by omega) h
theorem CC (s : AS) : ah prog Γ 90 [] s (fun r s'=>∃ p,r = .ptr p 0∧fu s s' p ([],false)):=by
 refine ab func90 rfl ntmps90 results90 (by simp) ?_;refine jA ?_;refine wS fun K hK=>?_;simp only [↓DN,Qa,Qb,Qc,Qd,Qe,Qf,Qg,Qh,reduceCtorEq,↓reduceIte,Na,Nb,Nc,Nk,Nf,Ng,Nh,Za,Zb,Zc,TT,Array.toList_empty];intro p hp;refine hK _ _ ?_;refine bo ?_;simp only [↓DN,Qa,Qb,Qc,Qd,Qe,Qf,Qg,Qh,reduceCtorEq,↓reduceIte,Na,Nb,Nc,Nk,Nf,Ng,Nh,Za,Zb,Zc,TT,cF,bI,bM,dh,fg];exact ⟨_,_,AV.aL.refl _,AS.le.refl _,p,rfl,AS.bg (AS.le.refl s) hp _,hp,_,AS.aj _ _ _,.inl ⟨rfl,rfl⟩⟩
theorem nJ (s0 s : AS) (p : Nat) (st : List UInt8 × Bool) (n : Int) (size : Nat) (hn : -9223372036854775808≤n∧n≤9223372036854775807) (hs : size≤8) (hl : st.1.length + 8≤2 ^ 45) (h : fu s0 s p st) :
  ah prog Γ 157 [.ptr p 0,.v (.int .i64 n),.v (.int .i64 size)] s (fun r s'=>r = .dZ []∧fu s0 s' p (bU size n st)):=by
 refine ab func157 rfl ntmps157 results157 (by simp) ?_;obtain ⟨x,hx,hb⟩:=h.obj;refine wK fun K hK=>?_;have hmul : kO .i64 8 (size : Int) = 8 * size:=fh (by omega);have Rh : ¬ (8 * (size : Int) < 0):=(by omega);by_cases h0 : n < 0
 ·refine jB (decide_eq_true h0) ?_;refine jE ?_;refine jB @hx ?_;refine bo ?_;simp only [av,cF,bI,bM,fg,List.toList_toArray];refine jW ⟨rfl,?_⟩;have : bU size n st = (st.1,true):=(by unfold bU; rw [if_neg (by omega)]);rw [this];exact h.bad hx hb true
 ·by_cases h1 : 2 ^ (8 * size)≤n
  ·refine jB (Ai (decide_eq_false h0) (Ai @hmul (Ai @Rh (Ai (Cb n size (by omega) (by omega)) (decide_eq_true h1))))) ?_;refine jE ?_;refine jB @hx ?_;refine bo ?_;simp only [av,cF,bI,bM,fg,List.toList_toArray];refine jW ⟨rfl,?_⟩;have : bU size n st = (st.1,true):=(by unfold bU; rw [if_neg (by omega)]);rw [this];exact h.bad hx hb true
  ·refine jB (Ai (decide_eq_false h0) (Ai @hmul (Ai @Rh (Ai (Cb n size (by omega) (by omega)) (decide_eq_false h1))))) ?_;refine jF ?_;refine ad ?_;refine hK _ _ ?_;clear hK K;obtain ⟨m,rfl⟩:=Int.eq_ofNat_of_zero_le (Int.not_lt.1 h0);have YS : ee .u64 (m : Int) = m:=ko m (by omega);refine jU @YS fun K hK=>?_;refine ae (z8 s0 s p st m size (by omega) hs hl h) ?_;rintro r s' ⟨rfl,hp⟩;refine jR hK ?_;clear hK K;simp only [cF,bI,bM,fg,List.toList_toArray];refine jW ⟨rfl,?_⟩;have : bU size m st = gj size m st:=(by unfold bU; rw [if_pos (by omega)]; rfl);rw [this];exact hp
theorem cD (s0 s : AS) (p : Nat) (st : List UInt8 × Bool) (n : Int) (hn : -9223372036854775808≤n∧n≤9223372036854775807) (hl : st.1.length + 8≤2 ^ 45) (h : fu s0 s p st) :
  ah prog Γ 91 [.ptr p 0,.v (.int .i64 n)] s (fun r s'=>r = .dZ []∧fu s0 s' p (bU 1 n st)):=by
 refine ab func91 rfl ntmps91 results91 (by simp) ?_;refine jT fun K hK=>?_;refine ae (nJ s0 s p st n 1 hn (by omega) hl h) ?_;rintro r s' ⟨rfl,hp⟩;refine jR hK ?_;clear hK K;simp only [cF,bI,bM,dh,List.toList_toArray,↓bj]; try simp only [UP,DF,Nc,↓reduceIte,DT]
 exact jW ⟨rfl,hp⟩
theorem DQ (s0 s : AS) (p : Nat) (st : List UInt8 × Bool) (n : Int) (hn : -9223372036854775808≤n∧n≤9223372036854775807) (hl : st.1.length + 8≤2 ^ 45) (h : fu s0 s p st) :
  ah prog Γ 234 [.ptr p 0,.v (.int .i64 n)] s (fun r s'=>r = .dZ []∧fu s0 s' p (bU 4 n st)):=by
 refine ab func234 rfl ntmps234 results234 (by simp) ?_;refine jT fun K hK=>?_;refine ae (nJ s0 s p st n 4 hn (by omega) hl h) ?_;rintro r s' ⟨rfl,hp⟩;refine jR hK ?_;clear hK K;simp only [cF,bI,bM,dh,List.toList_toArray,↓bj]; try simp only [UP,DF,Nc,↓reduceIte,DT]
 exact jW ⟨rfl,hp⟩
theorem dO (s0 s : AS) (p : Nat) (st : List UInt8 × Bool) (n : Nat) (hn : n < 2 ^ 64) (hl : st.1.length + 8≤2 ^ 45) (h : fu s0 s p st) :
  ah prog Γ 93 [.ptr p 0,.v (.int .u64 n)] s (fun r s'=>r = .dZ []∧fu s0 s' p (gj 8 n st)):=by
 refine ab func93 rfl ntmps93 results93 (by simp) ?_;refine jT fun K hK=>?_;refine ae (z8 s0 s p st n 8 hn (by omega) hl h) ?_;rintro r s' ⟨rfl,hp⟩;refine jR hK ?_;clear hK K;simp only [cF,bI,bM,dh,List.toList_toArray,↓bj]; try simp only [UP,DF,Nc,↓reduceIte,DT]
 exact jW ⟨rfl,hp⟩
theorem va (s0 s : AS) (p : Nat) (st : List UInt8 × Bool) (b : AV) (m : List UInt8) (hb : Ca b m) (hl : st.1.length + m.length≤2 ^ 45) (h : fu s0 s p st) :
  ah prog Γ 208 [.ptr p 0,b] s (fun r s'=>r = .dZ []∧fu s0 s' p (cy m st)):=by
 obtain ⟨l,bad⟩:=st;obtain ⟨x,hx,DR⟩:=h.obj;refine ab func208 rfl ntmps208 results208 (by simp) ?_;cases bad
 ·refine jB @hx ?_;refine jE ?_;have YT : cy m (l,false) = (l ++ m,false):=rfl;by_cases hm : m.length = 0
  ·have JF : m = []:=List.eq_nil_of_length_eq_zero hm;subst JF;have e : (l ++ [],false) = (l,false):=(by simp);rw [YT,e];rcases DR with ⟨rfl,xc⟩ | ⟨t,e,rfl,ht,iO⟩
   ·simp only at xc;subst xc;rcases hb with ⟨rfl,_⟩ | ⟨sp,rfl⟩
    ·refine wE fun K hK=>?_;simp only [↓DN,Qa,Qb,Qc,Qd,Qe,Qf,Qg,Qh,reduceCtorEq,↓reduceIte,Na,Nb,Nc,Nk,Nf,Ng,Nh,Za,Zb,Zc,TT,hx,bL,ak,hm];refine hK _ _ ?_;clear hK K;simp only [cF,bI,bM,dh,List.toList_toArray,↓bj]; try simp only [UP,DF,Nc,↓reduceIte,DT]
     exact ⟨_,_,AV.aL.refl _,AS.le.refl _,rfl,h.bad hx (.inl ⟨rfl,rfl⟩) false⟩
    ·refine wE fun K hK=>?_;simp only [↓DN,Qa,Qb,Qc,Qd,Qe,Qf,Qg,Qh,reduceCtorEq,↓reduceIte,Na,Nb,Nc,Nk,Nf,Ng,Nh,Za,Zb,Zc,TT,hx,bL,ak,hm];refine hK _ _ ?_;clear hK K;simp only [cF,bI,bM,dh,List.toList_toArray,↓bj]; try simp only [UP,DF,Nc,↓reduceIte,DT]
     exact ⟨_,_,AV.aL.refl _,AS.le.refl _,rfl,h.bad hx (.inl ⟨rfl,rfl⟩) false⟩
   ·rcases hb with ⟨rfl,_⟩ | ⟨sp,rfl⟩
    ·refine wE fun K hK=>?_;simp only [↓DN,Qa,Qb,Qc,Qd,Qe,Qf,Qg,Qh,reduceCtorEq,↓reduceIte,Na,Nb,Nc,Nk,Nf,Ng,Nh,Za,Zb,Zc,TT,hx,bL,ak,hm];refine hK _ _ ?_;clear hK K;simp only [cF,bI,bM,dh,List.toList_toArray,↓bj]; try simp only [UP,DF,Nc,↓reduceIte,DT]
     exact ⟨_,_,AV.aL.refl _,AS.le.refl _,rfl,h.bad hx (.inr ⟨t,e,rfl,ht,iO⟩) false⟩
    ·refine wE fun K hK=>?_;simp only [↓DN,Qa,Qb,Qc,Qd,Qe,Qf,Qg,Qh,reduceCtorEq,↓reduceIte,Na,Nb,Nc,Nk,Nf,Ng,Nh,Za,Zb,Zc,TT,hx,bL,ak,hm];refine hK _ _ ?_;clear hK K;simp only [cF,bI,bM,dh,List.toList_toArray,↓bj]; try simp only [UP,DF,Nc,↓reduceIte,DT]
     exact ⟨_,_,AV.aL.refl _,AS.le.refl _,rfl,h.bad hx (.inr ⟨t,e,rfl,ht,iO⟩) false⟩
  ·have Hr : ∃ sp,b = ak m sp:=by
    rcases hb with ⟨_,rfl⟩ | hb
    ·exact absurd rfl hm
    ·exact hb
   obtain ⟨sp,rfl⟩:=Hr;rw [YT];simp only at hl;rcases DR with ⟨rfl,xc⟩ | ⟨t,e,rfl,ht,iO⟩
   ·simp only at xc;subst xc;refine wE fun K hK=>?_;simp only [↓DN,Qa,Qb,Qc,Qd,Qe,Qf,Qg,Qh,reduceCtorEq,↓reduceIte,Na,Nb,Nc,Nk,Nf,Ng,Nh,Za,Zb,Zc,TT,hx,bL,ak,hm];refine ⟨by omega,by omega,fun t ht=>hK _ _ ?_⟩;clear hK K;simp only [cF,bI,bM,dh,List.toList_toArray,↓bj]; try simp only [UP,DF,Nc,↓reduceIte,DT]
    exact jW ⟨rfl,h.OD ht m⟩
   ·refine jU (Ai @hx (Ai @ak.eq_1 (Ai @hm @ht))) fun K hK=>?_;refine ⟨by omega,by omega,hK _ _ ?_⟩;clear hK K;simp only [cF,bI,bM,dh,List.toList_toArray,↓bj]; try simp only [UP,DF,Nc,↓reduceIte,DT]
    exact jW ⟨rfl,h.more iO m rfl rfl⟩
 ·refine jB @hx ?_;refine jF ?_;refine ad ?_;simp only [cF,bI,bM,dh,List.toList_toArray,↓bj]; try simp only [UP,DF,Nc,↓reduceIte,DT]
  exact jW ⟨rfl,h⟩
theorem sN (s0 s : AS) (p : Nat) (st : List UInt8 × Bool) (b : AV) (m : List UInt8) (k : Nat) (hk : k≤8) (hb : Ca b m) (hl : st.1.length + m.length + 8≤2 ^ 45) (h : fu s0 s p st) :
  ah prog Γ 158 [.ptr p 0,b,.v (.int .i64 k)] s (fun r s'=>r = .dZ []∧fu s0 s' p (fD k m st)):=by
 refine ab func158 rfl ntmps158 results158 (by simp) ?_;have hlen : (bU k m.length st).1.length≤st.1.length + k:=gU ..;rcases hb with ⟨rfl,rfl⟩ | ⟨sp,rfl⟩
 ·refine wS fun K hK=>?_;simp only [↓DN,Qa,Qb,Qc,Qd,Qe,Qf,Qg,Qh,reduceCtorEq,↓reduceIte,Na,Nb,Nc,Nk,Nf,Ng,Nh,Za,Zb,Zc,TT,bL,List.length_nil];refine ae (nJ s0 s p st 0 k (by omega) hk (by omega) h) ?_;rintro r s' ⟨rfl,hp⟩;refine jR hK ?_;clear hK K;refine jT fun K hK=>?_;refine ae (va s0 s' p _ bL [] Ca.nil (by have:=gU k 0 st; simp at this hl ⊢; omega) hp) ?_;rintro r im ⟨rfl,QD⟩;refine jR hK ?_;clear hK K;simp only [cF,bI,bM,dh,List.toList_toArray,↓bj]; try simp only [UP,DF,Nc,↓reduceIte,DT]
  exact jW ⟨rfl,QD⟩
 ·refine jS @ak.eq_1 fun K hK=>?_;refine ae (nJ s0 s p st m.length k (by omega) hk (by omega) h) ?_;rintro r s' ⟨rfl,hp⟩;refine jR hK ?_;clear hK K;refine jT fun K hK=>?_;refine ae (va s0 s' p _ (ak m sp) m (Ca.mk m sp) (by simp only [List.length_nil] at *; omega) hp) ?_;rintro r im ⟨rfl,QD⟩;refine jR hK ?_;clear hK K;simp only [cF,bI,bM,dh,List.toList_toArray,↓bj]; try simp only [UP,DF,Nc,↓reduceIte,DT]
  exact jW ⟨rfl,QD⟩
theorem eJ (s0 s : AS) (p : Nat) (st : List UInt8 × Bool) (b : AV) (m : List UInt8) (hb : Ca b m) (hl : st.1.length + m.length + 8≤2 ^ 45) (h : fu s0 s p st) :
  ah prog Γ 92 [.ptr p 0,b] s (fun r s'=>r = .dZ []∧fu s0 s' p (fD 1 m st)):=by
 refine ab func92 rfl ntmps92 results92 (by simp) ?_;refine jT fun K hK=>?_;refine ae (sN s0 s p st b m 1 (by omega) hb hl h) ?_;rintro r s' ⟨rfl,hp⟩;refine jR hK ?_;clear hK K;simp only [cF,bI,bM,dh,List.toList_toArray,↓bj]; try simp only [UP,DF,Nc,↓reduceIte,DT]
 exact jW ⟨rfl,hp⟩
theorem BD (s0 s : AS) (p : Nat) (st : List UInt8 × Bool) (b : AV) (m : List UInt8) (hb : Ca b m) (hl : st.1.length + m.length + 8≤2 ^ 45) (h : fu s0 s p st) :
  ah prog Γ 209 [.ptr p 0,b] s (fun r s'=>r = .dZ []∧fu s0 s' p (fD 2 m st)):=by
 refine ab func209 rfl ntmps209 results209 (by simp) ?_;refine jT fun K hK=>?_;refine ae (sN s0 s p st b m 2 (by omega) hb hl h) ?_;rintro r s' ⟨rfl,hp⟩;refine jR hK ?_;clear hK K;simp only [cF,bI,bM,dh,List.toList_toArray,↓bj]; try simp only [UP,DF,Nc,↓reduceIte,DT]
 exact jW ⟨rfl,hp⟩
theorem Km (s : AS) : ah prog Γ 161 [bL] s (fun r s'=>r = ak [] .any∧s' = s):=by
 refine ab func161 rfl ntmps161 results161 (by simp) ?_;unfold bL;refine jA ?_;refine wK fun K hK=>?_;refine jA ?_;refine jE ?_;refine jA ?_;refine jI ?_;exact ⟨_,_,AV.aP,AS.le.refl _,rfl,rfl⟩
theorem mI (s0 s : AS) (p : Nat) (st : List UInt8 × Bool) (hl : st.1.length≤2 ^ 45) (h : fu s0 s p st) :
  ah prog Γ 97 [.ptr p 0] s (fun r s'=>r = .dZ [ak (if st.2 = true then [] else st.1) .any,.v (.bool !st.2)]∧s' = s):=by
 obtain ⟨l,bad⟩:=st;obtain ⟨x,hx,DR⟩:=h.obj;refine ab func97 rfl ntmps97 results97 (by simp) ?_;simp only at hx hl DR;refine jA ?_;refine wK fun K hK=>?_;cases bad
 ·refine jB @hx ?_;refine jF ?_;refine ad ?_;refine hK _ _ ?_;clear hK K;rcases DR with ⟨rfl,xc⟩ | ⟨t,e,rfl,ht,iO⟩
  ·subst xc;refine jS @hx fun K hK=>?_;refine ae (Km s) ?_;rintro r s' ⟨rfl,rfl⟩;refine jR hK ?_;clear hK K;exact jJ
  ·refine jS @hx fun K hK=>?_;refine ae (Fv l _ rfl s hl) ?_;rintro r s' ⟨rfl,rfl⟩;refine jR hK ?_;clear hK K;exact jJ
 ·refine jB @hx ?_;refine jE ?_;refine jA ?_;refine jI ?_;exact ⟨_,_,AV.gb AV.aP (AV.aL.refl _),AS.le.refl _,rfl,rfl⟩
theorem n256 : ((256 : Int) = 0) = False:=by simp
theorem MM (q : Nat) : ee .u8 (m8 (q : Int) 256) = ((UInt8.ofNat q).toNat : Int):=by
 rw [show (256 : Int) = ((256 : Nat) : Int) from rfl,vK,lC rfl];simp [IntKind.bits]
theorem PF (n i : Nat) (h : n < 2 ^ 64) : ou .u64 ((n / 256 ^ i : Nat) : Int) 256 = ((n / 256 ^ (i + 1) : Nat) : Int):=by
 have hq : n / 256 ^ i < 2 ^ IntKind.u64.bits:=Nat.lt_of_le_of_lt (Nat.div_le_self _ _) h;have:=R6 (k:=.u64) rfl (n / 256 ^ i) 256 hq;rw [show (256 : Int) = ((256 : Nat) : Int) from rfl,this,Nat.div_div_eq_div_mul,Nat.pow_succ]
theorem MN (c : UInt8) : oX [AV.v (.int .u8 (c.toNat : Int))] = ByteArray.mk [c].toArray:=qi [c]
theorem PG (c : UInt8) : isByte (AV.v (.int .u8 (c.toNat : Int))) = true:=rfl
theorem bJ (n size : Nat) (hn : n < 2 ^ 64) (hs : size≤8) (s : AS) :
  ah prog Γ 111 [.v (.int .u64 n),.v (.int .i64 size)] s (fun r s'=>r = .v (.string ⟨(be size n).toArray⟩)∧s' = s):=by
 refine ab func111 rfl ntmps111 results111 (by simp) ?_;refine jA ?_;refine jA ?_;refine wK fun K hK=>?_;refine jA ?_;refine ag ?_;refine aH (fun E s1=>∃ i : Nat,i≤size∧E 6 = .v (.int .i64 i)∧E 1 = .v (.int .i64 size)∧E 0 = .v (.int .u64 (n / 256 ^ i : Nat))∧E 5 = .v (.string ⟨(be i n).toArray⟩)∧s1 = s)
  (fun E _=>match E 6 with | .v (.int _ i)=>size - i.toNat | _=>0) ?_ ?_
 ·exact ⟨0,Nat.zero_le _,by simp [aG],by simp [aG,dE],by simp [aG,dE],by simp [aG,be],rfl⟩
 ·rintro E1 s1 ⟨i,hi,h6,h1,h0,h5,rfl⟩ -
  refine wK fun K2 aX=>?_;by_cases aO : i < size
  ·refine jB (Ai @h6 (Ai @h1 (Ai @af (decide_eq_true aO)))) ?_;refine jE ?_;refine ad ?_;refine aX _ _ ?_;clear aX K2;refine wK fun K3 bB=>?_;refine ag ?_;refine wS fun K hK=>?_;simp only [↓DN,Qa,Qb,Qc,Qd,Qe,Qf,Qg,Qh,reduceCtorEq,↓reduceIte,Na,Nb,Nc,Nk,Nf,Ng,Nh,Za,Zb,Zc,TT,h0,h5,n256,MM,MN,PG,List.replicate_succ,rn,rp,aW,bz (show 1 + i < 2 ^ 62 by omega)];refine hK _ _ ?_;clear hK K;refine jD (Ai @h0 (Ai @n256 (PF n i hn))) ?_;simp only [aq,av,if_true,if_false];refine bB _ _ ?_;clear bB K3;refine jD (Ai @h6 (eH i (by omega))) ?_;refine ⟨⟨i + 1,by omega,rfl,h1,rfl,?_,rfl⟩,?_⟩
   ·simp only [aG,Nc,↓reduceIte,be,show 2 ^ (8 * i) = 256 ^ i from by rw [Nat.pow_mul]]
   ·simp only [h6,aG,↓reduceIte];omega
  ·refine jB (Ai @h6 (Ai @h1 (Ai @af (decide_eq_false aO)))) ?_;refine jF ?_;refine aB ?_;simp only [av,aq,if_true];refine hK _ _ ?_;clear hK aX K K2;refine jB @h5 ?_;refine jI ?_;obtain rfl : i = size:=(by omega);exact jW ⟨rfl,rfl⟩
theorem PH (n : Nat) (h : n < 2 ^ 63) : ee .u64 (n : Int) = n:=ko n (by omega)
theorem eA (l : List UInt8) (size : Nat) (hl : l.length < 2 ^ 61) (hs : size≤8) (s : AS) :
  ah prog Γ 109 [.v (.string ⟨l.toArray⟩),.v (.int .i64 size)] s (fun r s'=>r = .v (.string ⟨(be size l.length ++ l).toArray⟩)∧s' = s):=by
 refine ab func109 rfl ntmps109 results109 (by simp) ?_;refine jA ?_;refine jS (Ai @rn (PH l.length (by omega))) fun K hK=>?_;refine ae (bJ l.length size (by omega) hs s) ?_;rintro r s' ⟨rfl,rfl⟩;refine jV (Ai @rn (Ai @rp (Ai @aW (bz (show size + l.length < 2 ^ 62 by omega))))) hK ?_;clear hK K;exact jJ
theorem dd (n : Nat) (s : AS) : ah prog Γ 87 [.v (.int .u64 n)] s (fun r s'=>r = .v (.bool (decide (2≤(n : Int)) && decide ((n : Int)≤2305843009213693949)))∧s' = s):=by
 refine ab func87 rfl ntmps87 results87 (by simp) ?_;rcases OE (decide (2≤(n : Int))) (decide ((n : Int)≤2305843009213693949)) with hd | hd | hd;all_goals
  refine jA ?_;refine jB @hd ?_;refine jI ?_;refine jW ⟨?_,rfl⟩;simp only [hd,Bool.and_true,Bool.true_and,Bool.false_and,Bool.and_false]
theorem fp (n : Nat) (s : AS) : ah prog Γ 73 [.v (.int .u64 n)] s (fun r s'=>r = .v (.bool (decide (2≤(n : Int)) && decide ((n : Int)≤2305843009213693949)))∧s' = s):=by
 refine ab func73 rfl ntmps73 results73 (by simp) ?_;rcases OE (decide (2≤(n : Int))) (decide ((n : Int)≤2305843009213693949)) with hd | hd | hd;all_goals
  refine jA ?_;refine jB @hd ?_;refine jI ?_;refine jW ⟨?_,rfl⟩;simp only [hd,Bool.and_true,Bool.true_and,Bool.false_and,Bool.and_false]
theorem de (a b : List UInt8) (s : AS) : ah prog Γ 25 [ak a .any,ak b .any] s (fun r s'=>r = .v (.bool (decide (a = b)))∧s' = s):=by
 refine ab func25 rfl ntmps25 results25 (by simp) ?_;refine jA ?_;refine jB @uw ?_;exact jJ
theorem sO {a b : Nat} (h : a = b) : (((a : Int) != (b : Int))) = false:=by subst h; simp
theorem vb {a b : Nat} (h : a≠b) : (((a : Int) != (b : Int))) = true:=by simp; omega
theorem cC {a b : Int} (h : a = b) : (a != b) = false:=by subst h; simp
theorem bF {a b : Int} (h : a≠b) : (a != b) = true:=by simpa using h
theorem vc (a b : List Int) (hl : a.length≤2 ^ 61) (s : AS) : ah prog Γ 223 [aC a .any,aC b .any] s (fun r s'=>r = .v (.bool (decide (a = b)))∧s' = s):=by
 refine ab func223 rfl ntmps223 results223 (by simp) ?_;unfold aC;refine jA ?_;refine wK fun K hK=>?_;by_cases h0 : a.length = b.length
 ·refine jB (sO h0) ?_;refine jF ?_;refine ad ?_;refine hK _ _ ?_;clear hK K;refine wK fun K hK=>?_;refine jA ?_;refine ag ?_;refine aH (fun E s1=>∃ i : Nat,i≤a.length∧E 13 = .v (.int .i64 i)∧E 12 = .v (.int .i64 a.length)∧E 0 = .sl 1 a.length (a.map aE) .any∧E 1 = .sl 1 b.length (b.map aE) .any∧a.take i = b.take i∧s1 = s)
   (fun E _=>match E 13 with | .v (.int _ i)=>a.length - i.toNat | _=>0) ?_ ?_
  ·exact ⟨0,Nat.zero_le _,by simp [aG],by simp [aG],by simp [aG,dE],by simp [aG,dE],rfl,rfl⟩
  ·rintro E1 s1 ⟨i,hi,Je,Lf,PJ,h1,he,rfl⟩ -
   by_cases aO : i < a.length
   ·have PK : i < b.length:=(by omega);refine jB (Ai @Je (Ai @Lf (Ai @af (decide_eq_true aO)))) ?_;refine wK fun K2 aX=>?_;refine jE ?_;refine ad ?_;refine aX _ _ ?_;clear aX K2;refine wK fun K3 bB=>?_;refine ag ?_;refine jB @Je ?_;have bK : (0 : Int)≤(i : Int):=(by omega);have bN:=dC aO;have Ph:=dC PK;by_cases hx : a[i] = b[i]
    ·refine aZ T.mixed [] (by kernel_rfl) ?_;intro K hK;refine jV (Ai @Je (Ai @PJ (Ai @h1 (Ai @bK (Ai @af (Ai @aO (Ai @PK (Ai @bN (Ai @Ph (cC hx)))))))))) hK ?_;clear hK K;refine jF ?_;refine ad ?_;simp only [aq,av,if_true,if_false];refine bB _ _ ?_;clear bB K3;refine jD (Ai @Je (eH i (by omega))) ?_;refine ⟨⟨i + 1,by omega,rfl,Lf,PJ,h1,uF aO PK he hx,rfl⟩,?_⟩;simp only [Je,aG,↓reduceIte];omega
    ·refine aZ T.mixed [] (by kernel_rfl) ?_;intro K hK;refine jV (Ai @Je (Ai @PJ (Ai @h1 (Ai @bK (Ai @af (Ai @aO (Ai @PK (Ai @bN (Ai @Ph (bF hx)))))))))) hK ?_;clear hK K;refine jE ?_;refine jA ?_;refine bo ?_;simp only [av,aq];simp only [cF,bI,bM,dh,List.toList_toArray,↓bj]; try simp only [UP,DF,Nc,↓reduceIte,DT]
     refine jW ⟨?_,rfl⟩;rw [decide_eq_false];intro e;subst e;exact hx rfl
   ·refine jB (Ai @Je (Ai @Lf (Ai @af (decide_eq_false aO)))) ?_;refine wK fun K2 aX=>?_;refine jF ?_;refine aB ?_;simp only [av,aq,if_true];refine hK _ _ ?_;clear hK aX K K2;refine jA ?_;refine jI ?_;refine jW ⟨?_,rfl⟩;rw [List.take_of_length_le (by omega),List.take_of_length_le (by omega)] at he;rw [decide_eq_true he]
 ·refine jB (vb h0) ?_;refine jE ?_;refine jA ?_;refine jI ?_;refine jW ⟨?_,rfl⟩;rw [decide_eq_false (fun e=>h0 (by rw [e]))];try rfl
theorem oe (a b : List Int) (hl : a.length≤2 ^ 61) (s : AS) : ah prog Γ 13 [aC a .any,aC b .any] s (fun r s'=>r = .v (.bool (decide (a = b)))∧s' = s):=by
 refine ab func13 rfl ntmps13 results13 (by simp) ?_;unfold aC;refine jA ?_;refine wK fun K hK=>?_;by_cases h0 : a.length = b.length
 ·refine jB (sO h0) ?_;refine jF ?_;refine ad ?_;refine hK _ _ ?_;clear hK K;refine wK fun K hK=>?_;refine jA ?_;refine ag ?_;refine aH (fun E s1=>∃ i : Nat,i≤a.length∧E 5 = .v (.int .i64 i)∧E 0 = .sl 1 a.length (a.map aE) .any∧E 1 = .sl 1 b.length (b.map aE) .any∧a.take i = b.take i∧s1 = s)
   (fun E _=>match E 5 with | .v (.int _ i)=>a.length - i.toNat | _=>0) ?_ ?_
  ·exact ⟨0,Nat.zero_le _,by simp [aG],by simp [aG,dE],by simp [aG,dE],rfl,rfl⟩
  ·rintro E1 s1 ⟨i,hi,h5,PJ,h1,he,rfl⟩ -
   refine wK fun K2 aX=>?_;by_cases aO : i < a.length
   ·have PK : i < b.length:=(by omega);refine jB (Ai @h5 (Ai @PJ (Ai @af (decide_eq_true aO)))) ?_;refine jE ?_;refine ad ?_;refine aX _ _ ?_;clear aX K2;refine wK fun K3 bB=>?_;refine ag ?_;have bK : (0 : Int)≤(i : Int):=(by omega);have bN:=dC aO;have Ph:=dC PK;by_cases hx : a[i] = b[i]
    ·refine aZ T.mixed [] (by kernel_rfl) ?_;intro K hK;refine jV (Ai @h5 (Ai @PJ (Ai @h1 (Ai @bK (Ai @af (Ai @aO (Ai @PK (Ai @bN (Ai @Ph (cC hx)))))))))) hK ?_;clear hK K;refine jF ?_;refine ad ?_;simp only [aq,av,if_true,if_false];refine bB _ _ ?_;clear bB K3;refine jD (Ai @h5 (eH i (by omega))) ?_;refine ⟨⟨i + 1,by omega,rfl,PJ,h1,uF aO PK he hx,rfl⟩,?_⟩;simp only [h5,aG,↓reduceIte];omega
    ·refine aZ T.mixed [] (by kernel_rfl) ?_;intro K hK;refine jV (Ai @h5 (Ai @PJ (Ai @h1 (Ai @bK (Ai @af (Ai @aO (Ai @PK (Ai @bN (Ai @Ph (bF hx)))))))))) hK ?_;clear hK K;refine jE ?_;refine jA ?_;refine bo ?_;simp only [av,aq];simp only [cF,bI,bM,dh,List.toList_toArray,↓bj]; try simp only [UP,DF,Nc,↓reduceIte,DT]
     refine jW ⟨?_,rfl⟩;rw [decide_eq_false];intro e;subst e;exact hx rfl
   ·refine jB (Ai @h5 (Ai @PJ (Ai @af (decide_eq_false aO)))) ?_;refine jF ?_;refine aB ?_;simp only [av,aq,if_true];refine hK _ _ ?_;clear hK aX K K2;refine jA ?_;refine jI ?_;refine jW ⟨?_,rfl⟩;rw [List.take_of_length_le (by omega),List.take_of_length_le (by omega)] at he;rw [decide_eq_true he]
 ·refine jB (vb h0) ?_;refine jE ?_;refine jA ?_;refine jI ?_;refine jW ⟨?_,rfl⟩;rw [decide_eq_false (fun e=>h0 (by rw [e]))];try rfl
theorem Aa (N M : aa) (hl : N.fF.length≤2 ^ 61) (s : AS) : ah prog Γ 191 [.agg N.cells,.agg M.cells] s (fun r s'=>r = .v (.bool (decide (N = M)))∧s' = s):=by
 refine ab func191 rfl ntmps191 results191 (by simp) ?_;unfold aa.cells;obtain ⟨k,m,y,p,u⟩:=N;obtain ⟨k',m',y',p',u'⟩:=M;rw [uG];refine jS @aC.eq_1 fun K hK=>?_;intro o ho;intro o' sq;have dz : o≠o':=by
  intro e;subst e;simp [AS.set] at sq
 have hle : s.le ((s.set o [.v (.int .i64 k),ak m .any,.v (.int .u64 y),ak p .any,aC u .any]).set o' [.v (.int .i64 k'),ak m' .any,.v (.int .u64 y'),ak p' .any,aC u' .any]):=AS.bg (AS.bg (AS.le.refl s) ho _) (by simpa [AS.set,aG,dz.symm] using sq) _;refine hK _ _ ?_;clear hK K;rcases ff5 (k == k') ((y : Int) == (y' : Int)) (decide (m = m')) (decide (p = p')) (decide (u = u')) with hd | hd | hd | hd | hd | hd
 ·refine jB (Ai @dz (Ai @hd @aC.eq_1)) ?_;refine jI ?_;refine ⟨_,s,AV.aL.refl _,hle,?_,rfl⟩;simp only [hd,Bool.and_true,Bool.true_and,Bool.false_and,Bool.and_false];try rfl
 ·refine jB (Ai @dz (Ai @hd @aC.eq_1)) ?_;refine jI ?_;refine ⟨_,s,AV.aL.refl _,hle,?_,rfl⟩;simp only [hd,Bool.and_true,Bool.true_and,Bool.false_and,Bool.and_false];try rfl
 ·refine jS (Ai @dz (Ai @hd @aC.eq_1)) fun K hK=>?_;refine ae (de m m' _) ?_;rintro r s' ⟨rfl,rfl⟩;refine jV (Ai @dz (Ai @hd @aC.eq_1)) hK ?_;clear hK K;refine jI ?_;refine ⟨_,s,AV.aL.refl _,hle,?_,rfl⟩;simp only [hd,Bool.and_true,Bool.true_and,Bool.false_and,Bool.and_false];try rfl
 ·refine jS (Ai @dz (Ai @hd @aC.eq_1)) fun K hK=>?_;refine ae (de m m' _) ?_;rintro r s' ⟨rfl,rfl⟩;refine jN (Ai @dz (Ai @hd @aC.eq_1)) ?_;refine ae (de p p' _) ?_;rintro r s' ⟨rfl,rfl⟩;refine jV (Ai @dz (Ai @hd @aC.eq_1)) hK ?_;clear hK K;refine jI ?_;refine ⟨_,s,AV.aL.refl _,hle,?_,rfl⟩;simp only [hd,Bool.and_true,Bool.true_and,Bool.false_and,Bool.and_false];try rfl
 all_goals
  refine jS (Ai @dz (Ai @hd @aC.eq_1)) fun K hK=>?_;refine ae (de m m' _) ?_;rintro r s' ⟨rfl,rfl⟩;refine jN (Ai @dz (Ai @hd @aC.eq_1)) ?_;refine ae (de p p' _) ?_;rintro r s' ⟨rfl,rfl⟩;refine jN (Ai @dz (Ai @hd @aC.eq_1)) ?_;refine ae (vc u u' hl _) ?_;rintro r s' ⟨rfl,rfl⟩;refine jV (Ai @dz (Ai @hd @aC.eq_1)) hK ?_;clear hK K;refine jI ?_;refine ⟨_,s,AV.aL.refl _,hle,?_,rfl⟩;simp only [hd,Bool.and_true,Bool.true_and,Bool.false_and,Bool.and_false];try rfl
theorem pY (N M : aa) (hl : N.fF.length≤2 ^ 61) (s : AS) : ah prog Γ 43 [.agg N.cells,.agg M.cells] s (fun r s'=>r = .v (.bool (decide (N = M)))∧s' = s):=by
 refine ab func43 rfl ntmps43 results43 (by simp) ?_;unfold aa.cells;obtain ⟨k,m,y,p,u⟩:=N;obtain ⟨k',m',y',p',u'⟩:=M;rw [uG];refine jS @aC.eq_1 fun K hK=>?_;intro o ho;intro o' sq;have dz : o≠o':=by
  intro e;subst e;simp [AS.set] at sq
 have hle : s.le ((s.set o [.v (.int .i64 k),ak m .any,.v (.int .u64 y),ak p .any,aC u .any]).set o' [.v (.int .i64 k'),ak m' .any,.v (.int .u64 y'),ak p' .any,aC u' .any]):=AS.bg (AS.bg (AS.le.refl s) ho _) (by simpa [AS.set,aG,dz.symm] using sq) _;refine hK _ _ ?_;clear hK K;rcases ff5 (k == k') ((y : Int) == (y' : Int)) (decide (m = m')) (decide (p = p')) (decide (u = u')) with hd | hd | hd | hd | hd | hd;case inr.inr.inr.inr.inl | inr.inr.inr.inr.inr =>
  refine jS (Ai @dz (Ai @hd (Ai @aC.eq_1 @uw))) fun K hK=>?_;refine ae (oe u u' hl _) ?_;rintro r s' ⟨rfl,rfl⟩;refine jV (Ai @dz (Ai @hd (Ai @aC.eq_1 @uw))) hK ?_;clear hK K;refine jI ?_;refine ⟨_,s,AV.aL.refl _,hle,?_,rfl⟩;simp only [hd,Bool.and_true,Bool.true_and,Bool.false_and,Bool.and_false];try rfl
 all_goals
  refine jB (Ai @dz (Ai @hd (Ai @aC.eq_1 @uw))) ?_;refine jI ?_;refine ⟨_,s,AV.aL.refl _,hle,?_,rfl⟩;simp only [hd,Bool.and_true,Bool.true_and,Bool.false_and,Bool.and_false];try rfl
theorem dU {a b : Int} (h : a≠b) : (a == b) = false:=by simpa using h
theorem gJ {a b : Int} (h : a = b) : (a == b) = true:=by simpa using h
theorem DS (l : List Int) (hl : l.length≤2 ^ 61) (s : AS) : ah prog Γ 193 [aC l .any] s (fun r s'=>r = .v (.bool (decide (fG l)))∧s' = s):=by
 refine ab func193 rfl ntmps193 results193 (by simp) ?_;unfold aC;refine jA ?_;refine wK fun K hK=>?_;refine jA ?_;refine ag ?_;refine aH (fun E s1=>∃ i : Nat,i≤l.length∧E 7 = .v (.int .i64 i)∧E 6 = .v (.int .i64 l.length)∧E 0 = .sl 1 l.length (l.map aE) .any∧E 5 = .sl 1 l.length (l.map aE) .any∧(∀ j,j < i→vW l j)∧s1 = s)
  (fun E _=>match E 7 with | .v (.int _ i)=>l.length - i.toNat | _=>0) ?_ ?_
 ·exact ⟨0,Nat.zero_le _,by simp [aG],by simp [aG],by simp [aG,dE],by simp [aG,dE],by simp,rfl⟩
 ·rintro E1 s1 ⟨i,hi,h7,h6,h0,h5,bT,rfl⟩ -
  by_cases aO : i < l.length
  ·refine jB (Ai @h7 (Ai @h6 (Ai @af (decide_eq_true aO)))) ?_;refine wK fun K2 aX=>?_;refine jE ?_;refine ad ?_;refine aX _ _ ?_;clear aX K2;refine wK fun K3 bB=>?_;refine ag ?_;have bK : (0 : Int)≤(i : Int):=(by omega);have bN:=dC aO;have kS : (vW l i)→∀ E2 : Env,E2 7 = .v (.int .i64 i)→E2 6 = .v (.int .i64 l.length)→E2 0 = .sl 1 l.length (l.map aE) .any→E2 5 = .sl 1 l.length (l.map aE) .any→K3 E2 s1:=by
    intro ho E2 g7 g6 g0 g5;refine bB _ _ ?_;clear bB K3;refine jD (Ai @g7 (eH i (by omega))) ?_;refine ⟨⟨i + 1,by omega,rfl,g6,g0,g5,?_,rfl⟩,?_⟩
    ·intro j hj;by_cases GH : j < i
     ·exact bT j GH
     ·obtain rfl : j = i:=(by omega);exact ho
    ·simp only [h7,aG,↓reduceIte];omega
   clear bB;have dV : ¬ vW l i→decide (fG l) = false:=fun h=>decide_eq_false fun hr=>h (hr i aO);refine jB (Ai @h7 (Ai @h5 (Ai @bK (Ai @af (Ai @aO @bN))))) ?_;by_cases h1 : l[i] < 0
   ·refine jB (decide_eq_true h1) ?_;refine jE ?_;refine jA ?_;refine bo ?_;simp only [av,aq];simp only [cF,bI,bM,dh,List.toList_toArray,↓bj]; try simp only [UP,DF,Nc,↓reduceIte,DT]
    rw [dV (fun h=>by have:=mA aO h; omega)];exact jW ⟨rfl,rfl⟩
   by_cases h2 : 32≤l[i]
   ·refine jB (Ai (decide_eq_false h1) (decide_eq_true h2)) ?_;refine jE ?_;refine jA ?_;refine bo ?_;simp only [av,aq];simp only [cF,bI,bM,dh,List.toList_toArray,↓bj]; try simp only [UP,DF,Nc,↓reduceIte,DT]
    rw [dV (fun h=>by have:=mA aO h; omega)];exact jW ⟨rfl,rfl⟩
   by_cases h3 : (0 : Int) < (i : Int)
   ·have hj : i - 1 < l.length:=(by omega);have zE : ed .i64 (i : Int) 1 = ((i - 1 : Nat) : Int):=(by rw [b6 (by omega)]; omega);have vd:=dC hj;have rY : (0 : Int)≤((i - 1 : Nat) : Int):=(by omega);by_cases h4 : l[i]≤l[i - 1]
    ·refine jB (Ai (decide_eq_false h1) (Ai (decide_eq_false h2) (Ai (decide_eq_true h3) (Ai @h0 (Ai @zE (Ai @rY (Ai @af (Ai @hj (Ai @vd (decide_eq_true h4)))))))))) ?_;refine jE ?_;refine jA ?_;refine bo ?_;simp only [av,aq];simp only [cF,bI,bM,dh,List.toList_toArray,↓bj]; try simp only [UP,DF,Nc,↓reduceIte,DT]
     rw [dV (fun h=>by have:=(mA aO h).2.2 (by omega); omega)];exact jW ⟨rfl,rfl⟩
    ·refine jB (Ai (decide_eq_false h1) (Ai (decide_eq_false h2) (Ai (decide_eq_true h3) (Ai @h0 (Ai @zE (Ai @rY (Ai @af (Ai @hj (Ai @vd (decide_eq_false h4)))))))))) ?_;refine jF ?_;refine ad ?_;simp only [aq,av,if_true,if_false];exact kS (uH aO (by omega) (by omega) (fun _=>by omega)) _ h7 h6 h0 h5
   ·refine jB (Ai (decide_eq_false h1) (Ai (decide_eq_false h2) (decide_eq_false h3))) ?_;refine jF ?_;refine ad ?_;simp only [aq,av,if_true,if_false];exact kS (uH aO (by omega) (by omega) (fun q=>by omega)) _ h7 h6 h0 h5
  ·refine jB (Ai @h7 (Ai @h6 (Ai @af (decide_eq_false aO)))) ?_;refine wK fun K2 aX=>?_;refine jF ?_;refine aB ?_;simp only [av,aq,if_true];refine hK _ _ ?_;clear hK aX K K2;refine jA ?_;refine jI ?_;refine jW ⟨?_,rfl⟩;rw [decide_eq_true (show fG l from fun j hj=>bT j (by omega))]
theorem tB (N : aa) (s : AS) : ah prog Γ 192 [.agg N.cells] s (fun r s'=>r = .v (.bool (decide N.held))∧s' = s):=by
 refine ab func192 rfl ntmps192 results192 (by simp) ?_;unfold aa.cells;obtain ⟨k,m,y,p,u⟩:=N;refine az 1 (by simp [bP]) ?_;intro K hK;refine jN @aC.eq_1 ?_;intro o ho;refine hK _ _ o _ rfl ho ?_;clear hK K ho;have hr : ∀ b,(aa.held ⟨k,m,y,p,u⟩↔b = true)→decide (aa.held ⟨k,m,y,p,u⟩) = b:=by
  intro b h;cases b
  ·exact decide_eq_false (fun h2=>by have:=h.1 h2; cases this)
  ·exact decide_eq_true (h.2 rfl)
 by_cases h1 : 2≤(y : Int)∧(y : Int)≤2305843009213693949
 ·have hd : (decide (2≤(y : Int)) && decide ((y : Int)≤2305843009213693949)) = true:=(by simp; omega);by_cases h2 : p.length = 0
  ·refine jQ fun K hK=>?_;refine ae (dd y s) ?_;rintro r s' ⟨rfl,rfl⟩;rw [hd];refine jV (Ai @h2 (show (((0 : Nat) : Int) == 0) = true from rfl)) hK ?_;clear hK K;refine jI ?_;rw [hr true ⟨fun _=>rfl,fun _=>⟨by simp only; omega,by simp only; omega,.inl h2⟩⟩];exact jW ⟨rfl,rfl⟩
  ·by_cases h3 : p.length = 32
   ·refine jQ fun K hK=>?_;refine ae (dd y s) ?_;rintro r s' ⟨rfl,rfl⟩;rw [hd];refine jV (Ai @h3 (Ai (show (((32 : Nat) : Int) == 0) = false from rfl) (show (((32 : Nat) : Int) == 32) = true from rfl))) hK ?_;clear hK K;refine jI ?_;rw [hr true ⟨fun _=>rfl,fun _=>⟨by simp only; omega,by simp only; omega,.inr h3⟩⟩];exact jW ⟨rfl,rfl⟩
   ·refine jQ fun K hK=>?_;refine ae (dd y s) ?_;rintro r s' ⟨rfl,rfl⟩;rw [hd];refine jV (Ai (dU (show (p.length : Int)≠0 by omega)) (dU (show (p.length : Int)≠32 by omega))) hK ?_;clear hK K;refine jI ?_;rw [hr false ⟨fun h=>by have:=h.2.2; simp only at this; omega,fun h=>by cases h⟩];exact jW ⟨rfl,rfl⟩
 ·have hd : (decide (2≤(y : Int)) && decide ((y : Int)≤2305843009213693949)) = false:=(by simp; omega);refine jQ fun K hK=>?_;refine ae (dd y s) ?_;rintro r s' ⟨rfl,rfl⟩;rw [hd];refine jR hK ?_;clear hK K;refine jI ?_;rw [hr false ⟨fun h=>by have:=h.1; have:=h.2.1; simp only at *; omega,fun h=>by cases h⟩];exact jW ⟨rfl,rfl⟩
theorem ve : (AV.agg [.v (.int .i64 0),.v (.slice none 0 0),.v (.int .u64 0),.v (.slice none 0 0),.v (.slice none 0 0)]).aL (.agg aa.bp.cells) :=
 AV.fR (.cons (AV.aL.refl _) (.cons AV.aP (.cons (AV.aL.refl _) (.cons AV.aP (.cons AV.aP .nil)))))
theorem dY (N : aa) (hl : N.fF.length≤2 ^ 61) (s : AS) : ah prog Γ 137 [.agg N.cells] s (fun r s'=>r = .v (.bool (decide N.right))∧s' = s):=by
 refine ab func137 rfl ntmps137 results137 (by simp) ?_;unfold aa.cells;obtain ⟨k,m,y,p,u⟩:=N;refine az 1 (by simp [bP]) ?_;intro K hK;refine jN @aC.eq_1 ?_;intro o ho;refine hK _ _ o _ rfl ho ?_;clear hK K ho;have fN : ∀ b,(aa.right ⟨k,m,y,p,u⟩↔b = true)→decide (aa.right ⟨k,m,y,p,u⟩) = b:=by
  intro b h;cases b
  ·exact decide_eq_false (fun h2=>by have:=h.1 h2; cases this)
  ·exact decide_eq_true (h.2 rfl)
 refine wK fun K hK=>?_;refine jA ?_;refine ag ?_;by_cases h0 : k = 0
 ·refine jB (gJ h0) ?_;refine jE ?_;refine jS @aC.eq_1 fun K hK=>?_;refine ae (ah.jq (.cons (AV.aL.refl _) (.cons ve .nil)) (Aa ⟨k,m,y,p,u⟩ aa.bp hl s)) ?_;rintro r s' ⟨rfl,rfl⟩;refine jR hK ?_;clear hK K;refine bo ?_;simp only [av,aq];simp only [cF,bI,bM,dh,List.toList_toArray,↓bj]; try simp only [UP,DF,Nc,↓reduceIte,DT]
  refine jW ⟨?_,rfl⟩;rw [fN _ ((j6 (N:=⟨k,m,y,p,u⟩) h0).trans decide_eq_true_iff.symm)]
 by_cases h1 : k = 1
 ·have rW:=dT (N:=⟨k,m,y,p,u⟩) h1;simp only at rW;rcases ff4 (decide (1≤(m.length : Int))) (decide ((m.length : Int)≤16)) (decide (aa.held ⟨k,m,y,p,u⟩)) ((u.length : Int) == 0) with hd | hd | hd | hd | hd;case inl | inr.inl =>
   refine jB (dU h0) ?_;refine jF ?_;refine jB (gJ h1) ?_;refine jE ?_;refine jB (Ai @hd @aC.eq_1) ?_;refine bo ?_;simp only [av,aq];simp only [cF,bI,bM,dh,List.toList_toArray,↓bj]; try simp only [UP,DF,Nc,↓reduceIte,DT]
   refine jW ⟨?_,rfl⟩;simp only [decide_eq_true_eq,decide_eq_false_iff_not,beq_iff_eq] at hd;rw [fN false ⟨fun h=>by have:=rW.1 h; omega,fun h=>by cases h⟩]
  all_goals
   refine jB (dU h0) ?_;refine jF ?_;refine jB (gJ h1) ?_;refine jE ?_;refine jS (Ai @hd @aC.eq_1) fun K hK=>?_;refine ae (tB ⟨k,m,y,p,u⟩ s) ?_;rintro r s' ⟨rfl,rfl⟩;refine jV (Ai @hd @aC.eq_1) hK ?_;clear hK K;refine bo ?_;simp only [av,aq];simp only [cF,bI,bM,dh,List.toList_toArray,↓bj]; try simp only [UP,DF,Nc,↓reduceIte,DT]
   refine jW ⟨?_,rfl⟩;simp only [decide_eq_true_eq,decide_eq_false_iff_not,beq_iff_eq,beq_eq_false_iff_ne] at hd
  ·rw [fN false ⟨fun h=>absurd (rW.1 h).2.2.1 hd.2.2,fun h=>by cases h⟩]
  ·rw [fN false ⟨fun h=>by have:=(rW.1 h).2.2.2; omega,fun h=>by cases h⟩]
  ·rw [fN true ⟨fun _=>rfl,fun _=>rW.2 ⟨by omega,by omega,hd.2.2.1,by omega⟩⟩]
 by_cases h2 : k = 2
 ·have rW:=eQ (N:=⟨k,m,y,p,u⟩) h2;simp only at rW hl;rcases N5 ((m.length : Int) == 0) (decide (aa.held ⟨k,m,y,p,u⟩)) (decide (fG u)) with hd | hd | hd | hd;all_goals
   refine jB (dU h0) ?_;refine jF ?_;refine jB (dU h1) ?_;refine jF ?_;refine jB (gJ h2) ?_;refine jE ?_
  ·refine jB (Ai @hd @aC.eq_1) ?_;refine bo ?_;simp only [av,aq];simp only [cF,bI,bM,dh,List.toList_toArray,↓bj]; try simp only [UP,DF,Nc,↓reduceIte,DT]
   refine jW ⟨?_,rfl⟩;simp only [beq_eq_false_iff_ne] at hd;rw [fN false ⟨fun h=>by have:=(rW.1 h).1; omega,fun h=>by cases h⟩]
  ·refine jS (Ai @hd @aC.eq_1) fun K hK=>?_;refine ae (tB ⟨k,m,y,p,u⟩ s) ?_;rintro r s' ⟨rfl,rfl⟩;refine jV (Ai @hd @aC.eq_1) hK ?_;clear hK K;refine bo ?_;simp only [av,aq];simp only [cF,bI,bM,dh,List.toList_toArray,↓bj]; try simp only [UP,DF,Nc,↓reduceIte,DT]
   refine jW ⟨?_,rfl⟩;simp only [decide_eq_false_iff_not] at hd;rw [fN false ⟨fun h=>absurd (rW.1 h).2.1 hd.2,fun h=>by cases h⟩]
  all_goals
   refine jS (Ai @hd @aC.eq_1) fun K hK=>?_;refine ae (tB ⟨k,m,y,p,u⟩ s) ?_;rintro r s' ⟨rfl,rfl⟩;refine jN (Ai @hd @aC.eq_1) ?_;refine ae (DS u hl _) ?_;rintro r s' ⟨rfl,rfl⟩;refine jV (Ai @hd @aC.eq_1) hK ?_;clear hK K;refine bo ?_;simp only [av,aq];simp only [cF,bI,bM,dh,List.toList_toArray,↓bj]; try simp only [UP,DF,Nc,↓reduceIte,DT]
   refine jW ⟨?_,rfl⟩;simp only [decide_eq_true_eq,decide_eq_false_iff_not,beq_iff_eq] at hd
  ·rw [fN false ⟨fun h=>absurd (rW.1 h).2.2 hd.2.2,fun h=>by cases h⟩]
  ·rw [fN true ⟨fun _=>rfl,fun _=>rW.2 ⟨by omega,hd.2.1,hd.2.2⟩⟩]
 ·refine jB (dU h0) ?_;refine jF ?_;refine jB (dU h1) ?_;refine jF ?_;refine jB (dU h2) ?_;refine jF ?_;refine ad ?_;simp only [aq,av,if_true,if_false];refine hK _ _ ?_;clear hK K;refine jA ?_;refine jI ?_;refine jW ⟨?_,rfl⟩;rw [fN false ⟨fun h=>absurd h (zB (N:=⟨k,m,y,p,u⟩) h0 h1 h2),fun h=>by cases h⟩]
theorem H5 {N : aa} (h0 : N.kind≠0) (h : N.right) : N.held:=by
 unfold aa.right at h;rw [if_neg h0] at h;split at h
 ·exact h.2.2.1
 ·split at h
  ·exact h.2.1
  ·exact h.elim
theorem ke (N : aa) (hl : N.fF.length≤2 ^ 61) (s : AS) : ah prog Γ 79 [.agg N.cells] s (fun r s'=>r = .v (.bool (decide N.right))∧s' = s):=by
 refine ab func79 rfl ntmps79 results79 (by simp) ?_;unfold aa.cells;obtain ⟨k,m,y,p,u⟩:=N;simp only at hl;refine az 1 (by simp [bP]) ?_;intro K hK;refine jN @aC.eq_1 ?_;intro o ho;refine hK _ _ o _ rfl ho ?_;clear hK K ho;have fN : ∀ b,(aa.right ⟨k,m,y,p,u⟩↔b = true)→decide (aa.right ⟨k,m,y,p,u⟩) = b:=by
  intro b h;cases b
  ·exact decide_eq_false (fun h2=>by have:=h.1 h2; cases this)
  ·exact decide_eq_true (h.2 rfl)
 refine wK fun K hK=>?_;by_cases h0 : k = 0
 ·refine jB (gJ h0) ?_;refine jE ?_;refine jS @aC.eq_1 fun K hK=>?_;refine ae (ah.jq (.cons (AV.aL.refl _) (.cons ve .nil)) (pY ⟨k,m,y,p,u⟩ aa.bp hl s)) ?_;rintro r s' ⟨rfl,rfl⟩;refine jR hK ?_;clear hK K;refine jI ?_;refine jW ⟨?_,rfl⟩;rw [fN _ ((j6 (N:=⟨k,m,y,p,u⟩) h0).trans decide_eq_true_iff.symm)];try rfl
 ·refine jB (dU h0) ?_;refine jF ?_;refine ad ?_;refine hK _ _ ?_;clear hK K;refine wK fun K0 Jd=>?_;refine jQ fun K hK=>?_;refine ae (fp y s) ?_;rintro r s' ⟨rfl,rfl⟩;by_cases hh : aa.held ⟨k,m,y,p,u⟩
  ·have hh':=hh;obtain ⟨e1,e2,e3⟩:=hh';simp only at e1 e2 e3;rw [show (decide (2≤(y : Int)) && decide ((y : Int)≤2305843009213693949)) = true from by simp; omega];have gC : ∀ E2 : Env,E2 1 = .cX [.v (.int .i64 k),.sl 1 m.length (m.map aw) .any,.v (.int .u64 y),.sl 1 p.length (p.map aw) .any,.sl 1 u.length (u.map aE) .any]→K0 E2 s':=by
    intro E2 g1;refine Jd _ _ ?_;clear Jd K0 hK K;refine wK fun K hK=>?_;by_cases h1 : k = 1
    ·have rW:=dT (N:=⟨k,m,y,p,u⟩) h1;simp only at rW;refine jB (Ai @g1 (gJ h1)) ?_;refine jE ?_;rcases N5 (decide (1≤(m.length : Int))) (decide ((m.length : Int)≤16)) ((u.length : Int) == 0) with hd | hd | hd | hd;all_goals
      refine jB (Ai @g1 @hd) ?_;refine jI ?_;refine jW ⟨?_,rfl⟩;simp only [decide_eq_true_eq,decide_eq_false_iff_not,beq_iff_eq,beq_eq_false_iff_ne] at hd
     ·rw [fN false ⟨fun h=>by have:=rW.1 h; omega,fun h=>by cases h⟩];try rfl
     ·rw [fN false ⟨fun h=>by have:=rW.1 h; omega,fun h=>by cases h⟩];try rfl
     ·rw [fN false ⟨fun h=>by have:=(rW.1 h).2.2.2; omega,fun h=>by cases h⟩];try rfl
     ·rw [fN true ⟨fun _=>rfl,fun _=>rW.2 ⟨by omega,by omega,hh,by omega⟩⟩];try rfl
    ·refine jB (Ai @g1 (dU h1)) ?_;refine jF ?_;refine ad ?_;refine hK _ _ ?_;clear hK K;refine wK fun K hK=>?_;by_cases h2 : k = 2
     ·have rW:=eQ (N:=⟨k,m,y,p,u⟩) h2;simp only at rW;by_cases hm : (0 : Int) < (m.length : Int)
      ·refine jB (Ai @g1 (Ai (cC h2) (decide_eq_true hm))) ?_;refine jE ?_;refine jA ?_;refine jI ?_;refine jW ⟨?_,rfl⟩;rw [fN false ⟨fun h=>by have:=(rW.1 h).1; omega,fun h=>by cases h⟩];try rfl
      ·refine jB (Ai @g1 (Ai (cC h2) (decide_eq_false hm))) ?_;refine jF ?_;refine ad ?_;refine hK _ _ ?_;clear hK K;refine wK fun K hK=>?_;refine jB @g1 ?_;refine ag ?_;refine aH (fun E s1=>∃ i : Nat,i≤u.length∧E 3 = .v (.int .i64 i)∧E 1 = .cX [.v (.int .i64 k),.sl 1 m.length (m.map aw) .any,.v (.int .u64 y),.sl 1 p.length (p.map aw) .any,.sl 1 u.length (u.map aE) .any]∧(∀ j,j < i→vW u j)∧s1 = s')
        (fun E _=>match E 3 with | .v (.int _ i)=>u.length - i.toNat | _=>0) ?_ ?_
       ·exact ⟨0,Nat.zero_le _,rfl,g1,by simp,rfl⟩
       ·rintro E3 s1 ⟨i,hi,h3,PL,bT,rfl⟩ -
        refine wK fun K2 aX=>?_;by_cases aO : i < u.length
        ·refine jB (Ai @h3 (Ai @PL (Ai @af (decide_eq_true aO)))) ?_;refine jE ?_;refine ad ?_;refine aX _ _ ?_;clear aX K2;refine wK fun K3 bB=>?_;refine ag ?_;have bK : (0 : Int)≤(i : Int):=(by omega);have bN:=dC aO;have kS : (vW u i)→∀ E4 : Env,E4 3 = .v (.int .i64 i)→E4 1 = .cX [.v (.int .i64 k),.sl 1 m.length (m.map aw) .any,.v (.int .u64 y),.sl 1 p.length (p.map aw) .any,.sl 1 u.length (u.map aE) .any]→K3 E4 s1:=by
          intro ho E4 g3 g41;refine bB _ _ ?_;clear bB K3;refine jD (Ai @g3 (eH i (by omega))) ?_;refine ⟨⟨i + 1,by omega,rfl,g41,?_,rfl⟩,?_⟩
          ·intro j hj;by_cases GH : j < i
           ·exact bT j GH
           ·obtain rfl : j = i:=(by omega);exact ho
          ·simp only [h3,aG,↓reduceIte];omega
         clear bB;have dV : ¬ vW u i→decide (aa.right ⟨k,m,y,p,u⟩) = false:=fun h=>fN false ⟨fun hr=>absurd ((rW.1 hr).2.2 i aO) h,fun h=>by cases h⟩;by_cases q1 : u[i] < 0
         ·refine aZ T.mixed [] (by kernel_rfl) ?_;intro K hK;refine jV (Ai @h3 (Ai @PL (Ai @bK (Ai @af (Ai @aO (Ai @bN (decide_eq_true q1))))))) hK ?_;clear hK K;refine jE ?_;refine jA ?_;refine bo ?_;simp only [av,aq];simp only [cF,bI,bM,dh,List.toList_toArray,↓bj]; try simp only [UP,DF,Nc,↓reduceIte,DT]
          rw [dV (fun h=>by have:=mA aO h; omega)];exact jW ⟨rfl,rfl⟩
         by_cases q2 : 31 < u[i]
         ·refine aZ T.mixed [] (by kernel_rfl) ?_;intro K hK;refine jV (Ai @h3 (Ai @PL (Ai @bK (Ai @af (Ai @aO (Ai @bN (Ai (decide_eq_false q1) (decide_eq_true q2)))))))) hK ?_;clear hK K;refine jE ?_;refine jA ?_;refine bo ?_;simp only [av,aq];simp only [cF,bI,bM,dh,List.toList_toArray,↓bj]; try simp only [UP,DF,Nc,↓reduceIte,DT]
          rw [dV (fun h=>by have:=mA aO h; omega)];exact jW ⟨rfl,rfl⟩
         by_cases q3 : (0 : Int) < (i : Int)
         ·have hj : i - 1 < u.length:=(by omega);have zE : ed .i64 (i : Int) 1 = ((i - 1 : Nat) : Int):=(by rw [b6 (by omega)]; omega);have vd:=dC hj;have rY : (0 : Int)≤((i - 1 : Nat) : Int):=(by omega);by_cases q4 : u[i]≤u[i - 1]
          ·refine aZ T.mixed [] (by kernel_rfl) ?_;intro K hK;refine jV (Ai @h3 (Ai @PL (Ai @bK (Ai @af (Ai @aO (Ai @bN (Ai (decide_eq_false q1) (Ai (decide_eq_false q2) (Ai (decide_eq_true q3) (Ai @zE (Ai @rY (Ai @hj (Ai @vd (decide_eq_true q4)))))))))))))) hK ?_;clear hK K;refine jE ?_;refine jA ?_;refine bo ?_;simp only [av,aq];simp only [cF,bI,bM,dh,List.toList_toArray,↓bj]; try simp only [UP,DF,Nc,↓reduceIte,DT]
           rw [dV (fun h=>by have:=(mA aO h).2.2 (by omega); omega)];exact jW ⟨rfl,rfl⟩
          ·refine aZ T.mixed [] (by kernel_rfl) ?_;intro K hK;refine jV (Ai @h3 (Ai @PL (Ai @bK (Ai @af (Ai @aO (Ai @bN (Ai (decide_eq_false q1) (Ai (decide_eq_false q2) (Ai (decide_eq_true q3) (Ai @zE (Ai @rY (Ai @hj (Ai @vd (decide_eq_false q4)))))))))))))) hK ?_;clear hK K;refine jF ?_;refine ad ?_;simp only [aq,av,if_true,if_false];exact kS (uH aO (by omega) (by omega) (fun _=>by omega)) _ h3 PL
         ·refine aZ T.mixed [] (by kernel_rfl) ?_;intro K hK;refine jV (Ai @h3 (Ai @PL (Ai @bK (Ai @af (Ai @aO (Ai @bN (Ai (decide_eq_false q1) (Ai (decide_eq_false q2) (decide_eq_false q3))))))))) hK ?_;clear hK K;refine jF ?_;refine ad ?_;simp only [aq,av,if_true,if_false];exact kS (uH aO (by omega) (by omega) (fun q=>by omega)) _ h3 PL
        ·refine jB (Ai @h3 (Ai @PL (Ai @af (decide_eq_false aO)))) ?_;refine jF ?_;refine aB ?_;simp only [av,aq,if_true];refine hK _ _ ?_;clear hK aX K K2;refine jA ?_;refine jI ?_;refine jW ⟨?_,rfl⟩;rw [fN true ⟨fun _=>rfl,fun _=>rW.2 ⟨by omega,hh,fun j hj=>bT j (by omega)⟩⟩];try rfl
     ·refine jB (Ai @g1 (bF h2)) ?_;refine jE ?_;refine jA ?_;refine jI ?_;refine jW ⟨?_,rfl⟩;rw [fN false ⟨fun h=>absurd h (zB (N:=⟨k,m,y,p,u⟩) h0 h1 h2),fun h=>by cases h⟩];try rfl
   clear Jd;rcases e3 with e3 | e3
   ·refine jV (Ai @e3 (show (((0 : Nat) : Int) != 0) = false from rfl)) hK ?_;clear hK K;refine jF ?_;refine ad ?_;exact gC _ (by simp only [aG,Nc,↓reduceIte,e3])
   ·refine jV (Ai @e3 (Ai (show (((32 : Nat) : Int) != 0) = true from rfl) (show (((32 : Nat) : Int) != 32) = false from rfl))) hK ?_;clear hK K;refine jF ?_;refine ad ?_;exact gC _ (by simp only [aG,Nc,↓reduceIte,e3])
  ·have FV : decide (aa.right ⟨k,m,y,p,u⟩) = false:=fN false ⟨fun h=>absurd (H5 (N:=⟨k,m,y,p,u⟩) h0 h) hh,fun h=>by cases h⟩;by_cases e1 : 2≤(y : Int)∧(y : Int)≤2305843009213693949
   ·have e3 : ¬ (p.length = 0∨p.length = 32):=fun e=>hh ⟨by simp only; omega,by simp only; omega,e⟩;rw [show (decide (2≤(y : Int)) && decide ((y : Int)≤2305843009213693949)) = true from by simp; omega];refine jV (Ai (bF (show (p.length : Int)≠0 by omega)) (bF (show (p.length : Int)≠32 by omega))) hK ?_;clear hK K;refine jE ?_;refine jA ?_;refine jI ?_;rw [FV];exact jW ⟨rfl,rfl⟩
   ·rw [show (decide (2≤(y : Int)) && decide ((y : Int)≤2305843009213693949)) = false from by simp; omega];refine jR hK ?_;clear hK K;refine jE ?_;refine jA ?_;refine jI ?_;rw [FV];exact jW ⟨rfl,rfl⟩
def et (N : aa) (st : List UInt8 × Bool) : List UInt8 × Bool:=if N.right then cy N.text st else (st.1,true)
theorem pZ (N : aa) (hl : N.fF.length≤2 ^ 61) (s0 s : AS) (p : Nat) (st : List UInt8 × Bool) (il : st.1.length + 200≤2 ^ 45) (h : fu s0 s p st) :
  ah prog Γ 235 [.ptr p 0,.agg N.cells] s (fun r s'=>r = .dZ []∧fu s0 s' p (et N st)):=by
 refine ab func235 rfl ntmps235 results235 (by simp) ?_;unfold aa.cells;obtain ⟨k,m,y,pa,u⟩:=N;refine az 3 (by simp [bP]) ?_;intro K hK;refine jN @aC.eq_1 ?_;intro o ho;refine hK _ _ o _ rfl ho ?_;clear hK K ho;refine wK fun K hK=>?_;refine jQ fun K hK=>?_;refine ae (dY ⟨k,m,y,pa,u⟩ hl s) ?_;rintro r s' ⟨rfl,rfl⟩;have hlen : ∀ a,(cy a st).1.length≤st.1.length + a.length:=fun a=>cj a st;by_cases hr : aa.right ⟨k,m,y,pa,u⟩
 ·rw [decide_eq_true hr];refine jR hK ?_;clear hK K;refine jF ?_;refine ad ?_;refine hK _ _ ?_;clear hK K;have xb8 : et ⟨k,m,y,pa,u⟩ st = cy (aa.text ⟨k,m,y,pa,u⟩) st:=if_pos hr;rw [xb8];rcases j7 hr with hk | hk | hk
  ·simp only at hk;subst hk;refine jQ fun K hK=>?_;refine ae (cD s0 s' p st ((0 : Nat) : Int) (by omega) (by omega) h) ?_;rintro r s1 ⟨rfl,q1⟩;rw [dM (by decide)] at q1;refine jR hK ?_;clear hK K;refine wK fun K hK=>?_;refine wS fun K hK=>?_;simp only [↓DN,Qa,Qb,Qc,Qd,Qe,Qf,Qg,Qh,reduceCtorEq,↓reduceIte,Na,Nb,Nc,Nk,Nf,Ng,Nh,Za,Zb,Zc,TT,Int.reduceBEq];refine hK _ _ ?_;clear hK K;refine jE ?_;refine jI ?_;exact jW ⟨rfl,q1⟩
  ·obtain ⟨h1,h2,⟨h3,h4,h5⟩,h6⟩:=(dT hk).1 hr;simp only at hk h1 h2 h3 h4 h5 h6;subst hk;refine jQ fun K hK=>?_;refine ae (cD s0 s' p st ((1 : Nat) : Int) (by omega) (by omega) h) ?_;rintro r s1 ⟨rfl,q1⟩;rw [dM (by decide)] at q1;refine jR hK ?_;clear hK K;refine wK fun K hK=>?_;refine wS fun K hK=>?_;simp only [↓DN,Qa,Qb,Qc,Qd,Qe,Qf,Qg,Qh,reduceCtorEq,↓reduceIte,Na,Nb,Nc,Nk,Nf,Ng,Nh,Za,Zb,Zc,TT,Int.reduceBEq];refine hK _ _ ?_;clear hK K;refine jF ?_;refine ad ?_;refine hK _ _ ?_;clear hK K;refine wK fun K hK=>?_;refine wS fun K hK=>?_;simp only [↓DN,Qa,Qb,Qc,Qd,Qe,Qf,Qg,Qh,reduceCtorEq,↓reduceIte,Na,Nb,Nc,Nk,Nf,Ng,Nh,Za,Zb,Zc,TT,Int.reduceBEq];refine hK _ _ ?_;clear hK K;refine jE ?_;refine jT fun K hK=>?_;refine ae (eJ s0 s1 p _ _ m (Ca.any m) (by have:=hlen (be 1 1); simp at this ⊢; omega) q1) ?_;rintro r s2 ⟨rfl,q2⟩;rw [nH (by omega),bA] at q2;refine jR hK ?_;clear hK K;refine hK _ _ ?_;clear hK K;refine jQ fun K hK=>?_;refine ae (dO s0 s2 p _ y (by omega) (by refine Nat.le_trans (Nat.add_le_add_right (hlen _) _) ?_; simp; omega) q2) ?_;rintro r s3 ⟨rfl,q3⟩;rw [eI,bA] at q3;refine jR hK ?_;clear hK K;refine jQ fun K hK=>?_;refine ae (eJ s0 s3 p _ _ pa (Ca.any pa) (by refine Nat.le_trans (Nat.add_le_add_right (Nat.add_le_add_right (hlen _) _) _) ?_; simp; omega) q3) ?_;rintro r s4 ⟨rfl,q4⟩;rw [nH (by omega),bA] at q4;refine jR hK ?_;clear hK K;refine wS fun K hK=>?_;simp only [↓DN,Qa,Qb,Qc,Qd,Qe,Qf,Qg,Qh,reduceCtorEq,↓reduceIte,Na,Nb,Nc,Nk,Nf,Ng,Nh,Za,Zb,Zc,TT,Int.reduceBEq];refine hK _ _ ?_;clear hK K;refine jF ?_;refine ad ?_;simp only [cF,bI,bM,dh,List.toList_toArray,↓bj]; try simp only [UP,DF,Nc,↓reduceIte,DT]
   refine jW ⟨rfl,?_⟩;rw [show aa.text ⟨1,m,y,pa,u⟩ = be 1 1 ++ (be 1 m.length ++ m) ++ be 8 y ++ (be 1 pa.length ++ pa) from rfl];exact q4
  ·obtain ⟨h1,⟨h3,h4,h5⟩,h6⟩:=(eQ hk).1 hr;simp only at hk h1 h3 h4 h5 h6;subst hk;have hu:=iJ h6;refine jQ fun K hK=>?_;refine ae (cD s0 s' p st ((2 : Nat) : Int) (by omega) (by omega) h) ?_;rintro r s1 ⟨rfl,q1⟩;rw [dM (by decide)] at q1;refine jR hK ?_;clear hK K;refine wK fun K hK=>?_;refine wS fun K hK=>?_;simp only [↓DN,Qa,Qb,Qc,Qd,Qe,Qf,Qg,Qh,reduceCtorEq,↓reduceIte,Na,Nb,Nc,Nk,Nf,Ng,Nh,Za,Zb,Zc,TT,Int.reduceBEq];refine hK _ _ ?_;clear hK K;refine jF ?_;refine ad ?_;refine hK _ _ ?_;clear hK K;refine wK fun K hK=>?_;refine wS fun K hK=>?_;simp only [↓DN,Qa,Qb,Qc,Qd,Qe,Qf,Qg,Qh,reduceCtorEq,↓reduceIte,Na,Nb,Nc,Nk,Nf,Ng,Nh,Za,Zb,Zc,TT,Int.reduceBEq];refine hK _ _ ?_;clear hK K;refine jF ?_;refine ad ?_;refine hK _ _ ?_;clear hK K;refine jQ fun K hK=>?_;refine ae (dO s0 s1 p _ y (by omega) (by refine Nat.le_trans (Nat.add_le_add_right (hlen _) _) ?_; simp; omega) q1) ?_;rintro r s3 ⟨rfl,q3⟩;rw [eI,bA] at q3;refine jR hK ?_;clear hK K;refine jQ fun K hK=>?_;refine ae (eJ s0 s3 p _ _ pa (Ca.any pa) (by refine Nat.le_trans (Nat.add_le_add_right (Nat.add_le_add_right (hlen _) _) _) ?_; simp; omega) q3) ?_;rintro r s4 ⟨rfl,q4⟩;rw [nH (by omega),bA] at q4;refine jR hK ?_;clear hK K;refine wS fun K hK=>?_;simp only [↓DN,Qa,Qb,Qc,Qd,Qe,Qf,Qg,Qh,reduceCtorEq,↓reduceIte,Na,Nb,Nc,Nk,Nf,Ng,Nh,Za,Zb,Zc,TT,Int.reduceBEq];refine hK _ _ ?_;clear hK K;refine jE ?_;refine jQ fun K hK=>?_;refine ae (cD s0 s4 p _ (u.length : Int) (by omega) (by refine Nat.le_trans (Nat.add_le_add_right (hlen _) _) ?_; simp; omega) q4) ?_;rintro r s5 ⟨rfl,q5⟩;rw [dM (by omega),bA] at q5;obtain ⟨A,hA⟩ : ∃ A,A = be 1 2 ++ be 8 y ++ (be 1 pa.length ++ pa) ++ be 1 u.length:=⟨_,rfl⟩;have hAl : A.length≤50:=(by rw [hA]; simp; omega);rw [← hA] at q5;have Pf : aa.text ⟨2,m,y,pa,u⟩ = A ++ fj u:=(by rw [hA]; rfl);refine jR hK ?_;clear hK K;refine jA ?_;refine ag ?_;refine aH (fun E s2=>∃ i : Nat,i≤u.length∧E 44 = .v (.int .i64 i)∧E 43 = .v (.int .i64 u.length)∧E 42 = .sl 1 u.length (u.map aE) .any∧E 0 = .ptr p 0∧fu s0 s2 p (cy (A ++ fj (u.take i)) st))
    (fun E _=>match E 44 with | .v (.int _ i)=>u.length - i.toNat | _=>0) ?_ ?_
   ·exact ⟨0,Nat.zero_le _,rfl,rfl,rfl,by simp only [aG,dE,Nc,↓reduceIte,List.getD_cons_zero],by simpa [fj] using q5⟩
   ·rintro E1 s6 ⟨i,hi,YU,g43,g42,g0,q6⟩ -
    by_cases aO : i < u.length
    ·refine jB (Ai @YU (Ai @g43 (Ai @af (decide_eq_true aO)))) ?_;refine wK fun K2 aX=>?_;refine jE ?_;refine ad ?_;refine aX _ _ ?_;clear aX K2;refine wK fun K3 bB=>?_;refine ag ?_;have bK : (0 : Int)≤(i : Int):=(by omega);have bN:=dC aO;have hx:=mB h6 (List.getElem_mem aO);refine jB (Ai @YU (Ai @g42 (Ai @bK (Ai @af (Ai @aO @bN))))) ?_;refine jU @g0 fun K hK=>?_;have hxn : u[i] = ((u[i]).toNat : Int):=(by omega);refine ae (cD s0 s6 p _ u[i] (by omega) (by refine Nat.le_trans (Nat.add_le_add_right (hlen _) _) ?_; simp [lF]; omega) q6) ?_;rintro r s7 ⟨rfl,q7⟩;rw [hxn,dM (by omega),bA,List.append_assoc,← sH,← List.take_succ_eq_append_getElem aO] at q7;refine jR hK ?_;clear hK K;simp only [aq,av,if_true,if_false];refine bB _ _ ?_;clear bB K3;refine jD (Ai @YU (eH i (by omega))) ?_;refine ⟨⟨i + 1,by omega,rfl,g43,g42,g0,q7⟩,?_⟩;simp only [YU,aG,↓reduceIte];omega
    ·refine jB (Ai @YU (Ai @g43 (Ai @af (decide_eq_false aO)))) ?_;refine wK fun K2 aX=>?_;refine jF ?_;refine aB ?_;simp only [av,aq,if_true];simp only [cF,bI,bM,dh,List.toList_toArray,↓bj]; try simp only [UP,DF,Nc,↓reduceIte,DT]
     refine jW ⟨rfl,?_⟩;rw [List.take_of_length_le (by omega)] at q6;rw [Pf];exact q6
 ·rw [decide_eq_false hr];refine jR hK ?_;clear hK K;refine jE ?_;refine jQ fun K hK=>?_;refine ae (cD s0 s' p st (-1) (by omega) (by omega) h) ?_;rintro r s1 ⟨rfl,q1⟩;refine jR hK ?_;clear hK K;refine jI ?_;refine jW ⟨rfl,?_⟩;rw [show et ⟨k,m,y,pa,u⟩ st = bU 1 (-1) st from (if_neg hr).trans (if_neg (by omega)).symm];exact q1
theorem mK (N : aa) (hr : N.right) (s : AS) : ah prog Γ 222 [.agg N.cells] s (fun r s'=>r = .v (.string ⟨N.text.toArray⟩)∧s' = s):=by
 refine ab func222 rfl ntmps222 results222 (by simp) ?_;unfold aa.cells;obtain ⟨k,m,y,pa,u⟩:=N;refine az 1 (by simp [bP]) ?_;intro K hK;refine jN @aC.eq_1 ?_;intro o ho;refine hK _ _ o _ rfl ho ?_;clear hK K ho;refine wK fun K hK=>?_;rcases j7 hr with hk | hk | hk
 ·simp only at hk;subst hk;refine wS fun K hK=>?_;simp only [↓DN,Qa,Qb,Qc,Qd,Qe,Qf,Qg,Qh,reduceCtorEq,↓reduceIte,Na,Nb,Nc,Nk,Nf,Ng,Nh,Za,Zb,Zc,TT,Int.reduceBEq];refine hK _ _ ?_;clear hK K;refine wC fun X Y hX hY=>?_;simp only [UP,DF,Nc,↓reduceIte,DB];refine hX ?_;clear hX hY X Y;refine wS fun K hK=>?_;refine jO ?_;refine hK _ _ ?_;clear hK K;refine bo ?_;simp only [cF,bI,bM,dh,List.toList_toArray,↓bj]; try simp only [UP,DF,Nc,↓reduceIte,DT]
  exact jW ⟨rfl,rfl⟩
 ·obtain ⟨h1,h2,⟨h3,h4,h5⟩,h6⟩:=(dT hk).1 hr;simp only at hk h1 h2 h3 h4 h5 h6;subst hk;refine wS fun K hK=>?_;simp only [↓DN,Qa,Qb,Qc,Qd,Qe,Qf,Qg,Qh,reduceCtorEq,↓reduceIte,Na,Nb,Nc,Nk,Nf,Ng,Nh,Za,Zb,Zc,TT,Int.reduceBEq];refine hK _ _ ?_;clear hK K;refine wC fun X Y hX hY=>?_;simp only [UP,DF,Nc,↓reduceIte,DB];refine hY ?_;clear hX hY X Y;refine ad ?_;refine hK _ _ ?_;clear hK K;refine aZ T.mixed [2,6] (by kernel_rfl) ?_;intro K hK;refine jM ?_;refine ae (bJ y 8 (by omega) (by omega) s) ?_;rintro r s' ⟨rfl,rfl⟩;refine jM ?_;refine ae (eA pa 1 (by omega) (by omega) _) ?_;rintro r s' ⟨rfl,rfl⟩;refine jN (Ai @aW (bz (show 8 + (1 + pa.length) < 2 ^ 62 by omega))) ?_;refine hK _ _ ?_;clear hK K;refine wK fun K hK=>?_;refine wS fun K hK=>?_;simp only [↓DN,Qa,Qb,Qc,Qd,Qe,Qf,Qg,Qh,reduceCtorEq,↓reduceIte,Na,Nb,Nc,Nk,Nf,Ng,Nh,Za,Zb,Zc,TT,Int.reduceBEq];refine hK _ _ ?_;clear hK K;refine wC fun X Y hX hY=>?_;simp only [UP,DF,Nc,↓reduceIte,DB];refine hX ?_;clear hX hY X Y;refine wS fun K hK=>?_;refine jO ?_;refine ae (eA m 1 (by omega) (by omega) _) ?_;rintro r s' ⟨rfl,rfl⟩;refine jN (Ai @aW (Ai (bz (show 1 + (1 + m.length) < 2 ^ 62 by omega)) (Ai (bz (show (1 + m.length) + 1 < 2 ^ 62 by omega)) (Ai (bz (show 1 + (1 + m.length) + (8 + (1 + pa.length)) < 2 ^ 62 by omega)) (bz (show (1 + m.length) + 1 + (8 + (1 + pa.length)) < 2 ^ 62 by omega)))))) ?_;refine hK _ _ ?_;clear hK K;refine bo ?_;simp only [cF,bI,bM,dh,List.toList_toArray,↓bj]; try simp only [UP,DF,Nc,↓reduceIte,DT]
  refine jW ⟨?_,rfl⟩;simp [aa.text,be];rfl
 ·obtain ⟨h1,⟨h3,h4,h5⟩,h6⟩:=(eQ hk).1 hr;simp only at hk h1 h3 h4 h5 h6;subst hk;have hu:=iJ h6;refine wS fun K hK=>?_;simp only [↓DN,Qa,Qb,Qc,Qd,Qe,Qf,Qg,Qh,reduceCtorEq,↓reduceIte,Na,Nb,Nc,Nk,Nf,Ng,Nh,Za,Zb,Zc,TT,Int.reduceBEq];refine hK _ _ ?_;clear hK K;refine wC fun X Y hX hY=>?_;simp only [UP,DF,Nc,↓reduceIte,DB];refine hY ?_;clear hX hY X Y;refine ad ?_;refine hK _ _ ?_;clear hK K;refine aZ T.mixed [2,6] (by kernel_rfl) ?_;intro K hK;refine jM ?_;refine ae (bJ y 8 (by omega) (by omega) s) ?_;rintro r s' ⟨rfl,rfl⟩;refine jM ?_;refine ae (eA pa 1 (by omega) (by omega) _) ?_;rintro r s' ⟨rfl,rfl⟩;refine jN (Ai @aW (bz (show 8 + (1 + pa.length) < 2 ^ 62 by omega))) ?_;refine hK _ _ ?_;clear hK K;refine wK fun K hK=>?_;refine wS fun K hK=>?_;simp only [↓DN,Qa,Qb,Qc,Qd,Qe,Qf,Qg,Qh,reduceCtorEq,↓reduceIte,Na,Nb,Nc,Nk,Nf,Ng,Nh,Za,Zb,Zc,TT,Int.reduceBEq];refine hK _ _ ?_;clear hK K;refine wC fun X Y hX hY=>?_;simp only [UP,DF,Nc,↓reduceIte,DB];refine hY ?_;clear hX hY X Y;refine ad ?_;refine hK _ _ ?_;clear hK K;refine wS fun K hK=>?_;refine jP (Ai @aW (Ai (bz (show 1 + (8 + (1 + pa.length)) < 2 ^ 62 by omega)) (Ai (bz (show (8 + (1 + pa.length)) + 1 < 2 ^ 62 by omega)) (kC (show u.length < 2 ^ 62 by omega))))) ?_;refine ae (bJ u.length 1 (by omega) (by omega) _) ?_;rintro r s' ⟨rfl,rfl⟩;refine jN (Ai @aW (Ai (bz (show 1 + (8 + (1 + pa.length)) + 1 < 2 ^ 62 by omega)) (bz (show (8 + (1 + pa.length)) + 1 + 1 < 2 ^ 62 by omega)))) ?_;refine hK _ _ ?_;clear hK K;refine wK fun K hK=>?_;refine wS fun K hK=>?_;refine jO ?_;refine hK _ _ ?_;clear hK K;refine ag ?_;obtain ⟨A,hA⟩ : ∃ A,A = 2 :: (be 8 y ++ (be 1 pa.length ++ (pa ++ be 1 u.length))):=⟨_,rfl⟩;have hAl : A.length≤50:=(by rw [hA]; simp; omega);have Pf : aa.text ⟨2,m,y,pa,u⟩ = A ++ fj u:=(by rw [hA]; simp [aa.text,be]);refine aH (fun E s2=>∃ i : Nat,i≤u.length∧E 5 = .v (.int .i64 i)∧E 4 = .v (.string ⟨(A ++ fj (u.take i)).toArray⟩)∧E 1 = .cX [.v (.int .i64 2),.sl 1 m.length (m.map aw) .any,.v (.int .u64 y),.sl 1 pa.length (pa.map aw) .any,.sl 1 u.length (u.map aE) .any]∧s2 = s')
   (fun E _=>match E 5 with | .v (.int _ i)=>u.length - i.toNat | _=>0) ?_ ?_
  ·exact ⟨0,Nat.zero_le _,rfl,by simp only [aG,Nc,↓reduceIte,hA,fj,List.take_zero,List.map_nil,List.flatten_nil,List.append_nil],rfl,rfl⟩
  ·rintro E1 s6 ⟨i,hi,g5,g4,g1,rfl⟩ -
   refine wK fun K2 aX=>?_;by_cases aO : i < u.length
   ·refine wS fun K hK=>?_;refine jP (Ai @g5 (Ai @g1 (Ai @af (decide_eq_true aO)))) ?_;refine hK _ _ ?_;clear hK K;refine wC fun X Y hX hY=>?_;simp only [UP,DF,Nc,↓reduceIte,DB];refine hX ?_;clear hX hY X Y;refine ad ?_;refine aX _ _ ?_;clear aX K2;refine wK fun K3 bB=>?_;refine ag ?_;have bK : (0 : Int)≤(i : Int):=(by omega);have bN:=dC aO;have hx:=mB h6 (List.getElem_mem aO);have hcv : ee .u64 u[i] = ((u[i].toNat : Nat) : Int):=by
     have e : u[i] = ((u[i].toNat : Nat) : Int):=(by omega);rw [e];exact kC (by omega)
    refine wE fun K hK=>?_;refine jP (Ai @g5 (Ai @g4 (Ai @g1 (Ai @bK (Ai @af (Ai @aO (Ai @bN @hcv))))))) ?_;refine ae (bJ u[i].toNat 1 (by omega) (by omega) _) ?_;rintro r s7 ⟨rfl,rfl⟩;refine jN (Ai @aW (bz (show A.length + (fj (u.take i)).length + 1 < 2 ^ 62 by rw [lF,List.length_take]; omega))) ?_;refine hK _ _ ?_;clear hK K;simp only [aq,av,if_true,if_false];refine bB _ _ ?_;clear bB K3;refine wE fun K hK=>?_;refine jP (Ai @g5 (eH i (by omega))) ?_;refine hK _ _ ?_;clear hK K;refine ⟨⟨i + 1,by omega,rfl,by simp only [aG,Nc,↓reduceIte]; rw [List.take_succ_eq_append_getElem aO,sH],g1,rfl⟩,?_⟩;simp only [g5,aG,↓reduceIte];omega
   ·refine wS fun K hK=>?_;refine jP (Ai @g5 (Ai @g1 (Ai @af (decide_eq_false aO)))) ?_;refine hK _ _ ?_;clear hK K;refine wC fun X Y hX hY=>?_;simp only [UP,DF,Nc,↓reduceIte,DB];refine hY ?_;clear hX hY X Y;refine aB ?_;simp only [av,aq,if_true];refine hK _ _ ?_;clear hK aX K K2;refine wS fun K hK=>?_;refine jP @g4 ?_;refine hK _ _ ?_;clear hK K;refine bo ?_;simp only [cF,bI,bM,dh,List.toList_toArray,↓bj]; try simp only [UP,DF,Nc,↓reduceIte,DT]
    refine jW ⟨?_,rfl⟩;rw [List.take_of_length_le (by omega),Pf]
end Go.Proofs.YtcjifoccjlpapaaGreatDoor
namespace Go.AM
open Go
structure Jf where
  kind : Int
  n : Int
  b : List UInt8
def Jf.cells (p : Jf) : List AV:=[.v (.int .i64 p.kind),.v (.int .i64 p.n),ak p.b .any]
def xcb (ps : List Jf) : List AV:=(ps.map Jf.cells).flatten
def au {α : Type} (c : α→List AV) (l : List α) : List AV:=(l.map c).flatten
theorem dB {α : Type} {c : α→List AV} {k : Nat} (hk : ∀ a,(c a).length = k) {l : List α} {i : Nat} (h : i < l.length) : List.take k (List.drop (i * k) (au c l)) = c l[i]:=by
  have:=zm (sz:=k) (els:=l.map c) (i:=i) (by simpa using h) (by
    intro el xh;obtain ⟨p,_,rfl⟩:=List.mem_map.1 xh;exact hk p)
  unfold au;rw [this];simp
theorem cL {α : Type} {c : α→List AV} {k : Nat} (hk : ∀ a,(c a).length = k) (l : List α) : (au c l).length = l.length * k:=by
  induction l with
  | nil=>simp [au]
  | cons a l ih =>
    have : au c (a :: l) = c a ++ au c l:=rfl;rw [this,List.length_append,ih,hk,List.length_cons,Nat.succ_mul,Nat.add_comm]
theorem vg {α : Type} {c : α→List AV} (l : List α) (a : α) : au c (l ++ [a]) = au c l ++ c a:=by simp [au]
theorem cP.row {α : Type} {c : α→List AV} {ty : Ty} {k : Nat} {Q : α→Prop} (xh : ∀ el,cP ty el→∃ a,el = c a∧Q a) {iu : List AV} (h : cP (.slice k ty) iu) :
    ∃ l : List α,iu = [.sl k l.length (au c l) .any]∧(∀ a ∈ l,Q a)∧l.length≤maxLen:=by
  obtain ⟨els,rfl,hlen,bT⟩:=cP.rows h;have key : ∀ els : List (List AV),(∀ el ∈ els,el.length = k∧cP ty el)→∃ l : List α,els = l.map c∧∀ a ∈ l,Q a:=by
    intro els;induction els with
    | nil=>intro _; exact ⟨[],rfl,by simp⟩
    | cons e els ih =>
      intro h;obtain ⟨l,rfl,hl⟩:=ih (fun el xh=>h el (by simp [xh]));obtain ⟨_,h1⟩:=h e (by simp);obtain ⟨a,rfl,ha⟩:=xh e h1;refine ⟨a :: l,rfl,?_⟩;intro b hb;rcases List.mem_cons.1 hb with rfl | hb
      · exact ha
      · exact hl b hb
  obtain ⟨l,rfl,hl⟩:=key els bT;exact ⟨l,by simp [au],hl,by simpa using hlen⟩
def uK (n : Nat) : Prop:=2≤n∧n≤2305843009213693949
instance (n : Nat) : Decidable (uK n):=by unfold uK; infer_instance
structure aF where
  kind : Int
  leaf : Int
  name : List UInt8
  key : Nat
  init : Nat
  deriving DecidableEq
structure bQ where
  frm : Nat
  text : List UInt8
  deriving DecidableEq
structure bk where
  key : Nat
  oO : List bQ
  deriving DecidableEq
structure ck where
  key : Nat
  parent : List UInt8
  steps : List bk
  deriving DecidableEq
structure aI where
  group : List UInt8
  b8 : Int
  br : Int
  props : List aF
  gZ : Bool
  path : ck
  gY : List UInt8
  DU : List UInt8
  deriving DecidableEq
def aF.cells (p : aF) : List AV:=[.v (.int .i64 p.kind),.v (.int .i64 p.leaf),ak p.name .any,.v (.int .u64 p.key),.v (.int .u64 p.init)]
def bQ.cells (p : bQ) : List AV:=[.v (.int .u64 p.frm),ak p.text .any]
def bk.cells (p : bk) : List AV:=[.v (.int .u64 p.key),.sl 2 p.oO.length (au bQ.cells p.oO) .any]
def ck.cells (p : ck) : List AV:=[.v (.int .u64 p.key),ak p.parent .any,.sl 2 p.steps.length (au bk.cells p.steps) .any]
def aI.cells (c : aI) : List AV :=
  [ak c.group .any,.v (.int .i64 c.b8),.v (.int .i64 c.br),.sl 5 c.props.length (au aF.cells c.props) .any,.v (.bool c.gZ),
   .v (.int .u64 c.path.key),ak c.path.parent .any,.sl 2 c.path.steps.length (au bk.cells c.path.steps) .any,ak c.gY .any,ak c.DU .any]
def aF.wf (p : aF) : Prop:=p.key < 2 ^ 64∧p.init < 2 ^ 64
def bQ.wf (p : bQ) : Prop:=p.frm < 2 ^ 64
def bk.wf (p : bk) : Prop:=p.key < 2 ^ 64∧(∀ x ∈ p.oO,x.wf)∧p.oO.length≤maxLen
def ck.wf (p : ck) : Prop:=p.key < 2 ^ 64∧(∀ x ∈ p.steps,x.wf)∧p.steps.length≤maxLen
def aI.wf (c : aI) : Prop:=(∀ x ∈ c.props,x.wf)∧c.path.wf∧c.props.length≤maxLen
abbrev Ux : Ty:=.int .u64
abbrev MO : Ty:=.struct (.cons Ho (.cons Ho (.cons EW (.cons Ux (.cons Ux .nil)))))
abbrev MP : Ty:=.struct (.cons Ux (.cons EW .nil))
abbrev MQ : Ty:=.struct (.cons Ux (.cons (.slice 2 MP) .nil))
abbrev MR : Ty:=.struct (.cons Ux (.cons EW (.cons (.slice 2 MQ) .nil)))
abbrev MS : Ty:=.struct (.cons EW (.cons Ho (.cons Ho (.cons (.slice 5 MO) (.cons .bool (.cons MR (.cons EW (.cons EW .nil))))))))
theorem qW {x : List AV} (h : cP Ux x) : ∃ n : Nat,x = [.v (.int .u64 n)]∧n < 2 ^ 64:=by
  obtain ⟨a,rfl,ha⟩:=iY h;obtain ⟨n,rfl,hn⟩:=IK ha;exact ⟨n,rfl,hn⟩
theorem cP.prop {x : List AV} (h : cP MO x) : ∃ p : aF,x = p.cells∧p.wf:=by
  obtain ⟨x1,y1,rfl,t1,h⟩:=b7 (gH h);obtain ⟨x2,y2,rfl,t2,h⟩:=b7 h;obtain ⟨x3,y3,rfl,t3,h⟩:=b7 h;obtain ⟨x4,y4,rfl,t4,h⟩:=b7 h;obtain ⟨x5,y5,rfl,t5,h⟩:=b7 h;obtain rfl:=pq h;obtain ⟨n1,rfl,_⟩:=iY t1;obtain ⟨n2,rfl,_⟩:=iY t2;obtain ⟨l3,rfl,_⟩:=t3.bytes;obtain ⟨n4,rfl,h4⟩:=qW t4;obtain ⟨n5,rfl,h5⟩:=qW t5;exact ⟨⟨n1,n2,l3,n4,n5⟩,rfl,h4,h5⟩
theorem cP.YV {x : List AV} (h : cP MP x) : ∃ p : bQ,x = p.cells∧p.wf:=by
  obtain ⟨x1,y1,rfl,t1,h⟩:=b7 (gH h);obtain ⟨x2,y2,rfl,t2,h⟩:=b7 h;obtain rfl:=pq h;obtain ⟨n1,rfl,h1⟩:=qW t1;obtain ⟨l2,rfl,_⟩:=t2.bytes;exact ⟨⟨n1,l2⟩,rfl,h1⟩
theorem cP.YW {x : List AV} (h : cP MQ x) : ∃ p : bk,x = p.cells∧p.wf:=by
  obtain ⟨x1,y1,rfl,t1,h⟩:=b7 (gH h);obtain ⟨x2,y2,rfl,t2,h⟩:=b7 h;obtain rfl:=pq h;obtain ⟨n1,rfl,h1⟩:=qW t1;obtain ⟨l,rfl,hl,hm⟩:=cP.row (c:=bQ.cells) (Q:=bQ.wf) (fun el h=>cP.YV h) t2;exact ⟨⟨n1,l⟩,rfl,h1,hl,hm⟩
theorem cP.YX {x : List AV} (h : cP MR x) : ∃ p : ck,x = p.cells∧p.wf:=by
  obtain ⟨x1,y1,rfl,t1,h⟩:=b7 (gH h);obtain ⟨x2,y2,rfl,t2,h⟩:=b7 h;obtain ⟨x3,y3,rfl,t3,h⟩:=b7 h;obtain rfl:=pq h;obtain ⟨n1,rfl,h1⟩:=qW t1;obtain ⟨l2,rfl,_⟩:=t2.bytes;obtain ⟨l,rfl,hl,hm⟩:=cP.row (c:=bk.cells) (Q:=bk.wf) (fun el h=>cP.YW h) t3;exact ⟨⟨n1,l2,l⟩,rfl,h1,hl,hm⟩
theorem cP.Sw {x : List AV} (h : cP MS x) : ∃ c : aI,x = c.cells∧c.wf:=by
  obtain ⟨x1,y1,rfl,t1,h⟩:=b7 (gH h);obtain ⟨x2,y2,rfl,t2,h⟩:=b7 h;obtain ⟨x3,y3,rfl,t3,h⟩:=b7 h;obtain ⟨x4,y4,rfl,t4,h⟩:=b7 h;obtain ⟨x5,y5,rfl,t5,h⟩:=b7 h;obtain ⟨x6,y6,rfl,t6,h⟩:=b7 h;obtain ⟨x7,y7,rfl,t7,h⟩:=b7 h;obtain ⟨x8,y8,rfl,t8,h⟩:=b7 h;obtain rfl:=pq h;obtain ⟨l1,rfl,_⟩:=t1.bytes;obtain ⟨n2,rfl,_⟩:=iY t2;obtain ⟨n3,rfl,_⟩:=iY t3;obtain ⟨l4,rfl,h4,m4⟩:=cP.row (c:=aF.cells) (Q:=aF.wf) (fun el h=>cP.prop h) t4;obtain ⟨b5,rfl⟩ : ∃ b,x5 = [.v (.bool b)]:=t5;obtain ⟨p6,rfl,h6⟩:=cP.YX t6;obtain ⟨l7,rfl,_⟩:=t7.bytes;obtain ⟨l8,rfl,_⟩:=t8.bytes;exact ⟨⟨l1,n2,n3,l4,b5,p6,l7,l8⟩,rfl,h4,h6,m4⟩
def aF.right (p : aF) : Prop :=
  (p.kind = 1∧p.leaf = 0∧1≤p.name.length∧p.name.length≤16∧uK p.key∧uK p.init) ∨
  (p.kind = 2∧0≤p.leaf∧p.leaf < 32∧p.name.length = 0∧uK p.key∧p.init = 0) ∨
  (p.kind = 3∧0≤p.leaf∧p.leaf < 32∧p.name.length = 0∧p.key = 0∧p.init = 0)
def bQ.right (p : bQ) : Prop:=uK p.frm∧p.text.length = 48
def bk.right (p : bk) : Prop:=(∀ x ∈ p.oO,x.right)∧uK p.key∧p.oO.length≤32
def ck.right (p : ck) : Prop:=(∀ x ∈ p.steps,x.right)∧uK p.key∧(p.parent.length = 0∨p.parent.length = 32)∧p.steps.length≤5
def ck.none (p : ck) : Prop:=p.key = 0∧p.parent.length = 0∧p.steps.length = 0
def aI.pA (c : aI) : Prop:=(c.gZ = true→c.path.right)∧(c.gZ = false→c.path.none)
def aI.right (c : aI) : Prop :=
  (∀ x ∈ c.props,x.right)∧(1≤c.group.length∧c.group.length≤16)∧(0≤c.b8∧c.b8≤1048576)∧(0≤c.br∧c.br < 32)∧c.props.length≤16∧c.pA∧c.gY.length = 32∧c.DU.length = 32
instance (p : aF) : Decidable p.right:=by unfold aF.right; infer_instance
instance (p : bQ) : Decidable p.right:=by unfold bQ.right; infer_instance
instance (p : bk) : Decidable p.right:=by unfold bk.right; infer_instance
instance (p : ck) : Decidable p.right:=by unfold ck.right; infer_instance
instance (p : ck) : Decidable p.none:=by unfold ck.none; infer_instance
instance (c : aI) : Decidable c.pA:=by unfold aI.pA; infer_instance
instance (c : aI) : Decidable c.right:=by unfold aI.right; infer_instance
def ax (t : List aa) : AV:=.sl 5 t.length (au aa.cells t) .any
def cV (t : List aa) : Prop:=t.length≤2 ^ 61∧∀ n ∈ t,n.fF.length≤2 ^ 61∧n.key < 2 ^ 64
def nd (t : List aa) (i : Nat) : aa:=t.getD i aa.bp
theorem pE {t : List aa} {i : Nat} (h : i < t.length) : nd t i = t[i]:=by simp [nd,List.getD,h]
theorem cV.nd {t : List aa} (h : cV t) (i : Nat) : (nd t i).fF.length≤2 ^ 61∧(nd t i).key < 2 ^ 64:=by
  by_cases hi : i < t.length
  · rw [pE hi]; exact h.2 _ (List.getElem_mem hi)
  · have : Go.AM.nd t i = aa.bp:=(by simp [Go.AM.nd,List.getD,show t.length≤i by omega]);rw [this];exact ⟨by decide,by decide⟩
theorem cT {t : List aa} {i : Nat} (h : i < t.length) : List.take 5 (List.drop (i * 5) (au aa.cells t)) = (nd t i).cells:=by
  rw [pE h];exact dB (k:=5) (fun _=>rfl) h
def aY (t : List aa) : Nat:=if Fit ((t.length + 1) / 2)∧t.length = 2 * ((t.length + 1) / 2) - 1 then (t.length + 1) / 2 else 0
theorem dx {t : List aa} : aY t = 0∨(Fit (aY t)∧t.length = 2 * aY t - 1):=by
  unfold aY;split
  · rename_i h; exact .inr h
  · exact .inl rfl
theorem fL (t : List aa) : aY t≤32:=by
  rcases dx (t:=t) with h | h
  · omega
  · exact h.1.le.2
theorem Tl {t : List aa} {i : Nat} (h : i < aY t) : 2 * i < t.length:=by
  rcases dx (t:=t) with h0 | h0
  · omega
  · omega
def bx (t : List aa) (i : Int) : Prop:=0≤i∧i < (aY t : Int)∧(nd t (2 * i.toNat)).kind = 1
instance (t : List aa) (i : Int) : Decidable (bx t i):=by unfold bx; infer_instance
def c7 (t : List aa) (i : Int) : Prop:=0≤i∧2 * i < (t.length : Int)∧(nd t (2 * i.toNat)).kind = 1
instance (t : List aa) (i : Int) : Decidable (c7 t i):=by unfold c7; infer_instance
theorem fq {t : List aa} (h : aY t≠0) (i : Int) : c7 t i↔bx t i:=by
  rcases dx (t:=t) with h0 | h0
  · exact absurd h0 h
  · have:=h0.1.le;unfold c7 bx;constructor <;> (rintro ⟨a,b,c⟩; exact ⟨a,by omega,c⟩)
def dF (P : Int→Prop) [DecidablePred P] (a : Nat) : Nat→Nat
  | 0=>0
  | k + 1=>dF P a k + if P ((a + k : Nat) : Int) then 1 else 0
theorem DV (P : Int→Prop) [DecidablePred P] (a : Nat) : ∀ k,dF P a k≤k
  | 0=>Nat.le_refl _
  | k + 1=>by
    have:=DV P a k;simp only [dF];split <;> omega
theorem pI {P Q : Int→Prop} [DecidablePred P] [DecidablePred Q] (h : ∀ i,P i↔Q i) (a : Nat) : ∀ k,dF P a k = dF Q a k
  | 0=>rfl
  | k + 1=>by simp only [dF,pI h a k,h]
theorem oQ {P : Int→Prop} [DecidablePred P] {a : Nat} : ∀ {k},0 < dF P a k↔∃ j,j < k∧P ((a + j : Nat) : Int)
  | 0=>by simp [dF]
  | k + 1=>by
    simp only [dF];constructor
    · intro h;by_cases hp : P ((a + k : Nat) : Int)
      · exact ⟨k,by omega,hp⟩
      · rw [if_neg hp] at h;obtain ⟨j,h1,h2⟩:=(oQ (k:=k)).1 (by omega);exact ⟨j,by omega,h2⟩
    · rintro ⟨j,h1,h2⟩;by_cases e : j = k
      · rw [← e,if_pos h2]; omega
      · have:=(oQ (k:=k)).2 ⟨j,by omega,h2⟩;omega
def dH (P : Nat→Bool) : Nat→Nat→Int
  | 0,_=>-1
  | k + 1,i=>if P i then (i : Int) else dH P k (i + 1)
theorem qX (P : Nat→Bool) : ∀ k i,(dH P k i = -1∧∀ j,i≤j→j < i + k→P j = false)∨(∃ j,i≤j∧j < i + k∧P j = true∧dH P k i = (j : Int)∧∀ m,i≤m→m < j→P m = false)
  | 0,i=>.inl ⟨rfl,fun j h1 h2=>by omega⟩
  | k + 1,i=>by
    simp only [dH];cases hp : P i with
    | true=>exact .inr ⟨i,Nat.le_refl _,by omega,hp,by simp,fun m h1 h2=>by omega⟩
    | false =>
      simp only [Bool.false_eq_true,if_false];rcases qX P k (i + 1) with ⟨h1,h2⟩ | ⟨j,h1,h2,h3,h4,h5⟩
      · refine .inl ⟨h1,fun j a b=>?_⟩;by_cases e : j = i
        · rw [e,hp]
        · exact h2 j (by omega) (by omega)
      · refine .inr ⟨j,by omega,by omega,h3,h4,fun m a b=>?_⟩;by_cases e : m = i
        · rw [e,hp]
        · exact h5 m (by omega) b
theorem rK (P : Nat→Bool) (k i : Nat) : decide (0≤dH P k i) = true↔∃ j,i≤j∧j < i + k∧P j = true:=by
  rw [decide_eq_true_iff];rcases qX P k i with ⟨h1,h2⟩ | ⟨j,h1,h2,h3,h4,h5⟩
  · rw [h1];constructor
    · intro h; omega
    · rintro ⟨j,a,b,c⟩; rw [h2 j a b] at c; cases c
  · rw [h4];exact ⟨fun _=>⟨j,h1,h2,h3⟩,fun _=>by omega⟩
def iS (t : List aa) : Nat:=(t.length + 1) / 2
theorem Ab {t : List aa} {i : Nat} : i < iS t↔2 * i < t.length:=by unfold iS; omega
def fa (t : List aa) (name : List UInt8) (a : Nat) : Int:=dH (fun j=>decide (bx t j∧(nd t (2 * j)).name = name)) (iS t - a) a
def mL (t : List aa) (name : List UInt8) : Int:=dH (fun j=>decide (c7 t j∧(nd t (2 * j)).name = name)) (iS t) 0
def qY (t : List aa) (i : Nat) : Prop :=
  (nd t i).right∧((nd t i).kind = 0∨((nd t i).kind = 1↔i % 2 = 0))∧∀ u ∈ (nd t i).fF,(kY (i : Int)).1≤u∧u≤(kY (i : Int)).2∧bx t u
instance (t : List aa) (i : Nat) : Decidable (qY t i):=by unfold qY; infer_instance
def ij (t : List aa) (i : Nat) : Prop:=qY t i∧(i % 2 = 0→bx t ((i / 2 : Nat) : Int)→∀ j,j < iS t→i / 2 < j→¬ (bx t (j : Int)∧(nd t (2 * j)).name = (nd t i).name))
def aA (t : List aa) : Prop:=aY t≠0∧(∀ i,i < t.length→ij t i)∧(aY t = 1∨0 < dF (bx t) (aY t / 2) (aY t - aY t / 2))
instance (t : List aa) (i : Nat) : Decidable (ij t i):=by unfold ij; infer_instance
instance (t : List aa) : Decidable (aA t):=by unfold aA; infer_instance
theorem Ac (P : Int→Bool) (l : List Int) : decide (0≤dH (fun i=>P (l.getD i 0)) l.length 0) = l.any P:=by
  rw [Bool.eq_iff_iff,rK,List.any_eq_true];constructor
  · rintro ⟨j,_,h2,h3⟩;have hj : j < l.length:=(by omega);refine ⟨l[j],List.getElem_mem hj,?_⟩;simpa [List.getD,hj] using h3
  · rintro ⟨x,hx,hp⟩;obtain ⟨j,hj,rfl⟩:=List.getElem_of_mem hx;exact ⟨j,Nat.zero_le _,by omega,by simpa [List.getD,hj] using hp⟩
theorem nK {P : Nat→Bool} {k i : Nat} (h : P i = false) : dH P (k + 1) i = dH P k (i + 1):=by simp only [dH,h]; rfl
theorem nL {P : Nat→Bool} {k i : Nat} (h : P i = true) : dH P (k + 1) i = (i : Int):=by simp only [dH,h]; rfl
end Go.AM
