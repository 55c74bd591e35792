/- Contracts of the program's functions, each walked once; the conditions stand in each theorem. -/
import Derived.Test.YtfjlmkifiihgkaaGreatDoorAMp6
import Derived.Test.YtfjlmkifiihgkaaGreatDoorW1
import Derived.Test.YtfjlmkifiihgkaaGreatDoorW3
import Derived.Test.YtfjlmkifiihgkaaGreatDoorAMp5
import Derived.Test.YtfjlmkifiihgkaaGreatDoorW2
set_option linter.unusedSimpArgs false
set_option linter.unusedVariables false
open Nat renaming reduceLT → Na, reduceLeDiff → Nb, reduceEqDiff → Nc, reduceAdd → Nk, reduceMul → Nf, reducePow → Ng, reduceSub → Nh, reduceBEq → Nz
open Int renaming reduceLT → Za, reduceLE → Zb, reduceToNat → Zc
open And renaming intro → Ai
open Go.AM renaming ashift → Qa, aconv → Qb, aindexAddr → Qc, aindex → Qd, aslice → Qe, abuiltin → Qf, awp_reg_seq → wS, awp_reg_end → wE, awp_seq_k → wK, awp_cond_k → wC
open Go.AM.AV renaming cells → Qg, one → Qh
set_option maxRecDepth 100000
set_option maxHeartbeats 8000000
set_option autoImplicit false
namespace Go.Proofs.YtfjlmkifiihgkaaGreatDoor
open Go Go.AM Go.Proofs
variable {Γ : Nat→List AV}
theorem refNodeWrite_calls (N : NodeV) (hr : N.right) (s : AS) : ACalls Tryz.prog Γ 151 [.agg N.cells] s (fun r s'=>r = .v (.string ⟨N.text.toArray⟩)∧s' = s):=by
 refine acalls_body Tryz.func151 rfl Tryz.ntmps151 Tryz.results151 (by simp) ?_
 unfold NodeV.cells
 obtain ⟨k,m,y,pa,u⟩:=N
 refine awp_reg_frz 1 (by simp [dsts]) ?_
 intro K hK
 simp only [↓DM,pval,DX,Nz,↓DN,Qa,Qb,Qc,Qd,Qe,Qf,Qg,Qh,reduceCtorEq,↓reduceIte,Na,Nb,Nc,Nk,Nf,Ng,Nh,Za,Zb,Zc,TT,intsV]
 intro o ho
 refine hK _ _ o _ (by simp only [upd,Nc,↓reduceIte]) ho ?_
 clear hK K ho
 refine wK fun K hK=>?_
 rcases node_kind hr with hk | hk | hk
 ·simp only at hk
  subst hk
  refine wS fun K hK=>?_
  simp only [↓DN,Qa,Qb,Qc,Qd,Qe,Qf,Qg,Qh,reduceCtorEq,↓reduceIte,Na,Nb,Nc,Nk,Nf,Ng,Nh,Za,Zb,Zc,TT,Int.reduceBEq]
  refine hK _ _ ?_;clear hK K
  refine wC fun X Y hX hY=>?_
  simp only [UP,DF,Nc,↓reduceIte,DB]
  refine hX ?_;clear hX hY X Y
  refine wS fun K hK=>?_
  simp only [↓DN,Qa,Qb,Qc,Qd,Qe,Qf,Qg,Qh,reduceCtorEq,↓reduceIte,Na,Nb,Nc,Nk,Nf,Ng,Nh,Za,Zb,Zc,TT]
  refine hK _ _ ?_;clear hK K
  refine awp_ret ?_
  simp only [retQ,AEnds,aresL,ares,List.toList_toArray,↓upd_same]; try simp only [UP,DF,Nc,↓reduceIte,DT]
  exact ⟨_,_,AV.weak.refl _,AS.le.refl _,rfl,rfl⟩
 ·obtain ⟨h1,h2,⟨h3,h4,h5⟩,h6⟩:=(right_one hk).1 hr
  simp only at hk h1 h2 h3 h4 h5 h6
  subst hk
  refine wS fun K hK=>?_
  simp only [↓DN,Qa,Qb,Qc,Qd,Qe,Qf,Qg,Qh,reduceCtorEq,↓reduceIte,Na,Nb,Nc,Nk,Nf,Ng,Nh,Za,Zb,Zc,TT,Int.reduceBEq]
  refine hK _ _ ?_;clear hK K
  refine wC fun X Y hX hY=>?_
  simp only [UP,DF,Nc,↓reduceIte,DB]
  refine hY ?_;clear hX hY X Y
  refine awp_skip ?_
  refine hK _ _ ?_;clear hK K
  refine awp_drw_seq T.mixed [2,6] (by kernel_rfl) ?_
  intro K hK
  simp only [↓DM,pval,DX,Nz,↓DN,Qa,Qb,Qc,Qd,Qe,Qf,Qg,Qh,reduceCtorEq,↓reduceIte,Na,Nb,Nc,Nk,Nf,Ng,Nh,Za,Zb,Zc,TT]
  refine acallk (refNumber_calls y 8 (by omega) (by omega) s) ?_
  rintro r s' ⟨rfl,rfl⟩
  simp only [↓DM,pval,DX,Nz,↓DN,Qa,Qb,Qc,Qd,Qe,Qf,Qg,Qh,reduceCtorEq,↓reduceIte,Na,Nb,Nc,Nk,Nf,Ng,Nh,Za,Zb,Zc,TT]
  refine acallk (refText_calls pa 1 (by omega) (by omega) _) ?_
  rintro r s' ⟨rfl,rfl⟩
  simp only [↓DM,pval,DX,Nz,↓DN,Qa,Qb,Qc,Qd,Qe,Qf,Qg,Qh,reduceCtorEq,↓reduceIte,Na,Nb,Nc,Nk,Nf,Ng,Nh,Za,Zb,Zc,TT,length_be,i64_room (show 8 + (1 + pa.length) < 2 ^ 62 by omega)]
  refine hK _ _ ?_;clear hK K
  refine wK fun K hK=>?_
  refine wS fun K hK=>?_
  simp only [↓DN,Qa,Qb,Qc,Qd,Qe,Qf,Qg,Qh,reduceCtorEq,↓reduceIte,Na,Nb,Nc,Nk,Nf,Ng,Nh,Za,Zb,Zc,TT,Int.reduceBEq]
  refine hK _ _ ?_;clear hK K
  refine wC fun X Y hX hY=>?_
  simp only [UP,DF,Nc,↓reduceIte,DB]
  refine hX ?_;clear hX hY X Y
  refine wS fun K hK=>?_
  simp only [↓DN,Qa,Qb,Qc,Qd,Qe,Qf,Qg,Qh,reduceCtorEq,↓reduceIte,Na,Nb,Nc,Nk,Nf,Ng,Nh,Za,Zb,Zc,TT]
  refine acallk (refText_calls m 1 (by omega) (by omega) _) ?_
  rintro r s' ⟨rfl,rfl⟩
  simp only [↓DM,pval,DX,Nz,↓DN,Qa,Qb,Qc,Qd,Qe,Qf,Qg,Qh,reduceCtorEq,↓reduceIte,Na,Nb,Nc,Nk,Nf,Ng,Nh,Za,Zb,Zc,TT,length_be,i64_room (show 1 + (1 + m.length) < 2 ^ 62 by omega),i64_room (show (1 + m.length) + 1 < 2 ^ 62 by omega),i64_room (show 1 + (1 + m.length) + (8 + (1 + pa.length)) < 2 ^ 62 by omega),i64_room (show (1 + m.length) + 1 + (8 + (1 + pa.length)) < 2 ^ 62 by omega)]
  refine hK _ _ ?_;clear hK K
  refine awp_ret ?_
  simp only [retQ,AEnds,aresL,ares,List.toList_toArray,↓upd_same]; try simp only [UP,DF,Nc,↓reduceIte,DT]
  refine ⟨_,_,AV.weak.refl _,AS.le.refl _,?_,rfl⟩
  simp [NodeV.text,be]
  rfl
 ·obtain ⟨h1,⟨h3,h4,h5⟩,h6⟩:=(right_two hk).1 hr
  simp only at hk h1 h3 h4 h5 h6
  subst hk
  have hu:=rising_len h6
  refine wS fun K hK=>?_
  simp only [↓DN,Qa,Qb,Qc,Qd,Qe,Qf,Qg,Qh,reduceCtorEq,↓reduceIte,Na,Nb,Nc,Nk,Nf,Ng,Nh,Za,Zb,Zc,TT,Int.reduceBEq]
  refine hK _ _ ?_;clear hK K
  refine wC fun X Y hX hY=>?_
  simp only [UP,DF,Nc,↓reduceIte,DB]
  refine hY ?_;clear hX hY X Y
  refine awp_skip ?_
  refine hK _ _ ?_;clear hK K
  refine awp_drw_seq T.mixed [2,6] (by kernel_rfl) ?_
  intro K hK
  simp only [↓DM,pval,DX,Nz,↓DN,Qa,Qb,Qc,Qd,Qe,Qf,Qg,Qh,reduceCtorEq,↓reduceIte,Na,Nb,Nc,Nk,Nf,Ng,Nh,Za,Zb,Zc,TT]
  refine acallk (refNumber_calls y 8 (by omega) (by omega) s) ?_
  rintro r s' ⟨rfl,rfl⟩
  simp only [↓DM,pval,DX,Nz,↓DN,Qa,Qb,Qc,Qd,Qe,Qf,Qg,Qh,reduceCtorEq,↓reduceIte,Na,Nb,Nc,Nk,Nf,Ng,Nh,Za,Zb,Zc,TT]
  refine acallk (refText_calls pa 1 (by omega) (by omega) _) ?_
  rintro r s' ⟨rfl,rfl⟩
  simp only [↓DM,pval,DX,Nz,↓DN,Qa,Qb,Qc,Qd,Qe,Qf,Qg,Qh,reduceCtorEq,↓reduceIte,Na,Nb,Nc,Nk,Nf,Ng,Nh,Za,Zb,Zc,TT,length_be,i64_room (show 8 + (1 + pa.length) < 2 ^ 62 by omega)]
  refine hK _ _ ?_;clear hK K
  refine wK fun K hK=>?_
  refine wS fun K hK=>?_
  simp only [↓DN,Qa,Qb,Qc,Qd,Qe,Qf,Qg,Qh,reduceCtorEq,↓reduceIte,Na,Nb,Nc,Nk,Nf,Ng,Nh,Za,Zb,Zc,TT,Int.reduceBEq]
  refine hK _ _ ?_;clear hK K
  refine wC fun X Y hX hY=>?_
  simp only [UP,DF,Nc,↓reduceIte,DB]
  refine hY ?_;clear hX hY X Y
  refine awp_skip ?_
  refine hK _ _ ?_;clear hK K
  refine wS fun K hK=>?_
  simp only [↓DN,Qa,Qb,Qc,Qd,Qe,Qf,Qg,Qh,reduceCtorEq,↓reduceIte,Na,Nb,Nc,Nk,Nf,Ng,Nh,Za,Zb,Zc,TT,length_be,i64_room (show 1 + (8 + (1 + pa.length)) < 2 ^ 62 by omega),i64_room (show (8 + (1 + pa.length)) + 1 < 2 ^ 62 by omega),u64_conv (show u.length < 2 ^ 62 by omega)]
  refine acallk (refNumber_calls u.length 1 (by omega) (by omega) _) ?_
  rintro r s' ⟨rfl,rfl⟩
  simp only [↓DM,pval,DX,Nz,↓DN,Qa,Qb,Qc,Qd,Qe,Qf,Qg,Qh,reduceCtorEq,↓reduceIte,Na,Nb,Nc,Nk,Nf,Ng,Nh,Za,Zb,Zc,TT,length_be,i64_room (show 1 + (8 + (1 + pa.length)) + 1 < 2 ^ 62 by omega),i64_room (show (8 + (1 + pa.length)) + 1 + 1 < 2 ^ 62 by omega)]
  refine hK _ _ ?_;clear hK K
  refine wK fun K hK=>?_
  refine wS fun K hK=>?_
  simp only [↓DN,Qa,Qb,Qc,Qd,Qe,Qf,Qg,Qh,reduceCtorEq,↓reduceIte,Na,Nb,Nc,Nk,Nf,Ng,Nh,Za,Zb,Zc,TT]
  refine hK _ _ ?_;clear hK K
  refine awp_block ?_
  obtain ⟨A,hA⟩ : ∃ A,A = 2 :: (be 8 y ++ (be 1 pa.length ++ (pa ++ be 1 u.length))):=⟨_,rfl⟩
  have hAl : A.length≤50:=by rw [hA]; simp; omega
  have htx : NodeV.text ⟨2,m,y,pa,u⟩ = A ++ intsText u:=by rw [hA]; simp [NodeV.text,be]
  refine awp_loop (fun E s2=>∃ i : Nat,i≤u.length∧E 5 = .v (.int .i64 i)∧E 4 = .v (.string ⟨(A ++ intsText (u.take i)).toArray⟩)∧E 1 = .rop [.v (.int .i64 2),.sl 1 m.length (m.map byteV) .any,.v (.int .u64 y),.sl 1 pa.length (pa.map byteV) .any,.sl 1 u.length (u.map intC) .any]∧s2 = s')
   (fun E _=>match E 5 with | .v (.int _ i)=>u.length - i.toNat | _=>0) ?_ ?_
  ·exact ⟨0,Nat.zero_le _,by simp only [upd,↓reduceIte]; rfl,by simp only [upd,Nc,↓reduceIte,hA,intsText,List.take_zero,List.map_nil,List.flatten_nil,List.append_nil],by simp only [upd,Nc,↓reduceIte],rfl⟩
  ·rintro E1 s6 ⟨i,hi,g5,g4,g1,rfl⟩ -
   refine wK fun K2 hK2=>?_
   by_cases hi' : i < u.length
   ·refine wS fun K hK=>?_
    simp only [↓DN,Qa,Qb,Qc,Qd,Qe,Qf,Qg,Qh,reduceCtorEq,↓reduceIte,Na,Nb,Nc,Nk,Nf,Ng,Nh,Za,Zb,Zc,TT,g5,g1,eye_lt_nat,decide_eq_true hi']
    refine hK _ _ ?_;clear hK K
    refine wC fun X Y hX hY=>?_
    simp only [UP,DF,Nc,↓reduceIte,DB]
    refine hX ?_;clear hX hY X Y
    refine awp_skip ?_
    refine hK2 _ _ ?_;clear hK2 K2
    refine wK fun K3 hK3=>?_
    refine awp_block ?_
    have hge : (0 : Int)≤(i : Int):=by omega
    have hat:=eat_int hi'
    have hx:=rising_mem h6 (List.getElem_mem hi')
    have hcv : iconv .u64 u[i] = ((u[i].toNat : Nat) : Int):=by
     have e : u[i] = ((u[i].toNat : Nat) : Int):=by omega
     rw [e]
     exact u64_conv (by omega)
    refine wE fun K hK=>?_
    simp only [↓DN,Qa,Qb,Qc,Qd,Qe,Qf,Qg,Qh,reduceCtorEq,↓reduceIte,Na,Nb,Nc,Nk,Nf,Ng,Nh,Za,Zb,Zc,TT,g5,g4,g1,hge,eye_lt_nat,hi',hat,hcv]
    refine acallk (refNumber_calls u[i].toNat 1 (by omega) (by omega) _) ?_
    rintro r s7 ⟨rfl,rfl⟩
    simp only [↓DM,pval,DX,Nz,↓DN,Qa,Qb,Qc,Qd,Qe,Qf,Qg,Qh,reduceCtorEq,↓reduceIte,Na,Nb,Nc,Nk,Nf,Ng,Nh,Za,Zb,Zc,TT,length_be,i64_room (show A.length + (intsText (u.take i)).length + 1 < 2 ^ 62 by rw [intsText_len,List.length_take]; omega)]
    refine hK _ _ ?_;clear hK K
    simp only [blockQ,thenQ,if_true,if_false]
    refine hK3 _ _ ?_;clear hK3 K3
    refine wE fun K hK=>?_
    simp only [↓DN,Qa,Qb,Qc,Qd,Qe,Qf,Qg,Qh,reduceCtorEq,↓reduceIte,Na,Nb,Nc,Nk,Nf,Ng,Nh,Za,Zb,Zc,TT,g5,eye_succ i (by omega)]
    refine hK _ _ ?_;clear hK K
    refine ⟨⟨i + 1,by omega,by simp only [upd,↓reduceIte],by simp only [upd,Nc,↓reduceIte]; rw [List.take_succ_eq_append_getElem hi',intsText_snoc],by simp only [upd,g1,Nc,↓reduceIte],rfl⟩,?_⟩
    simp only [g5,upd,↓reduceIte]
    omega
   ·refine wS fun K hK=>?_
    simp only [↓DN,Qa,Qb,Qc,Qd,Qe,Qf,Qg,Qh,reduceCtorEq,↓reduceIte,Na,Nb,Nc,Nk,Nf,Ng,Nh,Za,Zb,Zc,TT,g5,g1,eye_lt_nat,decide_eq_false hi']
    refine hK _ _ ?_;clear hK K
    refine wC fun X Y hX hY=>?_
    simp only [UP,DF,Nc,↓reduceIte,DB]
    refine hY ?_;clear hX hY X Y
    refine awp_exit ?_
    simp only [thenQ,blockQ,if_true]
    refine hK _ _ ?_;clear hK hK2 K K2
    refine wS fun K hK=>?_
    simp only [↓DN,Qa,Qb,Qc,Qd,Qe,Qf,Qg,Qh,reduceCtorEq,↓reduceIte,Na,Nb,Nc,Nk,Nf,Ng,Nh,Za,Zb,Zc,TT,g4]
    refine hK _ _ ?_;clear hK K
    refine awp_ret ?_
    simp only [retQ,AEnds,aresL,ares,List.toList_toArray,↓upd_same]; try simp only [UP,DF,Nc,↓reduceIte,DT]
    refine ⟨_,_,AV.weak.refl _,AS.le.refl _,?_,rfl⟩
    rw [List.take_of_length_le (by omega),htx]
end Go.Proofs.YtfjlmkifiihgkaaGreatDoor
namespace Go.Proofs.YtfjlmkifiihgkaaGreatDoor
open Go Go.AM Go.Proofs
variable {Γ : Nat→List AV}
theorem IBuf.one {s0 s : AS} {x : AV} {l : List Int} (h : IBuf s0 s x l) : x.one = true:=by
 rcases h with ⟨rfl,rfl⟩ | ⟨t,e,rfl,_,_⟩
 ·rfl
 ·rfl
theorem some_ne {s : AS} {p o : Nat} {cs : List AV} (h : s.objs p = some cs) (k : s.objs o = none) : p≠o:=by
 rintro rfl
 rw [h] at k
 cases k
theorem nodeN_weak {k : Int} {y : Nat} {c1 c3 c4 : AV} {m pa : List UInt8} {u : List Int} (h1 : c1.weak (bytesV m .any)) (h3 : c3.weak (bytesV pa .any)) (h4 : c4.weak (intsV u .any)) :
  (AV.agg [.v (.int .i64 k),c1,.v (.int .u64 y),c3,c4]).weak (.agg (NodeV.cells ⟨k,m,y,pa,u⟩)) :=
 AV.weak_agg (.cons (AV.weak.refl _) (.cons h1 (.cons (AV.weak.refl _) (.cons h3 (.cons h4 .nil)))))
theorem nodeF_right {N : NodeV} (h : N.right) (st : EyeSt) : nodeF N st = st:=by
 unfold nodeF
 rw [if_neg (fun k=>k.1 h)]
theorem nodeF_wrong {N : NodeV} (h : ¬ N.right) (st : EyeSt) : nodeF N st = (st.1,if st.2 = 0 then 12 else st.2):=by
 unfold nodeF
 simp only [h,not_false_eq_true,true_and]
theorem nodeRead_calls (s : AS) (p : Nat) (st : EyeSt) (hl : st.1.length≤2 ^ 44) (h : s.objs p = some (eyeC st)) :
  ACalls Tryz.prog Γ 189 [.ptr p 0] s (fun r s'=>r = .agg (nodeRead st).1.cells∧s' = s.set p (eyeC (nodeRead st).2)):=by
 refine acalls_body Tryz.func189 rfl Tryz.ntmps189 Tryz.results189 (by simp) ?_
 obtain ⟨q1,e1⟩ : ∃ q,q = eyeNum 1 st:=⟨_,rfl⟩
 obtain ⟨q2,e2⟩ : ∃ q,q = nodeB q1.1 q1.2:=⟨_,rfl⟩
 obtain ⟨q3,e3⟩ : ∃ q,q = nodeC q1.1 q2.2:=⟨_,rfl⟩
 obtain ⟨q4,e4⟩ : ∃ q,q = nodeD q1.1 q3.2:=⟨_,rfl⟩
 obtain ⟨q5,e5⟩ : ∃ q,q = nodeE q1.1 q4.2:=⟨_,rfl⟩
 have l1 : q1.2.1.length≤2 ^ 44:=by rw [e1]; exact Nat.le_trans (eyeNum_len _ _) hl
 have l2 : q2.2.1.length≤2 ^ 44:=by rw [e2]; exact Nat.le_trans (nodeB_left _ _) l1
 have l3 : q3.2.1.length≤2 ^ 44:=by rw [e3]; exact Nat.le_trans (nodeC_left _ _) l2
 have l4 : q4.2.1.length≤2 ^ 44:=by rw [e4]; exact Nat.le_trans (nodeD_left _ _) l3
 have l5 : q5.1.length < 256:=by rw [e5]; exact nodeE_len _ _
 have k1 : q1.1 < 256:=by rw [e1]; exact Nat.lt_of_lt_of_le (eyeNum_lt 1 _) (by decide)
 obtain ⟨N,hN⟩ : ∃ N : NodeV,N = ⟨q1.1,q2.1,q3.1,q4.1,q5.1⟩:=⟨_,rfl⟩
 have hrr : nodeRead st = (if (nodeF N q5.2).2 = 0 then N else NodeV.nought,nodeF N q5.2):=by subst hN e5 e4 e3 e2 e1; rfl
 refine jQ fun K hK=>?_
 intro o2 ho2
 have hp2:=some_ne h ho2
 refine hK _ _ ?_;clear hK K
 refine wK fun K1 hK1=>?_
 obtain ⟨z,hz⟩ : ∃ z : List AV,z = [.v (.int .i64 0),.v (.slice none 0 0),.v (.int .u64 0),.v (.slice none 0 0),.v (.slice none 0 0)]:=⟨_,rfl⟩
 have h1 : ∀ (E : Env) (s1 : AS) (o3 : Nat),E 0 = .ptr p 0→E 2 = .ptr o2 0→E 3 = .ptr o3 0→RdS s s1 p o2 o3 (eyeC q1.2) z [.v (.int .i64 q1.1),.v (.slice none 0 0),.v (.int .u64 0),.v (.slice none 0 0),.v (.slice none 0 0)]→K1 E s1:=by
  intro E s1 o3 g0 g2 g3 J
  refine hK1 _ _ ?_;clear hK1 K1
  refine wK fun K2 hK2=>?_
  have h2 : ∀ (E : Env) (s1 : AS) (c1 : AV),E 0 = .ptr p 0→E 2 = .ptr o2 0→E 3 = .ptr o3 0→c1.weak (bytesV q2.1 .any)→c1.one = true→RdS s s1 p o2 o3 (eyeC q2.2) z [.v (.int .i64 q1.1),c1,.v (.int .u64 0),.v (.slice none 0 0),.v (.slice none 0 0)]→K2 E s1:=by
   clear J g0 g2 g3 E s1
   intro E s1 c1 g0 g2 g3 w1 o1 J
   refine hK2 _ _ ?_;clear hK2 K2
   refine wK fun K3 hK3=>?_
   have h3 : ∀ (E : Env) (s1 : AS) (c3 : AV),E 0 = .ptr p 0→E 2 = .ptr o2 0→E 3 = .ptr o3 0→c3.weak (bytesV q4.1 .any)→c3.one = true→RdS s s1 p o2 o3 (eyeC q4.2) z [.v (.int .i64 q1.1),c1,.v (.int .u64 q3.1),c3,.v (.slice none 0 0)]→K3 E s1:=by
    clear J g0 g2 g3 E s1
    intro E s1 c3 g0 g2 g3 w3 o3' J
    refine hK3 _ _ ?_;clear hK3 K3
    refine wK fun K4 hK4=>?_
    have h4 : ∀ (E : Env) (s1 : AS) (c4 : AV),E 0 = .ptr p 0→E 2 = .ptr o2 0→E 3 = .ptr o3 0→c4.weak (intsV q5.1 .any)→c4.one = true→RdS s s1 p o2 o3 (eyeC q5.2) z [.v (.int .i64 q1.1),c1,.v (.int .u64 q3.1),c3,c4]→K4 E s1:=by
     clear J g0 g2 g3 E s1
     intro E s1 c4 g0 g2 g3 w4 o4 J
     simp only [AV.one] at o1 o3' o4
     refine hK4 _ _ ?_;clear hK4 K4
     refine wK fun K5 hK5=>?_
     have wN : (AV.agg [.v (.int .i64 q1.1),c1,.v (.int .u64 q3.1),c3,c4]).weak (.agg N.cells):=by rw [hN]; exact nodeN_weak w1 w3 w4
     have h5 : ∀ (E : Env) (s1 : AS),E 0 = .ptr p 0→E 2 = .ptr o2 0→E 3 = .ptr o3 0→RdS s s1 p o2 o3 (eyeC (nodeF N q5.2)) z [.v (.int .i64 q1.1),c1,.v (.int .u64 q3.1),c3,c4]→K5 E s1:=by
      clear J g0 g2 g3 E s1
      intro E s1 g0 g2 g3 J
      refine hK5 _ _ ?_;clear hK5 K5
      refine wK fun K6 hK6=>?_
      refine jS @g0 fun K hK=>?_
      refine acallk (eyeErr_at _ p _ J.eye) ?_
      rintro r s2 ⟨rfl,rfl⟩
      have jr:=J.res
      have jv:=J.var
      have jd:=J.d
      have jd2:=J.d.symm
      rw [hz] at jr
      by_cases he : (nodeF N q5.2).2 = 0
      ·rw [he]
       refine jV (i64_ne_false 0 rfl) hK ?_;clear hK K
       refine jF ?_
       refine awp_skip ?_
       refine hK6 _ _ ?_;clear hK6 K6
       refine jB (Ai @g3 (Ai @g2 (Ai @jv (Ai @jr (Ai @jd (Ai @jd2 (Ai @o1 (Ai @o3' @o4)))))))) ?_
       refine awp_ret ?_
       refine aends_cell (o:=o2) (off:=0) (by simp only [upd,g2,Nc,↓reduceIte]) (AS.set_objs_same _ _ _) (by rw [T.c69]; decide) (by simp only [↓DN,Qa,Qb,Qc,Qd,Qe,Qf,Qg,Qh,reduceCtorEq,↓reduceIte,Na,Nb,Nc,Nk,Nf,Ng,Nh,Za,Zb,Zc,TT]; rfl) ?_
       rw [hrr,if_pos he]
       exact ⟨_,_,wN,(J.setRes _).out,rfl,rfl⟩
      ·refine jV (i64_ne_true _ he) hK ?_;clear hK K
       refine jE ?_
       refine jB (Ai @g3 (Ai @g2 (Ai @jv (Ai @jr (Ai @jd (Ai @jd2 (Ai @o1 (Ai @o3' @o4)))))))) ?_
       refine awp_ret ?_
       refine aends_cell (o:=o2) (off:=0) (by simp only [upd,g2,Nc,↓reduceIte]) (AS.set_objs_same _ _ _) (by rw [T.c69]; decide) (by simp only [↓DN,Qa,Qb,Qc,Qd,Qe,Qf,Qg,Qh,reduceCtorEq,↓reduceIte,Na,Nb,Nc,Nk,Nf,Ng,Nh,Za,Zb,Zc,TT]; rfl) ?_
       rw [hrr,if_neg he]
       exact ⟨_,_,noughtN_weak,(J.setRes _).out,rfl,rfl⟩
     clear hK5
     have jv:=J.var
     refine jS (Ai @g3 @jv) fun K hK=>?_
     refine acallk (ACalls.weaks (.cons wN .nil) (nodeRight_calls N (by rw [hN]; simp only; omega) s1)) ?_
     rintro r s2 ⟨rfl,rfl⟩
     by_cases hr : N.right
     ·rw [decide_eq_true hr]
      refine jR hK ?_;clear hK K
      refine jF ?_
      refine awp_skip ?_
      rw [nodeF_right hr] at h5
      exact h5 _ _ (by simp only [upd,g0,Nc,↓reduceIte]) (by simp only [upd,g2,Nc,↓reduceIte]) (by simp only [upd,g3,Nc,↓reduceIte]) J
     ·rw [decide_eq_false hr]
      refine jR hK ?_;clear hK K
      refine jE ?_
      refine jU @g0 fun K hK=>?_
      refine acallk (eyeFail_set _ p _ 12 J.eye) ?_
      rintro r s3 ⟨rfl,rfl⟩
      simp only [↓DM,pval,DX,Nz,↓DN,Qa,Qb,Qc,Qd,Qe,Qf,Qg,Qh,reduceCtorEq,↓reduceIte,Na,Nb,Nc,Nk,Nf,Ng,Nh,Za,Zb,Zc,TT]
      refine hK _ _ ?_
      rw [nodeF_wrong hr] at h5
      exact h5 _ _ (by simp only [upd,g0,Nc,↓reduceIte]) (by simp only [upd,g2,Nc,↓reduceIte]) (by simp only [upd,g3,Nc,↓reduceIte]) (J.setEye _)
    clear hK4
    have jv:=J.var
    by_cases hk : q1.1 = 2
    ·refine jB (Ai @g3 (Ai @jv (int_eq_yes (show ((q1.1 : Nat) : Int) = 2 by omega)))) ?_
     refine jE ?_
     refine jS @g0 fun K hK=>?_
     refine acallk (eyeU8_set _ p _ J.eye) ?_
     rintro r s2 ⟨rfl,rfl⟩
     have hq5 : q5 = eyeInts (eyeNum 1 q4.2).1 (eyeNum 1 q4.2).2:=by rw [e5]; exact if_pos hk
     obtain ⟨qc,hqc⟩ : ∃ q,q = eyeNum 1 q4.2:=⟨_,rfl⟩
     have J2:=J.setEye (eyeC (eyeNum 1 q4.2).2)
     rw [← hqc] at hq5 J2 ⊢
     obtain ⟨s3,hs3⟩ : ∃ x,x = s1.set p (eyeC qc.2):=⟨_,rfl⟩
     rw [← hs3] at J2 ⊢
     have hc256 : qc.1 < 256:=by rw [hqc]; exact Nat.lt_of_lt_of_le (eyeNum_lt 1 _) (by decide)
     refine jR hK ?_;clear hK K
     refine awp_block ?_
     refine awp_loop (fun E s2=>∃ (i : Nat) (x : AV),i≤qc.1∧E 32 = .v (.int .i64 i)∧E 31 = .v (.int .i64 qc.1)∧E 0 = .ptr p 0∧E 2 = .ptr o2 0∧E 3 = .ptr o3 0∧IBuf s s2 x (eyeInts i qc.2).1 ∧
       RdS s s2 p o2 o3 (eyeC (eyeInts i qc.2).2) z [.v (.int .i64 q1.1),c1,.v (.int .u64 q3.1),c3,x])
      (fun E _=>match E 32 with | .v (.int _ i)=>qc.1 - i.toNat | _=>0) ?_ ?_
     ·exact ⟨0,_,Nat.zero_le _,by simp only [upd,↓reduceIte]; rfl,by simp only [upd,Nc,↓reduceIte],by simp only [upd,g0,Nc,↓reduceIte],by simp only [upd,g2,Nc,↓reduceIte],by simp only [upd,g3,Nc,↓reduceIte],.inl ⟨rfl,rfl⟩,J2⟩
     ·clear J J2 g0 g2 g3 jv
      rintro E1 s4 ⟨i,x,hi,g32,g31,g0,g2,g3,hx,J⟩ -
      have jv:=J.var
      have jp:=J.p3
      have jp2:=J.p3.symm
      by_cases hi' : i < qc.1
      ·refine jB (Ai @g32 (Ai @g31 (Ai @eye_lt_nat (decide_eq_true hi')))) ?_
       refine wK fun K7 hK7=>?_
       refine jE ?_
       refine awp_skip ?_
       refine hK7 _ _ ?_;clear hK7 K7
       refine wK fun K7 hK7=>?_
       refine awp_block ?_
       have hnext : ∀ (E2 : Env) (s5 : AS) (x2 : AV),E2 32 = .v (.int .i64 i)→E2 31 = .v (.int .i64 qc.1)→E2 0 = .ptr p 0→E2 2 = .ptr o2 0→E2 3 = .ptr o3 0→IBuf s s5 x2 (eyeInts (i + 1) qc.2).1 →
         RdS s s5 p o2 o3 (eyeC (eyeInts (i + 1) qc.2).2) z [.v (.int .i64 q1.1),c1,.v (.int .u64 q3.1),c3,x2]→K7 E2 s5:=by
        intro E2 s5 x2 f32 f31 f0 f2 f3 fx fJ
        refine hK7 _ _ ?_;clear hK7 K7
        refine jD (Ai @f32 (eye_succ i (by omega))) ?_
        refine ⟨⟨i + 1,x2,by omega,by simp only [upd,↓reduceIte],by simp only [upd,f31,Nc,↓reduceIte],by simp only [upd,f0,Nc,↓reduceIte],by simp only [upd,f2,Nc,↓reduceIte],by simp only [upd,f3,Nc,↓reduceIte],fx,fJ⟩,?_⟩
        simp only [g32,upd,↓reduceIte]
        omega
       clear hK7
       have hil:=eyeInts_len i qc.2
       rcases hx with ⟨rfl,hl0⟩ | ⟨t,e,rfl,ht,ht0⟩
       ·refine awp_mrk_end T.mixed [(o3,[.v (.int .i64 q1.1),c1,.v (.int .u64 q3.1),c3,nilS])] [3,5] [1] [7] (by kernel_rfl) (by simp only [Pres_cons,Pres_nil,and_true]; simp [AS.set,upd,jv]) ?_
        intro K hK
        simp only [↓AXr_nil,↓AXr_cons,gval,lval,fzGet_cons,fzGet_nil,Pres_cons,Pres_nil,List.any_cons,List.any_nil,List.contains_cons,List.contains_nil,Nat.reduceBEq,Bool.or_false,Bool.or_true,Bool.or_self,Bool.false_or,↓DN,Qa,Qb,Qc,Qd,Qe,Qf,Qg,Qh,reduceCtorEq,↓reduceIte,Na,Nb,Nc,Nk,Nf,Ng,Nh,Za,Zb,Zc,TT,g3,g0,nilS,jv,jp,jp2]
        refine acallk (eyeU8_set _ p _ J.eye) ?_
        rintro r s6 ⟨rfl,rfl⟩
        simp only [↓AXq_nil,↓AXq_cons,pval,↓AXr_nil,↓AXr_cons,gval,lval,fzGet_cons,fzGet_nil,Pres_cons,Pres_nil,List.any_cons,List.any_nil,DX,Nat.reduceBEq,↓DN,Qa,Qb,Qc,Qd,Qe,Qf,Qg,Qh,reduceCtorEq,↓reduceIte,Na,Nb,Nc,Nk,Nf,Ng,Nh,Za,Zb,Zc,TT,g3,g0,jv,jp,jp2,List.replicate_succ,nilS]
        intro t ht
        refine hK _ _ (hnext _ _ _ (by simp only [upd,g32,Nc,↓reduceIte]) (by simp only [upd,g31,Nc,↓reduceIte]) (by simp only [upd,g0,Nc,↓reduceIte]) (by simp only [upd,g2,Nc,↓reduceIte]) (by simp only [upd,g3,Nc,↓reduceIte]) ?_ (((J.setEye _).gain (J.own_none ht) 0).setVar _))
        refine .inr ⟨t,0,?_,by simp [AS.set,AS.gain],J.own_none ht⟩
        simp [intsV,eyeInts,hl0,intC]
       ·refine awp_mrk_end T.mixed [(o3,[.v (.int .i64 q1.1),c1,.v (.int .u64 q3.1),c3,intsV (eyeInts i qc.2).1 (.own t e)])] [3,5] [1] [7] (by kernel_rfl) (by simp only [Pres_cons,Pres_nil,and_true]; simp [AS.set,upd,jv]) ?_
        intro K hK
        simp only [↓AXr_nil,↓AXr_cons,gval,lval,fzGet_cons,fzGet_nil,Pres_cons,Pres_nil,List.any_cons,List.any_nil,List.contains_cons,List.contains_nil,Nat.reduceBEq,Bool.or_false,Bool.or_true,Bool.or_self,Bool.false_or,↓DN,Qa,Qb,Qc,Qd,Qe,Qf,Qg,Qh,reduceCtorEq,↓reduceIte,Na,Nb,Nc,Nk,Nf,Ng,Nh,Za,Zb,Zc,TT,g3,g0,intsV,jv,jp,jp2]
        refine acallk (eyeU8_set _ p _ J.eye) ?_
        rintro r s6 ⟨rfl,rfl⟩
        simp only [↓AXq_nil,↓AXq_cons,pval,↓AXr_nil,↓AXr_cons,gval,lval,fzGet_cons,fzGet_nil,Pres_cons,Pres_nil,List.any_cons,List.any_nil,DX,Nat.reduceBEq,↓DN,Qa,Qb,Qc,Qd,Qe,Qf,Qg,Qh,reduceCtorEq,↓reduceIte,Na,Nb,Nc,Nk,Nf,Ng,Nh,Za,Zb,Zc,TT,g3,g0,jv,jp,jp2,List.replicate_succ,ht,intsV]
        refine ⟨by omega,by omega,hK _ _ (hnext _ _ _ (by simp only [upd,g32,Nc,↓reduceIte]) (by simp only [upd,g31,Nc,↓reduceIte]) (by simp only [upd,g0,Nc,↓reduceIte]) (by simp only [upd,g2,Nc,↓reduceIte]) (by simp only [upd,g3,Nc,↓reduceIte]) ?_ (((J.setEye _).gain ht0 (e + 1)).setVar _))⟩
        refine .inr ⟨t,e + 1,?_,by simp [AS.set,AS.gain],ht0⟩
        simp [intsV,eyeInts,intC]
      ·refine jB (Ai @g32 (Ai @g31 (Ai @eye_lt_nat (decide_eq_false hi')))) ?_
       refine wK fun K7 hK7=>?_
       refine jF ?_
       refine awp_exit ?_
       simp only [thenQ,blockQ,if_true]
       obtain rfl : i = qc.1:=by omega
       rw [← hq5] at hx J
       exact h4 _ _ _ (by simp only [upd,g0,Nc,↓reduceIte]) (by simp only [upd,g2,Nc,↓reduceIte]) (by simp only [upd,g3,Nc,↓reduceIte]) (IBuf.weak hx) (IBuf.one hx) J
    ·refine jB (Ai @g3 (Ai @jv (int_eq_no (show ((q1.1 : Nat) : Int)≠2 by omega)))) ?_
     refine jF ?_
     refine awp_skip ?_
     have hq5 : q5 = ([],q4.2):=by rw [e5]; exact if_neg hk
     rw [hq5] at h4
     exact h4 _ _ _ (by simp only [upd,g0,Nc,↓reduceIte]) (by simp only [upd,g2,Nc,↓reduceIte]) (by simp only [upd,g3,Nc,↓reduceIte]) AV.weak_nil rfl J
   clear hK3
   have jv:=J.var
   have jp:=J.p3
   have jp2:=J.p3.symm
   have hgo : (q1.1 = 1∨q1.1 = 2)→∀ (E : Env),E 0 = .ptr p 0→E 2 = .ptr o2 0→E 3 = .ptr o3 0→∀ (a b : Bool),(a || b) = true→(a = ((q1.1 : Int) == 1))→True:=fun _ _ _ _ _ _ _ _ _=>trivial
   clear hgo
   rcases tt2 ((q1.1 : Int) == 1) ((q1.1 : Int) == 2) with hd | hd | hd
   case inr.inr =>
    refine jB (Ai @g3 (Ai @jv @hd)) ?_
    refine jF ?_
    refine awp_skip ?_
    simp only [beq_eq_false_iff_ne,ne_eq] at hd
    have hq3 : q3 = (0,q2.2):=by rw [e3]; exact if_neg (by omega)
    have hq4 : q4 = ([],q2.2):=by rw [e4,hq3]; exact if_neg (by omega)
    rw [hq4] at h3
    rw [hq3] at h3
    exact h3 _ _ _ (by simp only [upd,g0,Nc,↓reduceIte]) (by simp only [upd,g2,Nc,↓reduceIte]) (by simp only [upd,g3,Nc,↓reduceIte]) AV.weak_nil rfl J
   all_goals
    refine jB (Ai @g3 (Ai @jv @hd)) ?_
    refine jE ?_
    simp only [beq_eq_false_iff_ne,ne_eq,beq_iff_eq] at hd
    have hq3 : q3 = eyeNum 8 q2.2:=by rw [e3]; exact if_pos (by omega)
    have hq4 : q4 = eyeText 1 32 q3.2:=by rw [e4]; exact if_pos (by omega)
    refine jS @g0 fun K hK=>?_
    refine acallk (eyeU64_set _ p _ J.eye) ?_
    rintro r s2 ⟨rfl,rfl⟩
    rw [← hq3]
    simp only [↓AXq_nil,↓AXq_cons,pval,↓AXr_nil,↓AXr_cons,gval,lval,fzGet_cons,fzGet_nil,Pres_cons,Pres_nil,List.any_cons,List.any_nil,DX,Nat.reduceBEq,↓DN,Qa,Qb,Qc,Qd,Qe,Qf,Qg,Qh,reduceCtorEq,↓reduceIte,Na,Nb,Nc,Nk,Nf,Ng,Nh,Za,Zb,Zc,TT,g3,jv,jp,jp2]
    refine hK _ _ ?_;clear hK K
    have J2:=(J.setEye (eyeC q3.2)).setVar [.v (.int .i64 q1.1),c1,.v (.int .u64 q3.1),.v (.slice none 0 0),.v (.slice none 0 0)]
    refine jU @g0 fun K hK=>?_
    refine acallk (eyeShort_set _ p _ 32 (by have:=l3; omega) J2.eye) ?_
    rintro r s3 ⟨rfl,rfl⟩
    rw [← hq4]
    simp only [↓DM,pval,DX,Nz,↓DN,Qa,Qb,Qc,Qd,Qe,Qf,Qg,Qh,reduceCtorEq,↓reduceIte,Na,Nb,Nc,Nk,Nf,Ng,Nh,Za,Zb,Zc,TT,g3,jv,jp,jp2]
    refine hK _ _ (h3 _ _ _ (by simp only [upd,g0,Nc,↓reduceIte]) (by simp only [upd,g2,Nc,↓reduceIte]) (by simp only [upd,g3,Nc,↓reduceIte]) (AV.weak.refl _) rfl ((J2.setEye (eyeC q4.2)).setVar _))
  clear hK2
  have jv:=J.var
  have jp:=J.p3
  have jp2:=J.p3.symm
  by_cases hk : q1.1 = 1
  ·refine jB (Ai @g3 (Ai @jv (int_eq_yes (show ((q1.1 : Nat) : Int) = 1 by omega)))) ?_
   refine jE ?_
   have hq2 : q2 = eyeText 1 16 q1.2:=by rw [e2]; exact if_pos hk
   refine jU @g0 fun K hK=>?_
   refine acallk (eyeShort_set _ p _ 16 (by have:=l1; omega) J.eye) ?_
   rintro r s3 ⟨rfl,rfl⟩
   rw [← hq2]
   simp only [↓DM,pval,DX,Nz,↓DN,Qa,Qb,Qc,Qd,Qe,Qf,Qg,Qh,reduceCtorEq,↓reduceIte,Na,Nb,Nc,Nk,Nf,Ng,Nh,Za,Zb,Zc,TT,g3,jv,jp,jp2]
   exact hK _ _ (h2 _ _ _ (by simp only [upd,g0,Nc,↓reduceIte]) (by simp only [upd,g2,Nc,↓reduceIte]) (by simp only [upd,g3,Nc,↓reduceIte]) (AV.weak.refl _) rfl ((J.setEye (eyeC q2.2)).setVar _))
  ·refine jB (Ai @g3 (Ai @jv (int_eq_no (show ((q1.1 : Nat) : Int)≠1 by omega)))) ?_
   refine jF ?_
   refine awp_skip ?_
   have hq2 : q2 = ([],q1.2):=by rw [e2]; exact if_neg hk
   rw [hq2] at h2
   exact h2 _ _ _ (by simp only [upd,g0,Nc,↓reduceIte]) (by simp only [upd,g2,Nc,↓reduceIte]) (by simp only [upd,g3,Nc,↓reduceIte]) AV.weak_nil rfl J
 clear hK1
 refine jT fun K hK=>?_
 refine acallk (eyeU8_set _ p st (by rw [AS.set_objs_ne _ hp2]; exact h)) ?_
 rintro r s1 ⟨rfl,rfl⟩
 rw [← e1]
 simp only [↓DM,pval,DX,Nz,↓DN,Qa,Qb,Qc,Qd,Qe,Qf,Qg,Qh,reduceCtorEq,↓reduceIte,Na,Nb,Nc,Nk,Nf,Ng,Nh,Za,Zb,Zc,TT]
 intro o3 ho3
 have hp3 : o3≠p:=by
  rintro rfl
  simp at ho3
 have h32 : o3≠o2:=by
  rintro rfl
  simp [hp2.symm] at ho3
 have ho30 : s.objs o3 = none:=by simpa [hp3,h32] using ho3
 refine hK _ _ (h1 _ _ o3 (by simp only [upd,initE,Nc,↓reduceIte,List.getD_cons_zero]) (by simp only [upd,Nc,↓reduceIte]) (by simp only [upd,Nc,↓reduceIte]) ?_)
 refine ⟨AS.le_set (AS.le_set (AS.le_set (AS.drop_le s p) (AS.drop_objs_none ho2) _) (AS.drop_self _ _) _) (AS.drop_objs_none ho30) _,?_,?_,AS.set_objs_same _ _ _,ho2,ho30,hp2,hp3.symm,h32.symm⟩
 ·rw [AS.set_objs_ne _ hp3.symm,AS.set_objs_same]
 ·rw [AS.set_objs_ne _ h32.symm,AS.set_objs_ne _ hp2.symm,AS.set_objs_same,hz]
end Go.Proofs.YtfjlmkifiihgkaaGreatDoor
namespace Go.AM
open Go
structure PartV where
  kind : Int
  n : Int
  b : List UInt8
def PartV.cells (p : PartV) : List AV:=[.v (.int .i64 p.kind),.v (.int .i64 p.n),bytesV p.b .any]
def partsC (ps : List PartV) : List AV:=(ps.map PartV.cells).flatten
theorem IsTy.parts {avs : List AV} (h : IsTy (.slice 3 (.struct (.cons tyI (.cons tyI (.cons tyB .nil))))) avs) : ∃ ps : List PartV,avs = [.sl 3 ps.length (partsC ps) .any]:=by
  obtain ⟨els,rfl,_,hall⟩:=IsTy.rows h
  have key : ∀ els : List (List AV),(∀ el ∈ els,el.length = 3∧IsTy (.struct (.cons tyI (.cons tyI (.cons tyB .nil)))) el)→∃ ps : List PartV,els = ps.map PartV.cells:=by
    intro els
    induction els with
    | nil=>intro _; exact ⟨[],rfl⟩
    | cons e els ih =>
      intro h
      obtain ⟨ps,rfl⟩:=ih (fun el hel=>h el (by simp [hel]))
      obtain ⟨_,h1⟩:=h e (by simp)
      obtain ⟨x1,y1,rfl,t1,h1⟩:=isF_cons (isTy_struct h1)
      obtain ⟨x2,y2,rfl,t2,h1⟩:=isF_cons h1
      obtain ⟨x3,y3,rfl,t3,h1⟩:=isF_cons h1
      obtain rfl:=isF_nil h1
      obtain ⟨n1,rfl,_⟩:=isTy_int t1
      obtain ⟨n2,rfl,_⟩:=isTy_int t2
      obtain ⟨l3,rfl,_⟩:=t3.bytes
      exact ⟨⟨n1,n2,l3⟩ :: ps,rfl⟩
  obtain ⟨ps,rfl⟩:=key els hall
  exact ⟨ps,by simp [partsC]⟩
end Go.AM
namespace Go.AM
open Go
def rowC {α : Type} (c : α→List AV) (l : List α) : List AV:=(l.map c).flatten
theorem row_at {α : Type} {c : α→List AV} {k : Nat} (hk : ∀ a,(c a).length = k) {l : List α} {i : Nat} (h : i < l.length) : List.take k (List.drop (i * k) (rowC c l)) = c l[i]:=by
  have:=flatten_at (sz:=k) (els:=l.map c) (i:=i) (by simpa using h) (by
    intro el hel
    obtain ⟨p,_,rfl⟩:=List.mem_map.1 hel
    exact hk p)
  unfold rowC
  rw [this]
  simp
theorem row_len {α : Type} {c : α→List AV} {k : Nat} (hk : ∀ a,(c a).length = k) (l : List α) : (rowC c l).length = l.length * k:=by
  induction l with
  | nil=>simp [rowC]
  | cons a l ih =>
    have : rowC c (a :: l) = c a ++ rowC c l:=rfl
    rw [this,List.length_append,ih,hk,List.length_cons,Nat.succ_mul,Nat.add_comm]
theorem row_snoc {α : Type} {c : α→List AV} (l : List α) (a : α) : rowC c (l ++ [a]) = rowC c l ++ c a:=by simp [rowC]
theorem IsTy.row {α : Type} {c : α→List AV} {ty : Ty} {k : Nat} {Q : α→Prop} (hel : ∀ el,IsTy ty el→∃ a,el = c a∧Q a) {avs : List AV} (h : IsTy (.slice k ty) avs) :
    ∃ l : List α,avs = [.sl k l.length (rowC c l) .any]∧(∀ a ∈ l,Q a)∧l.length≤maxLen:=by
  obtain ⟨els,rfl,hlen,hall⟩:=IsTy.rows h
  have key : ∀ els : List (List AV),(∀ el ∈ els,el.length = k∧IsTy ty el)→∃ l : List α,els = l.map c∧∀ a ∈ l,Q a:=by
    intro els
    induction els with
    | nil=>intro _; exact ⟨[],rfl,by simp⟩
    | cons e els ih =>
      intro h
      obtain ⟨l,rfl,hl⟩:=ih (fun el hel=>h el (by simp [hel]))
      obtain ⟨_,h1⟩:=h e (by simp)
      obtain ⟨a,rfl,ha⟩:=hel e h1
      refine ⟨a :: l,rfl,?_⟩
      intro b hb
      rcases List.mem_cons.1 hb with rfl | hb
      · exact ha
      · exact hl b hb
  obtain ⟨l,rfl,hl⟩:=key els hall
  exact ⟨l,by simp [rowC],hl,by simpa using hlen⟩
def Pub (n : Nat) : Prop:=2≤n∧n≤2305843009213693949
instance (n : Nat) : Decidable (Pub n):=by unfold Pub; infer_instance
structure PropV where
  kind : Int
  leaf : Int
  name : List UInt8
  key : Nat
  init : Nat
  deriving DecidableEq
structure SealV where
  frm : Nat
  text : List UInt8
  deriving DecidableEq
structure StepV where
  key : Nat
  seals : List SealV
  deriving DecidableEq
structure PathV where
  key : Nat
  parent : List UInt8
  steps : List StepV
  deriving DecidableEq
structure CommitV where
  group : List UInt8
  epoch : Int
  sender : Int
  props : List PropV
  hasPath : Bool
  path : PathV
  confirm : List UInt8
  member : List UInt8
  deriving DecidableEq
def PropV.cells (p : PropV) : List AV:=[.v (.int .i64 p.kind),.v (.int .i64 p.leaf),bytesV p.name .any,.v (.int .u64 p.key),.v (.int .u64 p.init)]
def SealV.cells (p : SealV) : List AV:=[.v (.int .u64 p.frm),bytesV p.text .any]
def StepV.cells (p : StepV) : List AV:=[.v (.int .u64 p.key),.sl 2 p.seals.length (rowC SealV.cells p.seals) .any]
def PathV.cells (p : PathV) : List AV:=[.v (.int .u64 p.key),bytesV p.parent .any,.sl 2 p.steps.length (rowC StepV.cells p.steps) .any]
def CommitV.cells (c : CommitV) : List AV :=
  [bytesV c.group .any,.v (.int .i64 c.epoch),.v (.int .i64 c.sender),.sl 5 c.props.length (rowC PropV.cells c.props) .any,.v (.bool c.hasPath),
   .v (.int .u64 c.path.key),bytesV c.path.parent .any,.sl 2 c.path.steps.length (rowC StepV.cells c.path.steps) .any,bytesV c.confirm .any,bytesV c.member .any]
def PropV.wf (p : PropV) : Prop:=p.key < 2 ^ 64∧p.init < 2 ^ 64
def SealV.wf (p : SealV) : Prop:=p.frm < 2 ^ 64
def StepV.wf (p : StepV) : Prop:=p.key < 2 ^ 64∧(∀ x ∈ p.seals,x.wf)∧p.seals.length≤maxLen
def PathV.wf (p : PathV) : Prop:=p.key < 2 ^ 64∧(∀ x ∈ p.steps,x.wf)∧p.steps.length≤maxLen
def CommitV.wf (c : CommitV) : Prop:=(∀ x ∈ c.props,x.wf)∧c.path.wf∧c.props.length≤maxLen
def PropV.right (p : PropV) : Prop :=
  (p.kind = 1∧p.leaf = 0∧1≤p.name.length∧p.name.length≤16∧Pub p.key∧Pub p.init) ∨
  (p.kind = 2∧0≤p.leaf∧p.leaf < 32∧p.name.length = 0∧Pub p.key∧p.init = 0) ∨
  (p.kind = 3∧0≤p.leaf∧p.leaf < 32∧p.name.length = 0∧p.key = 0∧p.init = 0)
def SealV.right (p : SealV) : Prop:=Pub p.frm∧p.text.length = 48
def StepV.right (p : StepV) : Prop:=(∀ x ∈ p.seals,x.right)∧Pub p.key∧p.seals.length≤32
def PathV.right (p : PathV) : Prop:=(∀ x ∈ p.steps,x.right)∧Pub p.key∧(p.parent.length = 0∨p.parent.length = 32)∧p.steps.length≤5
def PathV.none (p : PathV) : Prop:=p.key = 0∧p.parent.length = 0∧p.steps.length = 0
def CommitV.pathed (c : CommitV) : Prop:=(c.hasPath = true→c.path.right)∧(c.hasPath = false→c.path.none)
def CommitV.right (c : CommitV) : Prop :=
  (∀ x ∈ c.props,x.right)∧(1≤c.group.length∧c.group.length≤16)∧(0≤c.epoch∧c.epoch≤1048576)∧(0≤c.sender∧c.sender < 32)∧c.props.length≤16∧c.pathed∧c.confirm.length = 32∧c.member.length = 32
instance (p : PropV) : Decidable p.right:=by unfold PropV.right; infer_instance
instance (p : SealV) : Decidable p.right:=by unfold SealV.right; infer_instance
instance (p : StepV) : Decidable p.right:=by unfold StepV.right; infer_instance
instance (p : PathV) : Decidable p.right:=by unfold PathV.right; infer_instance
instance (p : PathV) : Decidable p.none:=by unfold PathV.none; infer_instance
instance (c : CommitV) : Decidable c.pathed:=by unfold CommitV.pathed; infer_instance
instance (c : CommitV) : Decidable c.right:=by unfold CommitV.right; infer_instance
end Go.AM
namespace Go.AM
open Go
def treeV (t : List NodeV) : AV:=.sl 5 t.length (rowC NodeV.cells t) .any
def TreeW (t : List NodeV) : Prop:=t.length≤2 ^ 61∧∀ n ∈ t,n.unm.length≤2 ^ 61∧n.key < 2 ^ 64
def nd (t : List NodeV) (i : Nat) : NodeV:=t.getD i NodeV.nought
theorem nd_get {t : List NodeV} {i : Nat} (h : i < t.length) : nd t i = t[i]:=by simp [nd,List.getD,h]
theorem TreeW.nd {t : List NodeV} (h : TreeW t) (i : Nat) : (nd t i).unm.length≤2 ^ 61∧(nd t i).key < 2 ^ 64:=by
  by_cases hi : i < t.length
  · rw [nd_get hi]; exact h.2 _ (List.getElem_mem hi)
  · have : Go.AM.nd t i = NodeV.nought:=by simp [Go.AM.nd,List.getD,show t.length≤i by omega]
    rw [this]
    exact ⟨by decide,by decide⟩
theorem node_at {t : List NodeV} {i : Nat} (h : i < t.length) : List.take 5 (List.drop (i * 5) (rowC NodeV.cells t)) = (nd t i).cells:=by
  rw [nd_get h]
  exact row_at (k:=5) (fun _=>rfl) h
def lvs (t : List NodeV) : Nat:=if Fit ((t.length + 1) / 2)∧t.length = 2 * ((t.length + 1) / 2) - 1 then (t.length + 1) / 2 else 0
theorem lvs_zero_or {t : List NodeV} : lvs t = 0∨(Fit (lvs t)∧t.length = 2 * lvs t - 1):=by
  unfold lvs
  split
  · rename_i h; exact .inr h
  · exact .inl rfl
theorem lvs_le (t : List NodeV) : lvs t≤32:=by
  rcases lvs_zero_or (t:=t) with h | h
  · omega
  · exact h.1.le.2
theorem lvs_lt {t : List NodeV} {i : Nat} (h : i < lvs t) : 2 * i < t.length:=by
  rcases lvs_zero_or (t:=t) with h0 | h0
  · omega
  · omega
def memI (t : List NodeV) (i : Int) : Prop:=0≤i∧i < (lvs t : Int)∧(nd t (2 * i.toNat)).kind = 1
instance (t : List NodeV) (i : Int) : Decidable (memI t i):=by unfold memI; infer_instance
def memR (t : List NodeV) (i : Int) : Prop:=0≤i∧2 * i < (t.length : Int)∧(nd t (2 * i.toNat)).kind = 1
instance (t : List NodeV) (i : Int) : Decidable (memR t i):=by unfold memR; infer_instance
theorem memR_iff {t : List NodeV} (h : lvs t≠0) (i : Int) : memR t i↔memI t i:=by
  rcases lvs_zero_or (t:=t) with h0 | h0
  · exact absurd h0 h
  · have:=h0.1.le
    unfold memR memI
    constructor <;> (rintro ⟨a,b,c⟩; exact ⟨a,by omega,c⟩)
def cntN (P : Int→Prop) [DecidablePred P] (a : Nat) : Nat→Nat
  | 0=>0
  | k + 1=>cntN P a k + if P ((a + k : Nat) : Int) then 1 else 0
theorem cntN_le (P : Int→Prop) [DecidablePred P] (a : Nat) : ∀ k,cntN P a k≤k
  | 0=>Nat.le_refl _
  | k + 1=>by
    have:=cntN_le P a k
    simp only [cntN]
    split <;> omega
theorem cntN_congr {P Q : Int→Prop} [DecidablePred P] [DecidablePred Q] (h : ∀ i,P i↔Q i) (a : Nat) : ∀ k,cntN P a k = cntN Q a k
  | 0=>rfl
  | k + 1=>by simp only [cntN,cntN_congr h a k,h]
theorem cntN_pos {P : Int→Prop} [DecidablePred P] {a : Nat} : ∀ {k},0 < cntN P a k↔∃ j,j < k∧P ((a + j : Nat) : Int)
  | 0=>by simp [cntN]
  | k + 1=>by
    simp only [cntN]
    constructor
    · intro h
      by_cases hp : P ((a + k : Nat) : Int)
      · exact ⟨k,by omega,hp⟩
      · rw [if_neg hp] at h
        obtain ⟨j,h1,h2⟩:=(cntN_pos (k:=k)).1 (by omega)
        exact ⟨j,by omega,h2⟩
    · rintro ⟨j,h1,h2⟩
      by_cases e : j = k
      · rw [← e,if_pos h2]; omega
      · have:=(cntN_pos (k:=k)).2 ⟨j,by omega,h2⟩
        omega
def firstN (P : Nat→Bool) : Nat→Nat→Int
  | 0,_=>-1
  | k + 1,i=>if P i then (i : Int) else firstN P k (i + 1)
theorem firstN_spec (P : Nat→Bool) : ∀ k i,(firstN P k i = -1∧∀ j,i≤j→j < i + k→P j = false)∨(∃ j,i≤j∧j < i + k∧P j = true∧firstN P k i = (j : Int)∧∀ m,i≤m→m < j→P m = false)
  | 0,i=>.inl ⟨rfl,fun j h1 h2=>by omega⟩
  | k + 1,i=>by
    simp only [firstN]
    cases hp : P i with
    | true=>exact .inr ⟨i,Nat.le_refl _,by omega,hp,by simp,fun m h1 h2=>by omega⟩
    | false =>
      simp only [Bool.false_eq_true,if_false]
      rcases firstN_spec P k (i + 1) with ⟨h1,h2⟩ | ⟨j,h1,h2,h3,h4,h5⟩
      · refine .inl ⟨h1,fun j a b=>?_⟩
        by_cases e : j = i
        · rw [e,hp]
        · exact h2 j (by omega) (by omega)
      · refine .inr ⟨j,by omega,by omega,h3,h4,fun m a b=>?_⟩
        by_cases e : m = i
        · rw [e,hp]
        · exact h5 m (by omega) b
theorem firstN_ge (P : Nat→Bool) (k i : Nat) : decide (0≤firstN P k i) = true↔∃ j,i≤j∧j < i + k∧P j = true:=by
  rw [decide_eq_true_iff]
  rcases firstN_spec P k i with ⟨h1,h2⟩ | ⟨j,h1,h2,h3,h4,h5⟩
  · rw [h1]
    constructor
    · intro h; omega
    · rintro ⟨j,a,b,c⟩; rw [h2 j a b] at c; cases c
  · rw [h4]
    exact ⟨fun _=>⟨j,h1,h2,h3⟩,fun _=>by omega⟩
def hlf (t : List NodeV) : Nat:=(t.length + 1) / 2
theorem hlf_lt {t : List NodeV} {i : Nat} : i < hlf t↔2 * i < t.length:=by unfold hlf; omega
def namedI (t : List NodeV) (name : List UInt8) (a : Nat) : Int:=firstN (fun j=>decide (memI t j∧(nd t (2 * j)).name = name)) (hlf t - a) a
def namedR (t : List NodeV) (name : List UInt8) : Int:=firstN (fun j=>decide (memR t j∧(nd t (2 * j)).name = name)) (hlf t) 0
def fitsT (t : List NodeV) (i : Nat) : Prop :=
  (nd t i).right∧((nd t i).kind = 0∨((nd t i).kind = 1↔i % 2 = 0))∧∀ u ∈ (nd t i).unm,(undI (i : Int)).1≤u∧u≤(undI (i : Int)).2∧memI t u
instance (t : List NodeV) (i : Nat) : Decidable (fitsT t i):=by unfold fitsT; infer_instance
def goodAt (t : List NodeV) (i : Nat) : Prop:=fitsT t i∧(i % 2 = 0→memI t ((i / 2 : Nat) : Int)→∀ j,j < hlf t→i / 2 < j→¬ (memI t (j : Int)∧(nd t (2 * j)).name = (nd t i).name))
def rightT (t : List NodeV) : Prop:=lvs t≠0∧(∀ i,i < t.length→goodAt t i)∧(lvs t = 1∨0 < cntN (memI t) (lvs t / 2) (lvs t - lvs t / 2))
instance (t : List NodeV) (i : Nat) : Decidable (goodAt t i):=by unfold goodAt; infer_instance
instance (t : List NodeV) : Decidable (rightT t):=by unfold rightT; infer_instance
theorem firstN_any (P : Int→Bool) (l : List Int) : decide (0≤firstN (fun i=>P (l.getD i 0)) l.length 0) = l.any P:=by
  rw [Bool.eq_iff_iff,firstN_ge,List.any_eq_true]
  constructor
  · rintro ⟨j,_,h2,h3⟩
    have hj : j < l.length:=by omega
    refine ⟨l[j],List.getElem_mem hj,?_⟩
    simpa [List.getD,hj] using h3
  · rintro ⟨x,hx,hp⟩
    obtain ⟨j,hj,rfl⟩:=List.getElem_of_mem hx
    exact ⟨j,Nat.zero_le _,by omega,by simpa [List.getD,hj] using hp⟩
theorem firstN_step {P : Nat→Bool} {k i : Nat} (h : P i = false) : firstN P (k + 1) i = firstN P k (i + 1):=by simp only [firstN,h]; rfl
theorem firstN_here {P : Nat→Bool} {k i : Nat} (h : P i = true) : firstN P (k + 1) i = (i : Int):=by simp only [firstN,h]; rfl
end Go.AM
namespace Go.Proofs.YtfjlmkifiihgkaaGreatDoor
open Go Go.AM Go.Proofs
variable {Γ : Nat→List AV}
theorem leaves_calls (t : List NodeV) (ht : t.length≤2 ^ 61) (s : AS) : ACalls Tryz.prog Γ 82 [treeV t] s (fun r s'=>r = .v (.int .i64 (lvs t))∧s' = s):=by
 refine acalls_body Tryz.func82 rfl Tryz.ntmps82 Tryz.results82 (by simp) ?_
 have e0 : iquo .i64 (iadd .i64 (t.length : Int) 1) 2 = ((((t.length + 1) / 2 : Nat)) : Int):=by rw [eye_succM _ (by omega),iquo_nat _ (by omega)]
 obtain ⟨h,hh⟩ : ∃ h,h = (t.length + 1) / 2:=⟨_,rfl⟩
 rw [← hh] at e0
 unfold treeV
 refine jA ?_
 refine jB @e0 ?_
 refine wK fun K hK=>?_
 refine jQ fun K hK=>?_
 refine acallk (fits18_calls h _) ?_
 rintro r s1 ⟨rfl,rfl⟩
 by_cases hf : Fit h
 ·have hf':=hf.le
  rw [decide_eq_true (fitI_nat.2 hf)]
  simp only [↓DM,pval,DX,Nz,↓DN,Qa,Qb,Qc,Qd,Qe,Qf,Qg,Qh,reduceCtorEq,↓reduceIte,Na,Nb,Nc,Nk,Nf,Ng,Nh,Za,Zb,Zc,TT]
  refine acallk (width18_calls h _) ?_
  rintro r s2 ⟨rfl,rfl⟩
  rw [widI_nat hf]
  by_cases hw : t.length = 2 * h - 1
  ·have hl : lvs t = h:=by unfold lvs; rw [← hh]; exact if_pos ⟨hf,hw⟩
   refine jV (natEq hw) hK ?_;clear hK K
   refine jF ?_
   refine awp_skip ?_
   refine hK _ _ ?_;clear hK K
   refine jA ?_
   refine jI ?_
   rw [hl]
   exact ⟨_,_,AV.weak.refl _,AS.le.refl _,rfl,rfl⟩
  ·have hl : lvs t = 0:=by unfold lvs; rw [← hh]; exact if_neg (fun k=>hw k.2)
   refine jV (natNe hw) hK ?_;clear hK K
   refine jE ?_
   refine jA ?_
   refine jI ?_
   rw [hl]
   exact ⟨_,_,AV.weak.refl _,AS.le.refl _,rfl,rfl⟩
 ·have hl : lvs t = 0:=by unfold lvs; rw [← hh]; exact if_neg (fun k=>hf k.1)
  rw [decide_eq_false (fun k=>hf (fitI_nat.1 k))]
  refine jR hK ?_;clear hK K
  refine jE ?_
  refine jA ?_
  refine jI ?_
  rw [hl]
  exact ⟨_,_,AV.weak.refl _,AS.le.refl _,rfl,rfl⟩
theorem member_calls (t : List NodeV) (ht : t.length≤2 ^ 61) (i : Int) (s : AS) : ACalls Tryz.prog Γ 84 [treeV t,.v (.int .i64 i)] s (fun r s'=>r = .v (.bool (decide (memI t i)))∧s' = s):=by
 refine acalls_body Tryz.func84 rfl Tryz.ntmps84 Tryz.results84 (by simp) ?_
 have hlc:=fun s=>leaves_calls (Γ:=Γ) t ht s
 unfold treeV at hlc ⊢
 refine jA ?_
 by_cases h0 : 0≤i
 ·refine jS (decide_eq_true h0) fun K hK=>?_
  refine acallk (hlc _) ?_
  rintro r s1 ⟨rfl,rfl⟩
  by_cases h1 : i < (lvs t : Int)
  ·obtain ⟨n,rfl⟩:=Int.eq_ofNat_of_zero_le h0
   have hn : n < lvs t:=by omega
   have hn2:=lvs_lt hn
   have hlv:=lvs_le t
   have hat:=node_at hn2
   have hk : decide (memI t (n : Int)) = ((nd t (2 * n)).kind == 1):=by
    rw [Bool.eq_iff_iff,decide_eq_true_iff,beq_iff_eq]
    unfold memI
    rw [Int.toNat_natCast]
    exact ⟨fun k=>k.2.2,fun k=>⟨h0,h1,k⟩⟩
   generalize nd t (2 * n) = N at *
   generalize rowC NodeV.cells t = X at *
   obtain ⟨k,nm,y,pa,u⟩:=N
   unfold NodeV.cells at hat
   have hge : (0 : Int)≤((2 * n : Nat) : Int):=by omega
   refine jV (Ai (decide_eq_true h1) (Ai (decide_eq_true hn) (Ai (imul2_nat n (by omega)) (Ai @eye_lt_nat (Ai @hn2 (Ai @hge @hat)))))) hK ?_;clear hK K
   refine jI ?_
   rw [hk]
   exact ⟨_,_,AV.weak.refl _,AS.le.refl _,rfl,rfl⟩
  ·have hk : decide (memI t i) = false:=decide_eq_false fun k=>h1 k.2.1
   refine jV (decide_eq_false h1) hK ?_;clear hK K
   refine jI ?_
   rw [hk]
   exact ⟨_,_,AV.weak.refl _,AS.le.refl _,rfl,rfl⟩
 ·have hk : decide (memI t i) = false:=decide_eq_false fun k=>h0 k.1
  refine jB (decide_eq_false h0) ?_
  refine jI ?_
  rw [hk]
  exact ⟨_,_,AV.weak.refl _,AS.le.refl _,rfl,rfl⟩
theorem members_calls (t : List NodeV) (ht : t.length≤2 ^ 61) (a k : Nat) (hak : a + k < 2 ^ 61) (s : AS) : ACalls Tryz.prog Γ 86 [treeV t,.v (.int .i64 a),.v (.int .i64 (((a + k : Nat) : Int) - 1))] s (fun r s'=>r = .v (.int .i64 (cntN (memI t) a k))∧s' = s):=by
 refine acalls_body Tryz.func86 rfl Tryz.ntmps86 Tryz.results86 (by simp) ?_
 have hm:=fun i s=>member_calls (Γ:=Γ) t ht i s
 unfold treeV at hm ⊢
 generalize rowC NodeV.cells t = X at *
 refine jA ?_
 refine jA ?_
 refine wK fun K hK=>?_
 refine jA ?_
 refine awp_block ?_
 refine awp_loop (fun E s2=>∃ i : Nat,i≤k∧E 8 = .v (.int .i64 ((a + i : Nat) : Int))∧E 7 = .v (.int .i64 (cntN (memI t) a i))∧E 0 = .sl 5 t.length X .any∧E 2 = .v (.int .i64 (((a + k : Nat) : Int) - 1))∧s2 = s)
  (fun E _=>match E 8 with | .v (.int _ i)=>a + k - i.toNat | _=>0) ?_ ?_
 ·exact ⟨0,Nat.zero_le _,by simp only [upd,Nc,↓reduceIte]; rfl,by simp only [upd,Nc,↓reduceIte]; rfl,by simp only [upd,initE,List.getD_cons_zero,List.getD_cons_succ,Nc,↓reduceIte],by simp only [upd,initE,List.getD_cons_zero,List.getD_cons_succ,Nc,↓reduceIte],rfl⟩
 ·rintro E1 s2 ⟨i,hi,g8,g7,g0,g2,rfl⟩ -
  refine wK fun K2 hK2=>?_
  by_cases hi' : i < k
  ·have h1 : decide (((a + i : Nat) : Int)≤((a + k : Nat) : Int) - 1) = true:=decide_eq_true (by omega)
   refine jB (Ai @g8 (Ai @g2 @h1)) ?_
   refine jE ?_
   refine awp_skip ?_
   refine hK2 _ _ ?_;clear hK2 K2
   refine wK fun K3 hK3=>?_
   refine awp_block ?_
   have hend : ∀ (E : Env),E 8 = .v (.int .i64 ((a + i : Nat) : Int))→E 7 = .v (.int .i64 (cntN (memI t) a (i + 1)))→E 0 = .sl 5 t.length X .any→E 2 = .v (.int .i64 (((a + k : Nat) : Int) - 1))→K3 E s2:=by
    intro E f8 f7 f0 f2
    refine hK3 _ _ ?_;clear hK3 K3
    refine jD (Ai @f8 (eye_succM (a + i) (by omega))) ?_
    refine ⟨⟨i + 1,hi',by simp only [upd,Nc,↓reduceIte]; rfl,by simp only [upd,f7,Nc,↓reduceIte],by simp only [upd,f0,Nc,↓reduceIte],by simp only [upd,f2,Nc,↓reduceIte],rfl⟩,?_⟩
    simp only [g8,upd,↓reduceIte]
    omega
   clear hK3
   refine jS (Ai @g0 @g8) fun K hK=>?_
   refine acallk (hm _ _) ?_
   rintro r s3 ⟨rfl,rfl⟩
   have hc:=cntN_le (memI t) a i
   by_cases hp : memI t ((a + i : Nat) : Int)
   ·rw [decide_eq_true hp]
    refine jR hK ?_;clear hK K
    refine jE ?_
    refine jD (Ai @g7 (eye_succM (cntN (memI t) a i) (by omega))) ?_
    refine hend _ (by simp only [upd,g8,Nc,↓reduceIte]) ?_ (by simp only [upd,g0,Nc,↓reduceIte]) (by simp only [upd,g2,Nc,↓reduceIte])
    have : cntN (memI t) a (i + 1) = cntN (memI t) a i + 1:=by simp only [cntN]; rw [if_pos hp]
    rw [this]
    simp only [upd,Nc,↓reduceIte]
   ·rw [decide_eq_false hp]
    refine jR hK ?_;clear hK K
    refine jF ?_
    refine awp_skip ?_
    refine hend _ (by simp only [upd,g8,Nc,↓reduceIte]) ?_ (by simp only [upd,g0,Nc,↓reduceIte]) (by simp only [upd,g2,Nc,↓reduceIte])
    have : cntN (memI t) a (i + 1) = cntN (memI t) a i:=by simp only [cntN]; rw [if_neg hp]; omega
    rw [this]
    simp only [upd,g7,Nc,↓reduceIte]
  ·have h1 : decide (((a + i : Nat) : Int)≤((a + k : Nat) : Int) - 1) = false:=decide_eq_false (by omega)
   refine jB (Ai @g8 (Ai @g2 @h1)) ?_
   refine jF ?_
   refine awp_exit ?_
   simp only [thenQ,blockQ,if_true]
   refine hK _ _ ?_;clear hK hK2 K2 K
   obtain rfl : i = k:=by omega
   refine jB @g7 ?_
   exact jJ
end Go.Proofs.YtfjlmkifiihgkaaGreatDoor
