/- Contracts of the program's functions, each walked once; the conditions stand in each theorem. -/
import Derived.Test.YtfjlmkifiihgkaaGreatDoorAMp6
import Derived.Test.YtfjlmkifiihgkaaGreatDoorW1
import Derived.Test.YtfjlmkifiihgkaaGreatDoorW5
import Derived.Test.YtfjlmkifiihgkaaGreatDoorW4
import Derived.Test.YtfjlmkifiihgkaaGreatDoorAMp7
import Derived.Test.YtfjlmkifiihgkaaGreatDoorW3
import Derived.Test.YtfjlmkifiihgkaaGreatDoorW2
import Derived.Test.YtfjlmkifiihgkaaGreatDoorAMp4
import Derived.Test.YtfjlmkifiihgkaaGreatDoorAMp3
import Derived.Test.YtfjlmkifiihgkaaGreatDoorAMp5
set_option linter.unusedSimpArgs false
set_option linter.unusedVariables false
open Nat renaming reduceLT → Na, reduceLeDiff → Nb, reduceEqDiff → Nc, reduceAdd → Nk, reduceMul → Nf, reducePow → Ng, reduceSub → Nh, reduceBEq → Nz
open Int renaming reduceLT → Za, reduceLE → Zb, reduceToNat → Zc
open And renaming intro → Ai
open Go.AM renaming ashift → Qa, aconv → Qb, aindexAddr → Qc, aindex → Qd, aslice → Qe, abuiltin → Qf, awp_reg_seq → wS, awp_reg_end → wE, awp_seq_k → wK, awp_cond_k → wC
open Go.AM.AV renaming cells → Qg, one → Qh
set_option maxRecDepth 100000
set_option maxHeartbeats 8000000
set_option autoImplicit false
namespace Go.Proofs.YtfjlmkifiihgkaaGreatDoor
open Go Go.AM Go.Proofs
variable {Γ : Nat→List AV}
theorem leafOf20N_calls (name : List UInt8) (key : Nat) (hn : name.length≤2 ^ 45) (s : AS) : ACalls Tryz.prog Γ 56 [bytesV name .any,.v (.int .u64 key)] s (fun r s'=>r = .agg [.v (.int .i64 1),bytesV name .any,.v (.int .u64 key),bytesV [] .any,nilS]∧s' = s):=by
 refine acalls_body Tryz.func56 rfl Tryz.ntmps56 Tryz.results56 (by simp) ?_
 have hc:=fun s=>bytesClone_calls (Γ:=Γ) name s hn
 unfold bytesV at *
 refine wS fun K hK=>?_
 simp only [↓DN,Qa,Qb,Qc,Qd,Qe,Qf,Qg,Qh,reduceCtorEq,↓reduceIte,Na,Nb,Nc,Nk,Nf,Ng,Nh,Za,Zb,Zc,TT]
 intro o ho
 refine hK _ _ ?_;clear hK K
 refine wS fun K hK=>?_
 simp only [↓DN,Qa,Qb,Qc,Qd,Qe,Qf,Qg,Qh,reduceCtorEq,↓reduceIte,Na,Nb,Nc,Nk,Nf,Ng,Nh,Za,Zb,Zc,TT]
 refine acallk (hc _) ?_
 rintro r s1 ⟨rfl,rfl⟩
 simp only [↓DM,pval,DX,Nz,↓DN,Qa,Qb,Qc,Qd,Qe,Qf,Qg,Qh,reduceCtorEq,↓reduceIte,Na,Nb,Nc,Nk,Nf,Ng,Nh,Za,Zb,Zc,TT]
 refine hK _ _ ?_;clear hK K
 refine awp_ret ?_
 refine aends_cell (o:=o) (off:=0) (by simp only [upd,Nc,↓reduceIte]) (AS.set_objs_same _ _ _) (by rw [T.c69]; decide) (by simp only [↓DN,Qa,Qb,Qc,Qd,Qe,Qf,Qg,Qh,reduceCtorEq,↓reduceIte,Na,Nb,Nc,Nk,Nf,Ng,Nh,Za,Zb,Zc,TT]; rfl) ?_
 exact ⟨_,s,AV.weak_agg (.cons (AV.weak.refl _) (.cons (AV.weak.refl _) (.cons (AV.weak.refl _) (.cons AV.weak_nil (.cons (AV.weak.refl _) .nil))))),AS.le_set (AS.le.refl s) ho _,rfl,rfl⟩
theorem addMain_calls (hG : Γ 3 = dB64.map u8C) (t : List NodeV) (ht : TreeW t) (name : List UInt8) (key : Nat) (hn : name.length≤2 ^ 45) (h1 : rightT t) (h2 : (leafN name key).right) (h3 : ¬ 0≤namedI t name 0) (s : AS) :
  ACalls Tryz.prog Γ 53 [treeV t,bytesV name .any,.v (.int .u64 key)] s (fun r s'=>(freeT t = 32∧r = .tup [nilS,.v (.int .i64 0),.v (.int .i64 21)]∧s.le s') ∨
   (freeT t≠32∧∃ X T,r = .tup [X,.v (.int .i64 (freeT t)),.v (.int .i64 0)]∧T.map (·.1) = addAt t (freeT t) (leafN name key)∧TreeO s s' X T)):=by
 have hc:=fun s=>leafOf20N_calls (Γ:=Γ) name key hn s
 have hr:=fun s=>right20_calls (Γ:=Γ) hG t ht s
 have hlr:=fun s=>nodeRight_calls (Γ:=Γ) (leafN name key) (by simp [leafN]) s
 have hnm:=fun s=>named20_calls (Γ:=Γ) t ht.1 name 0 (by decide) s
 have hcl:=fun s=>clone20_calls (Γ:=Γ) t (by have:=h1.len; have:=lvs_le t; omega) (fun n hn=>by have:=right_small (h1.nodes hn); unfold NodeW; omega) s
 have hlv:=fun s=>leaves_calls (Γ:=Γ) t ht.1 s
 obtain ⟨f1,f2,f3⟩:=freeT_spec t
 have hlen:=h1.len
 have hlvs:=lvs_le t
 generalize hnmI : namedI t name 0 = nm at *
 refine acalls_body Tryz.func53 rfl Tryz.ntmps53 Tryz.results53 (by simp) ?_
 rw [decide_eq_true h1] at hr
 have hcells : (leafN name key).cells = [.v (.int .i64 1),bytesV name .any,.v (.int .u64 key),bytesV [] .any,intsV [] .any]:=rfl
 rw [decide_eq_true h2,hcells] at hlr
 replace hlr:=fun s=>ACalls.weaks (.cons (AV.weak_agg (.cons (AV.weak.refl _) (.cons (AV.weak.refl _) (.cons (AV.weak.refl _) (.cons (AV.weak.refl _) (.cons (AV.weak_nil (sz:=1)) .nil)))))) .nil) (hlr s)
 unfold treeV at *
 generalize rowC NodeV.cells t = X at *
 unfold bytesV nilS at *
 rw [show (((0 : Nat) : Int)) = 0 from rfl] at hnm
 refine jA ?_
 refine awp_reg_frz 9 (by decide) ?_
 intro K hK
 simp only [↓DM,pval,DX,Nz,↓DN,Qa,Qb,Qc,Qd,Qe,Qf,Qg,Qh,reduceCtorEq,↓reduceIte,Na,Nb,Nc,Nk,Nf,Ng,Nh,Za,Zb,Zc,TT]
 refine acallk (hc _) ?_
 rintro r s1 ⟨rfl,rfl⟩
 simp only [↓DM,pval,DX,Nz,↓DN,Qa,Qb,Qc,Qd,Qe,Qf,Qg,Qh,reduceCtorEq,↓reduceIte,Na,Nb,Nc,Nk,Nf,Ng,Nh,Za,Zb,Zc,TT]
 intro o ho
 refine hK _ _ o _ (by simp only [upd,Nc,↓reduceIte]) ho ?_
 clear hK K ho
 refine wK fun K hK=>?_
 refine awp_block ?_
 refine jK (hr _) ?_;rintro s2 rfl
 refine jF ?_
 refine jK (hlr _) ?_;rintro s3 rfl
 refine jF ?_
 refine jQ fun K hK=>?_
 refine acallk (hnm _) ?_
 rintro r s4 ⟨rfl,rfl⟩
 refine jV (Ai @h3 (decide_eq_false h3)) hK ?_;clear hK K
 refine jF ?_
 refine awp_skip ?_
 refine hK _ _ ?_;clear hK K
 refine jQ fun K hK=>?_
 refine acallk (hcl _) ?_
 rintro r s5 ⟨TS,hTS,hT⟩
 refine jR hK ?_;clear hK K
 refine jA ?_
 refine wK fun K hK=>?_
 refine awp_block ?_
 have hTl : TS.length = t.length:=by have:=congrArg List.length hTS; simpa using this
 have hmO:=fun i=>memberO_calls (Γ:=Γ) hT (by omega) i
 rw [hTS] at hmO
 refine awp_loop (fun E s2=>∃ i : Nat,i≤freeT t∧E 11 = .v (.int .i64 i)∧E 10 = r∧E 0 = .sl 5 t.length X .any∧E 9 = .rop [.v (.int .i64 1),.sl 1 name.length (name.map byteV) .any,.v (.int .u64 key),.sl 1 0 [] .any,.v (.slice none 0 0)]∧s2 = s5)
  (fun E _=>match E 11 with | .v (.int _ i)=>freeT t - i.toNat | _=>0) ?_ ?_
 ·exact ⟨0,Nat.zero_le _,by simp only [upd,Nc,↓reduceIte]; rfl,by simp only [upd,Nc,↓reduceIte],by simp only [upd,initE,List.getD_cons_zero,List.getD_cons_succ,Nc,↓reduceIte],by simp only [upd,Nc,↓reduceIte],rfl⟩
 ·rintro E1 s6 ⟨i,hi,g11,g10,g0,g9,rfl⟩ -
  by_cases hi' : i < freeT t
  ·refine wK fun K2 hK2=>?_
   refine jS (Ai @g10 @g11) fun K hK=>?_
   refine acallk (hmO _) ?_
   rintro r s7 ⟨rfl,rfl⟩
   rw [decide_eq_true (f3 i hi')]
   refine jR hK ?_;clear hK K
   refine jE ?_
   refine awp_skip ?_
   refine hK2 _ _ ?_;clear hK2 K2
   refine awp_block ?_
   refine jD (Ai @g11 (eye_succM i (by omega))) ?_
   refine ⟨⟨i + 1,by omega,by simp only [upd,Nc,↓reduceIte],by simp only [upd,g10,Nc,↓reduceIte],by simp only [upd,g0,Nc,↓reduceIte],by simp only [upd,g9,Nc,↓reduceIte],rfl⟩,?_⟩
   simp only [g11,upd,↓reduceIte]
   omega
  ·obtain rfl : i = freeT t:=by omega
   refine wK fun K2 hK2=>?_
   refine jS (Ai @g10 @g11) fun K hK=>?_
   refine acallk (hmO _) ?_
   rintro r s7 ⟨rfl,rfl⟩
   rw [decide_eq_false f2]
   refine jR hK ?_;clear hK K
   refine jF ?_
   refine awp_exit ?_
   simp only [thenQ,blockQ,if_true]
   refine hK _ _ ?_;clear hK hK2 K2 K
   refine wK fun K hK=>?_
   clear hmO
   have hmain : ∀ (E : Env) (s7 s8 : AS) (X2 : AV) (T2 : List (NodeV × AV)),AS.tells Γ s7 s8→freeT t≠32→E 11 = .v (.int .i64 (freeT t))→E 10 = X2→E 9 = .rop [.v (.int .i64 1),.sl 1 name.length (name.map byteV) .any,.v (.int .u64 key),.sl 1 0 [] .any,.v (.slice none 0 0)]→T2.map (·.1) = moreT t (freeT t)→TreeO s4 s8 X2 T2→K E s7:=by
    clear hT g10 g11 g0 g9 hcl hr hlr hc hlv hnm hTS hTl TS r s7
    intro E s7 s8 X2 T2 hts h32 g11 g10 g9 hT2 hO
    refine hK _ _ ?_;clear hK K
    refine awp_tells hts ?_
    clear hts s7
    obtain ⟨L',q1,q2,q3,q4,q5,q6⟩:=moreT_shape hlen.2 hlen.1 f1 h32
    have hT2l : T2.length = 2 * L' - 1:=by have:=congrArg List.length hT2; rw [q3] at this; simpa using this
    have hb:=q2.le
    have hadd : addAt t (freeT t) (leafN name key) = (pathL (freeT t) L').foldl (putU (freeT t)) ((moreT t (freeT t)).set (2 * freeT t) (leafN name key)):=by unfold addAt; rw [q5]
    have hps:=fun (i : Nat) (hi : i < (pathL (freeT t) L').length)=>puts_at q2 q4 (leafN name key) (t:=t) q3 hi
    have hpm:=fun x hx=>path_mem q2 q4 x hx
    have hpl:=path_len q2 q4
    have hpc:=fun s=>path18_calls (Γ:=Γ) hG (freeT t) L' q2 q4 s
    obtain ⟨O,cap,rest,rfl,hObj,hrl,hcap,h63⟩:=hO.osl (by omega)
    have hv2 : 2 * freeT t < T2.length:=by omega
    rw [hadd]
    have hput:=hO.put0 (u:=2 * freeT t) (p:=(leafN name key,nilS)) hv2 hObj hrl hcap h63 rfl rfl
    have hrow:=rowX_set hv2 (leafN name key,nilS) rest
    have hfst : (T2.set (2 * freeT t) (leafN name key,nilS)).map (·.1) = (moreT t (freeT t)).set (2 * freeT t) (leafN name key):=by rw [List.map_set,hT2]
    rw [hrow] at hput
    have hcx : cellsX (leafN name key,nilS) = [.v (.int .i64 1),.sl 1 name.length (name.map byteV) .any,.v (.int .u64 key),.sl 1 0 [] .any,.v (.slice none 0 0)]:=rfl
    rw [hcx] at hrow
    have hRl : (rowC cellsX T2 ++ rest).length = T2.length * 5 + rest.length:=by rw [List.length_append,rowX_len]
    generalize hR : rowC cellsX T2 ++ rest = R at *
    have e2v:=imul2_nat (freeT t) (by omega)
    have hge : (0 : Int)≤((2 * freeT t : Nat) : Int):=by omega
    simp only [asetAll] at hrow
    refine jS (Ai @g10 (Ai @g11 (Ai @g9 (Ai @hObj (Ai @e2v (Ai @hge (Ai @hv2 @eye_lt_nat))))))) fun K hK=>?_
    refine ⟨by omega,hK _ _ ?_⟩
    clear hK K
    rw [hrow]
    generalize hT3 : T2.set (2 * freeT t) (leafN name key,nilS) = T3 at *
    have hT3l : T3.length = T2.length:=by rw [← hT3,List.length_set]
    have hlv3 : lvs (T3.map (·.1)) = L':=lvs_of q2 (by rw [List.length_map]; omega)
    have hObj9 : (s8.set O (rowC cellsX T3 ++ rest)).objs O = some (rowC cellsX T3 ++ rest):=AS.set_objs_same _ _ _
    rw [← hT3l] at hput hrl hcap g10 ⊢
    clear hrow hT3 hR hRl hObj hO hT2 hge e2v hcx hv2
    generalize s8.set O (rowC cellsX T3 ++ rest) = s9 at *
    refine wK fun K hK=>?_
    refine jS (Ai @g11 @g10) fun K hK=>?_
    have hlO:=leavesO_calls (Γ:=Γ) hput (by omega)
    rw [hlv3] at hlO
    refine acallk hlO ?_
    rintro r s10 ⟨rfl,rfl⟩
    simp only [↓DM,pval,DX,Nz,↓DN,Qa,Qb,Qc,Qd,Qe,Qf,Qg,Qh,reduceCtorEq,↓reduceIte,Na,Nb,Nc,Nk,Nf,Ng,Nh,Za,Zb,Zc,TT,g11,g10]
    refine acallk (hpc _) ?_
    rintro r s11 ⟨rfl,rfl⟩
    unfold intsV
    have hPn:=natsI_len (pathL (freeT t) L')
    have hPat : ∀ (i : Nat) (hi : i < (pathL (freeT t) L').length),List.take 1 (List.drop i ((natsI (pathL (freeT t) L')).map intC)) = [.v (.int .i64 (((pathL (freeT t) L')[i] : Nat) : Int))]:=by
     intro i hi
     rw [eat_int (by rw [natsI_len]; exact hi)]
     simp [natsI]
    have hfo:=fun (i : Nat) (hi : i < (pathL (freeT t) L').length) (M : List NodeV)=>foldl_take_succ (putU (freeT t)) M hi
    have hfull : (pathL (freeT t) L').take (pathL (freeT t) L').length = pathL (freeT t) L':=List.take_length
    generalize natsI (pathL (freeT t) L') = PI at *
    generalize pathL (freeT t) L' = P at *
    rw [hPn]
    generalize (moreT t (freeT t)).set (2 * freeT t) (leafN name key) = M at *
    refine jR hK ?_;clear hK K
    refine awp_block ?_
    refine awp_loop (fun E s2=>∃ (i : Nat) (T4 : List (NodeV × AV)),i≤P.length∧E 61 = .v (.int .i64 i)∧E 60 = .v (.int .i64 P.length)∧E 59 = .sl 1 P.length (PI.map intC) .any∧E 11 = .v (.int .i64 (freeT t))∧E 10 = .osl O 0 5 T3.length cap∧T4.length = T3.length∧T4.map (·.1) = (P.take i).foldl (putU (freeT t)) M∧TreeO s4 s2 (.osl O 0 5 T3.length cap) T4)
     (fun E _=>match E 61 with | .v (.int _ i)=>P.length - i.toNat | _=>0) ?_ ?_
    ·exact ⟨0,T3,Nat.zero_le _,by simp only [upd,Nc,↓reduceIte]; rfl,by simp only [upd,Nc,↓reduceIte],by simp only [upd,Nc,↓reduceIte],by simp only [upd,g11,Nc,↓reduceIte],by simp only [upd,g10,Nc,↓reduceIte],rfl,hfst,hput⟩
    ·clear g9 g10 g11 hlO hObj9 hput hfst hrl hcap hlv3 s11
     rintro E1 s5 ⟨i,T4,hi,g61,g60,g59,g11,g10,hT4l,hT4,hO⟩ -
     by_cases hi' : i < P.length
     ·refine jB (Ai @g61 (Ai @g60 (Ai @eye_lt_nat (decide_eq_true hi')))) ?_
      refine wK fun K2 hK2=>?_
      refine jE ?_
      refine awp_skip ?_
      refine hK2 _ _ ?_;clear hK2 K2
      refine wK fun K3 hK3=>?_
      refine awp_block ?_
      have hge : (0 : Int)≤((i : Nat) : Int):=by omega
      have hat:=hPat i hi'
      refine jB (Ai @g61 (Ai @g59 (Ai @hge (Ai @eye_lt_nat (Ai @hi' @hat))))) ?_
      have hpi:=hpm _ (List.getElem_mem hi')
      have hps':=hps i hi'
      have hstep:=hfo i hi' M
      generalize hu : P[i] = u at *
      have hu4 : u < T4.length:=by omega
      have hu3 : u < T3.length:=by omega
      have hge2 : (0 : Int)≤((u : Nat) : Int):=by omega
      rw [← hT4,nd_get (by rw [List.length_map]; exact hu4),List.getElem_map] at hps'
      rw [← hT4] at hstep
      obtain ⟨O2,cap2,rest2,eO,hObj,hrl,hcap,h63⟩:=hO.osl (by omega)
      rw [hT4l] at eO
      injection eO with e1 _ _ _ e5
      subst e1 e5
      have hk0 : (List.drop (u * 5) (rowC cellsX T4 ++ rest2))[0]? = some (.v (.int .i64 (nd t u).kind)):=by rw [rowX_kind hu4,← hps']; rfl
      have hk4 : (List.drop (u * 5 + 4) (rowC cellsX T4 ++ rest2))[0]? = some (T4[u]).2:=by rw [rowX_unm hu4]; rfl
      have hRl : (rowC cellsX T4 ++ rest2).length = T4.length * 5 + rest2.length:=by rw [List.length_append,rowX_len]
      have hndu : nd (T4.map (·.1)) u = nd t u:=by rw [nd_get (by rw [List.length_map]; exact hu4),List.getElem_map,hps']
      have hO':=hO
      rw [← hT4l] at hO'
      have hins:=fun (ob cap' m : Nat) (l : List Int) (rest' : List AV) (c1 : l.length≤cap') (c2 : cap' < 2 ^ 63) (c3 : rest'.length = cap' - l.length) (c4 : _∨∃ c0,(T4[u]).2 = .osl ob 0 1 m c0)=>hO'.ins hu4 hObj hrl hcap h63 c1 c2 c3 c4
      have hsepx:=hO.sepR O rfl _ (List.getElem_mem hu4)
      clear hO'
      generalize hR : rowC cellsX T4 ++ rest2 = R at *
      refine jB (Ai @g10 (Ai @hge2 (Ai @hu3 @eye_lt_nat))) ?_
      by_cases hk2 : (nd t u).kind = 2
      ·refine jB (Ai @hObj (Ai @hk0 (yesI hk2))) ?_
       refine jE ?_
       have hright : (nd t u).right:=h1.nd u
       have hris:=((right_two hk2).1 hright).2.2
       have hsort:=(rising_sorted hris).imp (fun {a b} (h : a < b)=>Int.le_of_lt h)
       have hul:=rising_len hris
       have hbuf:=hO.xs.buf _ (List.getElem_mem hu4)
       rw [hps'] at hbuf
       generalize hx : (T4[u]).2 = x at *
       have hsc:=search20_calls (Γ:=Γ) (freeT t : Int) (by omega) hsort hbuf
       generalize hl : (nd t u).unm = l at *
       refine jS (Ai @g11 (Ai @hObj @hk4)) fun K hK=>?_
       refine acallk hsc ?_
       rintro r s6 ⟨rfl,rfl⟩
       refine jR hK ?_;clear hK K
       refine awp_region_two7 rfl (by simp only [Option.some.injEq,forall_eq']; decide) rfl (by simp only [Option.some.injEq,forall_eq']; decide) ?_
       intro ops
       simp only [↓DM,pval,DX,Nz,↓DN,Qa,Qb,Qc,Qd,Qe,Qf,Qg,Qh,reduceCtorEq,↓reduceIte,Na,Nb,Nc,Nk,Nf,Ng,Nh,Za,Zb,Zc,TT,g11,hObj,hk4]
       refine ⟨_,_,fun G a w hr=>insert_hop (l:=l) (i:=l.countP (· < (freeT t : Int))) (x:=(freeT t : Int)) laysI rfl rfl Tryz.underlying39 T.z3 T.c3 rfl (by kernel_rfl) (by simp) (by simp) (by simp only [aeval,upd,Nc,↓reduceIte]; exact hbuf) (by simp only [aeval,upd,Nc,↓reduceIte]) (by simp only [aeval,upd,Nc,↓reduceIte]) List.countP_le_length (by omega) (by decide) hr,?_⟩
       rintro r s7 ⟨ob,cap',rest',rfl,c1,c2,c3,hfree,rfl⟩
       simp only [aeval,upd,Nc,↓reduceIte] at hfree
       have hobO : O≠ob:=by
        rintro rfl
        rcases hfree with hf | ⟨c0,hf⟩
        ·rw [hObj] at hf; cases hf
        ·rw [hf] at hsepx; exact hsepx rfl
       simp only [↓DM,pval,DX,Nz,↓DN,Qa,Qb,Qc,Qd,Qe,Qf,Qg,Qh,reduceCtorEq,↓reduceIte,Na,Nb,Nc,Nk,Nf,Ng,Nh,Za,Zb,Zc,TT,g11,hObj,hobO]
       refine ⟨by omega,?_⟩
       have hil:=insU_len l (freeT t : Int)
       have hres:=hins ob cap' l.length (insU l (freeT t : Int)) rest' (by omega) c2 (by omega) hfree
       rw [hil] at hres
       simp only [asetAll] at hres
       unfold insU at hres
       simp only [List.map_append,List.map_cons,List.append_assoc,List.cons_append] at hres
       refine hK3 _ _ ?_;clear hK3 K3
       refine jD (Ai @g61 (eye_succM i (by omega))) ?_
       refine ⟨⟨i + 1,T4.set u ({ (T4[u]).1 with unm:=insU l (freeT t : Int) },.osl ob 0 1 (l.length + 1) cap'),by omega,by simp only [upd,Nc,↓reduceIte],by simp only [upd,g60,Nc,↓reduceIte],by simp only [upd,g59,Nc,↓reduceIte],by simp only [upd,g11,Nc,↓reduceIte],by simp only [upd,g10,Nc,↓reduceIte],by rw [List.length_set]; exact hT4l,?_,by rw [← hT4l]; exact hres⟩,?_⟩
       ·rw [List.map_set,hstep]
        unfold putU
        rw [hndu,if_pos hk2,hps',hl]
       ·simp only [g61,upd,↓reduceIte]
        omega
      ·refine jB (Ai @hObj (Ai @hk0 (notI hk2))) ?_
       refine jF ?_
       refine awp_skip ?_
       simp only [blockQ,thenQ,if_true,if_false]
       refine hK3 _ _ ?_;clear hK3 K3
       refine jD (Ai @g61 (eye_succM i (by omega))) ?_
       refine ⟨⟨i + 1,T4,by omega,by simp only [upd,Nc,↓reduceIte],by simp only [upd,g60,Nc,↓reduceIte],by simp only [upd,g59,Nc,↓reduceIte],by simp only [upd,g11,Nc,↓reduceIte],by simp only [upd,g10,Nc,↓reduceIte],hT4l,?_,hO⟩,?_⟩
       ·rw [hstep]
        unfold putU
        rw [hndu,if_neg hk2]
       ·simp only [g61,upd,↓reduceIte]
        omega
     ·refine jB (Ai @g61 (Ai @g60 (Ai @eye_lt_nat (decide_eq_false hi')))) ?_
      refine wK fun K2 hK2=>?_
      refine jF ?_
      refine awp_exit ?_
      simp only [thenQ,blockQ,if_true]
      refine hK _ _ ?_;clear hK hK2 K2 K
      obtain rfl : i = P.length:=by omega
      rw [hfull] at hT4
      refine jB (Ai @g10 @g11) ?_
      refine jI ?_
      exact ⟨_,_,AV.weak.refl _,AS.le.refl _,.inr ⟨h32,_,_,rfl,hT4,hO⟩⟩
   by_cases hfl : freeT t = lvs t
   ·refine jS (Ai @g11 @g0) fun K hK=>?_
    refine acallk (hlv _) ?_
    rintro r s8 ⟨rfl,rfl⟩
    refine jV (natN hfl) hK ?_;clear hK K
    refine jE ?_
    by_cases h32 : freeT t = 32
    ·refine wK fun K5 hK5=>?_
     refine jB (Ai @g11 (yesI (show (freeT t : Int) = 32 by omega))) ?_
     refine jE ?_
     refine jA ?_
     refine jI ?_
     exact ⟨_,_,AV.weak.refl _,AS.le.refl _,.inl ⟨h32,rfl,hT.le⟩⟩
    ·refine wK fun K5 hK5=>?_
     refine jB (Ai @g11 (notI (show (freeT t : Int)≠32 by omega))) ?_
     refine jF ?_
     refine awp_skip ?_
     refine hK5 _ _ ?_;clear hK5 K5
     refine awp_region_at4 rfl (by simp) ?_
     intro ops
     simp only [↓DM,pval,DX,Nz,↓DN,Qa,Qb,Qc,Qd,Qe,Qf,Qg,Qh,reduceCtorEq,↓reduceIte,Na,Nb,Nc,Nk,Nf,Ng,Nh,Za,Zb,Zc,TT,g10,g0,eye_succM t.length (by omega)]
     refine ⟨_,fun G a w hr=>append_made_own_res (n:=t.length) (k:=t.length + 1) (cs:=rowC cellsX TS) (e:=69) rfl Tryz.underlying26 Tryz.underlying3 T.z69 (by rw [T.c69]; decide) (by rw [T.c69]; rfl) rfl (by simp only [aeval,upd,Nc,↓reduceIte]) (by omega) (by rw [T.b69]; omega) (by omega) (by rw [T.c69,← hTl]; simp only [aeval,upd,Nc,↓reduceIte]; exact hT.row) hr.eval hr.st,?_⟩
     rw [T.c69]
     rintro r9 s9 ⟨ob,cap,rest,rfl,hcap,h63,hrl,hfree,rfl⟩
     simp only [aeval,upd,Nc,↓reduceIte] at hfree
     simp only [↓DM,pval,DX,Nz,↓DN,Qa,Qb,Qc,Qd,Qe,Qf,Qg,Qh,reduceCtorEq,↓reduceIte,Na,Nb,Nc,Nk,Nf,Ng,Nh,Za,Zb,Zc,TT,g11]
     have hgr:=hT.grow (ob:=ob) (cap:=cap) (by rw [hTl]; exact hfree) h63 t.length rest (by rw [hTl]; omega) (by rw [hTl]; exact hrl)
     have hm : moreT t (freeT t) = t ++ List.replicate (t.length + 1) NodeV.nought:=if_pos hfl
     have hgf:=grow_fst hTS (t.length + 1)
     rw [← hm] at hgf
     have hwk:=grow_weak (t.length + 1) TS rest
     have hts:=AS.tells_obj (Γ:=Γ) (AS.set_objs_same s8 ob _) hwk
     rw [AS.set_set,List.append_assoc] at hts
     rw [hTl] at hgr
     exact hmain _ _ _ _ _ hts h32 (by simp only [upd,g11,Nc,↓reduceIte]) (by simp only [upd,Nc,↓reduceIte]) (by simp only [upd,g9,Nc,↓reduceIte]) hgf hgr
   ·have hm : moreT t (freeT t) = t:=if_neg hfl
    rw [hm] at hmain
    refine jS (Ai @g11 @g0) fun K hK=>?_
    refine acallk (hlv _) ?_
    rintro r s8 ⟨rfl,rfl⟩
    refine jV (natF hfl) hK ?_;clear hK K
    refine jF ?_
    refine awp_skip ?_
    refine hmain _ _ _ _ TS (AS.tells.refl _) (by omega) (by simp only [upd,g11,Nc,↓reduceIte]) (by simp only [upd,g10,Nc,↓reduceIte]) (by simp only [upd,g9,Nc,↓reduceIte]) hTS hT
end Go.Proofs.YtfjlmkifiihgkaaGreatDoor
namespace Go.Proofs.YtfjlmkifiihgkaaGreatDoor
open Go Go.AM Go.Proofs
variable {Γ : Nat→List AV}
theorem add20_calls (hG : Γ 3 = dB64.map u8C) (t : List NodeV) (ht : TreeW t) (name : List UInt8) (key : Nat) (hn : name.length≤2 ^ 45) (s : AS) :
  ACalls Tryz.prog Γ 53 [treeV t,bytesV name .any,.v (.int .u64 key)] s (fun r s'=>r = .tup [treeN (addR t name key).1,.v (.int .i64 (addR t name key).2.1),.v (.int .i64 (addR t name key).2.2)]∧s.le s'):=by
 have hc:=fun s=>leafOf20_calls (Γ:=Γ) name key hn s
 have hr:=fun s=>right20_calls (Γ:=Γ) hG t ht s
 by_cases h1 : rightT t
 ·have hlr:=fun s=>nodeRight_calls (Γ:=Γ) (leafN name key) (by simp [leafN]) s
  by_cases h2 : (leafN name key).right
  ·have hnm:=fun s=>named20_calls (Γ:=Γ) t ht.1 name 0 (by decide) s
   by_cases h3 : 0≤namedI t name 0
   ·have hres : addR t name key = ([],0,31):=by unfold addR; rw [if_neg (fun h=>h h1),if_neg (fun h=>h h2),if_pos h3]
    rw [hres]
    generalize namedI t name 0 = nm at *
    refine acalls_body Tryz.func53 rfl Tryz.ntmps53 Tryz.results53 (by simp) ?_
    rw [decide_eq_true h1] at hr
    have hcells : (leafN name key).cells = [.v (.int .i64 1),bytesV name .any,.v (.int .u64 key),bytesV [] .any,intsV [] .any]:=rfl
    rw [decide_eq_true h2] at hlr
    rw [hcells] at hc hlr
    unfold treeV at *
    generalize rowC NodeV.cells t = X at *
    unfold bytesV intsV at *
    rw [show (((0 : Nat) : Int)) = 0 from rfl] at hnm
    refine jA ?_
    refine awp_reg_frz 9 (by decide) ?_
    intro K hK
    simp only [↓DM,pval,DX,Nz,↓DN,Qa,Qb,Qc,Qd,Qe,Qf,Qg,Qh,reduceCtorEq,↓reduceIte,Na,Nb,Nc,Nk,Nf,Ng,Nh,Za,Zb,Zc,TT]
    refine acallk (hc _) ?_
    rintro r s1 ⟨rfl,rfl⟩
    simp only [↓DM,pval,DX,Nz,↓DN,Qa,Qb,Qc,Qd,Qe,Qf,Qg,Qh,reduceCtorEq,↓reduceIte,Na,Nb,Nc,Nk,Nf,Ng,Nh,Za,Zb,Zc,TT]
    intro o ho
    refine hK _ _ o _ (by simp only [upd,Nc,↓reduceIte]) ho ?_
    clear hK K ho
    refine wK fun K hK=>?_
    refine awp_block ?_
    refine jK (hr _) ?_;rintro s2 rfl
    refine jF ?_
    refine jK (hlr _) ?_;rintro s3 rfl
    refine jF ?_
    refine jQ fun K hK=>?_
    refine acallk (hnm _) ?_
    rintro r s4 ⟨rfl,rfl⟩
    refine jV (Ai @h3 (decide_eq_true h3)) hK ?_;clear hK K
    refine jE ?_
    refine jA ?_
    refine jI ?_
    exact ⟨_,_,AV.weak.refl _,AS.le.refl _,rfl,AS.le.refl _⟩
   ·refine ACalls.settle (addMain_calls hG t ht name key hn h1 h2 h3 s) ?_
    have hres : addR t name key = if freeT t = 32 then ([],0,21) else (addAt t (freeT t) (leafN name key),freeT t,0):=by
     unfold addR
     rw [if_neg (fun h=>h h1),if_neg (fun h=>h h2),if_neg h3]
    rw [hres]
    rintro r s1 (⟨h32,rfl,hle⟩ | ⟨h32,X,T,rfl,hT,hO⟩)
    ·rw [if_pos h32]
     exact ⟨s1,_,Settles.refl _,rfl,hle⟩
    ·rw [if_neg h32]
     obtain ⟨s2,k1,k2⟩:=hO.settle (Γ:=Γ)
     refine ⟨s2,_,Settles.tupL _ k1,?_,k2⟩
     rw [hT]
     have hne : addAt t (freeT t) (leafN name key)≠[]:=by
      intro e
      have hl:=h1.len
      obtain ⟨L',_,q2,q3,_⟩:=moreT_shape hl.2 hl.1 freeT_le h32
      have h5:=addAt_len (t:=t) (freeT t) (leafN name key)
      have h6:=q2.le
      rw [e,q3] at h5
      simp at h5
      omega
     simp only [treeN,if_neg hne]
  ·have hres : addR t name key = ([],0,2):=by unfold addR; rw [if_neg (fun h=>h h1),if_pos h2]
   rw [hres]
   refine acalls_body Tryz.func53 rfl Tryz.ntmps53 Tryz.results53 (by simp) ?_
   rw [decide_eq_true h1] at hr
   have hcells : (leafN name key).cells = [.v (.int .i64 1),bytesV name .any,.v (.int .u64 key),bytesV [] .any,intsV [] .any]:=rfl
   rw [decide_eq_false h2] at hlr
   rw [hcells] at hc hlr
   unfold treeV at *
   generalize rowC NodeV.cells t = X at *
   unfold bytesV intsV at *
   refine jA ?_
   refine awp_reg_frz 9 (by decide) ?_
   intro K hK
   simp only [↓DM,pval,DX,Nz,↓DN,Qa,Qb,Qc,Qd,Qe,Qf,Qg,Qh,reduceCtorEq,↓reduceIte,Na,Nb,Nc,Nk,Nf,Ng,Nh,Za,Zb,Zc,TT]
   refine acallk (hc _) ?_
   rintro r s1 ⟨rfl,rfl⟩
   simp only [↓DM,pval,DX,Nz,↓DN,Qa,Qb,Qc,Qd,Qe,Qf,Qg,Qh,reduceCtorEq,↓reduceIte,Na,Nb,Nc,Nk,Nf,Ng,Nh,Za,Zb,Zc,TT]
   intro o ho
   refine hK _ _ o _ (by simp only [upd,Nc,↓reduceIte]) ho ?_
   clear hK K ho
   refine wK fun K hK=>?_
   refine awp_block ?_
   refine jK (hr _) ?_;rintro s2 rfl
   refine jF ?_
   refine jK (hlr _) ?_;rintro s3 rfl
   refine jE ?_
   refine jA ?_
   refine jI ?_
   exact ⟨_,_,AV.weak.refl _,AS.le.refl _,rfl,AS.le.refl _⟩
 ·have hres : addR t name key = ([],0,40):=if_pos h1
  rw [hres]
  refine acalls_body Tryz.func53 rfl Tryz.ntmps53 Tryz.results53 (by simp) ?_
  rw [decide_eq_false h1] at hr
  have hcells : (leafN name key).cells = [.v (.int .i64 1),bytesV name .any,.v (.int .u64 key),bytesV [] .any,intsV [] .any]:=rfl
  rw [hcells] at hc
  unfold treeV at *
  generalize rowC NodeV.cells t = X at *
  unfold bytesV intsV at *
  refine jA ?_
  refine awp_reg_frz 9 (by decide) ?_
  intro K hK
  simp only [↓DM,pval,DX,Nz,↓DN,Qa,Qb,Qc,Qd,Qe,Qf,Qg,Qh,reduceCtorEq,↓reduceIte,Na,Nb,Nc,Nk,Nf,Ng,Nh,Za,Zb,Zc,TT]
  refine acallk (hc _) ?_
  rintro r s1 ⟨rfl,rfl⟩
  simp only [↓DM,pval,DX,Nz,↓DN,Qa,Qb,Qc,Qd,Qe,Qf,Qg,Qh,reduceCtorEq,↓reduceIte,Na,Nb,Nc,Nk,Nf,Ng,Nh,Za,Zb,Zc,TT]
  intro o ho
  refine hK _ _ o _ (by simp only [upd,Nc,↓reduceIte]) ho ?_
  clear hK K ho
  refine wK fun K hK=>?_
  refine awp_block ?_
  refine jK (hr _) ?_;rintro s2 rfl
  refine jE ?_
  refine jA ?_
  refine jI ?_
  exact ⟨_,_,AV.weak.refl _,AS.le.refl _,rfl,AS.le.refl _⟩
end Go.Proofs.YtfjlmkifiihgkaaGreatDoor
namespace Go.Proofs.YtfjlmkifiihgkaaGreatDoor
open Go Go.AM Go.Proofs
variable {Γ : Nat→List AV}
theorem blanked20_calls (hG : Γ 3 = dB64.map u8C) (t : List NodeV) (ht : TreeW t) (h1 : rightT t) (leaf : Nat) (hleaf : leaf < lvs t) (s : AS) :
  ACalls Tryz.prog Γ 133 [treeV t,.v (.int .i64 leaf)] s (fun r s'=>∃ TS,TS.map (·.1) = blankT t leaf∧TreeO s s' r TS):=by
 have hcl:=fun s=>clone20_calls (Γ:=Γ) t (by have:=h1.len; have:=lvs_le t; omega) (fun n hn=>by have:=right_small (h1.nodes hn); unfold NodeW; omega) s
 have hlv:=fun s=>leaves_calls (Γ:=Γ) t ht.1 s
 have hlen:=h1.len
 have hlvs:=lvs_le t
 have hpc:=fun s=>path18_calls (Γ:=Γ) hG leaf (lvs t) hlen.2 hleaf s
 have hpm:=fun x hx=>path_mem hlen.2 hleaf x hx
 have hpl:=path_len hlen.2 hleaf
 have hb : blankT t leaf = (pathL leaf (lvs t)).foldl (fun t u=>t.set u NodeV.nought) t:=rfl
 rw [hb]
 refine acalls_body Tryz.func133 rfl Tryz.ntmps133 Tryz.results133 (by simp) ?_
 unfold treeV at *
 generalize rowC NodeV.cells t = X at *
 refine jA ?_
 refine jQ fun K hK=>?_
 refine acallk (hcl _) ?_
 rintro r s5 ⟨TS,hTS,hT⟩
 refine jR hK ?_;clear hK K
 refine wK fun K hK=>?_
 refine jQ fun K hK=>?_
 refine acallk (hlv _) ?_
 rintro r s6 ⟨rfl,rfl⟩
 simp only [↓DM,pval,DX,Nz,↓DN,Qa,Qb,Qc,Qd,Qe,Qf,Qg,Qh,reduceCtorEq,↓reduceIte,Na,Nb,Nc,Nk,Nf,Ng,Nh,Za,Zb,Zc,TT]
 refine acallk (hpc _) ?_
 rintro r s7 ⟨rfl,rfl⟩
 unfold intsV
 have hTl : TS.length = t.length:=by have:=congrArg List.length hTS; simpa using this
 have hPn:=natsI_len (pathL leaf (lvs t))
 have hPat : ∀ (i : Nat) (hi : i < (pathL leaf (lvs t)).length),List.take 1 (List.drop i ((natsI (pathL leaf (lvs t))).map intC)) = [.v (.int .i64 (((pathL leaf (lvs t))[i] : Nat) : Int))]:=by
  intro i hi
  rw [eat_int (by rw [natsI_len]; exact hi)]
  simp [natsI]
 have hfo:=fun (i : Nat) (hi : i < (pathL leaf (lvs t)).length) (M : List NodeV)=>foldl_take_succ (fun t u=>t.set u NodeV.nought) M hi
 have hfull : (pathL leaf (lvs t)).take (pathL leaf (lvs t)).length = pathL leaf (lvs t):=List.take_length
 generalize natsI (pathL leaf (lvs t)) = PI at *
 generalize pathL leaf (lvs t) = P at *
 rw [hPn]
 refine jR hK ?_;clear hK K
 refine awp_block ?_
 refine awp_loop (fun E s2=>∃ (i : Nat) (T4 : List (NodeV × AV)),i≤P.length∧E 15 = .v (.int .i64 i)∧E 14 = .v (.int .i64 P.length)∧E 13 = .sl 1 P.length (PI.map intC) .any∧E 5 = r∧T4.length = t.length∧T4.map (·.1) = (P.take i).foldl (fun t u=>t.set u NodeV.nought) t∧TreeO s s2 r T4)
  (fun E _=>match E 15 with | .v (.int _ i)=>P.length - i.toNat | _=>0) ?_ ?_
 ·exact ⟨0,TS,Nat.zero_le _,by simp only [upd,Nc,↓reduceIte]; rfl,by simp only [upd,Nc,↓reduceIte],by simp only [upd,Nc,↓reduceIte],by simp only [upd,Nc,↓reduceIte],hTl,hTS,hT⟩
 ·clear hT hTS hTl s7 hcl hlv hpc
  rintro E1 s5 ⟨i,T4,hi,g15,g14,g13,g5,hT4l,hT4,hO⟩ -
  by_cases hi' : i < P.length
  ·refine jB (Ai @g15 (Ai @g14 (Ai @eye_lt_nat (decide_eq_true hi')))) ?_
   refine wK fun K2 hK2=>?_
   refine jE ?_
   refine awp_skip ?_
   refine hK2 _ _ ?_;clear hK2 K2
   refine wK fun K3 hK3=>?_
   refine awp_block ?_
   have hge : (0 : Int)≤((i : Nat) : Int):=by omega
   have hat:=hPat i hi'
   refine jB (Ai @g15 (Ai @g13 (Ai @hge (Ai @eye_lt_nat (Ai @hi' @hat))))) ?_
   have hpi:=hpm _ (List.getElem_mem hi')
   have hstep:=hfo i hi' t
   generalize hu : P[i] = u at *
   have hu4 : u < T4.length:=by omega
   have hge2 : (0 : Int)≤((u : Nat) : Int):=by omega
   obtain ⟨O2,cap2,rest2,rfl,hObj,hrl,hcap,h63⟩:=hO.osl (by omega)
   have hRl : (rowC cellsX T4 ++ rest2).length = T4.length * 5 + rest2.length:=by rw [List.length_append,rowX_len]
   have hput:=hO.put0 (p:=pN) hu4 hObj hrl hcap h63 rfl rfl
   have hwk:=aset_weak (R:=rowC cellsX T4 ++ rest2) (off:=u * 5) (a:=zN) (b:=cellsX pN) rfl (by rw [hRl]; show u * 5 + 5≤_; omega) zN_weak1
   have hts:=AS.tells_set (Γ:=Γ) (s:=s5) (O:=O2) hwk
   have hs : asetAll (rowC cellsX T4 ++ rest2) (u * 5) zN = asetAll (rowC cellsX T4 ++ rest2) (u * 5) [.v (.int .i64 0),.v (.slice none 0 0),.v (.int .u64 0),.v (.slice none 0 0),.v (.slice none 0 0)]:=rfl
   rw [hs] at hts
   simp only [asetAll] at hts
   generalize hR : rowC cellsX T4 ++ rest2 = R at *
   refine jU (Ai @g5 (Ai @hge2 (Ai @hu4 (Ai @eye_lt_nat @hObj)))) fun K hK=>?_
   refine ⟨by omega,hK _ _ ?_⟩
   clear hK K
   simp only [blockQ,thenQ,if_true,if_false]
   refine hK3 _ _ ?_;clear hK3 K3
   refine awp_tells hts ?_
   refine jD (Ai @g15 (eye_succM i (by omega))) ?_
   refine ⟨⟨i + 1,T4.set u pN,by omega,by simp only [upd,Nc,↓reduceIte],by simp only [upd,g14,Nc,↓reduceIte],by simp only [upd,g13,Nc,↓reduceIte],by simp only [upd,g5,Nc,↓reduceIte],by rw [List.length_set]; exact hT4l,?_,hput⟩,?_⟩
   ·rw [List.map_set,hstep,hT4]; rfl
   ·simp only [g15,upd,↓reduceIte]
    omega
  ·refine jB (Ai @g15 (Ai @g14 (Ai @eye_lt_nat (decide_eq_false hi')))) ?_
   refine wK fun K2 hK2=>?_
   refine jF ?_
   refine awp_exit ?_
   simp only [thenQ,blockQ,if_true]
   refine hK _ _ ?_;clear hK hK2 K2 K
   obtain rfl : i = P.length:=by omega
   rw [hfull] at hT4
   refine jB @g5 ?_
   refine jI ?_
   exact ⟨_,_,AV.weak.refl _,AS.le.refl _,T4,hT4,hO⟩
end Go.Proofs.YtfjlmkifiihgkaaGreatDoor
namespace Go.Proofs.YtfjlmkifiihgkaaGreatDoor
open Go Go.AM Go.Proofs
variable {Γ : Nat→List AV}
theorem updMain_calls (hG : Γ 3 = dB64.map u8C) (t : List NodeV) (ht : TreeW t) (leaf : Nat) (key : Nat) (h1 : rightT t) (h2 : memI t (leaf : Int)) (h3 : keyR key) (s : AS) :
  ACalls Tryz.prog Γ 62 [treeV t,.v (.int .i64 leaf),.v (.int .u64 key)] s (fun r s'=>∃ X T,r = .tup [X,.v (.int .i64 0)]∧T.map (·.1) = updT t leaf key∧TreeO s s' X T):=by
 have hr:=fun s=>right20_calls (Γ:=Γ) hG t ht s
 have hm:=fun s=>member_calls (Γ:=Γ) t ht.1 (leaf : Int) s
 have hk:=fun s=>powerRight_calls (Γ:=Γ) key s
 have hlen:=h1.len
 have hlvs:=lvs_le t
 have hleaf:=((memN_iff rfl _).1 h2).1
 have hbl:=fun s=>blanked20_calls (Γ:=Γ) hG t ht h1 leaf hleaf s
 have hat:=node_at (t:=t) (i:=2 * leaf) (by omega)
 have hnl:=(right_small (h1.nd (2 * leaf))).1
 have hN : nd t (2 * leaf) = nd t (2 * leaf):=rfl
 have hlf:=fun s=>leafOf20N_calls (Γ:=Γ) (nd t (2 * leaf)).name key (by omega) s
 rw [decide_eq_true h1] at hr
 rw [decide_eq_true h2] at hm
 rw [decide_eq_true h3.1,decide_eq_true h3.2] at hk
 have hupd : updT t leaf key = (blankT t leaf).set (2 * leaf) (leafN (nd t (2 * leaf)).name key):=rfl
 have hbll : (blankT t leaf).length = t.length:=by unfold blankT; rw [blankL_len]
 rw [hupd]
 clear hupd
 unfold treeV at *
 generalize rowC NodeV.cells t = X at *
 generalize nd t (2 * leaf) = N at *
 obtain ⟨nk,nm,ny,npa,nu⟩:=N
 unfold NodeV.cells at hat
 simp only at hlf hnl ⊢
 refine acalls_body Tryz.func62 rfl Tryz.ntmps62 Tryz.results62 (by simp) ?_
 unfold bytesV at *
 refine jA ?_
 refine wK fun K hK=>?_
 refine awp_block ?_
 refine jK (hr _) ?_;rintro s1 rfl
 refine jF ?_
 refine jK (hm _) ?_;rintro s2 rfl
 refine jF ?_
 refine jK (hk _) ?_;rintro s3 rfl
 refine jF ?_
 refine awp_skip ?_
 refine hK _ _ ?_;clear hK K
 refine jQ fun K hK=>?_
 refine acallk (hbl _) ?_
 rintro r s5 ⟨TS,hTS,hT⟩
 refine jR hK ?_;clear hK K
 have hTl : TS.length = t.length:=by have:=congrArg List.length hTS; rw [hbll] at this; simpa using this
 have hge : (0 : Int)≤((2 * leaf : Nat) : Int):=by omega
 have e2v:=imul2_nat leaf (by omega)
 have hi2 : 2 * leaf < t.length:=by omega
 have hi3 : 2 * leaf < TS.length:=by omega
 obtain ⟨O2,cap2,rest2,rfl,hObj,hrl,hcap,h63⟩:=hT.osl (by omega)
 have hRl : (rowC cellsX TS ++ rest2).length = TS.length * 5 + rest2.length:=by rw [List.length_append,rowX_len]
 have hput:=hT.put0 (p:=(leafN nm key,nilS)) hi3 hObj hrl hcap h63 rfl rfl
 have hcx : cellsX (leafN nm key,nilS) = [.v (.int .i64 1),.sl 1 nm.length (nm.map byteV) .any,.v (.int .u64 key),.sl 1 0 [] .any,.v (.slice none 0 0)]:=rfl
 rw [hcx] at hput
 simp only [asetAll] at hput
 generalize hR : rowC cellsX TS ++ rest2 = R at *
 unfold nilS at *
 refine jS (Ai @e2v (Ai @hge (Ai @hi2 (Ai @eye_lt_nat @hat)))) fun K hK=>?_
 refine acallk (hlf _) ?_
 rintro r s6 ⟨rfl,rfl⟩
 simp only [↓DM,pval,DX,Nz,↓DN,Qa,Qb,Qc,Qd,Qe,Qf,Qg,Qh,reduceCtorEq,↓reduceIte,Na,Nb,Nc,Nk,Nf,Ng,Nh,Za,Zb,Zc,TT,e2v,hge,hi3,eye_lt_nat,hObj]
 refine ⟨by omega,hK _ _ ?_⟩
 clear hK K
 refine jA ?_
 refine jI ?_
 refine ⟨_,_,AV.weak.refl _,AS.le.refl _,_,_,rfl,?_,hput⟩
 rw [List.map_set,hTS]
theorem treeN_ne {t : List NodeV} (h : t.length≠0) : treeN t = treeV t:=if_neg (fun e=>h (by rw [e]; rfl))
theorem update20_calls (hG : Γ 3 = dB64.map u8C) (t : List NodeV) (ht : TreeW t) (leaf : Int) (key : Nat) (s : AS) :
  ACalls Tryz.prog Γ 62 [treeV t,.v (.int .i64 leaf),.v (.int .u64 key)] s (fun r s'=>r = .tup [treeN (updR t leaf key).1,.v (.int .i64 (updR t leaf key).2)]∧s.le s'):=by
 have hr:=fun s=>right20_calls (Γ:=Γ) hG t ht s
 have hm:=fun s=>member_calls (Γ:=Γ) t ht.1 leaf s
 have hk:=fun s=>powerRight_calls (Γ:=Γ) key s
 by_cases h1 : rightT t
 ·by_cases h2 : memI t leaf
  ·by_cases h3 : keyR key
   ·obtain ⟨l,rfl⟩:=Int.eq_ofNat_of_zero_le h2.1
    have hres : updR t (l : Int) key = (updT t l key,0):=by
     unfold updR
     rw [if_neg (fun h=>h h1),if_neg (fun h=>h h2),if_neg (fun h=>h h3),Int.toNat_natCast]
    rw [hres]
    refine ACalls.settle (updMain_calls hG t ht l key h1 h2 h3 s) ?_
    rintro r s1 ⟨X,T,rfl,hT,hO⟩
    obtain ⟨s2,k1,k2⟩:=hO.settle (Γ:=Γ)
    refine ⟨s2,_,Settles.tupL _ k1,?_,k2⟩
    rw [hT,treeN_ne]
    rw [show (updT t l key).length = t.length from putT_len _ _ _]
    have:=h1.len
    have:=this.2.le
    omega
   ·have hres : updR t leaf key = ([],2):=by
     unfold updR
     rw [if_neg (fun h=>h h1),if_neg (fun h=>h h2),if_pos h3]
    rw [hres]
    rw [decide_eq_true h1] at hr
    rw [decide_eq_true h2] at hm
    have hkf : (decide (2≤(key : Int)) && decide ((key : Int)≤2305843009213693949)) = false:=by
     rw [Bool.and_eq_false_iff,decide_eq_false_iff_not,decide_eq_false_iff_not]
     unfold keyR at h3
     omega
    rw [hkf] at hk
    refine acalls_body Tryz.func62 rfl Tryz.ntmps62 Tryz.results62 (by simp) ?_
    unfold treeV at *
    generalize rowC NodeV.cells t = X at *
    refine jA ?_
    refine wK fun K hK=>?_
    refine awp_block ?_
    refine jK (hr _) ?_;rintro s1 rfl
    refine jF ?_
    refine jK (hm _) ?_;rintro s2 rfl
    refine jF ?_
    refine jK (hk _) ?_;rintro s3 rfl
    refine jE ?_
    refine jA ?_
    refine jI ?_
    exact ⟨_,_,AV.weak.refl _,AS.le.refl _,rfl,AS.le.refl _⟩
  ·have hres : updR t leaf key = ([],43):=by
    unfold updR
    rw [if_neg (fun h=>h h1),if_pos h2]
   rw [hres]
   rw [decide_eq_true h1] at hr
   rw [decide_eq_false h2] at hm
   refine acalls_body Tryz.func62 rfl Tryz.ntmps62 Tryz.results62 (by simp) ?_
   unfold treeV at *
   generalize rowC NodeV.cells t = X at *
   refine jA ?_
   refine wK fun K hK=>?_
   refine awp_block ?_
   refine jK (hr _) ?_;rintro s1 rfl
   refine jF ?_
   refine jK (hm _) ?_;rintro s2 rfl
   refine jE ?_
   refine jA ?_
   refine jI ?_
   exact ⟨_,_,AV.weak.refl _,AS.le.refl _,rfl,AS.le.refl _⟩
 ·have hres : updR t leaf key = ([],40):=if_pos h1
  rw [hres]
  rw [decide_eq_false h1] at hr
  refine acalls_body Tryz.func62 rfl Tryz.ntmps62 Tryz.results62 (by simp) ?_
  unfold treeV at *
  generalize rowC NodeV.cells t = X at *
  refine jA ?_
  refine wK fun K hK=>?_
  refine awp_block ?_
  refine jK (hr _) ?_;rintro s1 rfl
  refine jE ?_
  refine jA ?_
  refine jI ?_
  exact ⟨_,_,AV.weak.refl _,AS.le.refl _,rfl,AS.le.refl _⟩
end Go.Proofs.YtfjlmkifiihgkaaGreatDoor
namespace Go.Proofs.YtfjlmkifiihgkaaGreatDoor
open Go Go.AM Go.Proofs
variable {Γ : Nat→List AV}
theorem nodesCloneO_calls {s : AS} {O n cap : Nat} {cs rest : List AV} (ho : s.objs O = some (cs ++ rest)) (hcl : cs.length = n * 5) (h0 : n≠0) (hn2 : n≤2 ^ 30) (hone : cs.all AV.one = true) :
  ACalls Tryz.prog Γ 135 [.osl O 0 5 n cap] s (fun r s'=>∃ ob cap' rest',s.objs ob = none∧r = .osl ob 0 5 n cap'∧n≤cap'∧cap' < 2 ^ 63∧rest'.length = (cap' - n) * 5∧s' = s.set ob (cs ++ rest')):=by
 refine acalls_body Tryz.func135 rfl Tryz.ntmps135 Tryz.results135 (by simp) ?_
 have hsrc : asrc 5 s (.osl O 0 5 n cap) = some (n,cs):=by
  simp only [asrc,if_true,ho]
  rw [if_pos (by rw [List.length_append,hcl]; omega),List.drop_zero,← hcl,List.take_left]
 refine jA ?_
 refine wK fun K hK=>?_
 refine jA ?_
 refine jF ?_
 refine awp_skip ?_
 refine hK _ _ ?_;clear hK K
 refine awp_reg_at2 rfl (by decide) ?_
 intro ops
 simp only [↓DM,pval,DX,Nz,↓DN,Qa,Qb,Qc,Qd,Qe,Qf,Qg,Qh,reduceCtorEq,↓reduceIte,Na,Nb,Nc,Nk,Nf,Ng,Nh,Za,Zb,Zc,TT]
 refine ⟨_,fun G a w hr=>append_own_res (n:=0) (m:=n) (cs:=[]) (ds:=cs) (e:=69) rfl Tryz.underlying26 (by simp only [↓DN,Qa,Qb,Qc,Qd,Qe,Qf,Qg,Qh,reduceCtorEq,↓reduceIte,Na,Nb,Nc,Nk,Nf,Ng,Nh,Za,Zb,Zc,TT]; try rfl) T.z69 (by rw [T.c69]; decide) (by rw [T.c69]; rfl) (by rw [T.c69]; simp only [aeval,upd,Nc,↓reduceIte]; exact hsrc) h0 (by rw [T.b69]; omega) (by omega) hone (by rw [T.c69]; exact .inl ⟨rfl,rfl,.inr (.inr rfl)⟩) hr.eval hr.st,?_⟩
 rw [T.c69]
 rintro r s1 ⟨ob,cap',rest',rfl,hcap,h63,hrl,hob,rfl⟩
 simp only [↓DM,pval,DX,Nz,↓DN,Qa,Qb,Qc,Qd,Qe,Qf,Qg,Qh,reduceCtorEq,↓reduceIte,Na,Nb,Nc,Nk,Nf,Ng,Nh,Za,Zb,Zc,TT]
 have hob : s.objs ob = none:=by
  rcases hob with h | ⟨_,h⟩
  ·exact h
  ·simp [aeval,upd] at h
 rw [Nat.zero_add] at *
 refine jI ?_
 exact ⟨_,_,AV.weak.refl _,AS.le.refl _,ob,cap',rest',hob,rfl,hcap,h63,hrl,rfl⟩
theorem iquo_two (m : Nat) (h : m < 2 ^ 62) : iquo .i64 (m : Int) 2 = ((m / 2 : Nat) : Int):=iquo_nat m (by omega)
theorem remMain_calls (hG : Γ 3 = dB64.map u8C) (t : List NodeV) (ht : TreeW t) (leaf : Nat) (h1 : rightT t) (h2 : memI t (leaf : Int)) (h3 : cntN (memI t) 0 (lvs t)≠1) (s : AS) :
  ACalls Tryz.prog Γ 54 [treeV t,.v (.int .i64 leaf)] s (fun r s'=>∃ X T,r = .tup [X,.v (.int .i64 0)]∧T.map (·.1) = rmT t leaf∧TreeO s s' X T):=by
 have hr:=fun s=>right20_calls (Γ:=Γ) hG t ht s
 have hm:=fun s=>member_calls (Γ:=Γ) t ht.1 (leaf : Int) s
 have hlv:=fun s=>leaves_calls (Γ:=Γ) t ht.1 s
 have hlen:=h1.len
 have hlvs:=lvs_le t
 have hms:=fun s=>members_calls (Γ:=Γ) t ht.1 0 (lvs t) (by omega) s
 have hleaf:=((memN_iff rfl _).1 h2).1
 have hbl:=fun s=>blanked20_calls (Γ:=Γ) hG t ht h1 leaf hleaf s
 rw [decide_eq_true h1] at hr
 rw [decide_eq_true h2] at hm
 rw [Nat.zero_add] at hms
 have hbll : (blankT t leaf).length = t.length:=by unfold blankT; rw [blankL_len]
 have hput0 : (blankT t leaf).set (2 * leaf) NodeV.nought = putT t leaf NodeV.nought:=rfl
 have hgood:=putT_good h1.good.1 hleaf nought_right (.inl rfl)
 have hrm : rmT t leaf = shrT 6 (putT t leaf NodeV.nought):=rfl
 rw [hrm]
 have hput1:=putT_len t leaf NodeV.nought
 generalize putT t leaf NodeV.nought = B at *
 refine acalls_body Tryz.func54 rfl Tryz.ntmps54 Tryz.results54 (by simp) ?_
 unfold treeV at *
 generalize rowC NodeV.cells t = X at *
 have e1 : isub .i64 ((lvs t : Nat) : Int) 1 = ((lvs t : Nat) : Int) - 1:=isub_i64 (by omega)
 refine jA ?_
 refine jK (hlv _) ?_;rintro s0 rfl
 refine wK fun K hK=>?_
 refine awp_block ?_
 refine jK (hr _) ?_;rintro s1 rfl
 refine jF ?_
 refine jK (hm _) ?_;rintro s2 rfl
 refine jF ?_
 refine jS @e1 fun K hK=>?_
 refine acallk (hms _) ?_
 rintro r s3 ⟨rfl,rfl⟩
 refine jV (notI (show ((cntN (memI t) 0 (lvs t) : Nat) : Int)≠1 by omega)) hK ?_;clear hK K
 refine jF ?_
 refine awp_skip ?_
 refine hK _ _ ?_;clear hK K
 refine jQ fun K hK=>?_
 refine acallk (hbl _) ?_
 rintro r s5 ⟨TS,hTS,hT⟩
 refine jR hK ?_;clear hK K
 have hTl : TS.length = t.length:=by have:=congrArg List.length hTS; rw [hbll] at this; simpa using this
 have hge : (0 : Int)≤((2 * leaf : Nat) : Int):=by omega
 have e2v:=imul2_nat leaf (by omega)
 have hi3 : 2 * leaf < TS.length:=by omega
 obtain ⟨O,cap,rest2,rfl,hObj,hrl,hcap,h63⟩:=hT.osl (by omega)
 have hRl : (rowC cellsX TS ++ rest2).length = TS.length * 5 + rest2.length:=by rw [List.length_append,rowX_len]
 have hput:=hT.put0 (p:=pN) hi3 hObj hrl hcap h63 rfl rfl
 have hwk:=aset_weak (R:=rowC cellsX TS ++ rest2) (off:=(2 * leaf) * 5) (a:=zN) (b:=cellsX pN) rfl (by rw [hRl]; show 2 * leaf * 5 + 5≤_; omega) zN_weak1
 have hts:=AS.tells_set (Γ:=Γ) (s:=s5) (O:=O) hwk
 have hs : asetAll (rowC cellsX TS ++ rest2) (2 * leaf * 5) zN = asetAll (rowC cellsX TS ++ rest2) (2 * leaf * 5) [.v (.int .i64 0),.v (.slice none 0 0),.v (.int .u64 0),.v (.slice none 0 0),.v (.slice none 0 0)]:=rfl
 rw [hs] at hts
 simp only [asetAll] at hts
 generalize hR : rowC cellsX TS ++ rest2 = R at *
 refine jS (Ai @e2v (Ai @hge (Ai @hi3 (Ai @eye_lt_nat @hObj)))) fun K hK=>?_
 refine ⟨by omega,hK _ _ ?_⟩
 clear hK K
 refine awp_tells hts ?_
 have hT6 : (TS.set (2 * leaf) pN).map (·.1) = B:=by rw [List.map_set,hTS]; exact hput0
 have hT6l : (TS.set (2 * leaf) pN).length = TS.length:=List.length_set ..
 rw [← hT6l] at hput ⊢
 generalize TS.set (2 * leaf) pN = T6 at *
 generalize s5.set O (asetAll R (2 * leaf * 5) (cellsX pN)) = s6 at *
 obtain ⟨m0,hm0,hL0⟩:=hlen.2.pow
 rw [hL0] at hgood ⊢
 clear hts hs hwk hRl hR hObj hrl hbl hms hm hr hlv hbll hT hput0
 have hcap6 : T6.length≤cap:=by omega
 refine wK fun K hK=>?_
 have hfin : ∀ (E : Env) (s2 : AS) (T : List (NodeV × AV)),E 7 = .osl O 0 5 T.length cap→T.length≠0→T.length≤63→T.map (·.1) = shrT 6 B→TreeO s3 s2 (.osl O 0 5 T.length cap) T→K E s2:=by
  intro E s2 T g7 hT0 hT63 hTB hO
  refine hK _ _ ?_;clear hK K
  obtain ⟨O2,cap2,rest3,eO,hObj,hrl,hcap,h63⟩:=hO.osl hT0
  injection eO with q1 _ _ _ q5
  subst q1 q5
  have hcl:=nodesCloneO_calls (Γ:=Γ) (cap:=cap) hObj (rowX_len T) hT0 (by omega) hO.ones
  refine jS @g7 fun K hK=>?_
  refine acallk hcl ?_
  rintro r s9 ⟨ob,cap',rest',hob,rfl,c1,c2,c3,rfl⟩
  refine jR hK ?_;clear hK K
  refine jI ?_
  exact ⟨_,_,AV.weak.refl _,AS.le.refl _,_,T,rfl,hTB,hO.recopy hob c1 c2 c3⟩
 clear hK
 refine awp_block ?_
 refine awp_loop (fun E s2=>∃ (m f : Nat) (T : List (NodeV × AV)),m≤f∧m≤5∧E 6 = .v (.int .i64 ((2 ^ m : Nat) : Int))∧E 7 = .osl O 0 5 T.length cap∧goodL (2 ^ m) (T.map (·.1))∧shrT 6 B = shrT f (T.map (·.1))∧T.length≤cap∧TreeO s3 s2 (.osl O 0 5 T.length cap) T)
  (fun E _=>match E 6 with | .v (.int _ i)=>i.toNat | _=>0) ?_ ?_
 ·exact ⟨m0,6,T6,by omega,hm0,by simp only [upd,Nc,↓reduceIte],by simp only [upd,Nc,↓reduceIte],by rw [hT6]; exact hgood,by rw [hT6],hcap6,hput⟩
 ·clear hput hT6 hcap6 hgood
  rintro E1 s2 ⟨m,f,T,hmf,hm5,g6,g7,hg,hB,hcapT,hO⟩ -
  have hTl2 : T.length = 2 * 2 ^ m - 1:=by have:=hg.2.1; rwa [List.length_map] at this
  have hp5:=pow_le5 hm5
  refine wK fun K2 hK2=>?_
  cases m with
  | zero =>
   have hend : shrT f (T.map (·.1)) = T.map (·.1):=by
    cases f with
    | zero=>rfl
    | succ f=>simp only [shrT,hg.lvs]; rw [if_neg (fun q=>by have:=q.1; simp at this)]
   refine jB (Ai @g6 (Ai @g7 (decide_eq_false (show ¬ (1 : Int) < ((2 ^ 0 : Nat) : Int) by decide)))) ?_
   refine jF ?_
   refine awp_exit ?_
   simp only [thenQ,blockQ,if_true]
   refine hfin _ _ T (by simp only [upd,g7,Nc,↓reduceIte]) (by omega) (by omega) (by rw [hB,hend]) hO
  | succ m =>
   have hpow : 2 ^ (m + 1) = 2 * 2 ^ m:=by rw [Nat.pow_succ]; omega
   have hpm:=Nat.two_pow_pos m
   have hmem:=membersO_calls (Γ:=Γ) hO (by omega) (2 ^ (m + 1) / 2) (2 ^ (m + 1) - 2 ^ (m + 1) / 2) (by omega)
   rw [show 2 ^ (m + 1) / 2 + (2 ^ (m + 1) - 2 ^ (m + 1) / 2) = 2 ^ (m + 1) by omega] at hmem
   have hcg:=fun h0=>cut_good (m:=m) (t:=T.map (·.1)) hg h0
   have hlv:=hg.lvs
   have hwd:=fun s=>width18_calls (Γ:=Γ) ((2 ^ (m + 1) / 2 : Nat) : Int) s
   have hq : 2 ^ (m + 1) / 2 = 2 ^ m:=by omega
   have hwi : widI ((2 ^ (m + 1) / 2 : Nat) : Int) = ((2 * 2 ^ m - 1 : Nat) : Int):=by
    unfold widI
    rw [hq,if_pos (fitI_nat.2 (fit_pow (by omega)))]
    omega
   rw [hwi] at hwd
   have eq2:=iquo_two (2 ^ (m + 1)) (by omega)
   have es1 : isub .i64 ((2 ^ (m + 1) : Nat) : Int) 1 = ((2 ^ (m + 1) : Nat) : Int) - 1:=isub_i64 (by omega)
   obtain ⟨f,rfl⟩ : ∃ f',f = f' + 1:=⟨f - 1,by omega⟩
   have hsh : shrT (f + 1) (T.map (·.1)) = if 1 < 2 ^ (m + 1)∧cntN (memI (T.map (·.1))) (2 ^ (m + 1) / 2) (2 ^ (m + 1) - 2 ^ (m + 1) / 2) = 0 then shrT f (cutT (T.map (·.1))) else T.map (·.1):=by
    simp only [shrT,hlv]
   rw [hsh] at hB
   have hcut : cutT (T.map (·.1)) = (T.take (2 * 2 ^ m - 1)).map (·.1):=by unfold cutT; rw [hlv,hq,List.map_take]
   have hOc:=hO.cut (k:=2 * 2 ^ m - 1) (by omega)
   have hgt : decide ((1 : Int) < ((2 ^ (m + 1) : Nat) : Int)) = true:=decide_eq_true (by omega)
   by_cases h0 : cntN (memI (T.map (·.1))) (2 ^ (m + 1) / 2) (2 ^ (m + 1) - 2 ^ (m + 1) / 2) = 0
   ·rw [if_pos ⟨by omega,h0⟩,hcut] at hB
    replace hcg:=hcg h0
    rw [hcut] at hcg
    refine jS (Ai @g6 (Ai @g7 (Ai @hgt (Ai @eq2 @es1)))) fun K hK=>?_
    refine acallk hmem ?_
    rintro r s8 ⟨rfl,rfl⟩
    refine jV (nat0 h0) hK ?_;clear hK K
    refine jE ?_
    refine awp_skip ?_
    refine hK2 _ _ ?_;clear hK2 K2
    refine wK fun K3 hK3=>?_
    refine awp_block ?_
    have hle : 2 * 2 ^ m - 1≤cap:=by omega
    have hge : (0 : Int)≤((2 * 2 ^ m - 1 : Nat) : Int):=by omega
    have hlec : ((2 * 2 ^ m - 1 : Nat) : Int)≤(cap : Int):=by omega
    refine jU (Ai @g6 (Ai @g7 @eq2)) fun K hK=>?_
    refine acallk (hwd _) ?_
    rintro r s9 ⟨rfl,rfl⟩
    simp only [↓DM,pval,DX,Nz,↓DN,Qa,Qb,Qc,Qd,Qe,Qf,Qg,Qh,reduceCtorEq,↓reduceIte,Na,Nb,Nc,Nk,Nf,Ng,Nh,Za,Zb,Zc,TT,hge,hlec,ite_self,Nat.sub_zero]
    refine hK _ _ ?_;clear hK K
    refine hK3 _ _ ?_;clear hK3 K3
    refine jD (Ai @g6 (Ai @eq2 @hq)) ?_
    have htl : (T.take (2 * 2 ^ m - 1)).length = 2 * 2 ^ m - 1:=by rw [List.length_take]; omega
    refine ⟨⟨m,f,T.take (2 * 2 ^ m - 1),by omega,by omega,by simp only [upd,Nc,↓reduceIte],by rw [htl]; simp only [upd,Nc,↓reduceIte],hcg,hB,by omega,by rw [htl]; exact hOc⟩,?_⟩
    simp only [g6,upd,↓reduceIte]
    omega
   ·rw [if_neg (fun q=>h0 q.2)] at hB
    refine jS (Ai @g6 (Ai @g7 (Ai @hgt (Ai @eq2 @es1)))) fun K hK=>?_
    refine acallk hmem ?_
    rintro r s8 ⟨rfl,rfl⟩
    refine jV (nat0F h0) hK ?_;clear hK K
    refine jF ?_
    refine awp_exit ?_
    simp only [thenQ,blockQ,if_true]
    refine hfin _ _ T (by simp only [upd,g7,Nc,↓reduceIte]) (by omega) (by omega) hB.symm hO
end Go.Proofs.YtfjlmkifiihgkaaGreatDoor
namespace Go.Proofs.YtfjlmkifiihgkaaGreatDoor
open Go Go.AM Go.Proofs
variable {Γ : Nat→List AV}
theorem ACalls.tidy {P : Program} {f : FuncId} {args : List AV} {s : AS} {Q : AV→Prop} (h : ACalls P Γ f args s (fun r s'=>Q r∧s.le s')) : ACalls P Γ f args s (fun r s'=>Q r∧s' = s) :=
 ACalls.settle h fun r s1 ⟨h1,h2⟩=>⟨s,r,Settles.le r h2,h1,rfl⟩
theorem remove20_calls (hG : Γ 3 = dB64.map u8C) (t : List NodeV) (ht : TreeW t) (leaf : Int) (s : AS) :
  ACalls Tryz.prog Γ 54 [treeV t,.v (.int .i64 leaf)] s (fun r s'=>r = .tup [treeN (remR t leaf).1,.v (.int .i64 (remR t leaf).2)]∧s.le s'):=by
 have hr:=fun s=>right20_calls (Γ:=Γ) hG t ht s
 have hm:=fun s=>member_calls (Γ:=Γ) t ht.1 leaf s
 have hlv:=fun s=>leaves_calls (Γ:=Γ) t ht.1 s
 by_cases h1 : rightT t
 ·by_cases h2 : memI t leaf
  ·have hlvs:=lvs_le t
   by_cases h3 : cntN (memI t) 0 (lvs t) = 1
   ·have hms:=fun s=>members_calls (Γ:=Γ) t ht.1 0 (lvs t) (by omega) s
    have hres : remR t leaf = ([],40):=by
     unfold remR
     rw [if_neg (fun h=>h h1),if_neg (fun h=>h h2),if_pos h3]
    rw [hres]
    rw [decide_eq_true h1] at hr
    rw [decide_eq_true h2] at hm
    rw [Nat.zero_add,h3] at hms
    have e1 : isub .i64 ((lvs t : Nat) : Int) 1 = ((lvs t : Nat) : Int) - 1:=isub_i64 (by omega)
    refine acalls_body Tryz.func54 rfl Tryz.ntmps54 Tryz.results54 (by simp) ?_
    unfold treeV at *
    generalize rowC NodeV.cells t = X at *
    refine jA ?_
    refine jK (hlv _) ?_;rintro s0 rfl
    refine wK fun K hK=>?_
    refine awp_block ?_
    refine jK (hr _) ?_;rintro s1 rfl
    refine jF ?_
    refine jK (hm _) ?_;rintro s2 rfl
    refine jF ?_
    refine jS @e1 fun K hK=>?_
    refine acallk (hms _) ?_
    rintro r s3 ⟨rfl,rfl⟩
    refine jV (show (((1 : Nat) : Int) == 1) = true from rfl) hK ?_;clear hK K
    refine jE ?_
    refine jA ?_
    refine jI ?_
    exact ⟨_,_,AV.weak.refl _,AS.le.refl _,rfl,AS.le.refl _⟩
   ·obtain ⟨l,rfl⟩:=Int.eq_ofNat_of_zero_le h2.1
    have hres : remR t (l : Int) = (rmT t l,0):=by
     unfold remR
     rw [if_neg (fun h=>h h1),if_neg (fun h=>h h2),if_neg h3,Int.toNat_natCast]
    rw [hres]
    refine ACalls.settle (remMain_calls hG t ht l h1 h2 h3 s) ?_
    rintro r s1 ⟨X,T,rfl,hT,hO⟩
    obtain ⟨s2,k1,k2⟩:=hO.settle (Γ:=Γ)
    refine ⟨s2,_,Settles.tupL _ k1,?_,k2⟩
    have hR:=rmT_right h1 ((memN_iff rfl _).1 h2).1
    rw [hT,treeN_ne]
    obtain ⟨q1,q2⟩:=hR.len
    have:=q2.le
    show (rmT t l).length≠0
    omega
  ·have hres : remR t leaf = ([],43):=by
    unfold remR
    rw [if_neg (fun h=>h h1),if_pos h2]
   rw [hres]
   rw [decide_eq_true h1] at hr
   rw [decide_eq_false h2] at hm
   refine acalls_body Tryz.func54 rfl Tryz.ntmps54 Tryz.results54 (by simp) ?_
   unfold treeV at *
   generalize rowC NodeV.cells t = X at *
   refine jA ?_
   refine jK (hlv _) ?_;rintro s0 rfl
   refine wK fun K hK=>?_
   refine awp_block ?_
   refine jK (hr _) ?_;rintro s1 rfl
   refine jF ?_
   refine jK (hm _) ?_;rintro s2 rfl
   refine jE ?_
   refine jA ?_
   refine jI ?_
   exact ⟨_,_,AV.weak.refl _,AS.le.refl _,rfl,AS.le.refl _⟩
 ·have hres : remR t leaf = ([],40):=if_pos h1
  rw [hres]
  rw [decide_eq_false h1] at hr
  refine acalls_body Tryz.func54 rfl Tryz.ntmps54 Tryz.results54 (by simp) ?_
  unfold treeV at *
  generalize rowC NodeV.cells t = X at *
  refine jA ?_
  refine jK (hlv _) ?_;rintro s0 rfl
  refine wK fun K hK=>?_
  refine awp_block ?_
  refine jK (hr _) ?_;rintro s1 rfl
  refine jE ?_
  refine jA ?_
  refine jI ?_
  exact ⟨_,_,AV.weak.refl _,AS.le.refl _,rfl,AS.le.refl _⟩
end Go.Proofs.YtfjlmkifiihgkaaGreatDoor
namespace Go.AM
open Go Go.RowKit
variable {P : Program} {Γ : Nat→List AV} {s : AS}
theorem Settles.tree {s : AS} {ob cap : Nat} {t : List NodeV} {rest : List AV} (h : s.objs ob = none) : Settles Γ (s.set ob (rowC NodeV.cells t ++ rest)) (.osl ob 0 5 t.length cap) s (treeV t):=by
  refine (Settles.outer (Γ:=Γ) (AS.set_objs_same s ob _) (row_len cells_len t)).trans (Settles.le _ ?_)
  refine ⟨fun o cs hc=>?_,fun t e he=>he⟩
  have hne : o≠ob:=by rintro rfl; rw [h] at hc; cases hc
  rw [AS.drop_objs,upd_ne _ _ hne,AS.set_objs_ne _ hne]
  exact hc
end Go.AM
namespace Go.AM
open Go Go.RowKit
theorem nodes_weak : ∀ k : Nat,AVs.weak (List.replicate k zN).flatten (rowC NodeV.cells (List.replicate k NodeV.nought))
  | 0=>.refl _
  | k + 1=>by
    have e1 : (List.replicate (k + 1) zN).flatten = zN ++ (List.replicate k zN).flatten:=by rw [List.replicate_succ,List.flatten_cons]
    have e2 : rowC NodeV.cells (List.replicate (k + 1) NodeV.nought) = NodeV.nought.cells ++ rowC NodeV.cells (List.replicate k NodeV.nought):=by rw [List.replicate_succ]; rfl
    rw [e1,e2]
    exact AVs.weak.append (.cons (AV.weak.refl _) (.cons AV.weak_nil (.cons (AV.weak.refl _) (.cons AV.weak_nil (.cons AV.weak_nil .nil))))) (nodes_weak k)
theorem Settles.tells {Γ : Nat→List AV} {s s' : AS} (x : AV) (h : AS.tells Γ s s') : Settles Γ s x s' x:=fun G w _ hs hv=>⟨G,.refl G,h G w hs,hv⟩
theorem Settles.more {Γ : Nat→List AV} {s : AS} {ob ob' cap cap' m k : Nat} {A rest' : List AV} {t : List NodeV} (h : s.objs ob = none) (h' : (s.set ob A).objs ob' = none∨∃ c0,AV.osl ob 0 5 m cap = .osl ob' 0 5 m c0) :
    Settles Γ ((s.set ob A).set ob' (rowC NodeV.cells t ++ zrow (k * 5) zN ++ rest')) (.osl ob' 0 5 (t.length + k) cap') s (treeV (t ++ List.replicate k NodeV.nought)):=by
  have e : rowC NodeV.cells (t ++ List.replicate k NodeV.nought) = rowC NodeV.cells t ++ rowC NodeV.cells (List.replicate k NodeV.nought):=by simp only [rowC,List.map_append,List.flatten_append]
  have hl : (t ++ List.replicate k NodeV.nought).length = t.length + k:=by simp
  have hw : AVs.weak (rowC NodeV.cells t ++ zrow (k * 5) zN ++ rest') (rowC NodeV.cells (t ++ List.replicate k NodeV.nought) ++ rest'):=by
    rw [e,zrow_zN]
    exact AVs.weak.append (AVs.weak.append (.refl _) (nodes_weak k)) (.refl _)
  refine (Settles.tells _ (AS.tells_set hw)).trans ?_
  have h2:=Settles.outer (Γ:=Γ) (sz:=5) (n:=t.length + k) (cap:=cap') (AS.set_objs_same (s.set ob A) ob' (rowC NodeV.cells (t ++ List.replicate k NodeV.nought) ++ rest')) (by rw [row_len cells_len,hl])
  have h3 : treeV (t ++ List.replicate k NodeV.nought) = .sl 5 (t.length + k) (rowC NodeV.cells (t ++ List.replicate k NodeV.nought)) .any:=by unfold treeV; rw [hl]
  rw [h3]
  refine h2.trans (Settles.le _ ⟨fun o cs hc=>?_,fun t e he=>he⟩)
  have hne : o≠ob:=by rintro rfl; rw [h] at hc; cases hc
  have hne' : o≠ob':=by
    rintro rfl
    rcases h' with h' | ⟨c0,h'⟩
    · rw [AS.set_objs_ne _ hne,hc] at h'; cases h'
    · injection h' with q; exact hne q.symm
  rw [AS.drop_objs,upd_ne _ _ hne',AS.set_objs_ne _ hne',AS.set_objs_ne _ hne]
  exact hc
end Go.AM
namespace Go.Proofs.YtfjlmkifiihgkaaGreatDoor
open Go Go.AM Go.Proofs
variable {Γ : Nat→List AV}
instance (t : List NodeV) : Decidable (TreeW t):=by unfold TreeW; infer_instance
def smallN (n : NodeV) : Prop:=n.name.length≤40∧n.parent.length≤60∧n.unm.length≤40
def smallT (t : List NodeV) : Prop:=t.length≤63∧∀ n ∈ t,smallN n
instance (n : NodeV) : Decidable (smallN n):=by unfold smallN; infer_instance
instance (t : List NodeV) : Decidable (smallT t):=by unfold smallT; infer_instance
end Go.Proofs.YtfjlmkifiihgkaaGreatDoor
