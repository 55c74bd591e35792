/- Contracts of the program's functions, each walked once; the conditions stand in each theorem. -/
import Derived.Test.YtfbbckndpkmfcaaAMp6
import Derived.Test.YtfbbckndpkmfcaaW1
import Derived.Test.YtfbbckndpkmfcaaW3
import Derived.Test.YtfbbckndpkmfcaaAMp7
set_option linter.unusedSimpArgs false
set_option linter.unusedVariables false
open Nat renaming reduceLT → Na, reduceLeDiff → Nb, reduceEqDiff → Nc, reduceAdd → Nk, reduceMul → Nf, reducePow → Ng, reduceSub → Nh, reduceBEq → Nz
open Int renaming reduceLT → Za, reduceLE → Zb, reduceToNat → Zc
open Go.AM renaming ashift → Qa, aconv → Qb, aindexAddr → Qc, aindex → Qd, aslice → Qe, abuiltin → Qf, awp_reg_seq → wS, awp_reg_end → wE, awp_seq_k → wK, awp_cond_k → wC
open Go.AM.AV renaming cells → Qg, one → Qh
set_option maxRecDepth 100000
set_option maxHeartbeats 8000000
set_option autoImplicit false
namespace Go.Proofs.Ytfbbckndpkmfcaa
open Go Go.AM Go.Proofs
variable {Γ : Nat→List AV}
theorem keys_calls (b : Nat) (s : AS) :
  ACalls Try.prog Γ 45 [.v (.map (some b))] s (fun r s'=>r = .clo 58 [.rop [.v (.map (some b))]]∧s' = s):=by
 refine acalls_body Try.func45 rfl Try.ntmps45 Try.results45 (by simp) ?_
 refine awp_reg_frz 1 (by decide) ?_
 intro K hK
 simp only [↓DM,pval,DX,Nz,↓DN,Qa,Qb,Qc,Qd,Qe,Qf,Qg,Qh,reduceCtorEq,↓reduceIte,Na,Nb,Nc,Nk,Nf,Ng,Nh,Za,Zb,Zc,TT]
 intro o1 h1
 refine hK _ _ o1 _ (by simp only [upd,Nc,↓reduceIte]) h1 ?_
 clear hK K
 refine wS fun K hK=>?_
 simp only [↓DN,Qa,Qb,Qc,Qd,Qe,Qf,Qg,Qh,reduceCtorEq,↓reduceIte,Na,Nb,Nc,Nk,Nf,Ng,Nh,Za,Zb,Zc,TT]
 refine hK _ _ ?_;clear hK K
 refine awp_ret ?_
 try simp only [thenQ,blockQ]
 simp only [retQ,AEnds,aresL,ares,List.toList_toArray,↓upd_same]; try simp only [UP,DF,Nc,↓reduceIte,DT]
 exact ⟨_,_,AV.weak.refl _,AS.le.refl _,rfl,rfl⟩
def keysA (K : List Int) (ys : List (List AV)) : Prop:=∃ l : List Int,l.Perm K∧ys = l.map fun v=>[intC v]
theorem keysA_pre {K : List Int} {ys zs : List (List AV)} {x : List AV} (h : keysA K (ys ++ x :: zs)) : ∃ (l : List Int) (v : Int),ys = l.map (fun v=>[intC v])∧x = [intC v]∧l.length < K.length:=by
 obtain ⟨l,h1,h2⟩:=h
 have h3:=congrArg List.length h2
 simp only [List.length_append,List.length_cons,List.length_map] at h3
 have h4:=h1.length_eq
 obtain ⟨l1,l2,rfl,e1,e2⟩:=List.append_eq_map_iff.1 h2
 cases l2 with
 | nil=>cases e2
 | cons v l2 =>
  simp only [List.map_cons,List.cons.injEq] at e2
  refine ⟨l1,v,e1.symm,e2.1.symm,?_⟩
  simp only [List.length_append,List.length_cons] at h4
  omega
theorem perm_erase {l : List Int} : ∀ {i : Nat} (h : i < l.length),(l[i] :: l.eraseIdx i).Perm l:=by
 induction l with
 | nil=>intro i h; cases h
 | cons x l ih =>
  intro i h
  cases i with
  | zero=>exact .refl _
  | succ i=>exact (List.Perm.swap ..).trans (.cons x (ih (by simpa using h)))
theorem keys1_iter (b : Nat) (KL : List Int) :
  IterM Try.prog Γ 58 [.rop [.v (.map (some b))]] (fun s=>s.maps b = some (.map (KL.map shrKV))) (keysA KL):=by
 refine iterM_of Try.func58 rfl Try.ntmps58 Try.results58 (by simp) ?_
 intro I l s G hmI h0 hb hy
 refine ywp_seq (AWp.y ?_)
 refine wE fun K hK=>?_
 simp only [↓DN,Qa,Qb,Qc,Qd,Qe,Qf,Qg,Qh,reduceCtorEq,↓reduceIte,Na,Nb,Nc,Nk,Nf,Ng,Nh,Za,Zb,Zc,TT,hb,amOf,avOf,Try.underlying50]
 intro es c r hr
 have hbr : b≠r:=by
  rintro rfl
  rw [hb] at hr
  cases hr
 refine hK _ _ ?_;clear hK K
 refine ywp_block ?_
 refine ywp_loop (fun E s'=>∃ (d left : List Int) (cur : Option (Value × AV)),E 0 = .v (.func (.yield l) #[] #[])∧E 5 = .v (.pointer (some ⟨r,0,none⟩))∧(d ++ left).Perm KL∧s'.maps b = some (.fix (KL.map shrKV) es c) ∧
   s'.maps r = some (.iter b es c (left.map shrKV) cur)∧(∀ b' m,b'≠b→s.maps b' = some m→s'.maps b' = some m)∧I (d.map fun v=>[intC v]) s')
  (fun _ s'=>match s'.maps r with | some (.iter _ _ _ left _)=>left.length | _=>0) ?_ ?_
 ·refine ⟨[],KL,none,(by simp only [upd,initE,List.getD_cons_zero,List.getD_cons_succ,Nc,↓reduceIte]),(by simp only [upd,Nc,↓reduceIte]),.refl _,by simp [AS.putM,upd,hbr],by simp [AS.putM],fun b' m h1 h2=>?_,hmI [] s _ h0⟩
  have : b'≠r:=by
   rintro rfl
   rw [hr] at h2
   cases h2
  simpa [AS.putM,upd,this,h1] using h2
 rintro E s' ⟨d,left,cur,e0,e5,hp,m1,m2,m3,hI⟩ -
 refine ywp_seq (AWp.y ?_)
 refine wE fun K hK=>?_
 simp only [↓DN,Qa,Qb,Qc,Qd,Qe,Qf,Qg,Qh,reduceCtorEq,↓reduceIte,Na,Nb,Nc,Nk,Nf,Ng,Nh,Za,Zb,Zc,TT,e5,m2]
 refine ⟨_,m1,?_,?_⟩
 ·intro hl
  obtain rfl : left = []:=by simpa using hl
  refine hK _ _ ?_;clear hK K
  refine ywp_tells (AS.tells_turn m1) ?_
  refine ywp_seq (AWp.y (awp_cond_false (by simp only [aeval,upd,↓reduceIte]) (awp_exit ?_)))
  simp only [blockQ,thenQ,↓reduceIte]
  refine ⟨by simp,⟨_,⟨d,by simpa using hp,rfl⟩,hmI _ s' _ hI⟩,fun b' m hm=>?_⟩
  by_cases h1 : b' = b
  ·subst h1
   rw [hb] at hm
   cases hm
   simp [AS.putM]
  ·simpa [AS.putM,upd,h1] using m3 b' m h1 hm
 ·intro i hi
  have hi' : i < left.length:=by simpa using hi
  have hg : ∀ h,(left.map shrKV)[i]'h = shrKV left[i]:=fun _=>List.getElem_map ..
  have he : (left.map shrKV).eraseIdx i = (left.eraseIdx i).map shrKV:=map_erase ..
  have hp2 : (d ++ [left[i]] ++ left.eraseIdx i).Perm KL:=by
   rw [List.append_assoc]
   exact (List.Perm.append_left d (perm_erase hi')).trans hp
  rw [hg,he]
  generalize left[i] = v at *
  refine hK _ _ ?_;clear hK K
  refine ywp_seq (AWp.y (awp_cond_true (by simp only [aeval,upd,↓reduceIte]) (awp_skip ?_)))
  simp only [thenQ]
  refine ywp_block ?_
  obtain ⟨s2,hs2⟩ : ∃ s2,s2 = s'.putM r (.iter b es c ((left.eraseIdx i).map shrKV) (some (shrKV v))):=⟨_,rfl⟩
  have n1 : s2.maps b = some (.fix (KL.map shrKV) es c):=by rw [hs2]; simpa [AS.putM,upd,hbr] using m1
  have n2 : s2.maps r = some (.iter b es c ((left.eraseIdx i).map shrKV) (some (shrKV v))):=by rw [hs2]; simp [AS.putM]
  have n3 : ∀ b' m,b'≠b→s.maps b' = some m→s2.maps b' = some m:=by
   intro b' m h1 h2
   have : b'≠r:=by
    rintro rfl
    rw [hr] at h2
    cases h2
   rw [hs2]
   simpa [AS.putM,upd,this] using m3 b' m h1 h2
  have hI2 : I (d.map fun v=>[intC v]) s2:=by rw [hs2]; exact hmI _ s' _ hI
  rw [← hs2]
  clear hs2 m3 hI m1
  simp only [shrKV] at n2
  refine ywp_seq (AWp.y ?_)
  refine wE fun K hK=>?_
  simp only [↓DN,Qa,Qb,Qc,Qd,Qe,Qf,Qg,Qh,reduceCtorEq,↓reduceIte,Na,Nb,Nc,Nk,Nf,Ng,Nh,Za,Zb,Zc,TT,e5,n2]
  refine ⟨_,n1,?_⟩
  refine hK _ _ ?_;clear hK K
  refine ywp_yield2 (l:=l) (xs:=[_]) rfl rfl (by decide) ?_
  intro K hK ops
  simp only [↓DM,pval,DX,Nz,↓DN,Qa,Qb,Qc,Qd,Qe,Qf,Qg,Qh,reduceCtorEq,↓reduceIte,Na,Nb,Nc,Nk,Nf,Ng,Nh,Za,Zb,Zc,TT,e0]
  refine ⟨_,hy _ [intC v] _ ⟨(left.eraseIdx i).map fun v=>[intC v],d ++ [v] ++ left.eraseIdx i,hp2,by simp⟩ hI2,?_⟩
  rintro s3 ⟨hI3,h3⟩
  refine hK _ _ ?_;clear hK K
  refine AWp.y (awp_cond_false (by simp only [aeval,upd,↓reduceIte]) (awp_skip ?_))
  simp only [blockQ,thenQ]
  refine ⟨⟨d ++ [v],left.eraseIdx i,some (.int .i64 v,.v (.bool true)),by simp only [upd,e0,Nc,↓reduceIte],by simp only [upd,e5,Nc,↓reduceIte],hp2,by rw [h3]; exact n1,by rw [h3]; exact n2,fun b' m h1 h2=>by rw [h3]; exact n3 b' m h1 h2,by simpa using hI3⟩,?_⟩
  rw [h3,n2,m2]
  simp only [List.length_map,List.length_eraseIdx,hi',if_true]
  omega
def OwnM (s s' : AS) (r : AV) (l : List Int) : Prop:=OBuf 1 s' r l.length (l.map intC)∧(l = []→r = nilS)∧(∀ o,onm r = some o→s.objs o = none)∧s.le { s' with maps:=s.maps }
def BoxM (s : AS) (o1 : Nat) (l : List Int) (s' : AS) : Prop:=∃ x,s'.objs o1 = some [x]∧OwnM s s' x l∧onm x≠some o1
def OwnL (s s' : AS) (r : AV) (l : List Int) : Prop:=OBuf 1 s' r l.length (l.map intC)∧(l = []→r = nilS)∧(∀ o,onm r = some o→s.objs o = none)∧s.le s'
theorem OwnM.own {s s' : AS} {r : AV} {l : List Int} (h : OwnM s s' r l) (k : AS.mle s s') : OwnL s s' r l:=⟨h.1,h.2.1,h.2.2.1,h.2.2.2.objs,h.2.2.2.own,k⟩
theorem appendSeq_calls {gf : FuncId} {caps : List AV} {Pre : AS→Prop} {KL : List Int} (hcb : callable Try.prog gf = true) (hit : IterM Try.prog Γ gf caps Pre (keysA KL)) (hl : KL.length≤2 ^ 40) (s : AS) (hpre : ∀ s',s'.maps = s.maps→Pre s') :
  ACalls Try.prog Γ 63 [nilS,.clo gf caps] s (fun r s'=>∃ l : List Int,l.Perm KL∧OwnL s s' r l):=by
 refine acalls_fwp Try.func63 rfl Try.ntmps63 Try.results63 (by simp) ?_
 unfold nilS
 refine fwp_reg ?_
 intro K hK
 simp only [↓DM,pval,DX,Nz,↓DN,Qa,Qb,Qc,Qd,Qe,Qf,Qg,Qh,reduceCtorEq,↓reduceIte,Na,Nb,Nc,Nk,Nf,Ng,Nh,Za,Zb,Zc,TT]
 intro o1 h1
 refine hK _ _ ?_;clear hK K
 refine fwp_range_regM (by decide) ?_
 intro K hK
 simp only [↓DM,pval,DX,Nz,↓DN,Qa,Qb,Qc,Qd,Qe,Qf,Qg,Qh,reduceCtorEq,↓reduceIte,Na,Nb,Nc,Nk,Nf,Ng,Nh,Za,Zb,Zc,TT]
 refine hK _ _ ?_;clear hK K
 refine ⟨gf,caps,Pre,keysA KL,fun ys s'=>∃ l : List Int,ys = l.map (fun v=>[intC v])∧BoxM s o1 l s',by simp only [aeval,upd,initE,List.getD_cons_zero,List.getD_cons_succ,Nc,↓reduceIte],hcb,hit,?_,?_,?_,hpre _ rfl,?_,?_⟩
 ·intro ys x zs h
  obtain ⟨_,v,_,rfl,_⟩:=keysA_pre h
  rfl
 ·rintro ys s' M ⟨l,h1,h2⟩
  exact ⟨l,h1,h2⟩
 ·refine ⟨[],rfl,nilS,by simp [AS.set,nilS],⟨.inl ⟨by simp,by simp,.inl rfl⟩,fun _=>rfl,by simp [nilS,onm],AS.le_set (AS.le.refl s) h1 _⟩,by simp [nilS,onm]⟩
 ·rintro ys x s1 ⟨zs,hx⟩ ⟨l,rfl,b,hb1,⟨hob,hnil,hnew,hle⟩,hne⟩
  obtain ⟨l',v,e1,rfl,hll⟩:=keysA_pre hx
  have hll' : l.length < KL.length:=by
   have:=congrArg List.length e1
   simp only [List.length_map] at this
   omega
  have hone : b.one = true:=by
   rcases hob with ⟨_,_,rfl | rfl | rfl⟩ | ⟨_,_,_,rfl,_⟩ <;> rfl
  simp only [updL]
  refine wE fun K hK=>?_
  simp only [↓DN,Qa,Qb,Qc,Qd,Qe,Qf,Qg,Qh,reduceCtorEq,↓reduceIte,Na,Nb,Nc,Nk,Nf,Ng,Nh,Za,Zb,Zc,TT]
  refine hK _ _ ?_;clear hK K
  refine ⟨rfl,awp_block ?_⟩
  refine awp_region_at3y rfl (by decide) ?_
  intro ops
  simp only [↓DM,pval,DX,Nz,↓DN,Qa,Qb,Qc,Qd,Qe,Qf,Qg,Qh,reduceCtorEq,↓reduceIte,Na,Nb,Nc,Nk,Nf,Ng,Nh,Za,Zb,Zc,TT,hb1]
  refine ⟨_,fun G a w hr=>append_own_res (n:=l.length) (m:=1) (cs:=l.map intC) (ds:=[intC v]) (e:=3) (z:=[.v (.int .i64 0)]) rfl Try.underlying64 (by simp only [↓DN,Qa,Qb,Qc,Qd,Qe,Qf,Qg,Qh,reduceCtorEq,↓reduceIte,Na,Nb,Nc,Nk,Nf,Ng,Nh,Za,Zb,Zc,TT]; try rfl) (by simp only [↓DN,Qa,Qb,Qc,Qd,Qe,Qf,Qg,Qh,reduceCtorEq,↓reduceIte,Na,Nb,Nc,Nk,Nf,Ng,Nh,Za,Zb,Zc,TT]; try rfl) (by rw [T.c3]; decide) (by rw [T.c3]; rfl) (by rw [T.c3]; simp only [↓DN,Qa,Qb,Qc,Qd,Qe,Qf,Qg,Qh,reduceCtorEq,↓reduceIte,Na,Nb,Nc,Nk,Nf,Ng,Nh,Za,Zb,Zc,TT,asrc,aeval,upd,Nc,↓reduceIte]; rfl) (by decide) (by rw [T.b3]; omega) (by omega) rfl (by rw [T.c3]; simpa only [aeval,upd,Nc,↓reduceIte] using hob) hr.eval hr.st,?_⟩
  rw [T.c3]
  rintro r s4 ⟨ob,cap,rest,rfl,hcap,h63,hrl,hobn,rfl⟩
  simp only [aeval,upd,Nc,↓reduceIte] at hobn
  have hne1 : o1≠ob:=by
   rintro rfl
   rcases hobn with h | ⟨cap0,rfl⟩
   ·rw [hb1] at h; cases h
   ·exact hne rfl
  have hnone : s.objs ob = none:=by
   rcases hobn with h | ⟨cap0,rfl⟩
   ·exact AS.le_none (s':={ s1 with maps:=s.maps }) hle h
   ·exact hnew ob rfl
  obtain ⟨l2,hl2⟩ : ∃ l2,l2 = l ++ [v]:=⟨_,rfl⟩
  have htk : l.map intC ++ [intC v] = l2.map intC:=by rw [hl2]; simp
  have hlen : l2.length = l.length + 1:=by rw [hl2]; simp
  rw [htk]
  have hso : (s1.set ob (l2.map intC ++ rest)).objs o1 = some [b]:=by
   rw [AS.set_objs_ne _ hne1]
   exact hb1
  simp only [↓DM,pval,DX,Nz,↓DN,Qa,Qb,Qc,Qd,Qe,Qf,Qg,Qh,reduceCtorEq,↓reduceIte,Na,Nb,Nc,Nk,Nf,Ng,Nh,Za,Zb,Zc,TT,hso]
  refine ⟨⟨l2,by rw [hl2]; simp,_,AS.set_objs_same _ _ _,⟨.inr ⟨ob,cap,rest,by rw [hlen],?_,by simp,by rw [hlen]; exact hrl,by rw [hlen]; exact hcap,h63⟩,?_,?_,AS.le_set (s':=({ s1 with maps:=s.maps } : AS).set ob (l2.map intC ++ rest)) (AS.le_set hle hnone _) h1 _⟩,?_⟩,rfl⟩
  ·rw [AS.set_objs_ne _ hne1.symm,AS.set_objs_same]
  ·intro h
   rw [h] at hlen
   simp at hlen
  ·intro o h
   simp only [onm,Option.some.injEq] at h
   rw [← h]
   exact hnone
  ·simp only [onm,ne_eq,Option.some.injEq]
   exact hne1.symm
 ·rintro s2 ys ⟨l0,hp,rfl⟩ ⟨l,e,x,hx1,hx2,-⟩ hm
  have hl0 : l0 = l:=by
   have h3:=congrArg (List.map fun c : List AV=>c.head?) e
   simp only [List.map_map] at h3
   have hinj : ∀ a b : Int,((fun c : List AV=>c.head?) ∘ fun v=>[intC v]) a = ((fun c : List AV=>c.head?) ∘ fun v=>[intC v]) b→a = b:=by
    intro a b h
    simpa [intC] using h
   exact (List.map_inj_right hinj).1 h3
  subst hl0
  refine wS fun K hK=>?_
  simp only [↓DN,Qa,Qb,Qc,Qd,Qe,Qf,Qg,Qh,reduceCtorEq,↓reduceIte,Na,Nb,Nc,Nk,Nf,Ng,Nh,Za,Zb,Zc,TT,hx1]
  refine hK _ _ ?_;clear hK K
  refine awp_ret ?_
  try simp only [thenQ,blockQ]
  simp only [retQ,AEnds,aresL,ares,List.toList_toArray,↓upd_same]; try simp only [UP,DF,Nc,↓reduceIte,DT]
  exact ⟨_,_,AV.weak.refl _,AS.le.refl _,l0,hp,hx2.own hm⟩
theorem collect_calls {gf : FuncId} {caps : List AV} {Pre : AS→Prop} {KL : List Int} (hcb : callable Try.prog gf = true) (hit : IterM Try.prog Γ gf caps Pre (keysA KL)) (hl : KL.length≤2 ^ 40) (s : AS) (hpre : ∀ s',s'.maps = s.maps→Pre s') :
  ACalls Try.prog Γ 56 [.clo gf caps] s (fun r s'=>∃ l : List Int,l.Perm KL∧OwnL s s' r l):=by
 refine acalls_body Try.func56 rfl Try.ntmps56 Try.results56 (by simp) ?_
 refine wS fun K hK=>?_
 simp only [↓DN,Qa,Qb,Qc,Qd,Qe,Qf,Qg,Qh,reduceCtorEq,↓reduceIte,Na,Nb,Nc,Nk,Nf,Ng,Nh,Za,Zb,Zc,TT]
 refine hK _ _ ?_;clear hK K
 refine wS fun K hK=>?_
 simp only [↓DN,Qa,Qb,Qc,Qd,Qe,Qf,Qg,Qh,reduceCtorEq,↓reduceIte,Na,Nb,Nc,Nk,Nf,Ng,Nh,Za,Zb,Zc,TT]
 refine acallk (appendSeq_calls hcb hit hl _ hpre) ?_
 rintro r s2 h2
 simp only [↓DM,pval,DX,Nz,↓DN,Qa,Qb,Qc,Qd,Qe,Qf,Qg,Qh,reduceCtorEq,↓reduceIte,Na,Nb,Nc,Nk,Nf,Ng,Nh,Za,Zb,Zc,TT]
 refine hK _ _ ?_;clear hK K
 refine awp_ret ?_
 try simp only [thenQ,blockQ]
 simp only [retQ,AEnds,aresL,ares,List.toList_toArray,↓upd_same]; try simp only [UP,DF,Nc,↓reduceIte,DT]
 exact ⟨_,_,AV.weak.refl _,AS.le.refl _,h2⟩
theorem sort_perm {a b : List Int} (h : a.Perm b) : (a.mergeSort fun x y=>decide (x≤y)) = b.mergeSort fun x y=>decide (x≤y):=by
 have hs:=fun l : List Int=>List.pairwise_mergeSort (le:=fun x y : Int=>decide (x≤y)) (by intro a b c; simp; omega) (by intro a b; simp; omega) l
 exact List.Perm.eq_of_pairwise (le:=fun x y=>decide (x≤y) = true) (by intro a b _ _; simp; omega) (hs a) (hs b) ((List.mergeSort_perm a _).trans (h.trans (List.mergeSort_perm b _).symm))
theorem len64nil_calls (s : AS) : ACalls Try.prog Γ 78 [.v (.int .u64 0)] s (fun r s'=>(∃ k : Int,r = .v (.int .i64 k))∧s' = s):=by
 refine acalls_body Try.func78 rfl Try.ntmps78 Try.results78 (by simp) ?_
 refine wS fun K hK=>?_
 simp only [↓DN,Qa,Qb,Qc,Qd,Qe,Qf,Qg,Qh,reduceCtorEq,↓reduceIte,Na,Nb,Nc,Nk,Nf,Ng,Nh,Za,Zb,Zc,TT]
 refine hK _ _ ?_;clear hK K
 refine wK fun K hK=>?_
 refine wS fun K hK=>?_
 simp only [↓DN,Qa,Qb,Qc,Qd,Qe,Qf,Qg,Qh,reduceCtorEq,↓reduceIte,Na,Nb,Nc,Nk,Nf,Ng,Nh,Za,Zb,Zc,TT]
 refine hK _ _ ?_;clear hK K
 refine wC fun X Y hX hY=>?_
 simp only [UP,DF,Nc,↓reduceIte,DB]
 refine hY ?_;clear hX hY X Y
 refine awp_skip ?_
 refine hK _ _ ?_;clear hK K
 refine wK fun K hK=>?_
 refine wS fun K hK=>?_
 simp only [↓DN,Qa,Qb,Qc,Qd,Qe,Qf,Qg,Qh,reduceCtorEq,↓reduceIte,Na,Nb,Nc,Nk,Nf,Ng,Nh,Za,Zb,Zc,TT]
 refine hK _ _ ?_;clear hK K
 refine wC fun X Y hX hY=>?_
 simp only [UP,DF,Nc,↓reduceIte,DB]
 refine hY ?_;clear hX hY X Y
 refine awp_skip ?_
 refine hK _ _ ?_;clear hK K
 refine wK fun K hK=>?_
 refine wS fun K hK=>?_
 simp only [↓DN,Qa,Qb,Qc,Qd,Qe,Qf,Qg,Qh,reduceCtorEq,↓reduceIte,Na,Nb,Nc,Nk,Nf,Ng,Nh,Za,Zb,Zc,TT]
 refine hK _ _ ?_;clear hK K
 refine wC fun X Y hX hY=>?_
 simp only [UP,DF,Nc,↓reduceIte,DB]
 refine hY ?_;clear hX hY X Y
 refine awp_skip ?_
 refine hK _ _ ?_;clear hK K
 refine wS fun K hK=>?_
 simp only [↓DN,Qa,Qb,Qc,Qd,Qe,Qf,Qg,Qh,reduceCtorEq,↓reduceIte,Na,Nb,Nc,Nk,Nf,Ng,Nh,Za,Zb,Zc,TT]
 refine hK _ _ ?_;clear hK K
 refine awp_ret ?_
 try simp only [thenQ,blockQ]
 simp only [retQ,AEnds,aresL,ares,List.toList_toArray,↓upd_same]; try simp only [UP,DF,Nc,↓reduceIte,DT]
 exact ⟨_,_,AV.weak.refl _,AS.le.refl _,⟨_,rfl⟩,rfl⟩
theorem lennil_calls (s : AS) : ACalls Try.prog Γ 65 [.v (.int .u64 0)] s (fun r s'=>(∃ k : Int,r = .v (.int .i64 k))∧s' = s):=by
 refine acalls_body Try.func65 rfl Try.ntmps65 Try.results65 (by simp) ?_
 refine wS fun K hK=>?_
 simp only [↓DN,Qa,Qb,Qc,Qd,Qe,Qf,Qg,Qh,reduceCtorEq,↓reduceIte,Na,Nb,Nc,Nk,Nf,Ng,Nh,Za,Zb,Zc,TT]
 refine hK _ _ ?_;clear hK K
 refine wK fun K hK=>?_
 refine wC fun X Y hX hY=>?_
 simp only [UP,DF,Nc,↓reduceIte,DB]
 refine hY ?_;clear hX hY X Y
 refine awp_skip ?_
 refine hK _ _ ?_;clear hK K
 refine wS fun K hK=>?_
 simp only [↓DN,Qa,Qb,Qc,Qd,Qe,Qf,Qg,Qh,reduceCtorEq,↓reduceIte,Na,Nb,Nc,Nk,Nf,Ng,Nh,Za,Zb,Zc,TT]
 refine acallk (len64nil_calls _) ?_
 rintro r s2 ⟨⟨k,rfl⟩,rfl⟩
 simp only [↓DM,pval,DX,Nz,↓DN,Qa,Qb,Qc,Qd,Qe,Qf,Qg,Qh,reduceCtorEq,↓reduceIte,Na,Nb,Nc,Nk,Nf,Ng,Nh,Za,Zb,Zc,TT]
 refine hK _ _ ?_;clear hK K
 refine awp_ret ?_
 try simp only [thenQ,blockQ]
 simp only [retQ,AEnds,aresL,ares,List.toList_toArray,↓upd_same]; try simp only [UP,DF,Nc,↓reduceIte,DT]
 exact ⟨_,_,AV.weak.refl _,AS.le.refl _,⟨_,rfl⟩,rfl⟩
theorem insnil_calls (s : AS) : ACalls Try.prog Γ 68 [nilS,.v (.int .i64 0),.v (.int .i64 0)] s (fun r s'=>r = .tup []∧s' = s):=by
 refine acalls_body Try.func68 rfl Try.ntmps68 Try.results68 (by simp) ?_
 refine wS fun K hK=>?_
 simp only [↓DN,Qa,Qb,Qc,Qd,Qe,Qf,Qg,Qh,reduceCtorEq,↓reduceIte,Na,Nb,Nc,Nk,Nf,Ng,Nh,Za,Zb,Zc,TT]
 refine hK _ _ ?_;clear hK K
 refine awp_block ?_
 refine awp_loop (fun E s'=>E 2 = .v (.int .i64 0)∧E 6 = .v (.int .i64 1)∧s' = s) (fun _ _=>0) ⟨by simp only [upd,initE,List.getD_cons_zero,List.getD_cons_succ,Nc,↓reduceIte],by simp only [upd,↓reduceIte]; rfl,rfl⟩ ?_
 rintro E s' ⟨e2,e6,rfl⟩ -
 refine wK fun K2 hK2=>?_
 refine wS fun K hK=>?_
 simp only [↓DN,Qa,Qb,Qc,Qd,Qe,Qf,Qg,Qh,reduceCtorEq,↓reduceIte,Na,Nb,Nc,Nk,Nf,Ng,Nh,Za,Zb,Zc,TT,e2,e6]
 refine hK _ _ ?_;clear hK K
 refine wC fun X Y hX hY=>?_
 simp only [UP,DF,Nc,↓reduceIte,DB]
 refine hY ?_;clear hX hY X Y
 refine awp_exit ?_
 simp only [thenQ,blockQ,if_true]
 simp only [retQ,AEnds,aresL,ares,List.toList_toArray,↓upd_same]; try simp only [UP,DF,Nc,↓reduceIte,DT]
 exact ⟨_,_,AV.weak.refl _,AS.le.refl _,rfl,rfl⟩
theorem pdqnil_calls (k : Int) (s : AS) : ACalls Try.prog Γ 64 [nilS,.v (.int .i64 0),.v (.int .i64 0),.v (.int .i64 k)] s (fun r s'=>r = .tup []∧s' = s):=by
 refine acalls_body Try.func64 rfl Try.ntmps64 Try.results64 (by simp) ?_
 unfold nilS
 refine wS fun K hK=>?_
 simp only [↓DN,Qa,Qb,Qc,Qd,Qe,Qf,Qg,Qh,reduceCtorEq,↓reduceIte,Na,Nb,Nc,Nk,Nf,Ng,Nh,Za,Zb,Zc,TT]
 refine hK _ _ ?_;clear hK K
 refine wS fun K hK=>?_
 simp only [↓DN,Qa,Qb,Qc,Qd,Qe,Qf,Qg,Qh,reduceCtorEq,↓reduceIte,Na,Nb,Nc,Nk,Nf,Ng,Nh,Za,Zb,Zc,TT]
 refine hK _ _ ?_;clear hK K
 refine awp_block ?_
 refine awp_loop (fun E s'=>E 0 = .v (.slice none 0 0)∧E 1 = .v (.int .i64 0)∧E 2 = .v (.int .i64 0)∧s' = s) (fun _ _=>0) ⟨by simp only [upd,initE,List.getD_cons_zero,List.getD_cons_succ,Nc,↓reduceIte],by simp only [upd,initE,List.getD_cons_zero,List.getD_cons_succ,Nc,↓reduceIte],by simp only [upd,initE,List.getD_cons_zero,List.getD_cons_succ,Nc,↓reduceIte],rfl⟩ ?_
 rintro E s' ⟨e0,e1,e2,rfl⟩ -
 refine awp_block ?_
 refine wS fun K hK=>?_
 simp only [↓DN,Qa,Qb,Qc,Qd,Qe,Qf,Qg,Qh,reduceCtorEq,↓reduceIte,Na,Nb,Nc,Nk,Nf,Ng,Nh,Za,Zb,Zc,TT,e1,e2]
 refine hK _ _ ?_;clear hK K
 refine wK fun K2 hK2=>?_
 refine wS fun K hK=>?_
 simp only [↓DN,Qa,Qb,Qc,Qd,Qe,Qf,Qg,Qh,reduceCtorEq,↓reduceIte,Na,Nb,Nc,Nk,Nf,Ng,Nh,Za,Zb,Zc,TT,show isub .i64 0 0 = (0 : Int) from rfl,show (decide ((0 : Int)≤12)) = true from rfl]
 refine hK _ _ ?_;clear hK K
 refine wC fun X Y hX hY=>?_
 simp only [UP,DF,Nc,↓reduceIte,DB]
 refine hX ?_;clear hX hY X Y
 refine wS fun K hK=>?_
 simp only [↓DN,Qa,Qb,Qc,Qd,Qe,Qf,Qg,Qh,reduceCtorEq,↓reduceIte,Na,Nb,Nc,Nk,Nf,Ng,Nh,Za,Zb,Zc,TT,e0,e1,e2]
 refine acallk (insnil_calls _) ?_
 rintro r s2 ⟨rfl,rfl⟩
 simp only [↓DM,pval,DX,Nz,↓DN,Qa,Qb,Qc,Qd,Qe,Qf,Qg,Qh,reduceCtorEq,↓reduceIte,Na,Nb,Nc,Nk,Nf,Ng,Nh,Za,Zb,Zc,TT]
 refine hK _ _ ?_;clear hK K
 refine awp_ret ?_
 simp only [thenQ,blockQ]
 simp only [retQ,AEnds,aresL,ares,List.toList_toArray,↓upd_same]; try simp only [UP,DF,Nc,↓reduceIte,DT]
 exact ⟨_,_,AV.weak.refl _,AS.le.refl _,rfl,rfl⟩
theorem sortnil_calls (s : AS) : ACalls Try.prog Γ 57 [nilS] s (fun r s'=>r = .tup []∧s' = s):=by
 refine acalls_body Try.func57 rfl Try.ntmps57 Try.results57 (by simp) ?_
 unfold nilS
 refine wS fun K hK=>?_
 simp only [↓DN,Qa,Qb,Qc,Qd,Qe,Qf,Qg,Qh,reduceCtorEq,↓reduceIte,Na,Nb,Nc,Nk,Nf,Ng,Nh,Za,Zb,Zc,TT]
 refine hK _ _ ?_;clear hK K
 refine wE fun K hK=>?_
 simp only [↓DN,Qa,Qb,Qc,Qd,Qe,Qf,Qg,Qh,reduceCtorEq,↓reduceIte,Na,Nb,Nc,Nk,Nf,Ng,Nh,Za,Zb,Zc,TT]
 refine acallk (lennil_calls _) ?_
 rintro r s2 ⟨⟨k,rfl⟩,rfl⟩
 simp only [↓DM,pval,DX,Nz,↓DN,Qa,Qb,Qc,Qd,Qe,Qf,Qg,Qh,reduceCtorEq,↓reduceIte,Na,Nb,Nc,Nk,Nf,Ng,Nh,Za,Zb,Zc,TT]
 refine acallk (pdqnil_calls k _) ?_
 rintro r s3 ⟨rfl,rfl⟩
 simp only [↓DM,pval,DX,Nz,↓DN,Qa,Qb,Qc,Qd,Qe,Qf,Qg,Qh,reduceCtorEq,↓reduceIte,Na,Nb,Nc,Nk,Nf,Ng,Nh,Za,Zb,Zc,TT]
 refine hK _ _ ?_;clear hK K
 simp only [retQ,AEnds,aresL,ares,List.toList_toArray,↓upd_same]; try simp only [UP,DF,Nc,↓reduceIte,DT]
 exact ⟨_,_,AV.weak.refl _,AS.le.refl _,rfl,rfl⟩
theorem sorted0_calls {gf : FuncId} {caps : List AV} {Pre : AS→Prop} {KL : List Int} (hcb : callable Try.prog gf = true) (hit : IterM Try.prog Γ gf caps Pre (keysA KL)) (hl : KL.length≤2 ^ 40) (s : AS) (hpre : ∀ s',s'.maps = s.maps→Pre s') :
  ACalls Try.prog Γ 44 [.clo gf caps] s (fun r s'=>∃ l : List Int,l.Perm KL∧OwnL s s' r (l.mergeSort fun x y=>decide (x≤y))):=by
 refine acalls_body Try.func44 rfl Try.ntmps44 Try.results44 (by simp) ?_
 refine wS fun K hK=>?_
 simp only [↓DN,Qa,Qb,Qc,Qd,Qe,Qf,Qg,Qh,reduceCtorEq,↓reduceIte,Na,Nb,Nc,Nk,Nf,Ng,Nh,Za,Zb,Zc,TT]
 refine hK _ _ ?_;clear hK K
 refine wS fun K hK=>?_
 simp only [↓DN,Qa,Qb,Qc,Qd,Qe,Qf,Qg,Qh,reduceCtorEq,↓reduceIte,Na,Nb,Nc,Nk,Nf,Ng,Nh,Za,Zb,Zc,TT]
 refine acallk (collect_calls hcb hit hl _ hpre) ?_
 rintro r s2 ⟨l,hp,hob,hnil,hnew,hle⟩
 rw [← hp.length_eq] at hl
 rcases List.eq_nil_or_concat l with rfl | ⟨l',v,hl'⟩
 ·obtain rfl:=hnil rfl
  simp only [↓DM,pval,DX,Nz,↓DN,Qa,Qb,Qc,Qd,Qe,Qf,Qg,Qh,reduceCtorEq,↓reduceIte,Na,Nb,Nc,Nk,Nf,Ng,Nh,Za,Zb,Zc,TT]
  refine hK _ _ ?_;clear hK K
  refine wS fun K hK=>?_
  simp only [↓DN,Qa,Qb,Qc,Qd,Qe,Qf,Qg,Qh,reduceCtorEq,↓reduceIte,Na,Nb,Nc,Nk,Nf,Ng,Nh,Za,Zb,Zc,TT]
  refine acallk (sortnil_calls _) ?_
  rintro r s3 ⟨rfl,rfl⟩
  simp only [↓DM,pval,DX,Nz,↓DN,Qa,Qb,Qc,Qd,Qe,Qf,Qg,Qh,reduceCtorEq,↓reduceIte,Na,Nb,Nc,Nk,Nf,Ng,Nh,Za,Zb,Zc,TT]
  refine hK _ _ ?_;clear hK K
  refine wS fun K hK=>?_
  simp only [↓DN,Qa,Qb,Qc,Qd,Qe,Qf,Qg,Qh,reduceCtorEq,↓reduceIte,Na,Nb,Nc,Nk,Nf,Ng,Nh,Za,Zb,Zc,TT]
  refine hK _ _ ?_;clear hK K
  refine awp_ret ?_
  try simp only [thenQ,blockQ]
  simp only [retQ,AEnds,aresL,ares,List.toList_toArray,↓upd_same]; try simp only [UP,DF,Nc,↓reduceIte,DT]
  exact ⟨_,_,AV.weak.refl _,AS.le.refl _,_,hp,by simpa using hob,fun _=>rfl,hnew,hle⟩
 ·have hpos : 0 < l.length:=by rw [hl']; simp
  have hml : (l.mergeSort fun x y=>decide (x≤y)).length = l.length:=by simp
  rcases hob with ⟨h0,_,_⟩ | ⟨o,cap,rest,rfl,ho,hcl,hrl,hnc,h63⟩
  ·omega
  ·simp only [↓DM,pval,DX,Nz,↓DN,Qa,Qb,Qc,Qd,Qe,Qf,Qg,Qh,reduceCtorEq,↓reduceIte,Na,Nb,Nc,Nk,Nf,Ng,Nh,Za,Zb,Zc,TT]
   refine hK _ _ ?_;clear hK K
   refine wS fun K hK=>?_
   simp only [↓DN,Qa,Qb,Qc,Qd,Qe,Qf,Qg,Qh,reduceCtorEq,↓reduceIte,Na,Nb,Nc,Nk,Nf,Ng,Nh,Za,Zb,Zc,TT]
   refine acallk (sort_int (by omega) ho) ?_
   rintro r s3 ⟨rfl,rfl⟩
   simp only [↓DM,pval,DX,Nz,↓DN,Qa,Qb,Qc,Qd,Qe,Qf,Qg,Qh,reduceCtorEq,↓reduceIte,Na,Nb,Nc,Nk,Nf,Ng,Nh,Za,Zb,Zc,TT]
   refine hK _ _ ?_;clear hK K
   refine wS fun K hK=>?_
   simp only [↓DN,Qa,Qb,Qc,Qd,Qe,Qf,Qg,Qh,reduceCtorEq,↓reduceIte,Na,Nb,Nc,Nk,Nf,Ng,Nh,Za,Zb,Zc,TT]
   refine hK _ _ ?_;clear hK K
   refine awp_ret ?_
   try simp only [thenQ,blockQ]
   simp only [retQ,AEnds,aresL,ares,List.toList_toArray,↓upd_same]; try simp only [UP,DF,Nc,↓reduceIte,DT]
   have hn : s.objs o = none:=hnew o rfl
   refine ⟨_,_,AV.weak.refl _,AS.le.refl _,l,hp,.inr ⟨o,cap,rest,by rw [hml],AS.set_objs_same _ _ _,by simp,by rw [hml]; exact hrl,by rw [hml]; exact hnc,h63⟩,?_,hnew,AS.le_set hle hn _⟩
   intro h
   rw [h] at hml
   simp only [List.length_nil] at hml
   omega
theorem sorted_calls {gf : FuncId} {caps : List AV} {Pre : AS→Prop} {KL : List Int} (hcb : callable Try.prog gf = true) (hit : IterM Try.prog Γ gf caps Pre (keysA KL)) (hl : KL.length≤2 ^ 40) (s : AS) (hpre : ∀ s',s'.maps = s.maps→Pre s') :
  ACalls Try.prog Γ 44 [.clo gf caps] s (fun r s'=>OwnL s s' r (KL.mergeSort fun x y=>decide (x≤y))) :=
 (sorted0_calls hcb hit hl s hpre).use fun r s' ⟨l,hp,h⟩=>by rw [← sort_perm hp]; exact h
theorem sortedK_calls {b : Nat} {KL : List Int} (hl : KL.length≤2 ^ 40) {s : AS} (hb : s.maps b = some (.map (KL.map shrKV))) : ACalls Try.prog Γ 44 [.clo 58 [.rop [.v (.map (some b))]]] s
  (fun r s'=>r = .sl 1 (KL.mergeSort fun x y=>decide (x≤y)).length ((KL.mergeSort fun x y=>decide (x≤y)).map intC) .any∧s' = s):=by
 refine ACalls.forget (ACalls.settle (sorted_calls (by kernel_rfl) (keys1_iter (Γ:=Γ) b KL) hl s (fun s' h=>by rw [h]; exact hb)) ?_ (R:=fun r s'=>r = .sl 1 (KL.mergeSort fun x y=>decide (x≤y)).length ((KL.mergeSort fun x y=>decide (x≤y)).map intC) .any∧s.le s')) fun r s' ⟨h1,h2⟩=>⟨s,h2,h1,rfl⟩
 rintro r s' ⟨hob,hnil,hnew,hle⟩
 rcases hob with ⟨h0,_,_⟩ | ⟨o,cap,rest,rfl,ho,hcl,hrl,hnc,h63⟩
 ·have e : (KL.mergeSort fun x y=>decide (x≤y)) = []:=List.eq_nil_of_length_eq_zero h0
  rw [hnil e,e]
  exact ⟨_,_,Settles.weak AV.weak_nil,rfl,hle⟩
 ·exact ⟨_,_,Settles.outer ho (by simp),rfl,AS.le_drop hle (hnew o rfl)⟩
end Go.Proofs.Ytfbbckndpkmfcaa
namespace Go.Proofs.Ytfbbckndpkmfcaa
open Go Go.AM Go.Proofs
variable {Γ : Nat→List AV}
theorem ledTime_calls {s0 s : AS} {p : Nat} {L : LedV} {gs : List GEnt} {gt ge b1 b2 : Nat} (h : LedS s0 s p L gs gt ge b1 b2) : ACalls Try.prog Γ 27 [.ptr p 0] s (fun r s'=>r = .v (.int .i64 L.time)∧s' = s):=by
 refine acalls_body Try.func27 rfl Try.ntmps27 Try.results27 (by simp) ?_
 have ho:=h.obj
 unfold ledC at ho
 refine wS fun K hK=>?_
 simp only [↓DN,Qa,Qb,Qc,Qd,Qe,Qf,Qg,Qh,reduceCtorEq,↓reduceIte,Na,Nb,Nc,Nk,Nf,Ng,Nh,Za,Zb,Zc,TT]
 refine hK _ _ ?_;clear hK K
 refine wS fun K hK=>?_
 simp only [↓DN,Qa,Qb,Qc,Qd,Qe,Qf,Qg,Qh,reduceCtorEq,↓reduceIte,Na,Nb,Nc,Nk,Nf,Ng,Nh,Za,Zb,Zc,TT,ho]
 refine hK _ _ ?_;clear hK K
 refine awp_ret ?_
 try simp only [thenQ,blockQ]
 simp only [retQ,AEnds,aresL,ares,List.toList_toArray,↓upd_same]; try simp only [UP,DF,Nc,↓reduceIte,DT]
 exact ⟨_,_,AV.weak.refl _,AS.le.refl _,rfl,rfl⟩
theorem ledBuckets_calls {s0 s : AS} {p : Nat} {L : LedV} {gs : List GEnt} {gt ge b1 b2 : Nat} (h : LedS s0 s p L gs gt ge b1 b2) (ht : totG gs≤2 ^ 40) (hg : gs.length≤2 ^ 40) :
  ACalls Try.prog Γ 31 [.ptr p 0] s (fun r s'=>(∃ KL : List Int,KL.Nodup∧(∀ b,b ∈ KL↔∃ x ∈ gs,∃ e ∈ x.es,e.bucket = b∧b ∉ L.shr)∧r = intsV (KL.mergeSort fun x y=>decide (x≤y)) .any)∧s' = s):=by
 refine tidyL (Q:=fun r=>∃ KL : List Int,KL.Nodup∧(∀ b,b ∈ KL↔∃ x ∈ gs,∃ e ∈ x.es,e.bucket = b∧b ∉ L.shr)∧r = intsV (KL.mergeSort fun x y=>decide (x≤y)) .any) ?_
 refine acalls_body Try.func31 rfl Try.ntmps31 Try.results31 (by simp) ?_
 have ho:=h.obj
 have hm1:=h.m1
 have hm2:=h.m2
 unfold ledC at ho
 have hz : azero Try.prog 4 = some (.bool false):=by kernel_rfl
 refine wS fun K hK=>?_
 simp only [↓DN,Qa,Qb,Qc,Qd,Qe,Qf,Qg,Qh,reduceCtorEq,↓reduceIte,Na,Nb,Nc,Nk,Nf,Ng,Nh,Za,Zb,Zc,TT]
 refine hK _ _ ?_;clear hK K
 refine wS fun K hK=>?_
 simp only [↓DN,Qa,Qb,Qc,Qd,Qe,Qf,Qg,Qh,reduceCtorEq,↓reduceIte,Na,Nb,Nc,Nk,Nf,Ng,Nh,Za,Zb,Zc,TT]
 intro b3 h3
 refine hK _ _ ?_;clear hK K
 have hn31 : b3≠b1:=by rintro rfl; rw [hm1] at h3; cases h3
 have hn32 : b2≠b3:=by rintro rfl; rw [hm2] at h3; cases h3
 refine wK fun K hK=>?_
 have hm1' : (s.setMap b3 []).maps b1 = some (.map (gs.map GEnt.kv)):=by rw [AS.setMap_ne _ hn31.symm]; exact hm1
 refine wS fun K hK=>?_
 simp only [↓DN,Qa,Qb,Qc,Qd,Qe,Qf,Qg,Qh,reduceCtorEq,↓reduceIte,Na,Nb,Nc,Nk,Nf,Ng,Nh,Za,Zb,Zc,TT,AS.setMap_objs,ho,amOf,avOf,Try.underlying49,hm1']
 intro es c r hr
 have hr1 : r≠b1:=by rintro rfl; rw [hm1'] at hr; cases hr
 have hr3 : r≠b3:=by rintro rfl; rw [AS.setMap_same] at hr; cases hr
 have hrs : s.maps r = none:=by rwa [AS.setMap_ne _ hr3] at hr
 refine hK _ _ ?_;clear hK K
 obtain ⟨s1,hs1⟩ : ∃ s1,s1 = ((s.setMap b3 []).putM b1 (.fix (gs.map GEnt.kv) es c)).putM r (.iter b1 es c (gs.map GEnt.kv) none):=⟨_,rfl⟩
 rw [← hs1]
 have hB : BkS s gs L.shr b1 b3 r es c gs [] s1:=by
  rw [hs1]
  exact {
   m1:=by simp [AS.setMap,AS.putM,upd,hr1.symm]
   mr:=⟨none,by simp [AS.putM]⟩
   m3:=by simp [AS.setMap,AS.putM,upd,hr3.symm,hn31]
   le:=by
    refine ⟨fun _ _ q=>q,fun _ _ q=>q,fun b m q=>?_⟩
    by_cases e1 : b = b1
    ·subst e1; rw [hm1] at q; cases q; simp [AS.putM]
    ·have e2 : b≠b3:=by rintro rfl; rw [h3] at q; cases q
     have e3 : b≠r:=by rintro rfl; rw [hrs] at q; cases q
     simpa [AS.setMap,AS.putM,upd,e1,e2,e3] using q
   nodup:=by simp
   mem:=fun _ q=>q
   has:=fun _ q=>by cases q }
 clear hs1 hr hm1'
 refine awp_block ?_
 refine awp_loop (fun E s'=>∃ (left : List GEnt) (KL : List Int),E 0 = .ptr p 0∧E 3 = .v (.map (some b3))∧E 13 = .v (.pointer (some ⟨r,0,none⟩))∧BkS s gs L.shr b1 b3 r es c left KL s'∧KL.length + totG left≤totG gs∧(∀ x ∈ gs,x ∈ left∨∀ e ∈ x.es,e.bucket ∉ L.shr→e.bucket ∈ KL))
  (fun _ s'=>match s'.maps r with | some (.iter _ _ _ left _)=>left.length | _=>0) ?_ ?_
 ·exact ⟨gs,[],by simp only [upd,initE,List.getD_cons_zero,List.getD_cons_succ,Nc,↓reduceIte],by simp only [upd,Nc,↓reduceIte],by simp only [upd,Nc,↓reduceIte],hB,by simp,fun x hx=>.inl hx⟩
 clear hB
 rintro E1 s2 ⟨left,KL,g0,g3,g13,hB,hlen,hall⟩ -
 obtain ⟨cur,hmr⟩:=hB.mr
 refine wS fun K hK=>?_
 simp only [↓DN,Qa,Qb,Qc,Qd,Qe,Qf,Qg,Qh,reduceCtorEq,↓reduceIte,Na,Nb,Nc,Nk,Nf,Ng,Nh,Za,Zb,Zc,TT,g13,hmr]
 refine ⟨_,hB.m1,?_,?_⟩
 ·intro hl
  obtain rfl : left = []:=by simpa using hl
  refine hK _ _ ?_;clear hK K
  refine wK fun K2 hK2=>?_
  refine wC fun X Y hX hY=>?_
  simp only [UP,DF,Nc,↓reduceIte,DB]
  refine hY ?_;clear hX hY X Y
  refine awp_exit ?_
  simp only [thenQ,blockQ,if_true]
  refine hK _ _ ?_;clear hK hK2 K2 K
  refine awp_tells (AS.tells_turn hB.m1) ?_
  have hm3 : (s2.putM b1 (.map (gs.map GEnt.kv))).maps b3 = some (.map (KL.map shrKV)):=by simpa [AS.putM,upd,hn31] using hB.m3
  have hle:=hB.le
  have hkl : KL.length≤2 ^ 40:=by omega
  generalize s2.putM b1 (.map (gs.map GEnt.kv)) = s3 at *
  refine wS fun K hK=>?_
  simp only [↓DN,Qa,Qb,Qc,Qd,Qe,Qf,Qg,Qh,reduceCtorEq,↓reduceIte,Na,Nb,Nc,Nk,Nf,Ng,Nh,Za,Zb,Zc,TT,g3]
  refine acallk (keys_calls b3 _) ?_
  rintro r s4 ⟨rfl,rfl⟩
  simp only [↓DM,pval,DX,Nz,↓DN,Qa,Qb,Qc,Qd,Qe,Qf,Qg,Qh,reduceCtorEq,↓reduceIte,Na,Nb,Nc,Nk,Nf,Ng,Nh,Za,Zb,Zc,TT]
  refine acallk (sortedK_calls hkl hm3) ?_
  rintro r s5 ⟨rfl,rfl⟩
  simp only [↓DM,pval,DX,Nz,↓DN,Qa,Qb,Qc,Qd,Qe,Qf,Qg,Qh,reduceCtorEq,↓reduceIte,Na,Nb,Nc,Nk,Nf,Ng,Nh,Za,Zb,Zc,TT]
  refine hK _ _ ?_;clear hK K
  refine awp_ret ?_
  try simp only [thenQ,blockQ]
  simp only [retQ,AEnds,aresL,ares,List.toList_toArray,↓upd_same]; try simp only [UP,DF,Nc,↓reduceIte,DT]
  refine ⟨_,_,AV.weak.refl _,AS.le.refl _,⟨KL,hB.nodup,fun b=>⟨hB.has b,?_⟩,rfl⟩,hle⟩
  rintro ⟨x,hx,e,he,rfl,hb⟩
  rcases hall x hx with a | a
  ·cases a
  ·exact a e he hb
 ·intro i hi
  have hi' : i < left.length:=by simpa using hi
  have hg : ∀ h,(left.map GEnt.kv)[i]'h = left[i].kv:=fun _=>List.getElem_map ..
  rw [hg,map_erase]
  refine hK _ _ ?_;clear hK K
  have hB2:=hB.next hrs hr1 hr3 hi'
  obtain ⟨hmem,hsum⟩:=erase_facts hi'
  have hyg:=hB.mem _ (List.getElem_mem hi')
  have hsum:=hsum fun x=>x.es.length
  have hmr2 : (s2.putM r (.iter b1 es c ((left.eraseIdx i).map GEnt.kv) (some left[i].kv))).maps r = some (.iter b1 es c ((left.eraseIdx i).map GEnt.kv) (some left[i].kv)):=by simp [AS.putM]
  have hlt : (left.eraseIdx i).length < left.length:=by rw [List.length_eraseIdx,if_pos hi']; omega
  clear hB
  generalize s2.putM r (.iter b1 es c ((left.eraseIdx i).map GEnt.kv) (some left[i].kv)) = s3 at *
  generalize left.eraseIdx i = left2 at *
  generalize left[i] = y at *
  have hyl : y.es.length≤2 ^ 40:=by
   unfold totG at *
   omega
  refine wK fun K2 hK2=>?_
  refine wC fun X Y hX hY=>?_
  simp only [UP,DF,Nc,↓reduceIte,DB]
  refine hX ?_;clear hX hY X Y
  refine awp_skip ?_
  refine hK2 _ _ ?_;clear hK2 K2
  refine awp_block ?_
  unfold GEnt.kv GEnt.av at hmr2
  have hrow:=fun i (h : i < y.es.length)=>row_at (c:=EntV.cells) (k:=5) (fun _=>rfl) h
  generalize hX : rowC EntV.cells y.es = X at *
  refine wS fun K hK=>?_
  simp only [↓DN,Qa,Qb,Qc,Qd,Qe,Qf,Qg,Qh,reduceCtorEq,↓reduceIte,Na,Nb,Nc,Nk,Nf,Ng,Nh,Za,Zb,Zc,TT,g13,hmr2]
  refine ⟨_,hB2.m1,?_⟩
  refine hK _ _ ?_;clear hK K
  refine wS fun K hK=>?_
  simp only [↓DN,Qa,Qb,Qc,Qd,Qe,Qf,Qg,Qh,reduceCtorEq,↓reduceIte,Na,Nb,Nc,Nk,Nf,Ng,Nh,Za,Zb,Zc,TT]
  refine hK _ _ ?_;clear hK K
  refine awp_block ?_
  refine awp_loop (fun E s'=>∃ (j : Nat) (KN : List Int),j≤y.es.length∧E 0 = .ptr p 0∧E 3 = .v (.map (some b3))∧E 13 = .v (.pointer (some ⟨r,0,none⟩))∧E 18 = .sl 5 y.es.length X (.own y.t y.e)∧E 19 = .v (.int .i64 y.es.length)∧E 20 = .v (.int .i64 j) ∧
    BkS s gs L.shr b1 b3 r es c left2 KN s'∧KN.length≤KL.length + j∧(∀ b ∈ KL,b ∈ KN)∧(∀ k,(h : k < y.es.length)→k < j→y.es[k].bucket ∉ L.shr→y.es[k].bucket ∈ KN))
   (fun E _=>match E 20 with | .v (.int _ i)=>y.es.length - i.toNat | _=>0) ?_ ?_
  ·exact ⟨0,KL,Nat.zero_le _,by simp only [upd,g0,Nc,↓reduceIte],by simp only [upd,g3,Nc,↓reduceIte],by simp only [upd,g13,Nc,↓reduceIte],by simp only [upd,Nc,↓reduceIte],by simp only [upd,Nc,↓reduceIte],by simp only [upd,↓reduceIte]; rfl,hB2,by omega,fun _ q=>q,fun _ _ q=>absurd q (Nat.not_lt_zero _)⟩
  clear hB2 hmr2
  rintro E2 s4 ⟨j,KN,hj,k0,k3,k13,k18,k19,k20,hB,hkl,hsub,hdone⟩ -
  by_cases hj' : j < y.es.length
  ·refine wS fun K hK=>?_
   simp only [↓DN,Qa,Qb,Qc,Qd,Qe,Qf,Qg,Qh,reduceCtorEq,↓reduceIte,Na,Nb,Nc,Nk,Nf,Ng,Nh,Za,Zb,Zc,TT,k20,k19,eye_lt_nat,decide_eq_true hj']
   refine hK _ _ ?_;clear hK K
   refine wK fun K3 hK3=>?_
   refine wC fun X Y hX hY=>?_
   simp only [UP,DF,Nc,↓reduceIte,DB]
   refine hX ?_;clear hX hY X Y
   refine awp_skip ?_
   refine hK3 _ _ ?_;clear hK3 K3
   refine wK fun K3 hK3=>?_
   refine awp_block ?_
   have hat:=hrow j hj'
   have hge : (0 : Int)≤((j : Nat) : Int):=by omega
   obtain ⟨d,hd⟩ : ∃ d,d = y.es[j]:=⟨_,rfl⟩
   have hdm : d ∈ y.es:=by rw [hd]; exact List.getElem_mem hj'
   have hstep : ∀ KN' : List Int,(∀ b ∈ KN,b ∈ KN')→(d.bucket ∉ L.shr→d.bucket ∈ KN')→∀ k,(h : k < y.es.length)→k < j + 1→y.es[k].bucket ∉ L.shr→y.es[k].bucket ∈ KN':=by
    intro KN' h1 h2 k hk hkj hb
    by_cases e : k = j
    ·subst e
     rw [← hd] at hb ⊢
     exact h2 hb
    ·exact h1 _ (hdone k hk (by omega) hb)
   rw [← hd] at hat
   clear hd hdone
   have hend : ∀ (E : Env) (s' : AS) (KN' : List Int),E 0 = .ptr p 0→E 3 = .v (.map (some b3))→E 13 = .v (.pointer (some ⟨r,0,none⟩))→E 18 = .sl 5 y.es.length X (.own y.t y.e)→E 19 = .v (.int .i64 y.es.length)→E 20 = .v (.int .i64 j) →
     BkS s gs L.shr b1 b3 r es c left2 KN' s'→KN'.length≤KN.length + 1→(∀ b ∈ KN,b ∈ KN')→(d.bucket ∉ L.shr→d.bucket ∈ KN')→K3 E s':=by
    intro E s' KN' g0 g3 g13 g18 g19 g20 hB hl h1 h2
    refine hK3 _ _ ?_;clear hK3 K3
    refine wE fun K hK=>?_
    simp only [↓DN,Qa,Qb,Qc,Qd,Qe,Qf,Qg,Qh,reduceCtorEq,↓reduceIte,Na,Nb,Nc,Nk,Nf,Ng,Nh,Za,Zb,Zc,TT,g20,eye_succM j (by omega)]
    refine hK _ _ ?_;clear hK K
    refine ⟨⟨j + 1,KN',hj',by simp only [upd,g0,Nc,↓reduceIte],by simp only [upd,g3,Nc,↓reduceIte],by simp only [upd,g13,Nc,↓reduceIte],by simp only [upd,g18,Nc,↓reduceIte],by simp only [upd,g19,Nc,↓reduceIte],by simp only [upd,Nc,↓reduceIte],hB,by omega,fun b hb=>h1 b (hsub b hb),hstep KN' h1 h2⟩,?_⟩
    simp only [k20,upd,↓reduceIte]
    omega
   clear hK3 hstep
   obtain ⟨d1,d2,d3,d4,d5⟩:=d
   unfold EntV.cells at hat
   simp only at hat hend
   refine wS fun K hK=>?_
   simp only [↓DN,Qa,Qb,Qc,Qd,Qe,Qf,Qg,Qh,reduceCtorEq,↓reduceIte,Na,Nb,Nc,Nk,Nf,Ng,Nh,Za,Zb,Zc,TT,k18,k20,hge,eye_lt_nat,hj',hat]
   intro o7 q7
   refine hK _ _ ?_;clear hK K
   have hp7 : p≠o7:=by
    rintro rfl
    rw [show s4.objs p = _ from hB.le.objs p _ ho] at q7
    cases q7
   have hB5:=hB.obj q7 [.v (.int .i64 d1),.v (.int .i64 d2),.v (.int .i64 d3),.v (.int .i64 d4),.v (.int .i64 d5)]
   have ho7:=AS.set_objs_same s4 o7 [.v (.int .i64 d1),.v (.int .i64 d2),.v (.int .i64 d3),.v (.int .i64 d4),.v (.int .i64 d5)]
   generalize s4.set o7 [.v (.int .i64 d1),.v (.int .i64 d2),.v (.int .i64 d3),.v (.int .i64 d4),.v (.int .i64 d5)] = s5 at *
   clear hB
   have ho5 : s5.objs p = _:=hB5.le.objs p _ ho
   have hn21 : b2≠b1:=h.ne.symm
   have hm5 : s5.maps b2 = some (.map (L.shr.map shrKV)):=by
    have:=hB5.le.maps b2 _ hm2
    simpa [AS.putM,upd,hn21] using this
   have hm53:=hB5.m3
   generalize grpAV gs gt ge = XG at ho5
   have hf:=find_shr d5 L.shr
   have hk : keyPlain (.int .i64) (.int .i64 d5) = true:=rfl
   by_cases hb : d5 ∈ L.shr
   ·rw [if_pos hb] at hf
    refine awp_mrk_seq T.mixed [(p,[.v (.int .i64 L.count),.v (.int .i64 L.time),XG,.v (.map (some b1)),.v (.map (some b2))]),(o7,[.v (.int .i64 d1),.v (.int .i64 d2),.v (.int .i64 d3),.v (.int .i64 d4),.v (.int .i64 d5)])] [6] [3,5] [] (by kernel_rfl) (by simp only [Pres_cons,Pres_nil,and_true]; simp [AS.set,upd,ho5,ho7]) ?_
    intro K hK
    simp only [↓AXr_nil,↓AXr_cons,gval,lval,fzGet_cons,fzGet_nil,Pres_cons,Pres_nil,List.any_cons,List.any_nil,List.contains_cons,List.contains_nil,Nat.reduceBEq,Bool.or_false,Bool.or_true,Bool.or_self,Bool.false_or,↓DN,Qa,Qb,Qc,Qd,Qe,Qf,Qg,Qh,reduceCtorEq,↓reduceIte,Na,Nb,Nc,Nk,Nf,Ng,Nh,Za,Zb,Zc,TT,k0,ho5,ho7,eq_false hp7,amOf,avOf,hm5,Try.underlying50,Try.underlying3,hz,hk,hf]
    refine hK _ _ ?_;clear hK K
    refine wC fun X Y hX hY=>?_
    simp only [UP,DF,Nc,↓reduceIte,DB]
    refine hY ?_;clear hX hY X Y
    refine awp_skip ?_
    simp only [blockQ,thenQ]
    exact hend _ _ KN (by simp only [upd,k0,Nc,↓reduceIte]) (by simp only [upd,k3,Nc,↓reduceIte]) (by simp only [upd,k13,Nc,↓reduceIte]) (by simp only [upd,k18,Nc,↓reduceIte]) (by simp only [upd,k19,Nc,↓reduceIte]) (by simp only [upd,k20,Nc,↓reduceIte]) hB5 (by omega) (fun _ q=>q) (fun q=>absurd hb q)
   ·rw [if_neg hb] at hf
    refine awp_mrk_seq T.mixed [(p,[.v (.int .i64 L.count),.v (.int .i64 L.time),XG,.v (.map (some b1)),.v (.map (some b2))]),(o7,[.v (.int .i64 d1),.v (.int .i64 d2),.v (.int .i64 d3),.v (.int .i64 d4),.v (.int .i64 d5)])] [6] [3,5] [] (by kernel_rfl) (by simp only [Pres_cons,Pres_nil,and_true]; simp [AS.set,upd,ho5,ho7]) ?_
    intro K hK
    simp only [↓AXr_nil,↓AXr_cons,gval,lval,fzGet_cons,fzGet_nil,Pres_cons,Pres_nil,List.any_cons,List.any_nil,List.contains_cons,List.contains_nil,Nat.reduceBEq,Bool.or_false,Bool.or_true,Bool.or_self,Bool.false_or,↓DN,Qa,Qb,Qc,Qd,Qe,Qf,Qg,Qh,reduceCtorEq,↓reduceIte,Na,Nb,Nc,Nk,Nf,Ng,Nh,Za,Zb,Zc,TT,k0,ho5,ho7,eq_false hp7,amOf,avOf,hm5,Try.underlying50,Try.underlying3,hz,hk,hf]
    refine hK _ _ ?_;clear hK K
    refine wC fun X Y hX hY=>?_
    simp only [UP,DF,Nc,↓reduceIte,DB]
    refine hX ?_;clear hX hY X Y
    have hs:=set_putB d5 KN
    refine wE fun K hK=>?_
    simp only [↓DN,Qa,Qb,Qc,Qd,Qe,Qf,Qg,Qh,reduceCtorEq,↓reduceIte,Na,Nb,Nc,Nk,Nf,Ng,Nh,Za,Zb,Zc,TT,k3,ho7,amOf,avOf,hm53,Try.underlying50,Try.underlying3,hk,hs]
    refine hK _ _ ?_;clear hK K
    obtain ⟨z1,z2,z3⟩:=putB_spec d5 KN hB5.nodup
    exact hend _ _ (putB d5 KN) (by simp only [upd,k0,Nc,↓reduceIte]) (by simp only [upd,k3,Nc,↓reduceIte]) (by simp only [upd,k13,Nc,↓reduceIte]) (by simp only [upd,k18,Nc,↓reduceIte]) (by simp only [upd,k19,Nc,↓reduceIte]) (by simp only [upd,k20,Nc,↓reduceIte]) (hB5.add h3 hn31 hr3 ⟨y,hyg,_,hdm,rfl,hb⟩) z2 (fun b q=>(z3 b).2 (.inr q)) (fun _=>(z3 d5).2 (.inl rfl))
  ·refine wS fun K hK=>?_
   simp only [↓DN,Qa,Qb,Qc,Qd,Qe,Qf,Qg,Qh,reduceCtorEq,↓reduceIte,Na,Nb,Nc,Nk,Nf,Ng,Nh,Za,Zb,Zc,TT,k20,k19,eye_lt_nat,decide_eq_false hj']
   refine hK _ _ ?_;clear hK K
   refine wK fun K3 hK3=>?_
   refine wC fun X Y hX hY=>?_
   simp only [UP,DF,Nc,↓reduceIte,DB]
   refine hY ?_;clear hX hY X Y
   refine awp_exit ?_
   simp only [thenQ,blockQ,if_true]
   obtain rfl : j = y.es.length:=by omega
   obtain ⟨cur2,hmr2⟩:=hB.mr
   refine ⟨⟨left2,KN,by simp only [upd,k0,Nc,↓reduceIte],by simp only [upd,k3,Nc,↓reduceIte],by simp only [upd,k13,Nc,↓reduceIte],hB,?_,fun x hx=>?_⟩,?_⟩
   ·unfold totG at *
    omega
   ·rcases hall x hx with a | a
    ·rcases (hmem x).1 a with rfl | a
     ·refine .inr fun e he hb=>?_
      obtain ⟨k,hk,rfl⟩:=List.getElem_of_mem he
      exact hdone k hk hk hb
     ·exact .inl a
    ·exact .inr fun e he hb=>hsub _ (a e he hb)
   ·rw [hmr2,hmr]
    simpa using hlt
end Go.Proofs.Ytfbbckndpkmfcaa
namespace Go.Proofs.Ytfbbckndpkmfcaa
open Go Go.AM Go.Proofs
variable {Γ : Nat→List AV}
def findE (ep : Int) (l : List EntV) : Option EntV:=l.find? fun e=>decide (e.epoch = ep)
theorem ledFind_calls {s0 s : AS} {p : Nat} {L : LedV} {gs : List GEnt} {gt ge b1 b2 : Nat} (h : LedS s0 s p L gs gt ge b1 b2) (hle : ∀ x ∈ gs,x.es≠[]∧x.es.length≤2 ^ 40) (g : List UInt8) (ep : Int) :
  ACalls Try.prog Γ 35 [.ptr p 0,bytesV g .any,.v (.int .i64 ep)] s (fun r s'=>r = .tup [.agg ((findE ep (entsOf g L.gs)).getD EntV.nought).cells,.v (.bool (findE ep (entsOf g L.gs)).isSome)]∧s' = s):=by
 refine tidyL (Q:=fun r=>r = .tup [.agg ((findE ep (entsOf g L.gs)).getD EntV.nought).cells,.v (.bool (findE ep (entsOf g L.gs)).isSome)]) ?_
 refine acalls_body Try.func35 rfl Try.ntmps35 Try.results35 (by simp) ?_
 have ho:=h.obj
 have hm:=h.m1
 have hf:=find_grp g gs
 have hz : azero Try.prog 58 = some (.slice none 0 0):=by kernel_rfl
 have hk : keyPlain .string (.string ⟨g.toArray⟩) = true:=rfl
 have hcase:=lookE (gs:=gs) g
 rw [← h.val] at hcase
 unfold ledC at ho
 unfold bytesV
 obtain ⟨F,hF⟩ : ∃ F,F = findE ep (entsOf g L.gs):=⟨_,rfl⟩
 rw [← hF]
 refine wS fun K hK=>?_
 simp only [↓DN,Qa,Qb,Qc,Qd,Qe,Qf,Qg,Qh,reduceCtorEq,↓reduceIte,Na,Nb,Nc,Nk,Nf,Ng,Nh,Za,Zb,Zc,TT]
 intro o6 q6
 refine hK _ _ ?_;clear hK K
 have hp6 : p≠o6:=by rintro rfl; rw [ho] at q6; cases q6
 obtain ⟨es,hes⟩ : ∃ es,es = entsOf g L.gs:=⟨_,rfl⟩
 rw [← hes] at hF
 have hrow:=fun i (h : i < es.length)=>row_at (c:=EntV.cells) (k:=5) (fun _=>rfl) h
 have hlen : es.length≤2 ^ 40:=by
  rcases hcase with ⟨_,h2,_⟩ | ⟨x,hx,_,_,h3,_⟩
  ·rw [hes,h2]; decide
  ·rw [hes,h3]; exact (hle x hx).2
 refine wK fun K hK=>?_
 refine wK fun K1 hK1=>?_
 have hJ : ∀ (E : Env) (s1 : AS) (xv : AV),(es≠[]→∃ t e,xv = .sl 5 es.length (rowC EntV.cells es) (.own t e))→E 2 = .v (.int .i64 ep)→E 6 = .ptr o6 0→E 16 = xv→E 17 = .v (.int .i64 es.length)→E 18 = .v (.int .i64 0) →
   s.le s1→s1.objs o6 = some EntV.nought.cells→K1 E s1:=by
  intro E s1 xv hx g2 g6 g16 g17 g18 hl1 ho6
  refine hK1 _ _ ?_;clear hK1 K1
  generalize rowC EntV.cells es = X at *
  refine awp_block ?_
  refine awp_loop (fun E s'=>∃ j : Nat,j≤es.length∧E 2 = .v (.int .i64 ep)∧E 6 = .ptr o6 0∧E 16 = xv∧E 17 = .v (.int .i64 es.length)∧E 18 = .v (.int .i64 j)∧(∀ k,(h : k < es.length)→k < j→es[k].epoch≠ep)∧s.le s'∧s'.objs o6 = some EntV.nought.cells)
   (fun E _=>match E 18 with | .v (.int _ i)=>es.length - i.toNat | _=>0) ?_ ?_
  ·exact ⟨0,Nat.zero_le _,g2,g6,g16,g17,g18,fun _ _ q=>absurd q (Nat.not_lt_zero _),hl1,ho6⟩
  clear g2 g6 g16 g17 g18 hl1 ho6
  rintro E2 s2 ⟨j,hj,g2,g6,g16,g17,g18,hne,hl1,ho6⟩ -
  by_cases hj' : j < es.length
  ·obtain ⟨t,e,rfl⟩:=hx (fun q=>by rw [q] at hj'; cases hj')
   refine wS fun K hK=>?_
   simp only [↓DN,Qa,Qb,Qc,Qd,Qe,Qf,Qg,Qh,reduceCtorEq,↓reduceIte,Na,Nb,Nc,Nk,Nf,Ng,Nh,Za,Zb,Zc,TT,g18,g17,eye_lt_nat,decide_eq_true hj']
   refine hK _ _ ?_;clear hK K
   refine wK fun K3 hK3=>?_
   refine wC fun X Y hX hY=>?_
   simp only [UP,DF,Nc,↓reduceIte,DB]
   refine hX ?_;clear hX hY X Y
   refine awp_skip ?_
   refine hK3 _ _ ?_;clear hK3 K3
   refine wK fun K3 hK3=>?_
   refine awp_block ?_
   have hat:=hrow j hj'
   have hge : (0 : Int)≤((j : Nat) : Int):=by omega
   have hfd : es[j].epoch = ep→F = some es[j]:=by
    intro q
    rw [hF]
    unfold findE
    rw [List.find?_eq_some_iff_getElem]
    exact ⟨by simpa using q,j,hj',rfl,fun k hk=>by simpa using hne k (by omega) hk⟩
   have hnx : es[j].epoch≠ep→∀ k,(h : k < es.length)→k < j + 1→es[k].epoch≠ep:=by
    intro q k hk hkj
    by_cases e : k = j
    ·subst e; exact q
    ·exact hne k hk (by omega)
   generalize es[j] = d at *
   obtain ⟨d1,d2,d3,d4,d5⟩:=d
   unfold EntV.cells at hat
   simp only at hat hfd hnx
   refine wS fun K hK=>?_
   simp only [↓DN,Qa,Qb,Qc,Qd,Qe,Qf,Qg,Qh,reduceCtorEq,↓reduceIte,Na,Nb,Nc,Nk,Nf,Ng,Nh,Za,Zb,Zc,TT,g16,g18,hge,eye_lt_nat,hj',hat]
   intro o9 q9
   refine hK _ _ ?_;clear hK K
   have h69 : o6≠o9:=by rintro rfl; rw [ho6] at q9; cases q9
   have hl5:=AS.le_set hl1 (AS.le_none hl1 q9) [.v (.int .i64 d1),.v (.int .i64 d2),.v (.int .i64 d3),.v (.int .i64 d4),.v (.int .i64 d5)]
   have ho9:=AS.set_objs_same s2 o9 [.v (.int .i64 d1),.v (.int .i64 d2),.v (.int .i64 d3),.v (.int .i64 d4),.v (.int .i64 d5)]
   have ho6':=(AS.set_objs_ne s2 h69 [.v (.int .i64 d1),.v (.int .i64 d2),.v (.int .i64 d3),.v (.int .i64 d4),.v (.int .i64 d5)]).trans ho6
   generalize s2.set o9 [.v (.int .i64 d1),.v (.int .i64 d2),.v (.int .i64 d3),.v (.int .i64 d4),.v (.int .i64 d5)] = s5 at *
   by_cases he : d3 = ep
   ·refine wS fun K hK=>?_
    simp only [↓DN,Qa,Qb,Qc,Qd,Qe,Qf,Qg,Qh,reduceCtorEq,↓reduceIte,Na,Nb,Nc,Nk,Nf,Ng,Nh,Za,Zb,Zc,TT,ho9,g2,int_eq_yes he]
    refine hK _ _ ?_;clear hK K
    refine wC fun X Y hX hY=>?_
    simp only [UP,DF,Nc,↓reduceIte,DB]
    refine hX ?_;clear hX hY X Y
    unfold EntV.nought EntV.cells at ho6'
    refine wS fun K hK=>?_
    simp only [↓DN,Qa,Qb,Qc,Qd,Qe,Qf,Qg,Qh,reduceCtorEq,↓reduceIte,Na,Nb,Nc,Nk,Nf,Ng,Nh,Za,Zb,Zc,TT,ho9,g6,ho6']
    refine hK _ _ ?_;clear hK K
    refine awp_ret ?_
    refine aends_cell_tmp (o:=o6) (off:=0) (by simp only [upd,g6,Nc,↓reduceIte]) (AS.set_objs_same _ _ _) (by rw [T.c54]; decide) (by simp only [↓DN,Qa,Qb,Qc,Qd,Qe,Qf,Qg,Qh,reduceCtorEq,↓reduceIte,Na,Nb,Nc,Nk,Nf,Ng,Nh,Za,Zb,Zc,TT]; rfl) ?_
    rw [hfd he]
    exact ⟨_,_,AV.weak.refl _,AS.le.refl _,rfl,AS.le_set hl5 q6 _⟩
   ·refine wS fun K hK=>?_
    simp only [↓DN,Qa,Qb,Qc,Qd,Qe,Qf,Qg,Qh,reduceCtorEq,↓reduceIte,Na,Nb,Nc,Nk,Nf,Ng,Nh,Za,Zb,Zc,TT,ho9,g2,int_eq_no he]
    refine hK _ _ ?_;clear hK K
    refine wC fun X Y hX hY=>?_
    simp only [UP,DF,Nc,↓reduceIte,DB]
    refine hY ?_;clear hX hY X Y
    refine awp_skip ?_
    simp only [blockQ,thenQ]
    refine hK3 _ _ ?_;clear hK3 K3
    refine wE fun K hK=>?_
    simp only [↓DN,Qa,Qb,Qc,Qd,Qe,Qf,Qg,Qh,reduceCtorEq,↓reduceIte,Na,Nb,Nc,Nk,Nf,Ng,Nh,Za,Zb,Zc,TT,g18,eye_succM j (by omega)]
    refine hK _ _ ?_;clear hK K
    refine ⟨⟨j + 1,hj',by simp only [upd,g2,Nc,↓reduceIte],by simp only [upd,g6,Nc,↓reduceIte],by simp only [upd,g16,Nc,↓reduceIte],by simp only [upd,g17,Nc,↓reduceIte],by simp only [upd,Nc,↓reduceIte],hnx he,hl5,ho6'⟩,?_⟩
    simp only [g18,upd,↓reduceIte]
    omega
  ·refine wS fun K hK=>?_
   simp only [↓DN,Qa,Qb,Qc,Qd,Qe,Qf,Qg,Qh,reduceCtorEq,↓reduceIte,Na,Nb,Nc,Nk,Nf,Ng,Nh,Za,Zb,Zc,TT,g18,g17,eye_lt_nat,decide_eq_false hj']
   refine hK _ _ ?_;clear hK K
   refine wK fun K3 hK3=>?_
   refine wC fun X Y hX hY=>?_
   simp only [UP,DF,Nc,↓reduceIte,DB]
   refine hY ?_;clear hX hY X Y
   refine awp_exit ?_
   simp only [thenQ,blockQ,if_true]
   refine hK _ _ ?_;clear hK hK3 K3 K
   obtain rfl : F = none:=by
    rw [hF]
    unfold findE
    rw [List.find?_eq_none]
    intro e he
    obtain ⟨k,hk,rfl⟩:=List.getElem_of_mem he
    simpa using hne k hk (by omega)
   unfold EntV.nought EntV.cells at *
   refine wS fun K hK=>?_
   simp only [↓DN,Qa,Qb,Qc,Qd,Qe,Qf,Qg,Qh,reduceCtorEq,↓reduceIte,Na,Nb,Nc,Nk,Nf,Ng,Nh,Za,Zb,Zc,TT,g6,ho6]
   refine hK _ _ ?_;clear hK K
   refine awp_ret ?_
   refine aends_cell_tmp (o:=o6) (off:=0) (by simp only [upd,g6,Nc,↓reduceIte]) (AS.set_objs_same _ _ _) (by rw [T.c54]; decide) (by simp only [↓DN,Qa,Qb,Qc,Qd,Qe,Qf,Qg,Qh,reduceCtorEq,↓reduceIte,Na,Nb,Nc,Nk,Nf,Ng,Nh,Za,Zb,Zc,TT]; rfl) ?_
   exact ⟨_,_,AV.weak.refl _,AS.le.refl _,rfl,AS.le_set hl1 q6 _⟩
 clear hK1 hK
 have hl6:=AS.le_set (AS.le.refl s) q6 EntV.nought.cells
 rcases hcase with ⟨h1,h2,_⟩ | ⟨x,hx,h1,h2,h3,_⟩
 ·rw [h1] at hf
  rw [h2] at hes
  subst hes
  refine awp_drw_end T.mixed [3,6] (by kernel_rfl) ?_
  intro K hK
  simp only [↓DM,pval,DX,Nz,↓DN,Qa,Qb,Qc,Qd,Qe,Qf,Qg,Qh,reduceCtorEq,↓reduceIte,Na,Nb,Nc,Nk,Nf,Ng,Nh,Za,Zb,Zc,TT,AS.set_objs_ne _ hp6,ho,AS.set_maps,amOf,avOf,hm,Try.underlying49,Try.underlying9,hz,hk,hf]
  refine hK _ _ ?_;clear hK K
  exact hJ _ _ (.v (.slice none 0 0)) (fun q=>absurd rfl q) (by simp only [upd,initE,List.getD_cons_zero,List.getD_cons_succ,Nc,↓reduceIte]) (by simp only [upd,Nc,↓reduceIte]) (by simp only [upd,Nc,↓reduceIte]) (by simp only [upd,Nc,↓reduceIte]; rfl) (by simp only [upd,↓reduceIte]) hl6 (AS.set_objs_same _ _ _)
 ·rw [h1] at hf
  rw [h3] at hes
  subst hes
  simp only [Option.map_some,GEnt.av] at hf
  refine awp_drw_end T.mixed [3,6] (by kernel_rfl) ?_
  intro K hK
  simp only [↓DM,pval,DX,Nz,↓DN,Qa,Qb,Qc,Qd,Qe,Qf,Qg,Qh,reduceCtorEq,↓reduceIte,Na,Nb,Nc,Nk,Nf,Ng,Nh,Za,Zb,Zc,TT,AS.set_objs_ne _ hp6,ho,AS.set_maps,amOf,avOf,hm,Try.underlying49,Try.underlying9,hz,hk,hf]
  refine hK _ _ ?_;clear hK K
  exact hJ _ _ _ (fun _=>⟨x.t,x.e,rfl⟩) (by simp only [upd,initE,List.getD_cons_zero,List.getD_cons_succ,Nc,↓reduceIte]) (by simp only [upd,Nc,↓reduceIte]) (by simp only [upd,Nc,↓reduceIte]) (by simp only [upd,Nc,↓reduceIte]) (by simp only [upd,Nc,↓reduceIte]) hl6 (AS.set_objs_same _ _ _)
end Go.Proofs.Ytfbbckndpkmfcaa
namespace Go.Proofs.Ytfbbckndpkmfcaa
open Go Go.AM Go.Proofs
variable {Γ : Nat→List AV}
theorem len_bne_true {a b : Nat} (h : a≠b) : (((a : Int) != (b : Int))) = true:=by
 rw [bne_iff_ne]
 omega
theorem len_bne_false {a b : Nat} (h : a = b) : (((a : Int) != (b : Int))) = false:=by subst h; simp
theorem texts_calls (l : List (List UInt8)) (hl : l.length≤2 ^ 30) (s : AS) : ACalls Try.prog Γ 17 [textsV l] s (fun r s'=>r = strsV l∧s' = s):=by
 refine acalls_body Try.func17 rfl Try.ntmps17 Try.results17 (by simp) ?_
 have hat:=fun (i : Nat) (hi : i < l.length)=>text_at1 hi
 have hsl : strsV l = .sl 1 l.length (l.map strC) .any:=rfl
 rw [hsl]
 unfold textsV
 generalize hX : (l.map fun b=>bytesV b .any) = X at *
 refine wS fun K hK=>?_
 simp only [↓DN,Qa,Qb,Qc,Qd,Qe,Qf,Qg,Qh,reduceCtorEq,↓reduceIte,Na,Nb,Nc,Nk,Nf,Ng,Nh,Za,Zb,Zc,TT]
 refine hK _ _ ?_;clear hK K
 refine wS fun K hK=>?_
 simp only [↓DN,Qa,Qb,Qc,Qd,Qe,Qf,Qg,Qh,reduceCtorEq,↓reduceIte,Na,Nb,Nc,Nk,Nf,Ng,Nh,Za,Zb,Zc,TT]
 refine hK _ _ ?_;clear hK K
 refine wK fun K hK=>?_
 refine wS fun K hK=>?_
 simp only [↓DN,Qa,Qb,Qc,Qd,Qe,Qf,Qg,Qh,reduceCtorEq,↓reduceIte,Na,Nb,Nc,Nk,Nf,Ng,Nh,Za,Zb,Zc,TT]
 refine hK _ _ ?_;clear hK K
 refine awp_block ?_
 refine awp_loop (fun E s2=>∃ (i : Nat) (x : AV),i≤l.length∧E 4 = .v (.int .i64 i)∧E 0 = .sl 1 l.length X .any∧E 3 = x∧RBuf 1 s s2 x i ((l.take i).map strC)∧s.le s2)
  (fun E _=>match E 4 with | .v (.int _ i)=>l.length - i.toNat | _=>0) ?_ ?_
 ·exact ⟨0,_,Nat.zero_le _,by simp only [upd,Nc,↓reduceIte]; rfl,by simp only [upd,initE,List.getD_cons_zero,List.getD_cons_succ,Nc,↓reduceIte],by simp only [upd,Nc,↓reduceIte]; rfl,RBuf.nil _ _ _,AS.le.refl _⟩
 ·rintro E1 s4 ⟨i,x,hi,g4,g0,g3,hx,hle⟩ -
  refine wK fun K2 hK2=>?_
  by_cases hi' : i < l.length
  ·refine wS fun K hK=>?_
   simp only [↓DN,Qa,Qb,Qc,Qd,Qe,Qf,Qg,Qh,reduceCtorEq,↓reduceIte,Na,Nb,Nc,Nk,Nf,Ng,Nh,Za,Zb,Zc,TT,g4,g0,eye_lt_nat,decide_eq_true hi']
   refine hK _ _ ?_;clear hK K
   refine wC fun X Y hX hY=>?_
   simp only [UP,DF,Nc,↓reduceIte,DB]
   refine hX ?_;clear hX hY X Y
   refine awp_skip ?_
   refine hK2 _ _ ?_;clear hK2 K2
   refine wK fun K3 hK3=>?_
   refine awp_block ?_
   have hge : (0 : Int)≤(i : Int):=by omega
   have hat':=hat i hi'
   have htk:=List.take_succ_eq_append_getElem hi'
   have hend : ∀ (E : Env) (s5 : AS) (x2 : AV),E 4 = .v (.int .i64 i)→E 0 = .sl 1 l.length X .any→E 3 = x2→RBuf 1 s s5 x2 (i + 1) ((l.take (i + 1)).map strC)→s.le s5→K3 E s5:=by
    intro E s5 x2 f4 f0 f3 fx fle
    refine hK3 _ _ ?_;clear hK3 K3
    refine wE fun K hK=>?_
    simp only [↓DN,Qa,Qb,Qc,Qd,Qe,Qf,Qg,Qh,reduceCtorEq,↓reduceIte,Na,Nb,Nc,Nk,Nf,Ng,Nh,Za,Zb,Zc,TT,f4,eye_succM i (by omega)]
    refine hK _ _ ?_;clear hK K
    refine ⟨⟨i + 1,x2,by omega,by simp only [upd,Nc,↓reduceIte],by simp only [upd,f0,Nc,↓reduceIte],by simp only [upd,f3,Nc,↓reduceIte],fx,fle⟩,?_⟩
    simp only [g4,upd,↓reduceIte]
    omega
   clear hK3
   rw [htk,List.map_append,List.map_cons,List.map_nil] at hend
   generalize l[i] = b at *
   generalize (l.take i).map strC = L at *
   unfold strC at hend
   unfold bytesV at hat'
   rcases hx with ⟨rfl,hi0,hL0⟩ | ⟨t',e,rfl,ht',ht0⟩
   ·refine wE fun K hK=>?_
    simp only [↓DN,Qa,Qb,Qc,Qd,Qe,Qf,Qg,Qh,reduceCtorEq,↓reduceIte,Na,Nb,Nc,Nk,Nf,Ng,Nh,Za,Zb,Zc,TT,g3,g4,g0,hge,eye_lt_nat,hi',hat',nilS,List.replicate_succ]
    intro t' ht'
    refine hK _ _ ?_
    simp only [blockQ,thenQ,if_true,if_false]
    subst hi0
    rw [hL0] at hend
    exact hend _ _ (.sl 1 1 [.v (.string ⟨b.toArray⟩)] (.own t' 0)) (by simp only [upd,g4,Nc,↓reduceIte]) (by simp only [upd,g0,Nc,↓reduceIte]) (by simp only [upd,Nc,↓reduceIte]) (.inr ⟨t',0,rfl,by simp [AS.gain],own_none_le hle ht'⟩) (AS.le_gain hle (own_none_le hle ht') 0)
   ·refine wE fun K hK=>?_
    simp only [↓DN,Qa,Qb,Qc,Qd,Qe,Qf,Qg,Qh,reduceCtorEq,↓reduceIte,Na,Nb,Nc,Nk,Nf,Ng,Nh,Za,Zb,Zc,TT,g3,g4,g0,hge,eye_lt_nat,hi',hat',ht',List.replicate_succ]
    refine ⟨by omega,by omega,hK _ _ ?_⟩
    simp only [blockQ,thenQ,if_true,if_false]
    exact hend _ _ (.sl 1 (i + 1) (L ++ [.v (.string ⟨b.toArray⟩)]) (.own t' (e + 1))) (by simp only [upd,g4,Nc,↓reduceIte]) (by simp only [upd,g0,Nc,↓reduceIte]) (by simp only [upd,Nc,↓reduceIte]) (.inr ⟨t',e + 1,rfl,by simp [AS.gain],ht0⟩) (AS.le_gain hle ht0 (e + 1))
  ·refine wS fun K hK=>?_
   simp only [↓DN,Qa,Qb,Qc,Qd,Qe,Qf,Qg,Qh,reduceCtorEq,↓reduceIte,Na,Nb,Nc,Nk,Nf,Ng,Nh,Za,Zb,Zc,TT,g4,g0,eye_lt_nat,decide_eq_false hi']
   refine hK _ _ ?_;clear hK K
   refine wC fun X Y hX hY=>?_
   simp only [UP,DF,Nc,↓reduceIte,DB]
   refine hY ?_;clear hX hY X Y
   refine awp_exit ?_
   simp only [thenQ,blockQ,if_true]
   refine hK _ _ ?_;clear hK hK2 K2 K
   obtain rfl : i = l.length:=by omega
   rw [List.take_length] at hx
   refine wS fun K hK=>?_
   simp only [↓DN,Qa,Qb,Qc,Qd,Qe,Qf,Qg,Qh,reduceCtorEq,↓reduceIte,Na,Nb,Nc,Nk,Nf,Ng,Nh,Za,Zb,Zc,TT,g3]
   refine hK _ _ ?_;clear hK K
   refine awp_ret ?_
   try simp only [thenQ,blockQ]
   simp only [retQ,AEnds,aresL,ares,List.toList_toArray,↓upd_same]; try simp only [UP,DF,Nc,↓reduceIte,DT]
   exact ⟨_,_,hx.weak,hle,rfl,rfl⟩
theorem refInts_calls (a b : List Int) (hl : a.length≤2 ^ 61) (s : AS) : ACalls Try.prog Γ 30 [intsV a .any,intsV b .any] s (fun r s'=>r = .v (.bool (decide (a = b)))∧s' = s):=by
 refine acalls_body Try.func30 rfl Try.ntmps30 Try.results30 (by simp) ?_
 unfold intsV
 refine wS fun K hK=>?_
 simp only [↓DN,Qa,Qb,Qc,Qd,Qe,Qf,Qg,Qh,reduceCtorEq,↓reduceIte,Na,Nb,Nc,Nk,Nf,Ng,Nh,Za,Zb,Zc,TT]
 refine hK _ _ ?_;clear hK K
 refine wK fun K hK=>?_
 by_cases h0 : a.length = b.length
 ·refine wS fun K hK=>?_
  simp only [↓DN,Qa,Qb,Qc,Qd,Qe,Qf,Qg,Qh,reduceCtorEq,↓reduceIte,Na,Nb,Nc,Nk,Nf,Ng,Nh,Za,Zb,Zc,TT,len_bne_false h0]
  refine hK _ _ ?_;clear hK K
  refine wC fun X Y hX hY=>?_
  simp only [UP,DF,Nc,↓reduceIte,DB]
  refine hY ?_;clear hX hY X Y
  refine awp_skip ?_
  refine hK _ _ ?_;clear hK K
  refine wK fun K hK=>?_
  refine wS fun K hK=>?_
  simp only [↓DN,Qa,Qb,Qc,Qd,Qe,Qf,Qg,Qh,reduceCtorEq,↓reduceIte,Na,Nb,Nc,Nk,Nf,Ng,Nh,Za,Zb,Zc,TT]
  refine hK _ _ ?_;clear hK K
  refine awp_block ?_
  refine awp_loop (fun E s1=>∃ i : Nat,i≤a.length∧E 5 = .v (.int .i64 i)∧E 0 = .sl 1 a.length (a.map intC) .any∧E 1 = .sl 1 b.length (b.map intC) .any∧a.take i = b.take i∧s1 = s)
   (fun E _=>match E 5 with | .v (.int _ i)=>a.length - i.toNat | _=>0) ?_ ?_
  ·exact ⟨0,Nat.zero_le _,by simp [upd],by simp [upd,initE],by simp [upd,initE],rfl,rfl⟩
  ·rintro E1 s1 ⟨i,hi,h5,h00,h1,he,rfl⟩ -
   refine wK fun K2 hK2=>?_
   by_cases hi' : i < a.length
   ·have hib : i < b.length:=by omega
    refine wS fun K hK=>?_
    simp only [↓DN,Qa,Qb,Qc,Qd,Qe,Qf,Qg,Qh,reduceCtorEq,↓reduceIte,Na,Nb,Nc,Nk,Nf,Ng,Nh,Za,Zb,Zc,TT,h5,h00,eye_lt_nat,decide_eq_true hi']
    refine hK _ _ ?_;clear hK K
    refine wC fun X Y hX hY=>?_
    simp only [UP,DF,Nc,↓reduceIte,DB]
    refine hX ?_;clear hX hY X Y
    refine awp_skip ?_
    refine hK2 _ _ ?_;clear hK2 K2
    refine wK fun K3 hK3=>?_
    refine awp_block ?_
    have hge : (0 : Int)≤(i : Int):=by omega
    have hat:=eat_int hi'
    have hbt:=eat_int hib
    by_cases hx : a[i] = b[i]
    ·refine awp_drw_seq T.mixed [] (by kernel_rfl) ?_
     intro K hK
     simp only [↓DM,pval,DX,Nz,↓DN,Qa,Qb,Qc,Qd,Qe,Qf,Qg,Qh,reduceCtorEq,↓reduceIte,Na,Nb,Nc,Nk,Nf,Ng,Nh,Za,Zb,Zc,TT,h5,h00,h1,hge,eye_lt_nat,hi',hib,hat,hbt,int_bne_false hx]
     refine hK _ _ ?_;clear hK K
     refine wC fun X Y hX hY=>?_
     simp only [UP,DF,Nc,↓reduceIte,DB]
     refine hY ?_;clear hX hY X Y
     refine awp_skip ?_
     simp only [blockQ,thenQ,if_true,if_false]
     refine hK3 _ _ ?_;clear hK3 K3
     refine wE fun K hK=>?_
     simp only [↓DN,Qa,Qb,Qc,Qd,Qe,Qf,Qg,Qh,reduceCtorEq,↓reduceIte,Na,Nb,Nc,Nk,Nf,Ng,Nh,Za,Zb,Zc,TT,h5,eye_succM i (by omega)]
     refine hK _ _ ?_;clear hK K
     refine ⟨⟨i + 1,by omega,by simp only [upd,↓reduceIte],by simp only [upd,h00,Nc,↓reduceIte],by simp only [upd,h1,Nc,↓reduceIte],take_eq_succ hi' hib he hx,rfl⟩,?_⟩
     simp only [h5,upd,↓reduceIte]
     omega
    ·refine awp_drw_seq T.mixed [] (by kernel_rfl) ?_
     intro K hK
     simp only [↓DM,pval,DX,Nz,↓DN,Qa,Qb,Qc,Qd,Qe,Qf,Qg,Qh,reduceCtorEq,↓reduceIte,Na,Nb,Nc,Nk,Nf,Ng,Nh,Za,Zb,Zc,TT,h5,h00,h1,hge,eye_lt_nat,hi',hib,hat,hbt,int_bne_true hx]
     refine hK _ _ ?_;clear hK K
     refine wC fun X Y hX hY=>?_
     simp only [UP,DF,Nc,↓reduceIte,DB]
     refine hX ?_;clear hX hY X Y
     refine wS fun K hK=>?_
     simp only [↓DN,Qa,Qb,Qc,Qd,Qe,Qf,Qg,Qh,reduceCtorEq,↓reduceIte,Na,Nb,Nc,Nk,Nf,Ng,Nh,Za,Zb,Zc,TT]
     refine hK _ _ ?_;clear hK K
     refine awp_ret ?_
     simp only [thenQ,blockQ]
     simp only [retQ,AEnds,aresL,ares,List.toList_toArray,↓upd_same]; try simp only [UP,DF,Nc,↓reduceIte,DT]
     refine ⟨_,_,AV.weak.refl _,AS.le.refl _,?_,rfl⟩
     rw [decide_eq_false]
     intro e
     subst e
     exact hx rfl
   ·refine wS fun K hK=>?_
    simp only [↓DN,Qa,Qb,Qc,Qd,Qe,Qf,Qg,Qh,reduceCtorEq,↓reduceIte,Na,Nb,Nc,Nk,Nf,Ng,Nh,Za,Zb,Zc,TT,h5,h00,eye_lt_nat,decide_eq_false hi']
    refine hK _ _ ?_;clear hK K
    refine wC fun X Y hX hY=>?_
    simp only [UP,DF,Nc,↓reduceIte,DB]
    refine hY ?_;clear hX hY X Y
    refine awp_exit ?_
    simp only [thenQ,blockQ,if_true]
    refine hK _ _ ?_;clear hK hK2 K K2
    refine wS fun K hK=>?_
    simp only [↓DN,Qa,Qb,Qc,Qd,Qe,Qf,Qg,Qh,reduceCtorEq,↓reduceIte,Na,Nb,Nc,Nk,Nf,Ng,Nh,Za,Zb,Zc,TT]
    refine hK _ _ ?_;clear hK K
    refine awp_ret ?_
    simp only [retQ,AEnds,aresL,ares,List.toList_toArray,↓upd_same]; try simp only [UP,DF,Nc,↓reduceIte,DT]
    refine ⟨_,_,AV.weak.refl _,AS.le.refl _,?_,rfl⟩
    rw [List.take_of_length_le (by omega),List.take_of_length_le (by omega)] at he
    rw [decide_eq_true he]
 ·refine wS fun K hK=>?_
  simp only [↓DN,Qa,Qb,Qc,Qd,Qe,Qf,Qg,Qh,reduceCtorEq,↓reduceIte,Na,Nb,Nc,Nk,Nf,Ng,Nh,Za,Zb,Zc,TT,len_bne_true h0]
  refine hK _ _ ?_;clear hK K
  refine wC fun X Y hX hY=>?_
  simp only [UP,DF,Nc,↓reduceIte,DB]
  refine hX ?_;clear hX hY X Y
  refine wS fun K hK=>?_
  simp only [↓DN,Qa,Qb,Qc,Qd,Qe,Qf,Qg,Qh,reduceCtorEq,↓reduceIte,Na,Nb,Nc,Nk,Nf,Ng,Nh,Za,Zb,Zc,TT]
  refine hK _ _ ?_;clear hK K
  refine awp_ret ?_
  simp only [retQ,AEnds,aresL,ares,List.toList_toArray,↓upd_same]; try simp only [UP,DF,Nc,↓reduceIte,DT]
  refine ⟨_,_,AV.weak.refl _,AS.le.refl _,?_,rfl⟩
  rw [decide_eq_false (fun e=>h0 (by rw [e]))]
  try rfl
theorem refSame01_calls (a b : List (List UInt8)) (hl : a.length≤2 ^ 61) (s : AS) : ACalls Try.prog Γ 28 [strsV a,strsV b] s (fun r s'=>r = .v (.bool (decide (a = b)))∧s' = s):=by
 refine acalls_body Try.func28 rfl Try.ntmps28 Try.results28 (by simp) ?_
 have hA:=fun (i : Nat) (hi : i < a.length)=>take_map strC hi
 have hB:=fun (i : Nat) (hi : i < b.length)=>take_map strC hi
 unfold strsV
 generalize a.map strC = XA at *
 generalize b.map strC = XB at *
 refine wS fun K hK=>?_
 simp only [↓DN,Qa,Qb,Qc,Qd,Qe,Qf,Qg,Qh,reduceCtorEq,↓reduceIte,Na,Nb,Nc,Nk,Nf,Ng,Nh,Za,Zb,Zc,TT]
 refine hK _ _ ?_;clear hK K
 refine wK fun K hK=>?_
 by_cases h0 : a.length = b.length
 ·refine wS fun K hK=>?_
  simp only [↓DN,Qa,Qb,Qc,Qd,Qe,Qf,Qg,Qh,reduceCtorEq,↓reduceIte,Na,Nb,Nc,Nk,Nf,Ng,Nh,Za,Zb,Zc,TT,len_bne_false h0]
  refine hK _ _ ?_;clear hK K
  refine wC fun X Y hX hY=>?_
  simp only [UP,DF,Nc,↓reduceIte,DB]
  refine hY ?_;clear hX hY X Y
  refine awp_skip ?_
  refine hK _ _ ?_;clear hK K
  refine wK fun K hK=>?_
  refine wS fun K hK=>?_
  simp only [↓DN,Qa,Qb,Qc,Qd,Qe,Qf,Qg,Qh,reduceCtorEq,↓reduceIte,Na,Nb,Nc,Nk,Nf,Ng,Nh,Za,Zb,Zc,TT]
  refine hK _ _ ?_;clear hK K
  refine awp_block ?_
  refine awp_loop (fun E s1=>∃ i : Nat,i≤a.length∧E 5 = .v (.int .i64 i)∧E 0 = .sl 1 a.length XA .any∧E 1 = .sl 1 b.length XB .any∧a.take i = b.take i∧s1 = s)
   (fun E _=>match E 5 with | .v (.int _ i)=>a.length - i.toNat | _=>0) ?_ ?_
  ·exact ⟨0,Nat.zero_le _,by simp only [upd,Nc,↓reduceIte]; rfl,by simp only [upd,initE,List.getD_cons_zero,List.getD_cons_succ,Nc,↓reduceIte],by simp only [upd,initE,List.getD_cons_zero,List.getD_cons_succ,Nc,↓reduceIte],rfl,rfl⟩
  ·rintro E1 s1 ⟨i,hi,h5,h00,h1,he,rfl⟩ -
   refine wK fun K2 hK2=>?_
   by_cases hi' : i < a.length
   ·have hib : i < b.length:=by omega
    refine wS fun K hK=>?_
    simp only [↓DN,Qa,Qb,Qc,Qd,Qe,Qf,Qg,Qh,reduceCtorEq,↓reduceIte,Na,Nb,Nc,Nk,Nf,Ng,Nh,Za,Zb,Zc,TT,h5,h00,eye_lt_nat,decide_eq_true hi']
    refine hK _ _ ?_;clear hK K
    refine wC fun X Y hX hY=>?_
    simp only [UP,DF,Nc,↓reduceIte,DB]
    refine hX ?_;clear hX hY X Y
    refine awp_skip ?_
    refine hK2 _ _ ?_;clear hK2 K2
    refine wK fun K3 hK3=>?_
    refine awp_block ?_
    have hge : (0 : Int)≤(i : Int):=by omega
    have hat:=hA i hi'
    have hbt:=hB i hib
    have h2 : a[i] = b[i]→a.take (i + 1) = b.take (i + 1):=fun q=>by rw [List.take_succ_eq_append_getElem hi',List.take_succ_eq_append_getElem hib,he,q]
    have h3 : a[i]≠b[i]→a≠b:=fun q e=>q (by subst e; rfl)
    generalize a[i] = x at *
    generalize b[i] = y at *
    unfold strC at hat hbt
    have hT : x = y→(!(x == y)) = false:=fun q=>by subst q; simp
    have hF : x≠y→(!(x == y)) = true:=fun q=>by simpa using q
    by_cases hx : x = y
    ·have hz:=hT hx
     refine awp_drw_seq T.mixed [] (by kernel_rfl) ?_
     intro K hK
     simp only [↓DM,pval,DX,Nz,↓DN,Qa,Qb,Qc,Qd,Qe,Qf,Qg,Qh,reduceCtorEq,↓reduceIte,Na,Nb,Nc,Nk,Nf,Ng,Nh,Za,Zb,Zc,TT,h5,h00,h1,hge,eye_lt_nat,hi',hib,hat,hbt,hz]
     refine hK _ _ ?_;clear hK K
     refine wC fun X Y hX hY=>?_
     simp only [UP,DF,Nc,↓reduceIte,DB]
     refine hY ?_;clear hX hY X Y
     refine awp_skip ?_
     simp only [blockQ,thenQ,if_true,if_false]
     refine hK3 _ _ ?_;clear hK3 K3
     refine wE fun K hK=>?_
     simp only [↓DN,Qa,Qb,Qc,Qd,Qe,Qf,Qg,Qh,reduceCtorEq,↓reduceIte,Na,Nb,Nc,Nk,Nf,Ng,Nh,Za,Zb,Zc,TT,h5,eye_succM i (by omega)]
     refine hK _ _ ?_;clear hK K
     refine ⟨⟨i + 1,by omega,by simp only [upd,Nc,↓reduceIte],by simp only [upd,h00,Nc,↓reduceIte],by simp only [upd,h1,Nc,↓reduceIte],h2 hx,rfl⟩,?_⟩
     simp only [h5,upd,↓reduceIte]
     omega
    ·have hz:=hF hx
     refine awp_drw_seq T.mixed [] (by kernel_rfl) ?_
     intro K hK
     simp only [↓DM,pval,DX,Nz,↓DN,Qa,Qb,Qc,Qd,Qe,Qf,Qg,Qh,reduceCtorEq,↓reduceIte,Na,Nb,Nc,Nk,Nf,Ng,Nh,Za,Zb,Zc,TT,h5,h00,h1,hge,eye_lt_nat,hi',hib,hat,hbt,hz]
     refine hK _ _ ?_;clear hK K
     refine wC fun X Y hX hY=>?_
     simp only [UP,DF,Nc,↓reduceIte,DB]
     refine hX ?_;clear hX hY X Y
     refine wS fun K hK=>?_
     simp only [↓DN,Qa,Qb,Qc,Qd,Qe,Qf,Qg,Qh,reduceCtorEq,↓reduceIte,Na,Nb,Nc,Nk,Nf,Ng,Nh,Za,Zb,Zc,TT]
     refine hK _ _ ?_;clear hK K
     refine awp_ret ?_
     try simp only [thenQ,blockQ]
     simp only [retQ,AEnds,aresL,ares,List.toList_toArray,↓upd_same]; try simp only [UP,DF,Nc,↓reduceIte,DT]
     rw [decide_eq_false (h3 hx)]
     exact ⟨_,_,AV.weak.refl _,AS.le.refl _,rfl,rfl⟩
   ·refine wS fun K hK=>?_
    simp only [↓DN,Qa,Qb,Qc,Qd,Qe,Qf,Qg,Qh,reduceCtorEq,↓reduceIte,Na,Nb,Nc,Nk,Nf,Ng,Nh,Za,Zb,Zc,TT,h5,h00,eye_lt_nat,decide_eq_false hi']
    refine hK _ _ ?_;clear hK K
    refine wC fun X Y hX hY=>?_
    simp only [UP,DF,Nc,↓reduceIte,DB]
    refine hY ?_;clear hX hY X Y
    refine awp_exit ?_
    simp only [thenQ,blockQ,if_true]
    refine hK _ _ ?_;clear hK hK2 K2 K
    rw [List.take_of_length_le (by omega),List.take_of_length_le (by omega)] at he
    refine wS fun K hK=>?_
    simp only [↓DN,Qa,Qb,Qc,Qd,Qe,Qf,Qg,Qh,reduceCtorEq,↓reduceIte,Na,Nb,Nc,Nk,Nf,Ng,Nh,Za,Zb,Zc,TT]
    refine hK _ _ ?_;clear hK K
    refine awp_ret ?_
    try simp only [thenQ,blockQ]
    simp only [retQ,AEnds,aresL,ares,List.toList_toArray,↓upd_same]; try simp only [UP,DF,Nc,↓reduceIte,DT]
    rw [decide_eq_true he]
    exact ⟨_,_,AV.weak.refl _,AS.le.refl _,rfl,rfl⟩
 ·refine wS fun K hK=>?_
  simp only [↓DN,Qa,Qb,Qc,Qd,Qe,Qf,Qg,Qh,reduceCtorEq,↓reduceIte,Na,Nb,Nc,Nk,Nf,Ng,Nh,Za,Zb,Zc,TT,len_bne_true h0]
  refine hK _ _ ?_;clear hK K
  refine wC fun X Y hX hY=>?_
  simp only [UP,DF,Nc,↓reduceIte,DB]
  refine hX ?_;clear hX hY X Y
  refine wS fun K hK=>?_
  simp only [↓DN,Qa,Qb,Qc,Qd,Qe,Qf,Qg,Qh,reduceCtorEq,↓reduceIte,Na,Nb,Nc,Nk,Nf,Ng,Nh,Za,Zb,Zc,TT]
  refine hK _ _ ?_;clear hK K
  refine awp_ret ?_
  try simp only [thenQ,blockQ]
  simp only [retQ,AEnds,aresL,ares,List.toList_toArray,↓upd_same]; try simp only [UP,DF,Nc,↓reduceIte,DT]
  rw [decide_eq_false (fun e=>h0 (by rw [e]))]
  exact ⟨_,_,AV.weak.refl _,AS.le.refl _,rfl,rfl⟩
theorem entNe (x y : EntV) : aeqS Try.prog 54 .neq x.cells y.cells = some (.v (.bool (decide (x≠y)))):=by
 have h : aeqS Try.prog 54 .neq x.cells y.cells = some (.v (.bool (!((x.place == y.place) && ((x.kind == y.kind) && ((x.epoch == y.epoch) && ((x.time == y.time) && ((x.bucket == y.bucket) && true)))))))):=by
  kernel_rfl
 rw [h]
 obtain ⟨a1,a2,a3,a4,a5⟩:=x
 obtain ⟨b1,b2,b3,b4,b5⟩:=y
 simp only [EntV.mk.injEq,ne_eq,Option.some.injEq,AV.v.injEq,Value.bool.injEq]
 rw [Bool.eq_iff_iff]
 simp
theorem refSame28_calls (a b : List EntV) (hl : a.length≤2 ^ 61) (s : AS) : ACalls Try.prog Γ 33 [entsV a,entsV b] s (fun r s'=>r = .v (.bool (decide (a = b)))∧s' = s):=by
 refine acalls_body Try.func33 rfl Try.ntmps33 Try.results33 (by simp) ?_
 have hA:=fun (i : Nat) (hi : i < a.length)=>row_at (c:=EntV.cells) (k:=5) (fun _=>rfl) hi
 have hB:=fun (i : Nat) (hi : i < b.length)=>row_at (c:=EntV.cells) (k:=5) (fun _=>rfl) hi
 unfold entsV
 generalize rowC EntV.cells a = XA at *
 generalize rowC EntV.cells b = XB at *
 refine wS fun K hK=>?_
 simp only [↓DN,Qa,Qb,Qc,Qd,Qe,Qf,Qg,Qh,reduceCtorEq,↓reduceIte,Na,Nb,Nc,Nk,Nf,Ng,Nh,Za,Zb,Zc,TT]
 refine hK _ _ ?_;clear hK K
 refine wK fun K hK=>?_
 by_cases h0 : a.length = b.length
 ·refine wS fun K hK=>?_
  simp only [↓DN,Qa,Qb,Qc,Qd,Qe,Qf,Qg,Qh,reduceCtorEq,↓reduceIte,Na,Nb,Nc,Nk,Nf,Ng,Nh,Za,Zb,Zc,TT,len_bne_false h0]
  refine hK _ _ ?_;clear hK K
  refine wC fun X Y hX hY=>?_
  simp only [UP,DF,Nc,↓reduceIte,DB]
  refine hY ?_;clear hX hY X Y
  refine awp_skip ?_
  refine hK _ _ ?_;clear hK K
  refine wK fun K hK=>?_
  refine wS fun K hK=>?_
  simp only [↓DN,Qa,Qb,Qc,Qd,Qe,Qf,Qg,Qh,reduceCtorEq,↓reduceIte,Na,Nb,Nc,Nk,Nf,Ng,Nh,Za,Zb,Zc,TT]
  refine hK _ _ ?_;clear hK K
  refine awp_block ?_
  refine awp_loop (fun E s1=>∃ i : Nat,i≤a.length∧E 5 = .v (.int .i64 i)∧E 0 = .sl 5 a.length XA .any∧E 1 = .sl 5 b.length XB .any∧a.take i = b.take i∧s1 = s)
   (fun E _=>match E 5 with | .v (.int _ i)=>a.length - i.toNat | _=>0) ?_ ?_
  ·exact ⟨0,Nat.zero_le _,by simp only [upd,Nc,↓reduceIte]; rfl,by simp only [upd,initE,List.getD_cons_zero,List.getD_cons_succ,Nc,↓reduceIte],by simp only [upd,initE,List.getD_cons_zero,List.getD_cons_succ,Nc,↓reduceIte],rfl,rfl⟩
  ·rintro E1 s1 ⟨i,hi,h5,h00,h1,he,rfl⟩ -
   refine wK fun K2 hK2=>?_
   by_cases hi' : i < a.length
   ·have hib : i < b.length:=by omega
    refine wS fun K hK=>?_
    simp only [↓DN,Qa,Qb,Qc,Qd,Qe,Qf,Qg,Qh,reduceCtorEq,↓reduceIte,Na,Nb,Nc,Nk,Nf,Ng,Nh,Za,Zb,Zc,TT,h5,h00,eye_lt_nat,decide_eq_true hi']
    refine hK _ _ ?_;clear hK K
    refine wC fun X Y hX hY=>?_
    simp only [UP,DF,Nc,↓reduceIte,DB]
    refine hX ?_;clear hX hY X Y
    refine awp_skip ?_
    refine hK2 _ _ ?_;clear hK2 K2
    refine wK fun K3 hK3=>?_
    refine awp_block ?_
    have hge : (0 : Int)≤(i : Int):=by omega
    have hat:=hA i hi'
    have hbt:=hB i hib
    have h2 : a[i] = b[i]→a.take (i + 1) = b.take (i + 1):=fun q=>by rw [List.take_succ_eq_append_getElem hi',List.take_succ_eq_append_getElem hib,he,q]
    have h3 : a[i]≠b[i]→a≠b:=fun q e=>q (by subst e; rfl)
    generalize a[i] = x at *
    generalize b[i] = y at *
    have hT : x = y→aeqS Try.prog 54 .neq x.cells y.cells = some (.v (.bool false)):=fun q=>by rw [entNe,q]; simp
    have hF : x≠y→aeqS Try.prog 54 .neq x.cells y.cells = some (.v (.bool true)):=fun q=>by rw [entNe]; simpa using q
    unfold EntV.cells at hat hbt hT hF
    by_cases hx : x = y
    ·have hz:=hT hx
     refine awp_drw_seq T.mixed [] (by kernel_rfl) ?_
     intro K hK
     simp only [↓DM,pval,DX,Nz,↓DN,Qa,Qb,Qc,Qd,Qe,Qf,Qg,Qh,reduceCtorEq,↓reduceIte,Na,Nb,Nc,Nk,Nf,Ng,Nh,Za,Zb,Zc,TT,h5,h00,h1,hge,eye_lt_nat,hi',hib,hat,hbt,hz]
     refine hK _ _ ?_;clear hK K
     refine wC fun X Y hX hY=>?_
     simp only [UP,DF,Nc,↓reduceIte,DB]
     refine hY ?_;clear hX hY X Y
     refine awp_skip ?_
     simp only [blockQ,thenQ,if_true,if_false]
     refine hK3 _ _ ?_;clear hK3 K3
     refine wE fun K hK=>?_
     simp only [↓DN,Qa,Qb,Qc,Qd,Qe,Qf,Qg,Qh,reduceCtorEq,↓reduceIte,Na,Nb,Nc,Nk,Nf,Ng,Nh,Za,Zb,Zc,TT,h5,eye_succM i (by omega)]
     refine hK _ _ ?_;clear hK K
     refine ⟨⟨i + 1,by omega,by simp only [upd,Nc,↓reduceIte],by simp only [upd,h00,Nc,↓reduceIte],by simp only [upd,h1,Nc,↓reduceIte],h2 hx,rfl⟩,?_⟩
     simp only [h5,upd,↓reduceIte]
     omega
    ·have hz:=hF hx
     refine awp_drw_seq T.mixed [] (by kernel_rfl) ?_
     intro K hK
     simp only [↓DM,pval,DX,Nz,↓DN,Qa,Qb,Qc,Qd,Qe,Qf,Qg,Qh,reduceCtorEq,↓reduceIte,Na,Nb,Nc,Nk,Nf,Ng,Nh,Za,Zb,Zc,TT,h5,h00,h1,hge,eye_lt_nat,hi',hib,hat,hbt,hz]
     refine hK _ _ ?_;clear hK K
     refine wC fun X Y hX hY=>?_
     simp only [UP,DF,Nc,↓reduceIte,DB]
     refine hX ?_;clear hX hY X Y
     refine wS fun K hK=>?_
     simp only [↓DN,Qa,Qb,Qc,Qd,Qe,Qf,Qg,Qh,reduceCtorEq,↓reduceIte,Na,Nb,Nc,Nk,Nf,Ng,Nh,Za,Zb,Zc,TT]
     refine hK _ _ ?_;clear hK K
     refine awp_ret ?_
     try simp only [thenQ,blockQ]
     simp only [retQ,AEnds,aresL,ares,List.toList_toArray,↓upd_same]; try simp only [UP,DF,Nc,↓reduceIte,DT]
     rw [decide_eq_false (h3 hx)]
     exact ⟨_,_,AV.weak.refl _,AS.le.refl _,rfl,rfl⟩
   ·refine wS fun K hK=>?_
    simp only [↓DN,Qa,Qb,Qc,Qd,Qe,Qf,Qg,Qh,reduceCtorEq,↓reduceIte,Na,Nb,Nc,Nk,Nf,Ng,Nh,Za,Zb,Zc,TT,h5,h00,eye_lt_nat,decide_eq_false hi']
    refine hK _ _ ?_;clear hK K
    refine wC fun X Y hX hY=>?_
    simp only [UP,DF,Nc,↓reduceIte,DB]
    refine hY ?_;clear hX hY X Y
    refine awp_exit ?_
    simp only [thenQ,blockQ,if_true]
    refine hK _ _ ?_;clear hK hK2 K2 K
    rw [List.take_of_length_le (by omega),List.take_of_length_le (by omega)] at he
    refine wS fun K hK=>?_
    simp only [↓DN,Qa,Qb,Qc,Qd,Qe,Qf,Qg,Qh,reduceCtorEq,↓reduceIte,Na,Nb,Nc,Nk,Nf,Ng,Nh,Za,Zb,Zc,TT]
    refine hK _ _ ?_;clear hK K
    refine awp_ret ?_
    try simp only [thenQ,blockQ]
    simp only [retQ,AEnds,aresL,ares,List.toList_toArray,↓upd_same]; try simp only [UP,DF,Nc,↓reduceIte,DT]
    rw [decide_eq_true he]
    exact ⟨_,_,AV.weak.refl _,AS.le.refl _,rfl,rfl⟩
 ·refine wS fun K hK=>?_
  simp only [↓DN,Qa,Qb,Qc,Qd,Qe,Qf,Qg,Qh,reduceCtorEq,↓reduceIte,Na,Nb,Nc,Nk,Nf,Ng,Nh,Za,Zb,Zc,TT,len_bne_true h0]
  refine hK _ _ ?_;clear hK K
  refine wC fun X Y hX hY=>?_
  simp only [UP,DF,Nc,↓reduceIte,DB]
  refine hX ?_;clear hX hY X Y
  refine wS fun K hK=>?_
  simp only [↓DN,Qa,Qb,Qc,Qd,Qe,Qf,Qg,Qh,reduceCtorEq,↓reduceIte,Na,Nb,Nc,Nk,Nf,Ng,Nh,Za,Zb,Zc,TT]
  refine hK _ _ ?_;clear hK K
  refine awp_ret ?_
  try simp only [thenQ,blockQ]
  simp only [retQ,AEnds,aresL,ares,List.toList_toArray,↓upd_same]; try simp only [UP,DF,Nc,↓reduceIte,DT]
  rw [decide_eq_false (fun e=>h0 (by rw [e]))]
  exact ⟨_,_,AV.weak.refl _,AS.le.refl _,rfl,rfl⟩
end Go.Proofs.Ytfbbckndpkmfcaa
