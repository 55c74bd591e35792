/- Contracts of the program's functions, each walked once; the conditions stand in each theorem. -/
import Derived.Test.YtfbbckndpkmfcaaW1
import Derived.Test.YtfbbckndpkmfcaaAMp7
import Derived.Test.YtfbbckndpkmfcaaW3
import Derived.Test.YtfbbckndpkmfcaaAMp6
set_option linter.unusedSimpArgs false
set_option linter.unusedVariables false
open Nat renaming reduceLT → Na, reduceLeDiff → Nb, reduceEqDiff → Nc, reduceAdd → Nk, reduceMul → Nf, reducePow → Ng, reduceSub → Nh, reduceBEq → Nz
open Int renaming reduceLT → Za, reduceLE → Zb, reduceToNat → Zc
open Go.AM renaming ashift → Qa, aconv → Qb, aindexAddr → Qc, aindex → Qd, aslice → Qe, abuiltin → Qf, awp_reg_seq → wS, awp_reg_end → wE, awp_seq_k → wK, awp_cond_k → wC
open Go.AM.AV renaming cells → Qg, one → Qh
set_option maxRecDepth 100000
set_option maxHeartbeats 8000000
set_option autoImplicit false
namespace Go.AM
open Go
def nxE (a b : EntV) : Prop:=a.epoch < b.epoch∧a.place < b.place∧a.time≤b.time∧(b.kind = 2→b.epoch = a.epoch + 1)
def chainE (l : List EntV) : Prop:=∀ k,(h : k + 1 < l.length)→nxE l[k] l[k + 1]
def okE (L : LedV) (l : List EntV) : Prop:=l≠[]∧(∀ e,l.head? = some e→e.kind = 1)∧chainE l∧∀ e ∈ l,e.place < L.count∧e.time≤L.time∧0≤e.epoch∧e.epoch≤1048576
def totE : GrpV→Int
  | []=>0
  | (_,es) :: r=>(es.length : Int) + totE r
def LedV.rises (L : LedV) : Prop:=(L.gs.map (·.1)).Nodup∧(∀ q ∈ L.gs,okE L q.2)∧totE L.gs≤L.count∧0≤L.count
theorem new_rises : LedV.new.rises:=⟨by simp [LedV.new],(by intro q hq; cases hq),by decide,by decide⟩
theorem okE.more {L L' : LedV} {l : List EntV} (h : okE L l) (h1 : L.count≤L'.count) (h2 : L.time≤L'.time) : okE L' l:=by
  obtain ⟨a,b,c,d⟩:=h
  exact ⟨a,b,c,fun e he=>by obtain ⟨d1,d2,d3,d4⟩:=d e he; exact ⟨by omega,by omega,d3,d4⟩⟩
theorem totE_len : ∀ {l : GrpV} {q : List UInt8 × List EntV},q ∈ l→(q.2.length : Int)≤totE l
  | (k,es) :: l,q,h=>by
    have h0 : ∀ l : GrpV,0≤totE l:=by
      intro l
      induction l with
      | nil=>exact Int.le_refl _
      | cons x l ih=>obtain ⟨a,b⟩:=x; simp only [totE]; omega
    rcases List.mem_cons.1 h with rfl | h
    · simp only [totE]; have:=h0 l; omega
    · have:=totE_len h
      simp only [totE]; omega
theorem LedV.rises.inv {L : LedV} (h : L.rises) (hc : L.count≤2 ^ 40) : L.inv:=by
  intro q hq
  obtain ⟨a,_,_,d⟩:=h.2.1 q hq
  have:=totE_len hq
  have:=h.2.2.1
  exact ⟨a,by omega,fun e he=>(d e he).2.2⟩
theorem entsOf_none {g : List UInt8} : ∀ {l : GrpV},(∀ q ∈ l,q.2≠[])→entsOf g l = []→∀ q ∈ l,g≠q.1
  | [],_,_,q,hq=>by cases hq
  | (k,es) :: l,h,he,q,hq=>by
    by_cases e : g = k
    · simp only [entsOf,if_pos e] at he
      exact absurd he (h _ List.mem_cons_self)
    · simp only [entsOf,if_neg e] at he
      rcases List.mem_cons.1 hq with rfl | hq
      · exact e
      · exact entsOf_none (fun q hq=>h q (List.mem_cons_of_mem _ hq)) he q hq
theorem setE_spec {g : List UInt8} {v : List EntV} : ∀ {l : GrpV},entsOf g l≠[]→(setE g v l).map (·.1) = l.map (·.1)∧(∀ q ∈ setE g v l,q.2 = v∨q ∈ l)∧totE (setE g v l) = totE l - (entsOf g l).length + v.length
  | [],h=>absurd rfl h
  | (k,es) :: l,h=>by
    by_cases e : g = k
    · simp only [setE,entsOf,if_pos e,totE,List.map_cons] at h ⊢
      refine ⟨trivial,fun q hq=>?_,by omega⟩
      rcases List.mem_cons.1 hq with rfl | hq
      · exact .inl rfl
      · exact .inr (List.mem_cons_of_mem _ hq)
    · simp only [setE,entsOf,if_neg e,totE,List.map_cons] at h ⊢
      obtain ⟨a,b,c⟩:=setE_spec (v:=v) h
      refine ⟨by rw [a],fun q hq=>?_,by rw [c]; omega⟩
      rcases List.mem_cons.1 hq with rfl | hq
      · exact .inr List.mem_cons_self
      · rcases b q hq with x | x
        · exact .inl x
        · exact .inr (List.mem_cons_of_mem _ x)
theorem totE_app (a b : GrpV) : totE (a ++ b) = totE a + totE b:=by
  induction a with
  | nil=>simp [totE]
  | cons x a ih=>obtain ⟨k,es⟩:=x; simp only [List.cons_append,totE,ih]; omega
theorem chainE_snoc {l : List EntV} {e : EntV} (h : chainE l) (hl : l≠[]) (hn : nxE (lastE l) e) : chainE (l ++ [e]):=by
  intro k hk
  rw [List.length_append,List.length_singleton] at hk
  by_cases hk' : k + 1 < l.length
  · rw [List.getElem_append_left (by omega),List.getElem_append_left hk']
    exact h k hk'
  · have hkl : k = l.length - 1:=by omega
    have hpos:=List.length_pos_iff.2 hl
    rw [List.getElem_append_left (by omega),List.getElem_append_right (by omega)]
    have e1 : l[k]'(by omega) = lastE l:=by
      unfold lastE
      rw [List.getLastD_eq_getLast?,List.getLast?_eq_getElem?,List.getElem?_eq_getElem (by omega)]
      simp only [Option.getD_some,hkl]
    rw [e1]
    simpa using hn
theorem lastE_mem {l : List EntV} (h : l≠[]) : lastE l ∈ l:=by
  have hpos:=List.length_pos_iff.2 h
  unfold lastE
  rw [List.getLastD_eq_getLast?,List.getLast?_eq_getElem?,List.getElem?_eq_getElem (by omega)]
  exact List.getElem_mem _
theorem check_ok {L : LedV} {r : Rec} (h : checkV L r = 0) : r.right∧L.time≤r.time∧r.bucket ∉ L.shr∧(r.kind≠3→(r.kind = 2→entsOf r.group L.gs≠[]∧r.epoch = (lastE (entsOf r.group L.gs)).epoch + 1)∧(r.kind = 1→entsOf r.group L.gs≠[]→(lastE (entsOf r.group L.gs)).epoch < r.epoch)):=by
  unfold checkV at h
  by_cases h1 : ¬ r.right
  · rw [if_pos h1] at h; cases h
  · rw [if_neg h1] at h
    by_cases h2 : r.time < L.time
    · rw [if_pos h2] at h; cases h
    · rw [if_neg h2] at h
      by_cases h3 : r.kind = 3
      · rw [if_pos h3] at h
        by_cases h4 : r.bucket ∈ L.shr
        · rw [if_pos h4] at h; cases h
        · exact ⟨Classical.not_not.1 h1,by omega,h4,fun k=>absurd h3 k⟩
      · rw [if_neg h3] at h
        by_cases h4 : r.bucket ∈ L.shr
        · rw [if_pos h4] at h; cases h
        · rw [if_neg h4] at h
          by_cases h5 : r.kind = 2∧entsOf r.group L.gs = []
          · rw [if_pos h5] at h; cases h
          · rw [if_neg h5] at h
            by_cases h6 : (r.kind = 2∧r.epoch≠(lastE (entsOf r.group L.gs)).epoch + 1)∨(r.kind = 1∧entsOf r.group L.gs≠[]∧r.epoch≤(lastE (entsOf r.group L.gs)).epoch)
            · rw [if_pos h6] at h; cases h
            · refine ⟨Classical.not_not.1 h1,by omega,h4,fun _=>⟨fun k=>⟨fun e=>h5 ⟨k,e⟩,Classical.not_not.1 fun e=>h6 (.inl ⟨k,e⟩)⟩,fun k e=>?_⟩⟩
              have : ¬ r.epoch≤(lastE (entsOf r.group L.gs)).epoch:=fun q=>h6 (.inr ⟨k,e,q⟩)
              omega
theorem add_rises {L : LedV} (h : L.rises) (r : Rec) : (addV L r).rises:=by
  unfold addV
  by_cases hv : checkV L r≠0
  · rw [if_pos hv]; exact h
  · rw [if_neg hv]
    obtain ⟨c1,c2,c3,c4⟩:=check_ok (Classical.not_not.1 hv)
    have hf:=c1.facts
    obtain ⟨h1,h2,h3,h4⟩:=h
    by_cases k3 : r.kind = 3
    · rw [if_pos k3]
      exact ⟨h1,fun q hq=>(h2 q hq).more (by simp only; omega) c2,by simp only; omega,by simp only; omega⟩
    · rw [if_neg k3]
      obtain ⟨c5,c6⟩:=c4 k3
      have hne : ∀ q ∈ L.gs,q.2≠[]:=fun q hq=>(h2 q hq).1
      have hent : ∀ L' : LedV,L'.count = L.count + 1→L'.time = r.time→okE L' (entsOf r.group L.gs ++ [entOf L r]):=by
        intro L' e1 e2
        have hnew : (entOf L r).place < L'.count∧(entOf L r).time≤L'.time∧0≤(entOf L r).epoch∧(entOf L r).epoch≤1048576:=by
          unfold entOf
          simp only
          exact ⟨by omega,by omega,by omega,by omega⟩
        rcases entsOf_mem (g:=r.group) (l:=L.gs) with a | ⟨q,a,_,b⟩
        · rw [a]
          refine ⟨by simp,fun e he=>?_,fun k hk=>absurd hk (by simp),fun e he=>?_⟩
          · simp only [List.nil_append,List.head?_cons,Option.some.injEq] at he
            subst he
            have : r.kind≠2:=fun k=>(c5 k).1 a
            unfold entOf
            simp only
            omega
          · simp only [List.nil_append,List.mem_singleton] at he
            subst he
            exact hnew
        · obtain ⟨d1,d2,d3,d4⟩:=h2 q a
          rw [b] at d1 d2 d3 d4
          have hl:=d4 _ (lastE_mem d1)
          refine ⟨by simp,fun e he=>?_,chainE_snoc d3 d1 ?_,fun e he=>?_⟩
          · obtain ⟨y,tl,hy⟩:=List.exists_cons_of_ne_nil d1
            rw [hy] at he d2
            simp only [List.cons_append,List.head?_cons,Option.some.injEq] at he
            exact d2 e (by rw [List.head?_cons,he])
          · unfold nxE entOf
            simp only
            refine ⟨?_,by omega,by omega,fun k=>(c5 k).2⟩
            have hk : r.kind = 1∨r.kind = 2:=by omega
            rcases hk with k | k
            · exact c6 k d1
            · have:=(c5 k).2; omega
          · rw [List.mem_append,List.mem_singleton] at he
            rcases he with he | rfl
            · obtain ⟨x1,x2,x3,x4⟩:=d4 e he
              exact ⟨by omega,by omega,x3,x4⟩
            · exact hnew
      by_cases he : entsOf r.group L.gs = []
      · have hnin:=entsOf_none hne he
        rw [setE_new hnin]
        refine ⟨?_,fun q hq=>?_,?_,by simp only; omega⟩
        · simp only [List.map_append,List.map_cons,List.map_nil]
          rw [List.nodup_append]
          refine ⟨h1,by simp,?_⟩
          intro a ha b hb e
          simp only [List.mem_singleton] at hb
          obtain ⟨q,hq,rfl⟩:=List.mem_map.1 ha
          exact hnin q hq (by rw [e,hb])
        · rcases List.mem_append.1 hq with hq | hq
          · exact (h2 q hq).more (by simp only; omega) c2
          · rw [List.mem_singleton] at hq
            subst hq
            exact hent _ rfl rfl
        · simp only
          rw [totE_app,he]
          simp only [totE,List.nil_append,List.length_singleton]
          omega
      · obtain ⟨s1,s2,s3⟩:=setE_spec (v:=entsOf r.group L.gs ++ [entOf L r]) he
        refine ⟨by rw [s1]; exact h1,fun q hq=>?_,?_,by simp only; omega⟩
        · rcases s2 q hq with x | x
          · rw [x]; exact hent _ rfl rfl
          · exact (h2 q x).more (by simp only; omega) c2
        · simp only
          rw [s3,List.length_append,List.length_singleton]
          omega
theorem add_err {L : LedV} {r : Rec} (h : checkV L r≠0) : addV L r = L:=if_pos h
theorem entsOf_at : ∀ {l : GrpV} {i : Nat} (h : i < l.length),(l.map (·.1)).Nodup→entsOf l[i].1 l = l[i].2
  | (k,es) :: l,0,_,_=>by simp [entsOf]
  | (k,es) :: l,i + 1,h,hn=>by
    simp only [List.map_cons,List.nodup_cons] at hn
    have hi : i < l.length:=by simpa using h
    have e : l[i].1≠k:=fun e=>hn.1 (by rw [← e]; exact List.mem_map_of_mem (List.getElem_mem hi))
    simp only [List.getElem_cons_succ,entsOf,if_neg e]
    exact entsOf_at hi hn.2
end Go.AM
namespace Go.AM
open Go
def entR (i : Nat) (r : Rec) : EntV:=⟨i,r.kind,r.epoch,r.time,r.bucket⟩
def entsR (g : List UInt8) (l : List Rec) : List EntV:=(l.zipIdx.filter fun x=>decide (x.1.kind≠3∧x.1.group = g)).map fun x=>entR x.2 x.1
def shrR (b : Int) (l : List Rec) : Bool:=l.any fun r=>decide (r.kind = 3∧r.bucket = b)
def timeR (l : List Rec) : Int:=(l.getLast?.map (·.time)).getD 0
def checkR (l : List Rec) (r : Rec) : Int :=
  if ¬ r.right then 12
  else if r.time < timeR l then 2
  else if shrR r.bucket l then (if r.kind = 3 then 51 else 30)
  else if r.kind = 3 then 0
  else if r.kind = 2∧entsR r.group l = [] then 41
  else if entsR r.group l≠[]∧((r.kind = 2∧r.epoch≠(lastE (entsR r.group l)).epoch + 1)∨(r.kind = 1∧r.epoch≤(lastE (entsR r.group l)).epoch)) then 42
  else 0
def grpAdd (out : List (List UInt8)) (r : Rec) : List (List UInt8):=if r.kind = 3∨r.group ∈ out then out else out ++ [r.group]
def grpsR (l : List Rec) : List (List UInt8):=l.foldl grpAdd []
def insB (b : Int) (out : List Int) : List Int:=(out.takeWhile fun x=>decide (x < b)) ++ b :: (if (out.dropWhile fun x=>decide (x < b)).head? = some b then (out.dropWhile fun x=>decide (x < b)).tail else out.dropWhile fun x=>decide (x < b))
def bktAdd (l : List Rec) (out : List Int) (r : Rec) : List Int:=if r.kind = 3∨shrR r.bucket l = true then out else insB r.bucket out
def bktsR (l : List Rec) : List Int:=l.foldl (bktAdd l) []
theorem entsR_snoc (g : List UInt8) (l : List Rec) (r : Rec) : entsR g (l ++ [r]) = entsR g l ++ if r.kind≠3∧r.group = g then [entR l.length r] else []:=by
  unfold entsR
  rw [List.zipIdx_append]
  simp only [List.zipIdx_cons,List.zipIdx_nil,List.filter_append,List.map_append,List.filter_cons,List.filter_nil,Nat.zero_add]
  by_cases h : r.kind≠3∧r.group = g
  · simp [h]
  · simp [h]
theorem grpsR_snoc (l : List Rec) (r : Rec) : grpsR (l ++ [r]) = grpAdd (grpsR l) r:=by simp [grpsR]
theorem shrR_snoc (b : Int) (l : List Rec) (r : Rec) : shrR b (l ++ [r]) = (shrR b l || decide (r.kind = 3∧r.bucket = b)):=by simp [shrR]
theorem timeR_snoc (l : List Rec) (r : Rec) : timeR (l ++ [r]) = r.time:=by simp [timeR]
structure Rep (L : LedV) (l : List Rec) : Prop where
  count : L.count = l.length
  time : L.time = timeR l
  ents : ∀ g,entsOf g L.gs = entsR g l
  grps : L.gs.map (·.1) = grpsR l
  shr : ∀ b,b ∈ L.shr↔shrR b l = true
  rises : L.rises
theorem rep_new : Rep LedV.new []:=⟨rfl,rfl,fun _=>rfl,rfl,fun b=>by simp [LedV.new,shrR],new_rises⟩
theorem Rep.check {L : LedV} {l : List Rec} (h : Rep L l) (r : Rec) : checkV L r = checkR l r:=by
  unfold checkV checkR
  rw [h.time,h.ents]
  simp only [h.shr]
  by_cases h1 : r.right
  · have hk:=h1.facts
    simp only [h1,not_true_eq_false,if_false]
    split
    · rfl
    · by_cases h3 : r.kind = 3
      · simp [h3]
      · simp only [h3,if_false]
        split
        · rfl
        · split
          · rfl
          · rename_i q
            by_cases he : entsR r.group l = []
            · simp only [he,and_true] at q
              simp [he,q]
            · simp [he]
  · simp [h1]
theorem entsOf_setE (g g' : List UInt8) (v : List EntV) : ∀ l : GrpV,entsOf g (setE g' v l) = if g = g' then v else entsOf g l
  | []=>rfl
  | (k,es) :: l=>by
    have ih:=entsOf_setE g g' v l
    grind [setE,entsOf]
theorem Rep.add {L : LedV} {l : List Rec} (h : Rep L l) {r : Rec} (hc : checkV L r = 0) : Rep (addV L r) (l ++ [r]):=by
  have hr:=add_rises h.rises r
  obtain ⟨c1,c2,c3,c4⟩:=check_ok hc
  unfold addV at hr ⊢
  rw [if_neg (fun q=>q hc)] at hr ⊢
  by_cases k : r.kind = 3
  · rw [if_pos k] at hr ⊢
    exact ⟨by simp [h.count],by rw [timeR_snoc],fun g=>by rw [entsR_snoc,if_neg (fun q=>q.1 k),List.append_nil]; exact h.ents g,
      by rw [grpsR_snoc,grpAdd,if_pos (.inl k)]; exact h.grps,fun b=>by rw [shrR_snoc]; have:=h.shr b; grind,hr⟩
  · rw [if_neg k] at hr ⊢
    refine ⟨by simp [h.count],by rw [timeR_snoc],fun g=>?_,?_,fun b=>by rw [shrR_snoc]; simp [h.shr b,k],hr⟩
    · simp only
      rw [entsOf_setE,entsR_snoc]
      by_cases e : g = r.group
      · subst e
        rw [if_pos rfl,if_pos ⟨k,rfl⟩,h.ents]
        simp [entOf,entR,h.count]
      · rw [if_neg e,if_neg (fun q=>e q.2.symm),List.append_nil]
        exact h.ents g
    · simp only
      rw [grpsR_snoc,← h.grps]
      unfold grpAdd
      have hne : ∀ q ∈ L.gs,q.2≠[]:=fun q hq=>(h.rises.2.1 q hq).1
      by_cases he : entsOf r.group L.gs = []
      · have hn:=entsOf_none hne he
        rw [setE_new hn,if_neg,List.map_append]
        · rfl
        · rintro (a | a)
          · exact k a
          · obtain ⟨q,hq,e⟩:=List.mem_map.1 a
            exact hn q hq e.symm
      · rw [(setE_spec he).1,if_pos]
        rcases entsOf_mem (g:=r.group) (l:=L.gs) with a | ⟨q,a,b,_⟩
        · exact absurd a he
        · exact .inr (List.mem_map.2 ⟨q,a,b⟩)
theorem insB_spec (b : Int) : ∀ {out : List Int},out.Pairwise (· < ·)→(insB b out).Pairwise (· < ·)∧∀ x,x ∈ insB b out↔x = b∨x ∈ out
  | [],_=>by simp [insB]
  | y :: out,h=>by
    rw [List.pairwise_cons] at h
    obtain ⟨i1,i2⟩:=insB_spec b h.2
    by_cases h1 : y < b
    · have e : insB b (y :: out) = y :: insB b out:=by simp [insB,h1]
      rw [e]
      refine ⟨List.pairwise_cons.2 ⟨fun x hx=>?_,i1⟩,fun x=>by simp only [List.mem_cons,i2]; grind⟩
      rcases (i2 x).1 hx with rfl | hx
      · exact h1
      · exact h.1 x hx
    · by_cases h2 : y = b
      · subst h2
        have e : insB y (y :: out) = y :: out:=by simp [insB]
        rw [e]
        exact ⟨List.pairwise_cons.2 h,fun x=>by simp⟩
      · have e : insB b (y :: out) = b :: y :: out:=by simp [insB,h1,h2]
        rw [e]
        refine ⟨List.pairwise_cons.2 ⟨fun x hx=>?_,List.pairwise_cons.2 h⟩,fun x=>by simp⟩
        rcases List.mem_cons.1 hx with rfl | hx
        · omega
        · have:=h.1 x hx; omega
theorem bkts_go (l0 : List Rec) : ∀ (l : List Rec) (out : List Int),out.Pairwise (· < ·)→(l.foldl (bktAdd l0) out).Pairwise (· < ·)∧∀ x,x ∈ l.foldl (bktAdd l0) out↔x ∈ out∨∃ r ∈ l,r.kind≠3∧shrR r.bucket l0≠true∧r.bucket = x
  | [],out,h=>by simp [h]
  | r :: l,out,h=>by
    rw [List.foldl_cons]
    by_cases hc : r.kind = 3∨shrR r.bucket l0 = true
    · have e : bktAdd l0 out r = out:=if_pos hc
      rw [e]
      obtain ⟨i1,i2⟩:=bkts_go l0 l out h
      refine ⟨i1,fun x=>?_⟩
      rw [i2]
      grind
    · have e : bktAdd l0 out r = insB r.bucket out:=if_neg hc
      rw [e]
      obtain ⟨j1,j2⟩:=insB_spec r.bucket h
      obtain ⟨i1,i2⟩:=bkts_go l0 l _ j1
      refine ⟨i1,fun x=>?_⟩
      rw [i2,j2]
      grind
theorem rise_ext : ∀ {a b : List Int},a.Pairwise (· < ·)→b.Pairwise (· < ·)→(∀ x,x ∈ a↔x ∈ b)→a = b
  | [],[],_,_,_=>rfl
  | [],y :: b,_,_,h=>by have:=(h y).2 (by simp); cases this
  | x :: a,[],_,_,h=>by have:=(h x).1 (by simp); cases this
  | x :: a,y :: b,h1,h2,h=>by
    rw [List.pairwise_cons] at h1 h2
    have hx:=(h x).1 (by simp)
    have hy:=(h y).2 (by simp)
    have e : x = y:=by
      rcases List.mem_cons.1 hx with e | hx
      · exact e
      · rcases List.mem_cons.1 hy with e | hy
        · exact e.symm
        · have:=h2.1 x hx; have:=h1.1 y hy; omega
    subst e
    rw [rise_ext h1.2 h2.2 fun z=>?_]
    have:=h z
    have:=h1.1 z
    have:=h2.1 z
    grind
theorem mem_entsR {g : List UInt8} {l : List Rec} {e : EntV} : e ∈ entsR g l↔∃ i,∃ h : i < l.length,l[i].kind≠3∧l[i].group = g∧e = entR i l[i]:=by
  unfold entsR
  simp only [List.mem_map,List.mem_filter,decide_eq_true_eq,Prod.exists,List.mem_zipIdx_iff_getElem?]
  constructor
  · rintro ⟨r,i,⟨h1,h2,h3⟩,rfl⟩
    obtain ⟨hi,rfl⟩:=List.getElem?_eq_some_iff.1 h1
    exact ⟨i,hi,h2,h3,rfl⟩
  · rintro ⟨i,hi,h2,h3,rfl⟩
    exact ⟨_,i,⟨List.getElem?_eq_getElem hi,h2,h3⟩,rfl⟩
theorem Rep.buckets {L : LedV} {l : List Rec} (h : Rep L l) {K : List Int} (hn : K.Nodup) (hK : ∀ b,b ∈ K↔∃ q ∈ L.gs,∃ e ∈ q.2,e.bucket = b∧b ∉ L.shr) : (K.mergeSort fun x y=>decide (x≤y)) = bktsR l:=by
  obtain ⟨i1,i2⟩:=bkts_go l l [] (by simp)
  refine rise_ext ?_ i1 fun x=>?_
  · have h1 : (K.mergeSort fun x y=>decide (x≤y)).Pairwise (fun x y=>decide (x≤y) = true):=List.pairwise_mergeSort (by intro a b c; simp; omega) (by intro a b; simp; omega) K
    have h2 : (K.mergeSort fun x y=>decide (x≤y)).Nodup:=(List.mergeSort_perm K _).nodup_iff.2 hn
    exact (h1.and h2).imp (by intro a b ⟨p,q⟩; simp at p; omega)
  · rw [List.mem_mergeSort,hK]
    unfold bktsR
    rw [i2]
    simp only [List.not_mem_nil,false_or]
    constructor
    · rintro ⟨q,hq,e,he,rfl,hb⟩
      obtain ⟨j,hj,rfl⟩:=List.getElem_of_mem hq
      have h1:=entsOf_at hj h.rises.1
      rw [h.ents] at h1
      rw [← h1] at he
      obtain ⟨i,hi,k1,k2,rfl⟩:=mem_entsR.1 he
      exact ⟨l[i],List.getElem_mem hi,k1,fun q=>hb ((h.shr _).2 q),rfl⟩
    · rintro ⟨r,hr,k1,k2,rfl⟩
      obtain ⟨i,hi,rfl⟩:=List.getElem_of_mem hr
      have h1 : entR i l[i] ∈ entsR l[i].group l:=mem_entsR.2 ⟨i,hi,k1,rfl,rfl⟩
      rw [← h.ents] at h1
      rcases entsOf_mem (g:=l[i].group) (l:=L.gs) with a | ⟨q,a,b,c⟩
      · rw [a] at h1; cases h1
      · rw [← c] at h1
        exact ⟨q,a,_,h1,rfl,fun q=>k2 ((h.shr _).1 q)⟩
end Go.AM
namespace Go.AM
open Go
theorem set_shr_mem (b : Int) : ∀ l : List Int,b ∈ l→amSet (.int .i64) (.int .i64 b) (.v (.bool true)) (l.map shrKV) = some (l.map shrKV)
  | [],h=>by cases h
  | x :: l,h=>by
    simp only [List.map_cons,shrKV,amSet,Instr.sameNow,if_true]
    by_cases e : b = x
    · subst e; simp
    · have ih:=set_shr_mem b l ((List.mem_cons.1 h).resolve_left e)
      have : (b == x) = false:=by simpa using e
      simp only [this]
      rw [ih]
      rfl
def putB (b : Int) (l : List Int) : List Int:=if b ∈ l then l else l ++ [b]
theorem set_putB (b : Int) (l : List Int) : amSet (.int .i64) (.int .i64 b) (.v (.bool true)) (l.map shrKV) = some ((putB b l).map shrKV):=by
  unfold putB
  split
  · rename_i h; exact set_shr_mem b l h
  · rename_i h; exact set_shr b l h
theorem putB_spec (b : Int) (l : List Int) (h : l.Nodup) : (putB b l).Nodup∧(putB b l).length≤l.length + 1∧∀ x,x ∈ putB b l↔x = b∨x ∈ l:=by
  unfold putB
  split
  · refine ⟨h,by omega,by grind⟩
  · refine ⟨?_,by simp,by grind⟩
    rw [List.nodup_append]
    refine ⟨h,by simp,by grind⟩
def totG (l : List GEnt) : Nat:=(l.map fun x=>x.es.length).sum
theorem erase_facts {α : Type} : ∀ {l : List α} {i : Nat} (h : i < l.length),(∀ x,x ∈ l↔x = l[i]∨x ∈ l.eraseIdx i)∧∀ f : α→Nat,(l.map f).sum = f l[i] + ((l.eraseIdx i).map f).sum
  | x :: l,0,_=>by simp
  | x :: l,i + 1,h=>by
    obtain ⟨h1,h2⟩:=erase_facts (l:=l) (i:=i) (by simpa using h)
    refine ⟨fun y=>?_,fun f=>?_⟩
    · simp only [List.mem_cons,List.getElem_cons_succ,List.eraseIdx_cons_succ,h1 y]
      grind
    · simp only [List.map_cons,List.sum_cons,List.getElem_cons_succ,List.eraseIdx_cons_succ,h2 f]
      omega
theorem map_erase {α β : Type} (f : α→β) : ∀ (l : List α) (i : Nat),(l.map f).eraseIdx i = (l.eraseIdx i).map f
  | [],_=>rfl
  | _ :: _,0=>rfl
  | x :: l,i + 1=>by simp only [List.map_cons,List.eraseIdx_cons_succ,map_erase f l i]
theorem AS.le_putM {s s' : AS} {b b' : Nat} {m m' : MO} (h : s.le (s'.putM b m)) (hb : s.maps b' = none) (hne : b'≠b) : s.le ((s'.putM b' m').putM b m):=by
  refine ⟨h.objs,h.own,fun c l hl=>?_⟩
  have e : c≠b':=by rintro rfl; rw [hb] at hl; cases hl
  have:=h.maps c l hl
  by_cases q : c = b
  · simpa [AS.putM,upd,q] using this
  · simpa [AS.putM,upd,q,e] using this
structure BkS (s : AS) (gs : List GEnt) (shr : List Int) (b1 b3 r : Nat) (es : Array MapEntry) (c : Nat) (left : List GEnt) (KL : List Int) (s' : AS) : Prop where
  m1 : s'.maps b1 = some (.fix (gs.map GEnt.kv) es c)
  mr : ∃ cur,s'.maps r = some (.iter b1 es c (left.map GEnt.kv) cur)
  m3 : s'.maps b3 = some (.map (KL.map shrKV))
  le : s.le (s'.putM b1 (.map (gs.map GEnt.kv)))
  nodup : KL.Nodup
  mem : ∀ x ∈ left,x ∈ gs
  has : ∀ b ∈ KL,∃ x ∈ gs,∃ e ∈ x.es,e.bucket = b∧b ∉ shr
variable {s : AS} {gs : List GEnt} {shr : List Int} {b1 b3 r : Nat} {es : Array MapEntry} {c : Nat} {left : List GEnt} {KL : List Int} {s' : AS}
theorem BkS.next (h : BkS s gs shr b1 b3 r es c left KL s') (hr : s.maps r = none) (h1 : r≠b1) (h3 : r≠b3) {i : Nat} (hi : i < left.length) :
    BkS s gs shr b1 b3 r es c (left.eraseIdx i) KL (s'.putM r (.iter b1 es c ((left.eraseIdx i).map GEnt.kv) (some left[i].kv))) where
  m1:=by simpa [AS.putM,upd,h1.symm] using h.m1
  mr:=⟨_,by simp [AS.putM]; rfl⟩
  m3:=by simpa [AS.putM,upd,h3.symm] using h.m3
  le:=AS.le_putM h.le hr h1
  nodup:=h.nodup
  mem:=fun x hx=>h.mem x (((erase_facts hi).1 x).2 (.inr hx))
  has:=h.has
theorem BkS.obj (h : BkS s gs shr b1 b3 r es c left KL s') {o : Nat} (ho : s'.objs o = none) (cs : List AV) : BkS s gs shr b1 b3 r es c left KL (s'.set o cs) where
  m1:=h.m1
  mr:=h.mr
  m3:=h.m3
  le:=AS.le_set (s':=s'.putM b1 (.map (gs.map GEnt.kv))) h.le (AS.le_none h.le ho) cs
  nodup:=h.nodup
  mem:=h.mem
  has:=h.has
theorem BkS.add (h : BkS s gs shr b1 b3 r es c left KL s') (h3 : s.maps b3 = none) (hn : b3≠b1) (hr : r≠b3) {b : Int} (hb : ∃ x ∈ gs,∃ e ∈ x.es,e.bucket = b∧b ∉ shr) : BkS s gs shr b1 b3 r es c left (putB b KL) (s'.setMap b3 ((putB b KL).map shrKV)) where
  m1:=by simpa [AS.setMap,AS.putM,upd,hn.symm] using h.m1
  mr:=by obtain ⟨cur,q⟩:=h.mr; exact ⟨cur,by simpa [AS.setMap,AS.putM,upd,hr] using q⟩
  m3:=by simp [AS.setMap,AS.putM]
  le:=AS.le_putM h.le h3 hn
  nodup:=(putB_spec b KL h.nodup).1
  mem:=h.mem
  has:=fun x hx=>(((putB_spec b KL h.nodup).2.2 x).1 hx).elim (fun e=>e ▸ hb) (h.has x)
end Go.AM
namespace Go.Proofs.Ytfbbckndpkmfcaa
open Go Go.AM Go.Proofs
variable {Γ : Nat→List AV}
theorem keys_calls (b : Nat) (s : AS) :
  ACalls Try.prog Γ 45 [.v (.map (some b))] s (fun r s'=>r = .clo 58 [.rop [.v (.map (some b))]]∧s' = s):=by
 refine acalls_body Try.func45 rfl Try.ntmps45 Try.results45 (by simp) ?_
 refine awp_reg_frz 1 (by decide) ?_
 intro K hK
 simp only [↓DM,pval,DX,Nz,↓DN,Qa,Qb,Qc,Qd,Qe,Qf,Qg,Qh,reduceCtorEq,↓reduceIte,Na,Nb,Nc,Nk,Nf,Ng,Nh,Za,Zb,Zc,TT]
 intro o1 h1
 refine hK _ _ o1 _ (by simp only [upd,Nc,↓reduceIte]) h1 ?_
 clear hK K
 refine wS fun K hK=>?_
 simp only [↓DN,Qa,Qb,Qc,Qd,Qe,Qf,Qg,Qh,reduceCtorEq,↓reduceIte,Na,Nb,Nc,Nk,Nf,Ng,Nh,Za,Zb,Zc,TT]
 refine hK _ _ ?_;clear hK K
 refine awp_ret ?_
 try simp only [thenQ,blockQ]
 simp only [retQ,AEnds,aresL,ares,List.toList_toArray,↓upd_same]; try simp only [UP,DF,Nc,↓reduceIte,DT]
 exact ⟨_,_,AV.weak.refl _,AS.le.refl _,rfl,rfl⟩
def keysA (K : List Int) (ys : List (List AV)) : Prop:=∃ l : List Int,l.Perm K∧ys = l.map fun v=>[intC v]
theorem keysA_pre {K : List Int} {ys zs : List (List AV)} {x : List AV} (h : keysA K (ys ++ x :: zs)) : ∃ (l : List Int) (v : Int),ys = l.map (fun v=>[intC v])∧x = [intC v]∧l.length < K.length:=by
 obtain ⟨l,h1,h2⟩:=h
 have h3:=congrArg List.length h2
 simp only [List.length_append,List.length_cons,List.length_map] at h3
 have h4:=h1.length_eq
 obtain ⟨l1,l2,rfl,e1,e2⟩:=List.append_eq_map_iff.1 h2
 cases l2 with
 | nil=>cases e2
 | cons v l2 =>
  simp only [List.map_cons,List.cons.injEq] at e2
  refine ⟨l1,v,e1.symm,e2.1.symm,?_⟩
  simp only [List.length_append,List.length_cons] at h4
  omega
theorem perm_erase {l : List Int} : ∀ {i : Nat} (h : i < l.length),(l[i] :: l.eraseIdx i).Perm l:=by
 induction l with
 | nil=>intro i h; cases h
 | cons x l ih =>
  intro i h
  cases i with
  | zero=>exact .refl _
  | succ i=>exact (List.Perm.swap ..).trans (.cons x (ih (by simpa using h)))
theorem keys1_iter (b : Nat) (KL : List Int) :
  IterM Try.prog Γ 58 [.rop [.v (.map (some b))]] (fun s=>s.maps b = some (.map (KL.map shrKV))) (keysA KL):=by
 refine iterM_of Try.func58 rfl Try.ntmps58 Try.results58 (by simp) ?_
 intro I l s G hmI h0 hb hy
 refine ywp_seq (AWp.y ?_)
 refine wE fun K hK=>?_
 simp only [↓DN,Qa,Qb,Qc,Qd,Qe,Qf,Qg,Qh,reduceCtorEq,↓reduceIte,Na,Nb,Nc,Nk,Nf,Ng,Nh,Za,Zb,Zc,TT,hb,amOf,avOf,Try.underlying50]
 intro es c r hr
 have hbr : b≠r:=by
  rintro rfl
  rw [hb] at hr
  cases hr
 refine hK _ _ ?_;clear hK K
 refine ywp_block ?_
 refine ywp_loop (fun E s'=>∃ (d left : List Int) (cur : Option (Value × AV)),E 0 = .v (.func (.yield l) #[] #[])∧E 5 = .v (.pointer (some ⟨r,0,none⟩))∧(d ++ left).Perm KL∧s'.maps b = some (.fix (KL.map shrKV) es c) ∧
   s'.maps r = some (.iter b es c (left.map shrKV) cur)∧(∀ b' m,b'≠b→s.maps b' = some m→s'.maps b' = some m)∧I (d.map fun v=>[intC v]) s')
  (fun _ s'=>match s'.maps r with | some (.iter _ _ _ left _)=>left.length | _=>0) ?_ ?_
 ·refine ⟨[],KL,none,(by simp only [upd,initE,List.getD_cons_zero,List.getD_cons_succ,Nc,↓reduceIte]),(by simp only [upd,Nc,↓reduceIte]),.refl _,by simp [AS.putM,upd,hbr],by simp [AS.putM],fun b' m h1 h2=>?_,hmI [] s _ h0⟩
  have : b'≠r:=by
   rintro rfl
   rw [hr] at h2
   cases h2
  simpa [AS.putM,upd,this,h1] using h2
 rintro E s' ⟨d,left,cur,e0,e5,hp,m1,m2,m3,hI⟩ -
 refine ywp_seq (AWp.y ?_)
 refine wE fun K hK=>?_
 simp only [↓DN,Qa,Qb,Qc,Qd,Qe,Qf,Qg,Qh,reduceCtorEq,↓reduceIte,Na,Nb,Nc,Nk,Nf,Ng,Nh,Za,Zb,Zc,TT,e5,m2]
 refine ⟨_,m1,?_,?_⟩
 ·intro hl
  obtain rfl : left = []:=by simpa using hl
  refine hK _ _ ?_;clear hK K
  refine ywp_tells (AS.tells_turn m1) ?_
  refine ywp_seq (AWp.y (awp_cond_false (by simp only [aeval,upd,↓reduceIte]) (awp_exit ?_)))
  simp only [blockQ,thenQ,↓reduceIte]
  refine ⟨by simp,⟨_,⟨d,by simpa using hp,rfl⟩,hmI _ s' _ hI⟩,fun b' m hm=>?_⟩
  by_cases h1 : b' = b
  ·subst h1
   rw [hb] at hm
   cases hm
   simp [AS.putM]
  ·simpa [AS.putM,upd,h1] using m3 b' m h1 hm
 ·intro i hi
  have hi' : i < left.length:=by simpa using hi
  have hg : ∀ h,(left.map shrKV)[i]'h = shrKV left[i]:=fun _=>List.getElem_map ..
  have he : (left.map shrKV).eraseIdx i = (left.eraseIdx i).map shrKV:=map_erase ..
  have hp2 : (d ++ [left[i]] ++ left.eraseIdx i).Perm KL:=by
   rw [List.append_assoc]
   exact (List.Perm.append_left d (perm_erase hi')).trans hp
  rw [hg,he]
  generalize left[i] = v at *
  refine hK _ _ ?_;clear hK K
  refine ywp_seq (AWp.y (awp_cond_true (by simp only [aeval,upd,↓reduceIte]) (awp_skip ?_)))
  simp only [thenQ]
  refine ywp_block ?_
  obtain ⟨s2,hs2⟩ : ∃ s2,s2 = s'.putM r (.iter b es c ((left.eraseIdx i).map shrKV) (some (shrKV v))):=⟨_,rfl⟩
  have n1 : s2.maps b = some (.fix (KL.map shrKV) es c):=by rw [hs2]; simpa [AS.putM,upd,hbr] using m1
  have n2 : s2.maps r = some (.iter b es c ((left.eraseIdx i).map shrKV) (some (shrKV v))):=by rw [hs2]; simp [AS.putM]
  have n3 : ∀ b' m,b'≠b→s.maps b' = some m→s2.maps b' = some m:=by
   intro b' m h1 h2
   have : b'≠r:=by
    rintro rfl
    rw [hr] at h2
    cases h2
   rw [hs2]
   simpa [AS.putM,upd,this] using m3 b' m h1 h2
  have hI2 : I (d.map fun v=>[intC v]) s2:=by rw [hs2]; exact hmI _ s' _ hI
  rw [← hs2]
  clear hs2 m3 hI m1
  simp only [shrKV] at n2
  refine ywp_seq (AWp.y ?_)
  refine wE fun K hK=>?_
  simp only [↓DN,Qa,Qb,Qc,Qd,Qe,Qf,Qg,Qh,reduceCtorEq,↓reduceIte,Na,Nb,Nc,Nk,Nf,Ng,Nh,Za,Zb,Zc,TT,e5,n2]
  refine ⟨_,n1,?_⟩
  refine hK _ _ ?_;clear hK K
  refine ywp_yield2 (l:=l) (xs:=[_]) rfl rfl (by decide) ?_
  intro K hK ops
  simp only [↓DM,pval,DX,Nz,↓DN,Qa,Qb,Qc,Qd,Qe,Qf,Qg,Qh,reduceCtorEq,↓reduceIte,Na,Nb,Nc,Nk,Nf,Ng,Nh,Za,Zb,Zc,TT,e0]
  refine ⟨_,hy _ [intC v] _ ⟨(left.eraseIdx i).map fun v=>[intC v],d ++ [v] ++ left.eraseIdx i,hp2,by simp⟩ hI2,?_⟩
  rintro s3 ⟨hI3,h3⟩
  refine hK _ _ ?_;clear hK K
  refine AWp.y (awp_cond_false (by simp only [aeval,upd,↓reduceIte]) (awp_skip ?_))
  simp only [blockQ,thenQ]
  refine ⟨⟨d ++ [v],left.eraseIdx i,some (.int .i64 v,.v (.bool true)),by simp only [upd,e0,Nc,↓reduceIte],by simp only [upd,e5,Nc,↓reduceIte],hp2,by rw [h3]; exact n1,by rw [h3]; exact n2,fun b' m h1 h2=>by rw [h3]; exact n3 b' m h1 h2,by simpa using hI3⟩,?_⟩
  rw [h3,n2,m2]
  simp only [List.length_map,List.length_eraseIdx,hi',if_true]
  omega
def OwnM (s s' : AS) (r : AV) (l : List Int) : Prop:=OBuf 1 s' r l.length (l.map intC)∧(l = []→r = nilS)∧(∀ o,onm r = some o→s.objs o = none)∧s.le { s' with maps:=s.maps }
def BoxM (s : AS) (o1 : Nat) (l : List Int) (s' : AS) : Prop:=∃ x,s'.objs o1 = some [x]∧OwnM s s' x l∧onm x≠some o1
def OwnL (s s' : AS) (r : AV) (l : List Int) : Prop:=OBuf 1 s' r l.length (l.map intC)∧(l = []→r = nilS)∧(∀ o,onm r = some o→s.objs o = none)∧s.le s'
theorem OwnM.own {s s' : AS} {r : AV} {l : List Int} (h : OwnM s s' r l) (k : AS.mle s s') : OwnL s s' r l:=⟨h.1,h.2.1,h.2.2.1,h.2.2.2.objs,h.2.2.2.own,k⟩
theorem appendSeq_calls {gf : FuncId} {caps : List AV} {Pre : AS→Prop} {KL : List Int} (hcb : callable Try.prog gf = true) (hit : IterM Try.prog Γ gf caps Pre (keysA KL)) (hl : KL.length≤2 ^ 40) (s : AS) (hpre : ∀ s',s'.maps = s.maps→Pre s') :
  ACalls Try.prog Γ 63 [nilS,.clo gf caps] s (fun r s'=>∃ l : List Int,l.Perm KL∧OwnL s s' r l):=by
 refine acalls_fwp Try.func63 rfl Try.ntmps63 Try.results63 (by simp) ?_
 unfold nilS
 refine fwp_reg ?_
 intro K hK
 simp only [↓DM,pval,DX,Nz,↓DN,Qa,Qb,Qc,Qd,Qe,Qf,Qg,Qh,reduceCtorEq,↓reduceIte,Na,Nb,Nc,Nk,Nf,Ng,Nh,Za,Zb,Zc,TT]
 intro o1 h1
 refine hK _ _ ?_;clear hK K
 refine fwp_range_regM (by decide) ?_
 intro K hK
 simp only [↓DM,pval,DX,Nz,↓DN,Qa,Qb,Qc,Qd,Qe,Qf,Qg,Qh,reduceCtorEq,↓reduceIte,Na,Nb,Nc,Nk,Nf,Ng,Nh,Za,Zb,Zc,TT]
 refine hK _ _ ?_;clear hK K
 refine ⟨gf,caps,Pre,keysA KL,fun ys s'=>∃ l : List Int,ys = l.map (fun v=>[intC v])∧BoxM s o1 l s',by simp only [aeval,upd,initE,List.getD_cons_zero,List.getD_cons_succ,Nc,↓reduceIte],hcb,hit,?_,?_,?_,hpre _ rfl,?_,?_⟩
 ·intro ys x zs h
  obtain ⟨_,v,_,rfl,_⟩:=keysA_pre h
  rfl
 ·rintro ys s' M ⟨l,h1,h2⟩
  exact ⟨l,h1,h2⟩
 ·refine ⟨[],rfl,nilS,by simp [AS.set,nilS],⟨.inl ⟨by simp,by simp,.inl rfl⟩,fun _=>rfl,by simp [nilS,onm],AS.le_set (AS.le.refl s) h1 _⟩,by simp [nilS,onm]⟩
 ·rintro ys x s1 ⟨zs,hx⟩ ⟨l,rfl,b,hb1,⟨hob,hnil,hnew,hle⟩,hne⟩
  obtain ⟨l',v,e1,rfl,hll⟩:=keysA_pre hx
  have hll' : l.length < KL.length:=by
   have:=congrArg List.length e1
   simp only [List.length_map] at this
   omega
  have hone : b.one = true:=by
   rcases hob with ⟨_,_,rfl | rfl | rfl⟩ | ⟨_,_,_,rfl,_⟩ <;> rfl
  simp only [updL]
  refine wE fun K hK=>?_
  simp only [↓DN,Qa,Qb,Qc,Qd,Qe,Qf,Qg,Qh,reduceCtorEq,↓reduceIte,Na,Nb,Nc,Nk,Nf,Ng,Nh,Za,Zb,Zc,TT]
  refine hK _ _ ?_;clear hK K
  refine ⟨rfl,awp_block ?_⟩
  refine awp_region_at3y rfl (by decide) ?_
  intro ops
  simp only [↓DM,pval,DX,Nz,↓DN,Qa,Qb,Qc,Qd,Qe,Qf,Qg,Qh,reduceCtorEq,↓reduceIte,Na,Nb,Nc,Nk,Nf,Ng,Nh,Za,Zb,Zc,TT,hb1]
  refine ⟨_,fun G a w hr=>append_own_res (n:=l.length) (m:=1) (cs:=l.map intC) (ds:=[intC v]) (e:=3) (z:=[.v (.int .i64 0)]) rfl Try.underlying64 (by simp only [↓DN,Qa,Qb,Qc,Qd,Qe,Qf,Qg,Qh,reduceCtorEq,↓reduceIte,Na,Nb,Nc,Nk,Nf,Ng,Nh,Za,Zb,Zc,TT]; try rfl) (by simp only [↓DN,Qa,Qb,Qc,Qd,Qe,Qf,Qg,Qh,reduceCtorEq,↓reduceIte,Na,Nb,Nc,Nk,Nf,Ng,Nh,Za,Zb,Zc,TT]; try rfl) (by rw [T.c3]; decide) (by rw [T.c3]; rfl) (by rw [T.c3]; simp only [↓DN,Qa,Qb,Qc,Qd,Qe,Qf,Qg,Qh,reduceCtorEq,↓reduceIte,Na,Nb,Nc,Nk,Nf,Ng,Nh,Za,Zb,Zc,TT,asrc,aeval,upd,Nc,↓reduceIte]; rfl) (by decide) (by rw [T.b3]; omega) (by omega) rfl (by rw [T.c3]; simpa only [aeval,upd,Nc,↓reduceIte] using hob) hr.eval hr.st,?_⟩
  rw [T.c3]
  rintro r s4 ⟨ob,cap,rest,rfl,hcap,h63,hrl,hobn,rfl⟩
  simp only [aeval,upd,Nc,↓reduceIte] at hobn
  have hne1 : o1≠ob:=by
   rintro rfl
   rcases hobn with h | ⟨cap0,rfl⟩
   ·rw [hb1] at h; cases h
   ·exact hne rfl
  have hnone : s.objs ob = none:=by
   rcases hobn with h | ⟨cap0,rfl⟩
   ·exact AS.le_none (s':={ s1 with maps:=s.maps }) hle h
   ·exact hnew ob rfl
  obtain ⟨l2,hl2⟩ : ∃ l2,l2 = l ++ [v]:=⟨_,rfl⟩
  have htk : l.map intC ++ [intC v] = l2.map intC:=by rw [hl2]; simp
  have hlen : l2.length = l.length + 1:=by rw [hl2]; simp
  rw [htk]
  have hso : (s1.set ob (l2.map intC ++ rest)).objs o1 = some [b]:=by
   rw [AS.set_objs_ne _ hne1]
   exact hb1
  simp only [↓DM,pval,DX,Nz,↓DN,Qa,Qb,Qc,Qd,Qe,Qf,Qg,Qh,reduceCtorEq,↓reduceIte,Na,Nb,Nc,Nk,Nf,Ng,Nh,Za,Zb,Zc,TT,hso]
  refine ⟨⟨l2,by rw [hl2]; simp,_,AS.set_objs_same _ _ _,⟨.inr ⟨ob,cap,rest,by rw [hlen],?_,by simp,by rw [hlen]; exact hrl,by rw [hlen]; exact hcap,h63⟩,?_,?_,AS.le_set (s':=({ s1 with maps:=s.maps } : AS).set ob (l2.map intC ++ rest)) (AS.le_set hle hnone _) h1 _⟩,?_⟩,rfl⟩
  ·rw [AS.set_objs_ne _ hne1.symm,AS.set_objs_same]
  ·intro h
   rw [h] at hlen
   simp at hlen
  ·intro o h
   simp only [onm,Option.some.injEq] at h
   rw [← h]
   exact hnone
  ·simp only [onm,ne_eq,Option.some.injEq]
   exact hne1.symm
 ·rintro s2 ys ⟨l0,hp,rfl⟩ ⟨l,e,x,hx1,hx2,-⟩ hm
  have hl0 : l0 = l:=by
   have h3:=congrArg (List.map fun c : List AV=>c.head?) e
   simp only [List.map_map] at h3
   have hinj : ∀ a b : Int,((fun c : List AV=>c.head?) ∘ fun v=>[intC v]) a = ((fun c : List AV=>c.head?) ∘ fun v=>[intC v]) b→a = b:=by
    intro a b h
    simpa [intC] using h
   exact (List.map_inj_right hinj).1 h3
  subst hl0
  refine wS fun K hK=>?_
  simp only [↓DN,Qa,Qb,Qc,Qd,Qe,Qf,Qg,Qh,reduceCtorEq,↓reduceIte,Na,Nb,Nc,Nk,Nf,Ng,Nh,Za,Zb,Zc,TT,hx1]
  refine hK _ _ ?_;clear hK K
  refine awp_ret ?_
  try simp only [thenQ,blockQ]
  simp only [retQ,AEnds,aresL,ares,List.toList_toArray,↓upd_same]; try simp only [UP,DF,Nc,↓reduceIte,DT]
  exact ⟨_,_,AV.weak.refl _,AS.le.refl _,l0,hp,hx2.own hm⟩
theorem collect_calls {gf : FuncId} {caps : List AV} {Pre : AS→Prop} {KL : List Int} (hcb : callable Try.prog gf = true) (hit : IterM Try.prog Γ gf caps Pre (keysA KL)) (hl : KL.length≤2 ^ 40) (s : AS) (hpre : ∀ s',s'.maps = s.maps→Pre s') :
  ACalls Try.prog Γ 56 [.clo gf caps] s (fun r s'=>∃ l : List Int,l.Perm KL∧OwnL s s' r l):=by
 refine acalls_body Try.func56 rfl Try.ntmps56 Try.results56 (by simp) ?_
 refine wS fun K hK=>?_
 simp only [↓DN,Qa,Qb,Qc,Qd,Qe,Qf,Qg,Qh,reduceCtorEq,↓reduceIte,Na,Nb,Nc,Nk,Nf,Ng,Nh,Za,Zb,Zc,TT]
 refine hK _ _ ?_;clear hK K
 refine wS fun K hK=>?_
 simp only [↓DN,Qa,Qb,Qc,Qd,Qe,Qf,Qg,Qh,reduceCtorEq,↓reduceIte,Na,Nb,Nc,Nk,Nf,Ng,Nh,Za,Zb,Zc,TT]
 refine acallk (appendSeq_calls hcb hit hl _ hpre) ?_
 rintro r s2 h2
 simp only [↓DM,pval,DX,Nz,↓DN,Qa,Qb,Qc,Qd,Qe,Qf,Qg,Qh,reduceCtorEq,↓reduceIte,Na,Nb,Nc,Nk,Nf,Ng,Nh,Za,Zb,Zc,TT]
 refine hK _ _ ?_;clear hK K
 refine awp_ret ?_
 try simp only [thenQ,blockQ]
 simp only [retQ,AEnds,aresL,ares,List.toList_toArray,↓upd_same]; try simp only [UP,DF,Nc,↓reduceIte,DT]
 exact ⟨_,_,AV.weak.refl _,AS.le.refl _,h2⟩
theorem sort_perm {a b : List Int} (h : a.Perm b) : (a.mergeSort fun x y=>decide (x≤y)) = b.mergeSort fun x y=>decide (x≤y):=by
 have hs:=fun l : List Int=>List.pairwise_mergeSort (le:=fun x y : Int=>decide (x≤y)) (by intro a b c; simp; omega) (by intro a b; simp; omega) l
 exact List.Perm.eq_of_pairwise (le:=fun x y=>decide (x≤y) = true) (by intro a b _ _; simp; omega) (hs a) (hs b) ((List.mergeSort_perm a _).trans (h.trans (List.mergeSort_perm b _).symm))
theorem len64nil_calls (s : AS) : ACalls Try.prog Γ 78 [.v (.int .u64 0)] s (fun r s'=>(∃ k : Int,r = .v (.int .i64 k))∧s' = s):=by
 refine acalls_body Try.func78 rfl Try.ntmps78 Try.results78 (by simp) ?_
 refine wS fun K hK=>?_
 simp only [↓DN,Qa,Qb,Qc,Qd,Qe,Qf,Qg,Qh,reduceCtorEq,↓reduceIte,Na,Nb,Nc,Nk,Nf,Ng,Nh,Za,Zb,Zc,TT]
 refine hK _ _ ?_;clear hK K
 refine wK fun K hK=>?_
 refine wS fun K hK=>?_
 simp only [↓DN,Qa,Qb,Qc,Qd,Qe,Qf,Qg,Qh,reduceCtorEq,↓reduceIte,Na,Nb,Nc,Nk,Nf,Ng,Nh,Za,Zb,Zc,TT]
 refine hK _ _ ?_;clear hK K
 refine wC fun X Y hX hY=>?_
 simp only [UP,DF,Nc,↓reduceIte,DB]
 refine hY ?_;clear hX hY X Y
 refine awp_skip ?_
 refine hK _ _ ?_;clear hK K
 refine wK fun K hK=>?_
 refine wS fun K hK=>?_
 simp only [↓DN,Qa,Qb,Qc,Qd,Qe,Qf,Qg,Qh,reduceCtorEq,↓reduceIte,Na,Nb,Nc,Nk,Nf,Ng,Nh,Za,Zb,Zc,TT]
 refine hK _ _ ?_;clear hK K
 refine wC fun X Y hX hY=>?_
 simp only [UP,DF,Nc,↓reduceIte,DB]
 refine hY ?_;clear hX hY X Y
 refine awp_skip ?_
 refine hK _ _ ?_;clear hK K
 refine wK fun K hK=>?_
 refine wS fun K hK=>?_
 simp only [↓DN,Qa,Qb,Qc,Qd,Qe,Qf,Qg,Qh,reduceCtorEq,↓reduceIte,Na,Nb,Nc,Nk,Nf,Ng,Nh,Za,Zb,Zc,TT]
 refine hK _ _ ?_;clear hK K
 refine wC fun X Y hX hY=>?_
 simp only [UP,DF,Nc,↓reduceIte,DB]
 refine hY ?_;clear hX hY X Y
 refine awp_skip ?_
 refine hK _ _ ?_;clear hK K
 refine wS fun K hK=>?_
 simp only [↓DN,Qa,Qb,Qc,Qd,Qe,Qf,Qg,Qh,reduceCtorEq,↓reduceIte,Na,Nb,Nc,Nk,Nf,Ng,Nh,Za,Zb,Zc,TT]
 refine hK _ _ ?_;clear hK K
 refine awp_ret ?_
 try simp only [thenQ,blockQ]
 simp only [retQ,AEnds,aresL,ares,List.toList_toArray,↓upd_same]; try simp only [UP,DF,Nc,↓reduceIte,DT]
 exact ⟨_,_,AV.weak.refl _,AS.le.refl _,⟨_,rfl⟩,rfl⟩
theorem lennil_calls (s : AS) : ACalls Try.prog Γ 65 [.v (.int .u64 0)] s (fun r s'=>(∃ k : Int,r = .v (.int .i64 k))∧s' = s):=by
 refine acalls_body Try.func65 rfl Try.ntmps65 Try.results65 (by simp) ?_
 refine wS fun K hK=>?_
 simp only [↓DN,Qa,Qb,Qc,Qd,Qe,Qf,Qg,Qh,reduceCtorEq,↓reduceIte,Na,Nb,Nc,Nk,Nf,Ng,Nh,Za,Zb,Zc,TT]
 refine hK _ _ ?_;clear hK K
 refine wK fun K hK=>?_
 refine wC fun X Y hX hY=>?_
 simp only [UP,DF,Nc,↓reduceIte,DB]
 refine hY ?_;clear hX hY X Y
 refine awp_skip ?_
 refine hK _ _ ?_;clear hK K
 refine wS fun K hK=>?_
 simp only [↓DN,Qa,Qb,Qc,Qd,Qe,Qf,Qg,Qh,reduceCtorEq,↓reduceIte,Na,Nb,Nc,Nk,Nf,Ng,Nh,Za,Zb,Zc,TT]
 refine acallk (len64nil_calls _) ?_
 rintro r s2 ⟨⟨k,rfl⟩,rfl⟩
 simp only [↓DM,pval,DX,Nz,↓DN,Qa,Qb,Qc,Qd,Qe,Qf,Qg,Qh,reduceCtorEq,↓reduceIte,Na,Nb,Nc,Nk,Nf,Ng,Nh,Za,Zb,Zc,TT]
 refine hK _ _ ?_;clear hK K
 refine awp_ret ?_
 try simp only [thenQ,blockQ]
 simp only [retQ,AEnds,aresL,ares,List.toList_toArray,↓upd_same]; try simp only [UP,DF,Nc,↓reduceIte,DT]
 exact ⟨_,_,AV.weak.refl _,AS.le.refl _,⟨_,rfl⟩,rfl⟩
theorem insnil_calls (s : AS) : ACalls Try.prog Γ 68 [nilS,.v (.int .i64 0),.v (.int .i64 0)] s (fun r s'=>r = .tup []∧s' = s):=by
 refine acalls_body Try.func68 rfl Try.ntmps68 Try.results68 (by simp) ?_
 refine wS fun K hK=>?_
 simp only [↓DN,Qa,Qb,Qc,Qd,Qe,Qf,Qg,Qh,reduceCtorEq,↓reduceIte,Na,Nb,Nc,Nk,Nf,Ng,Nh,Za,Zb,Zc,TT]
 refine hK _ _ ?_;clear hK K
 refine awp_block ?_
 refine awp_loop (fun E s'=>E 2 = .v (.int .i64 0)∧E 6 = .v (.int .i64 1)∧s' = s) (fun _ _=>0) ⟨by simp only [upd,initE,List.getD_cons_zero,List.getD_cons_succ,Nc,↓reduceIte],by simp only [upd,↓reduceIte]; rfl,rfl⟩ ?_
 rintro E s' ⟨e2,e6,rfl⟩ -
 refine wK fun K2 hK2=>?_
 refine wS fun K hK=>?_
 simp only [↓DN,Qa,Qb,Qc,Qd,Qe,Qf,Qg,Qh,reduceCtorEq,↓reduceIte,Na,Nb,Nc,Nk,Nf,Ng,Nh,Za,Zb,Zc,TT,e2,e6]
 refine hK _ _ ?_;clear hK K
 refine wC fun X Y hX hY=>?_
 simp only [UP,DF,Nc,↓reduceIte,DB]
 refine hY ?_;clear hX hY X Y
 refine awp_exit ?_
 simp only [thenQ,blockQ,if_true]
 simp only [retQ,AEnds,aresL,ares,List.toList_toArray,↓upd_same]; try simp only [UP,DF,Nc,↓reduceIte,DT]
 exact ⟨_,_,AV.weak.refl _,AS.le.refl _,rfl,rfl⟩
theorem pdqnil_calls (k : Int) (s : AS) : ACalls Try.prog Γ 64 [nilS,.v (.int .i64 0),.v (.int .i64 0),.v (.int .i64 k)] s (fun r s'=>r = .tup []∧s' = s):=by
 refine acalls_body Try.func64 rfl Try.ntmps64 Try.results64 (by simp) ?_
 unfold nilS
 refine wS fun K hK=>?_
 simp only [↓DN,Qa,Qb,Qc,Qd,Qe,Qf,Qg,Qh,reduceCtorEq,↓reduceIte,Na,Nb,Nc,Nk,Nf,Ng,Nh,Za,Zb,Zc,TT]
 refine hK _ _ ?_;clear hK K
 refine wS fun K hK=>?_
 simp only [↓DN,Qa,Qb,Qc,Qd,Qe,Qf,Qg,Qh,reduceCtorEq,↓reduceIte,Na,Nb,Nc,Nk,Nf,Ng,Nh,Za,Zb,Zc,TT]
 refine hK _ _ ?_;clear hK K
 refine awp_block ?_
 refine awp_loop (fun E s'=>E 0 = .v (.slice none 0 0)∧E 1 = .v (.int .i64 0)∧E 2 = .v (.int .i64 0)∧s' = s) (fun _ _=>0) ⟨by simp only [upd,initE,List.getD_cons_zero,List.getD_cons_succ,Nc,↓reduceIte],by simp only [upd,initE,List.getD_cons_zero,List.getD_cons_succ,Nc,↓reduceIte],by simp only [upd,initE,List.getD_cons_zero,List.getD_cons_succ,Nc,↓reduceIte],rfl⟩ ?_
 rintro E s' ⟨e0,e1,e2,rfl⟩ -
 refine awp_block ?_
 refine wS fun K hK=>?_
 simp only [↓DN,Qa,Qb,Qc,Qd,Qe,Qf,Qg,Qh,reduceCtorEq,↓reduceIte,Na,Nb,Nc,Nk,Nf,Ng,Nh,Za,Zb,Zc,TT,e1,e2]
 refine hK _ _ ?_;clear hK K
 refine wK fun K2 hK2=>?_
 refine wS fun K hK=>?_
 simp only [↓DN,Qa,Qb,Qc,Qd,Qe,Qf,Qg,Qh,reduceCtorEq,↓reduceIte,Na,Nb,Nc,Nk,Nf,Ng,Nh,Za,Zb,Zc,TT,show isub .i64 0 0 = (0 : Int) from rfl,show (decide ((0 : Int)≤12)) = true from rfl]
 refine hK _ _ ?_;clear hK K
 refine wC fun X Y hX hY=>?_
 simp only [UP,DF,Nc,↓reduceIte,DB]
 refine hX ?_;clear hX hY X Y
 refine wS fun K hK=>?_
 simp only [↓DN,Qa,Qb,Qc,Qd,Qe,Qf,Qg,Qh,reduceCtorEq,↓reduceIte,Na,Nb,Nc,Nk,Nf,Ng,Nh,Za,Zb,Zc,TT,e0,e1,e2]
 refine acallk (insnil_calls _) ?_
 rintro r s2 ⟨rfl,rfl⟩
 simp only [↓DM,pval,DX,Nz,↓DN,Qa,Qb,Qc,Qd,Qe,Qf,Qg,Qh,reduceCtorEq,↓reduceIte,Na,Nb,Nc,Nk,Nf,Ng,Nh,Za,Zb,Zc,TT]
 refine hK _ _ ?_;clear hK K
 refine awp_ret ?_
 simp only [thenQ,blockQ]
 simp only [retQ,AEnds,aresL,ares,List.toList_toArray,↓upd_same]; try simp only [UP,DF,Nc,↓reduceIte,DT]
 exact ⟨_,_,AV.weak.refl _,AS.le.refl _,rfl,rfl⟩
theorem sortnil_calls (s : AS) : ACalls Try.prog Γ 57 [nilS] s (fun r s'=>r = .tup []∧s' = s):=by
 refine acalls_body Try.func57 rfl Try.ntmps57 Try.results57 (by simp) ?_
 unfold nilS
 refine wS fun K hK=>?_
 simp only [↓DN,Qa,Qb,Qc,Qd,Qe,Qf,Qg,Qh,reduceCtorEq,↓reduceIte,Na,Nb,Nc,Nk,Nf,Ng,Nh,Za,Zb,Zc,TT]
 refine hK _ _ ?_;clear hK K
 refine wE fun K hK=>?_
 simp only [↓DN,Qa,Qb,Qc,Qd,Qe,Qf,Qg,Qh,reduceCtorEq,↓reduceIte,Na,Nb,Nc,Nk,Nf,Ng,Nh,Za,Zb,Zc,TT]
 refine acallk (lennil_calls _) ?_
 rintro r s2 ⟨⟨k,rfl⟩,rfl⟩
 simp only [↓DM,pval,DX,Nz,↓DN,Qa,Qb,Qc,Qd,Qe,Qf,Qg,Qh,reduceCtorEq,↓reduceIte,Na,Nb,Nc,Nk,Nf,Ng,Nh,Za,Zb,Zc,TT]
 refine acallk (pdqnil_calls k _) ?_
 rintro r s3 ⟨rfl,rfl⟩
 simp only [↓DM,pval,DX,Nz,↓DN,Qa,Qb,Qc,Qd,Qe,Qf,Qg,Qh,reduceCtorEq,↓reduceIte,Na,Nb,Nc,Nk,Nf,Ng,Nh,Za,Zb,Zc,TT]
 refine hK _ _ ?_;clear hK K
 simp only [retQ,AEnds,aresL,ares,List.toList_toArray,↓upd_same]; try simp only [UP,DF,Nc,↓reduceIte,DT]
 exact ⟨_,_,AV.weak.refl _,AS.le.refl _,rfl,rfl⟩
theorem sorted0_calls {gf : FuncId} {caps : List AV} {Pre : AS→Prop} {KL : List Int} (hcb : callable Try.prog gf = true) (hit : IterM Try.prog Γ gf caps Pre (keysA KL)) (hl : KL.length≤2 ^ 40) (s : AS) (hpre : ∀ s',s'.maps = s.maps→Pre s') :
  ACalls Try.prog Γ 44 [.clo gf caps] s (fun r s'=>∃ l : List Int,l.Perm KL∧OwnL s s' r (l.mergeSort fun x y=>decide (x≤y))):=by
 refine acalls_body Try.func44 rfl Try.ntmps44 Try.results44 (by simp) ?_
 refine wS fun K hK=>?_
 simp only [↓DN,Qa,Qb,Qc,Qd,Qe,Qf,Qg,Qh,reduceCtorEq,↓reduceIte,Na,Nb,Nc,Nk,Nf,Ng,Nh,Za,Zb,Zc,TT]
 refine hK _ _ ?_;clear hK K
 refine wS fun K hK=>?_
 simp only [↓DN,Qa,Qb,Qc,Qd,Qe,Qf,Qg,Qh,reduceCtorEq,↓reduceIte,Na,Nb,Nc,Nk,Nf,Ng,Nh,Za,Zb,Zc,TT]
 refine acallk (collect_calls hcb hit hl _ hpre) ?_
 rintro r s2 ⟨l,hp,hob,hnil,hnew,hle⟩
 rw [← hp.length_eq] at hl
 rcases List.eq_nil_or_concat l with rfl | ⟨l',v,hl'⟩
 ·obtain rfl:=hnil rfl
  simp only [↓DM,pval,DX,Nz,↓DN,Qa,Qb,Qc,Qd,Qe,Qf,Qg,Qh,reduceCtorEq,↓reduceIte,Na,Nb,Nc,Nk,Nf,Ng,Nh,Za,Zb,Zc,TT]
  refine hK _ _ ?_;clear hK K
  refine wS fun K hK=>?_
  simp only [↓DN,Qa,Qb,Qc,Qd,Qe,Qf,Qg,Qh,reduceCtorEq,↓reduceIte,Na,Nb,Nc,Nk,Nf,Ng,Nh,Za,Zb,Zc,TT]
  refine acallk (sortnil_calls _) ?_
  rintro r s3 ⟨rfl,rfl⟩
  simp only [↓DM,pval,DX,Nz,↓DN,Qa,Qb,Qc,Qd,Qe,Qf,Qg,Qh,reduceCtorEq,↓reduceIte,Na,Nb,Nc,Nk,Nf,Ng,Nh,Za,Zb,Zc,TT]
  refine hK _ _ ?_;clear hK K
  refine wS fun K hK=>?_
  simp only [↓DN,Qa,Qb,Qc,Qd,Qe,Qf,Qg,Qh,reduceCtorEq,↓reduceIte,Na,Nb,Nc,Nk,Nf,Ng,Nh,Za,Zb,Zc,TT]
  refine hK _ _ ?_;clear hK K
  refine awp_ret ?_
  try simp only [thenQ,blockQ]
  simp only [retQ,AEnds,aresL,ares,List.toList_toArray,↓upd_same]; try simp only [UP,DF,Nc,↓reduceIte,DT]
  exact ⟨_,_,AV.weak.refl _,AS.le.refl _,_,hp,by simpa using hob,fun _=>rfl,hnew,hle⟩
 ·have hpos : 0 < l.length:=by rw [hl']; simp
  have hml : (l.mergeSort fun x y=>decide (x≤y)).length = l.length:=by simp
  rcases hob with ⟨h0,_,_⟩ | ⟨o,cap,rest,rfl,ho,hcl,hrl,hnc,h63⟩
  ·omega
  ·simp only [↓DM,pval,DX,Nz,↓DN,Qa,Qb,Qc,Qd,Qe,Qf,Qg,Qh,reduceCtorEq,↓reduceIte,Na,Nb,Nc,Nk,Nf,Ng,Nh,Za,Zb,Zc,TT]
   refine hK _ _ ?_;clear hK K
   refine wS fun K hK=>?_
   simp only [↓DN,Qa,Qb,Qc,Qd,Qe,Qf,Qg,Qh,reduceCtorEq,↓reduceIte,Na,Nb,Nc,Nk,Nf,Ng,Nh,Za,Zb,Zc,TT]
   refine acallk (sort_int (by omega) ho) ?_
   rintro r s3 ⟨rfl,rfl⟩
   simp only [↓DM,pval,DX,Nz,↓DN,Qa,Qb,Qc,Qd,Qe,Qf,Qg,Qh,reduceCtorEq,↓reduceIte,Na,Nb,Nc,Nk,Nf,Ng,Nh,Za,Zb,Zc,TT]
   refine hK _ _ ?_;clear hK K
   refine wS fun K hK=>?_
   simp only [↓DN,Qa,Qb,Qc,Qd,Qe,Qf,Qg,Qh,reduceCtorEq,↓reduceIte,Na,Nb,Nc,Nk,Nf,Ng,Nh,Za,Zb,Zc,TT]
   refine hK _ _ ?_;clear hK K
   refine awp_ret ?_
   try simp only [thenQ,blockQ]
   simp only [retQ,AEnds,aresL,ares,List.toList_toArray,↓upd_same]; try simp only [UP,DF,Nc,↓reduceIte,DT]
   have hn : s.objs o = none:=hnew o rfl
   refine ⟨_,_,AV.weak.refl _,AS.le.refl _,l,hp,.inr ⟨o,cap,rest,by rw [hml],AS.set_objs_same _ _ _,by simp,by rw [hml]; exact hrl,by rw [hml]; exact hnc,h63⟩,?_,hnew,AS.le_set hle hn _⟩
   intro h
   rw [h] at hml
   simp only [List.length_nil] at hml
   omega
theorem sorted_calls {gf : FuncId} {caps : List AV} {Pre : AS→Prop} {KL : List Int} (hcb : callable Try.prog gf = true) (hit : IterM Try.prog Γ gf caps Pre (keysA KL)) (hl : KL.length≤2 ^ 40) (s : AS) (hpre : ∀ s',s'.maps = s.maps→Pre s') :
  ACalls Try.prog Γ 44 [.clo gf caps] s (fun r s'=>OwnL s s' r (KL.mergeSort fun x y=>decide (x≤y))) :=
 (sorted0_calls hcb hit hl s hpre).use fun r s' ⟨l,hp,h⟩=>by rw [← sort_perm hp]; exact h
theorem sortedK_calls {b : Nat} {KL : List Int} (hl : KL.length≤2 ^ 40) {s : AS} (hb : s.maps b = some (.map (KL.map shrKV))) : ACalls Try.prog Γ 44 [.clo 58 [.rop [.v (.map (some b))]]] s
  (fun r s'=>r = .sl 1 (KL.mergeSort fun x y=>decide (x≤y)).length ((KL.mergeSort fun x y=>decide (x≤y)).map intC) .any∧s' = s):=by
 refine ACalls.forget (ACalls.settle (sorted_calls (by kernel_rfl) (keys1_iter (Γ:=Γ) b KL) hl s (fun s' h=>by rw [h]; exact hb)) ?_ (R:=fun r s'=>r = .sl 1 (KL.mergeSort fun x y=>decide (x≤y)).length ((KL.mergeSort fun x y=>decide (x≤y)).map intC) .any∧s.le s')) fun r s' ⟨h1,h2⟩=>⟨s,h2,h1,rfl⟩
 rintro r s' ⟨hob,hnil,hnew,hle⟩
 rcases hob with ⟨h0,_,_⟩ | ⟨o,cap,rest,rfl,ho,hcl,hrl,hnc,h63⟩
 ·have e : (KL.mergeSort fun x y=>decide (x≤y)) = []:=List.eq_nil_of_length_eq_zero h0
  rw [hnil e,e]
  exact ⟨_,_,Settles.weak AV.weak_nil,rfl,hle⟩
 ·exact ⟨_,_,Settles.outer ho (by simp),rfl,AS.le_drop hle (hnew o rfl)⟩
end Go.Proofs.Ytfbbckndpkmfcaa
namespace Go.Proofs.Ytfbbckndpkmfcaa
open Go Go.AM Go.Proofs
variable {Γ : Nat→List AV}
theorem ledTime_calls {s0 s : AS} {p : Nat} {L : LedV} {gs : List GEnt} {gt ge b1 b2 : Nat} (h : LedS s0 s p L gs gt ge b1 b2) : ACalls Try.prog Γ 27 [.ptr p 0] s (fun r s'=>r = .v (.int .i64 L.time)∧s' = s):=by
 refine acalls_body Try.func27 rfl Try.ntmps27 Try.results27 (by simp) ?_
 have ho:=h.obj
 unfold ledC at ho
 refine wS fun K hK=>?_
 simp only [↓DN,Qa,Qb,Qc,Qd,Qe,Qf,Qg,Qh,reduceCtorEq,↓reduceIte,Na,Nb,Nc,Nk,Nf,Ng,Nh,Za,Zb,Zc,TT]
 refine hK _ _ ?_;clear hK K
 refine wS fun K hK=>?_
 simp only [↓DN,Qa,Qb,Qc,Qd,Qe,Qf,Qg,Qh,reduceCtorEq,↓reduceIte,Na,Nb,Nc,Nk,Nf,Ng,Nh,Za,Zb,Zc,TT,ho]
 refine hK _ _ ?_;clear hK K
 refine awp_ret ?_
 try simp only [thenQ,blockQ]
 simp only [retQ,AEnds,aresL,ares,List.toList_toArray,↓upd_same]; try simp only [UP,DF,Nc,↓reduceIte,DT]
 exact ⟨_,_,AV.weak.refl _,AS.le.refl _,rfl,rfl⟩
theorem ledBuckets_calls {s0 s : AS} {p : Nat} {L : LedV} {gs : List GEnt} {gt ge b1 b2 : Nat} (h : LedS s0 s p L gs gt ge b1 b2) (ht : totG gs≤2 ^ 40) (hg : gs.length≤2 ^ 40) :
  ACalls Try.prog Γ 31 [.ptr p 0] s (fun r s'=>(∃ KL : List Int,KL.Nodup∧(∀ b,b ∈ KL↔∃ x ∈ gs,∃ e ∈ x.es,e.bucket = b∧b ∉ L.shr)∧r = intsV (KL.mergeSort fun x y=>decide (x≤y)) .any)∧s' = s):=by
 refine tidyL (Q:=fun r=>∃ KL : List Int,KL.Nodup∧(∀ b,b ∈ KL↔∃ x ∈ gs,∃ e ∈ x.es,e.bucket = b∧b ∉ L.shr)∧r = intsV (KL.mergeSort fun x y=>decide (x≤y)) .any) ?_
 refine acalls_body Try.func31 rfl Try.ntmps31 Try.results31 (by simp) ?_
 have ho:=h.obj
 have hm1:=h.m1
 have hm2:=h.m2
 unfold ledC at ho
 have hz : azero Try.prog 4 = some (.bool false):=by kernel_rfl
 refine wS fun K hK=>?_
 simp only [↓DN,Qa,Qb,Qc,Qd,Qe,Qf,Qg,Qh,reduceCtorEq,↓reduceIte,Na,Nb,Nc,Nk,Nf,Ng,Nh,Za,Zb,Zc,TT]
 refine hK _ _ ?_;clear hK K
 refine wS fun K hK=>?_
 simp only [↓DN,Qa,Qb,Qc,Qd,Qe,Qf,Qg,Qh,reduceCtorEq,↓reduceIte,Na,Nb,Nc,Nk,Nf,Ng,Nh,Za,Zb,Zc,TT]
 intro b3 h3
 refine hK _ _ ?_;clear hK K
 have hn31 : b3≠b1:=by rintro rfl; rw [hm1] at h3; cases h3
 have hn32 : b2≠b3:=by rintro rfl; rw [hm2] at h3; cases h3
 refine wK fun K hK=>?_
 have hm1' : (s.setMap b3 []).maps b1 = some (.map (gs.map GEnt.kv)):=by rw [AS.setMap_ne _ hn31.symm]; exact hm1
 refine wS fun K hK=>?_
 simp only [↓DN,Qa,Qb,Qc,Qd,Qe,Qf,Qg,Qh,reduceCtorEq,↓reduceIte,Na,Nb,Nc,Nk,Nf,Ng,Nh,Za,Zb,Zc,TT,AS.setMap_objs,ho,amOf,avOf,Try.underlying49,hm1']
 intro es c r hr
 have hr1 : r≠b1:=by rintro rfl; rw [hm1'] at hr; cases hr
 have hr3 : r≠b3:=by rintro rfl; rw [AS.setMap_same] at hr; cases hr
 have hrs : s.maps r = none:=by rwa [AS.setMap_ne _ hr3] at hr
 refine hK _ _ ?_;clear hK K
 obtain ⟨s1,hs1⟩ : ∃ s1,s1 = ((s.setMap b3 []).putM b1 (.fix (gs.map GEnt.kv) es c)).putM r (.iter b1 es c (gs.map GEnt.kv) none):=⟨_,rfl⟩
 rw [← hs1]
 have hB : BkS s gs L.shr b1 b3 r es c gs [] s1:=by
  rw [hs1]
  exact {
   m1:=by simp [AS.setMap,AS.putM,upd,hr1.symm]
   mr:=⟨none,by simp [AS.putM]⟩
   m3:=by simp [AS.setMap,AS.putM,upd,hr3.symm,hn31]
   le:=by
    refine ⟨fun _ _ q=>q,fun _ _ q=>q,fun b m q=>?_⟩
    by_cases e1 : b = b1
    ·subst e1; rw [hm1] at q; cases q; simp [AS.putM]
    ·have e2 : b≠b3:=by rintro rfl; rw [h3] at q; cases q
     have e3 : b≠r:=by rintro rfl; rw [hrs] at q; cases q
     simpa [AS.setMap,AS.putM,upd,e1,e2,e3] using q
   nodup:=by simp
   mem:=fun _ q=>q
   has:=fun _ q=>by cases q }
 clear hs1 hr hm1'
 refine awp_block ?_
 refine awp_loop (fun E s'=>∃ (left : List GEnt) (KL : List Int),E 0 = .ptr p 0∧E 3 = .v (.map (some b3))∧E 13 = .v (.pointer (some ⟨r,0,none⟩))∧BkS s gs L.shr b1 b3 r es c left KL s'∧KL.length + totG left≤totG gs∧(∀ x ∈ gs,x ∈ left∨∀ e ∈ x.es,e.bucket ∉ L.shr→e.bucket ∈ KL))
  (fun _ s'=>match s'.maps r with | some (.iter _ _ _ left _)=>left.length | _=>0) ?_ ?_
 ·exact ⟨gs,[],by simp only [upd,initE,List.getD_cons_zero,List.getD_cons_succ,Nc,↓reduceIte],by simp only [upd,Nc,↓reduceIte],by simp only [upd,Nc,↓reduceIte],hB,by simp,fun x hx=>.inl hx⟩
 clear hB
 rintro E1 s2 ⟨left,KL,g0,g3,g13,hB,hlen,hall⟩ -
 obtain ⟨cur,hmr⟩:=hB.mr
 refine wS fun K hK=>?_
 simp only [↓DN,Qa,Qb,Qc,Qd,Qe,Qf,Qg,Qh,reduceCtorEq,↓reduceIte,Na,Nb,Nc,Nk,Nf,Ng,Nh,Za,Zb,Zc,TT,g13,hmr]
 refine ⟨_,hB.m1,?_,?_⟩
 ·intro hl
  obtain rfl : left = []:=by simpa using hl
  refine hK _ _ ?_;clear hK K
  refine wK fun K2 hK2=>?_
  refine wC fun X Y hX hY=>?_
  simp only [UP,DF,Nc,↓reduceIte,DB]
  refine hY ?_;clear hX hY X Y
  refine awp_exit ?_
  simp only [thenQ,blockQ,if_true]
  refine hK _ _ ?_;clear hK hK2 K2 K
  refine awp_tells (AS.tells_turn hB.m1) ?_
  have hm3 : (s2.putM b1 (.map (gs.map GEnt.kv))).maps b3 = some (.map (KL.map shrKV)):=by simpa [AS.putM,upd,hn31] using hB.m3
  have hle:=hB.le
  have hkl : KL.length≤2 ^ 40:=by omega
  generalize s2.putM b1 (.map (gs.map GEnt.kv)) = s3 at *
  refine wS fun K hK=>?_
  simp only [↓DN,Qa,Qb,Qc,Qd,Qe,Qf,Qg,Qh,reduceCtorEq,↓reduceIte,Na,Nb,Nc,Nk,Nf,Ng,Nh,Za,Zb,Zc,TT,g3]
  refine acallk (keys_calls b3 _) ?_
  rintro r s4 ⟨rfl,rfl⟩
  simp only [↓DM,pval,DX,Nz,↓DN,Qa,Qb,Qc,Qd,Qe,Qf,Qg,Qh,reduceCtorEq,↓reduceIte,Na,Nb,Nc,Nk,Nf,Ng,Nh,Za,Zb,Zc,TT]
  refine acallk (sortedK_calls hkl hm3) ?_
  rintro r s5 ⟨rfl,rfl⟩
  simp only [↓DM,pval,DX,Nz,↓DN,Qa,Qb,Qc,Qd,Qe,Qf,Qg,Qh,reduceCtorEq,↓reduceIte,Na,Nb,Nc,Nk,Nf,Ng,Nh,Za,Zb,Zc,TT]
  refine hK _ _ ?_;clear hK K
  refine awp_ret ?_
  try simp only [thenQ,blockQ]
  simp only [retQ,AEnds,aresL,ares,List.toList_toArray,↓upd_same]; try simp only [UP,DF,Nc,↓reduceIte,DT]
  refine ⟨_,_,AV.weak.refl _,AS.le.refl _,⟨KL,hB.nodup,fun b=>⟨hB.has b,?_⟩,rfl⟩,hle⟩
  rintro ⟨x,hx,e,he,rfl,hb⟩
  rcases hall x hx with a | a
  ·cases a
  ·exact a e he hb
 ·intro i hi
  have hi' : i < left.length:=by simpa using hi
  have hg : ∀ h,(left.map GEnt.kv)[i]'h = left[i].kv:=fun _=>List.getElem_map ..
  rw [hg,map_erase]
  refine hK _ _ ?_;clear hK K
  have hB2:=hB.next hrs hr1 hr3 hi'
  obtain ⟨hmem,hsum⟩:=erase_facts hi'
  have hyg:=hB.mem _ (List.getElem_mem hi')
  have hsum:=hsum fun x=>x.es.length
  have hmr2 : (s2.putM r (.iter b1 es c ((left.eraseIdx i).map GEnt.kv) (some left[i].kv))).maps r = some (.iter b1 es c ((left.eraseIdx i).map GEnt.kv) (some left[i].kv)):=by simp [AS.putM]
  have hlt : (left.eraseIdx i).length < left.length:=by rw [List.length_eraseIdx,if_pos hi']; omega
  clear hB
  generalize s2.putM r (.iter b1 es c ((left.eraseIdx i).map GEnt.kv) (some left[i].kv)) = s3 at *
  generalize left.eraseIdx i = left2 at *
  generalize left[i] = y at *
  have hyl : y.es.length≤2 ^ 40:=by
   unfold totG at *
   omega
  refine wK fun K2 hK2=>?_
  refine wC fun X Y hX hY=>?_
  simp only [UP,DF,Nc,↓reduceIte,DB]
  refine hX ?_;clear hX hY X Y
  refine awp_skip ?_
  refine hK2 _ _ ?_;clear hK2 K2
  refine awp_block ?_
  unfold GEnt.kv GEnt.av at hmr2
  have hrow:=fun i (h : i < y.es.length)=>row_at (c:=EntV.cells) (k:=5) (fun _=>rfl) h
  generalize hX : rowC EntV.cells y.es = X at *
  refine wS fun K hK=>?_
  simp only [↓DN,Qa,Qb,Qc,Qd,Qe,Qf,Qg,Qh,reduceCtorEq,↓reduceIte,Na,Nb,Nc,Nk,Nf,Ng,Nh,Za,Zb,Zc,TT,g13,hmr2]
  refine ⟨_,hB2.m1,?_⟩
  refine hK _ _ ?_;clear hK K
  refine wS fun K hK=>?_
  simp only [↓DN,Qa,Qb,Qc,Qd,Qe,Qf,Qg,Qh,reduceCtorEq,↓reduceIte,Na,Nb,Nc,Nk,Nf,Ng,Nh,Za,Zb,Zc,TT]
  refine hK _ _ ?_;clear hK K
  refine awp_block ?_
  refine awp_loop (fun E s'=>∃ (j : Nat) (KN : List Int),j≤y.es.length∧E 0 = .ptr p 0∧E 3 = .v (.map (some b3))∧E 13 = .v (.pointer (some ⟨r,0,none⟩))∧E 18 = .sl 5 y.es.length X (.own y.t y.e)∧E 19 = .v (.int .i64 y.es.length)∧E 20 = .v (.int .i64 j) ∧
    BkS s gs L.shr b1 b3 r es c left2 KN s'∧KN.length≤KL.length + j∧(∀ b ∈ KL,b ∈ KN)∧(∀ k,(h : k < y.es.length)→k < j→y.es[k].bucket ∉ L.shr→y.es[k].bucket ∈ KN))
   (fun E _=>match E 20 with | .v (.int _ i)=>y.es.length - i.toNat | _=>0) ?_ ?_
  ·exact ⟨0,KL,Nat.zero_le _,by simp only [upd,g0,Nc,↓reduceIte],by simp only [upd,g3,Nc,↓reduceIte],by simp only [upd,g13,Nc,↓reduceIte],by simp only [upd,Nc,↓reduceIte],by simp only [upd,Nc,↓reduceIte],by simp only [upd,↓reduceIte]; rfl,hB2,by omega,fun _ q=>q,fun _ _ q=>absurd q (Nat.not_lt_zero _)⟩
  clear hB2 hmr2
  rintro E2 s4 ⟨j,KN,hj,k0,k3,k13,k18,k19,k20,hB,hkl,hsub,hdone⟩ -
  by_cases hj' : j < y.es.length
  ·refine wS fun K hK=>?_
   simp only [↓DN,Qa,Qb,Qc,Qd,Qe,Qf,Qg,Qh,reduceCtorEq,↓reduceIte,Na,Nb,Nc,Nk,Nf,Ng,Nh,Za,Zb,Zc,TT,k20,k19,eye_lt_nat,decide_eq_true hj']
   refine hK _ _ ?_;clear hK K
   refine wK fun K3 hK3=>?_
   refine wC fun X Y hX hY=>?_
   simp only [UP,DF,Nc,↓reduceIte,DB]
   refine hX ?_;clear hX hY X Y
   refine awp_skip ?_
   refine hK3 _ _ ?_;clear hK3 K3
   refine wK fun K3 hK3=>?_
   refine awp_block ?_
   have hat:=hrow j hj'
   have hge : (0 : Int)≤((j : Nat) : Int):=by omega
   obtain ⟨d,hd⟩ : ∃ d,d = y.es[j]:=⟨_,rfl⟩
   have hdm : d ∈ y.es:=by rw [hd]; exact List.getElem_mem hj'
   have hstep : ∀ KN' : List Int,(∀ b ∈ KN,b ∈ KN')→(d.bucket ∉ L.shr→d.bucket ∈ KN')→∀ k,(h : k < y.es.length)→k < j + 1→y.es[k].bucket ∉ L.shr→y.es[k].bucket ∈ KN':=by
    intro KN' h1 h2 k hk hkj hb
    by_cases e : k = j
    ·subst e
     rw [← hd] at hb ⊢
     exact h2 hb
    ·exact h1 _ (hdone k hk (by omega) hb)
   rw [← hd] at hat
   clear hd hdone
   have hend : ∀ (E : Env) (s' : AS) (KN' : List Int),E 0 = .ptr p 0→E 3 = .v (.map (some b3))→E 13 = .v (.pointer (some ⟨r,0,none⟩))→E 18 = .sl 5 y.es.length X (.own y.t y.e)→E 19 = .v (.int .i64 y.es.length)→E 20 = .v (.int .i64 j) →
     BkS s gs L.shr b1 b3 r es c left2 KN' s'→KN'.length≤KN.length + 1→(∀ b ∈ KN,b ∈ KN')→(d.bucket ∉ L.shr→d.bucket ∈ KN')→K3 E s':=by
    intro E s' KN' g0 g3 g13 g18 g19 g20 hB hl h1 h2
    refine hK3 _ _ ?_;clear hK3 K3
    refine wE fun K hK=>?_
    simp only [↓DN,Qa,Qb,Qc,Qd,Qe,Qf,Qg,Qh,reduceCtorEq,↓reduceIte,Na,Nb,Nc,Nk,Nf,Ng,Nh,Za,Zb,Zc,TT,g20,eye_succM j (by omega)]
    refine hK _ _ ?_;clear hK K
    refine ⟨⟨j + 1,KN',hj',by simp only [upd,g0,Nc,↓reduceIte],by simp only [upd,g3,Nc,↓reduceIte],by simp only [upd,g13,Nc,↓reduceIte],by simp only [upd,g18,Nc,↓reduceIte],by simp only [upd,g19,Nc,↓reduceIte],by simp only [upd,Nc,↓reduceIte],hB,by omega,fun b hb=>h1 b (hsub b hb),hstep KN' h1 h2⟩,?_⟩
    simp only [k20,upd,↓reduceIte]
    omega
   clear hK3 hstep
   obtain ⟨d1,d2,d3,d4,d5⟩:=d
   unfold EntV.cells at hat
   simp only at hat hend
   refine wS fun K hK=>?_
   simp only [↓DN,Qa,Qb,Qc,Qd,Qe,Qf,Qg,Qh,reduceCtorEq,↓reduceIte,Na,Nb,Nc,Nk,Nf,Ng,Nh,Za,Zb,Zc,TT,k18,k20,hge,eye_lt_nat,hj',hat]
   intro o7 q7
   refine hK _ _ ?_;clear hK K
   have hp7 : p≠o7:=by
    rintro rfl
    rw [show s4.objs p = _ from hB.le.objs p _ ho] at q7
    cases q7
   have hB5:=hB.obj q7 [.v (.int .i64 d1),.v (.int .i64 d2),.v (.int .i64 d3),.v (.int .i64 d4),.v (.int .i64 d5)]
   have ho7:=AS.set_objs_same s4 o7 [.v (.int .i64 d1),.v (.int .i64 d2),.v (.int .i64 d3),.v (.int .i64 d4),.v (.int .i64 d5)]
   generalize s4.set o7 [.v (.int .i64 d1),.v (.int .i64 d2),.v (.int .i64 d3),.v (.int .i64 d4),.v (.int .i64 d5)] = s5 at *
   clear hB
   have ho5 : s5.objs p = _:=hB5.le.objs p _ ho
   have hn21 : b2≠b1:=h.ne.symm
   have hm5 : s5.maps b2 = some (.map (L.shr.map shrKV)):=by
    have:=hB5.le.maps b2 _ hm2
    simpa [AS.putM,upd,hn21] using this
   have hm53:=hB5.m3
   generalize grpAV gs gt ge = XG at ho5
   have hf:=find_shr d5 L.shr
   have hk : keyPlain (.int .i64) (.int .i64 d5) = true:=rfl
   by_cases hb : d5 ∈ L.shr
   ·rw [if_pos hb] at hf
    refine awp_mrk_seq T.mixed [(p,[.v (.int .i64 L.count),.v (.int .i64 L.time),XG,.v (.map (some b1)),.v (.map (some b2))]),(o7,[.v (.int .i64 d1),.v (.int .i64 d2),.v (.int .i64 d3),.v (.int .i64 d4),.v (.int .i64 d5)])] [6] [3,5] [] (by kernel_rfl) (by simp only [Pres_cons,Pres_nil,and_true]; simp [AS.set,upd,ho5,ho7]) ?_
    intro K hK
    simp only [↓AXr_nil,↓AXr_cons,gval,lval,fzGet_cons,fzGet_nil,Pres_cons,Pres_nil,List.any_cons,List.any_nil,List.contains_cons,List.contains_nil,Nat.reduceBEq,Bool.or_false,Bool.or_true,Bool.or_self,Bool.false_or,↓DN,Qa,Qb,Qc,Qd,Qe,Qf,Qg,Qh,reduceCtorEq,↓reduceIte,Na,Nb,Nc,Nk,Nf,Ng,Nh,Za,Zb,Zc,TT,k0,ho5,ho7,eq_false hp7,amOf,avOf,hm5,Try.underlying50,Try.underlying3,hz,hk,hf]
    refine hK _ _ ?_;clear hK K
    refine wC fun X Y hX hY=>?_
    simp only [UP,DF,Nc,↓reduceIte,DB]
    refine hY ?_;clear hX hY X Y
    refine awp_skip ?_
    simp only [blockQ,thenQ]
    exact hend _ _ KN (by simp only [upd,k0,Nc,↓reduceIte]) (by simp only [upd,k3,Nc,↓reduceIte]) (by simp only [upd,k13,Nc,↓reduceIte]) (by simp only [upd,k18,Nc,↓reduceIte]) (by simp only [upd,k19,Nc,↓reduceIte]) (by simp only [upd,k20,Nc,↓reduceIte]) hB5 (by omega) (fun _ q=>q) (fun q=>absurd hb q)
   ·rw [if_neg hb] at hf
    refine awp_mrk_seq T.mixed [(p,[.v (.int .i64 L.count),.v (.int .i64 L.time),XG,.v (.map (some b1)),.v (.map (some b2))]),(o7,[.v (.int .i64 d1),.v (.int .i64 d2),.v (.int .i64 d3),.v (.int .i64 d4),.v (.int .i64 d5)])] [6] [3,5] [] (by kernel_rfl) (by simp only [Pres_cons,Pres_nil,and_true]; simp [AS.set,upd,ho5,ho7]) ?_
    intro K hK
    simp only [↓AXr_nil,↓AXr_cons,gval,lval,fzGet_cons,fzGet_nil,Pres_cons,Pres_nil,List.any_cons,List.any_nil,List.contains_cons,List.contains_nil,Nat.reduceBEq,Bool.or_false,Bool.or_true,Bool.or_self,Bool.false_or,↓DN,Qa,Qb,Qc,Qd,Qe,Qf,Qg,Qh,reduceCtorEq,↓reduceIte,Na,Nb,Nc,Nk,Nf,Ng,Nh,Za,Zb,Zc,TT,k0,ho5,ho7,eq_false hp7,amOf,avOf,hm5,Try.underlying50,Try.underlying3,hz,hk,hf]
    refine hK _ _ ?_;clear hK K
    refine wC fun X Y hX hY=>?_
    simp only [UP,DF,Nc,↓reduceIte,DB]
    refine hX ?_;clear hX hY X Y
    have hs:=set_putB d5 KN
    refine wE fun K hK=>?_
    simp only [↓DN,Qa,Qb,Qc,Qd,Qe,Qf,Qg,Qh,reduceCtorEq,↓reduceIte,Na,Nb,Nc,Nk,Nf,Ng,Nh,Za,Zb,Zc,TT,k3,ho7,amOf,avOf,hm53,Try.underlying50,Try.underlying3,hk,hs]
    refine hK _ _ ?_;clear hK K
    obtain ⟨z1,z2,z3⟩:=putB_spec d5 KN hB5.nodup
    exact hend _ _ (putB d5 KN) (by simp only [upd,k0,Nc,↓reduceIte]) (by simp only [upd,k3,Nc,↓reduceIte]) (by simp only [upd,k13,Nc,↓reduceIte]) (by simp only [upd,k18,Nc,↓reduceIte]) (by simp only [upd,k19,Nc,↓reduceIte]) (by simp only [upd,k20,Nc,↓reduceIte]) (hB5.add h3 hn31 hr3 ⟨y,hyg,_,hdm,rfl,hb⟩) z2 (fun b q=>(z3 b).2 (.inr q)) (fun _=>(z3 d5).2 (.inl rfl))
  ·refine wS fun K hK=>?_
   simp only [↓DN,Qa,Qb,Qc,Qd,Qe,Qf,Qg,Qh,reduceCtorEq,↓reduceIte,Na,Nb,Nc,Nk,Nf,Ng,Nh,Za,Zb,Zc,TT,k20,k19,eye_lt_nat,decide_eq_false hj']
   refine hK _ _ ?_;clear hK K
   refine wK fun K3 hK3=>?_
   refine wC fun X Y hX hY=>?_
   simp only [UP,DF,Nc,↓reduceIte,DB]
   refine hY ?_;clear hX hY X Y
   refine awp_exit ?_
   simp only [thenQ,blockQ,if_true]
   obtain rfl : j = y.es.length:=by omega
   obtain ⟨cur2,hmr2⟩:=hB.mr
   refine ⟨⟨left2,KN,by simp only [upd,k0,Nc,↓reduceIte],by simp only [upd,k3,Nc,↓reduceIte],by simp only [upd,k13,Nc,↓reduceIte],hB,?_,fun x hx=>?_⟩,?_⟩
   ·unfold totG at *
    omega
   ·rcases hall x hx with a | a
    ·rcases (hmem x).1 a with rfl | a
     ·refine .inr fun e he hb=>?_
      obtain ⟨k,hk,rfl⟩:=List.getElem_of_mem he
      exact hdone k hk hk hb
     ·exact .inl a
    ·exact .inr fun e he hb=>hsub _ (a e he hb)
   ·rw [hmr2,hmr]
    simpa using hlt
end Go.Proofs.Ytfbbckndpkmfcaa
namespace Go.Proofs.Ytfbbckndpkmfcaa
open Go Go.AM Go.Proofs
variable {Γ : Nat→List AV}
def findE (ep : Int) (l : List EntV) : Option EntV:=l.find? fun e=>decide (e.epoch = ep)
theorem ledFind_calls {s0 s : AS} {p : Nat} {L : LedV} {gs : List GEnt} {gt ge b1 b2 : Nat} (h : LedS s0 s p L gs gt ge b1 b2) (hle : ∀ x ∈ gs,x.es≠[]∧x.es.length≤2 ^ 40) (g : List UInt8) (ep : Int) :
  ACalls Try.prog Γ 35 [.ptr p 0,bytesV g .any,.v (.int .i64 ep)] s (fun r s'=>r = .tup [.agg ((findE ep (entsOf g L.gs)).getD EntV.nought).cells,.v (.bool (findE ep (entsOf g L.gs)).isSome)]∧s' = s):=by
 refine tidyL (Q:=fun r=>r = .tup [.agg ((findE ep (entsOf g L.gs)).getD EntV.nought).cells,.v (.bool (findE ep (entsOf g L.gs)).isSome)]) ?_
 refine acalls_body Try.func35 rfl Try.ntmps35 Try.results35 (by simp) ?_
 have ho:=h.obj
 have hm:=h.m1
 have hf:=find_grp g gs
 have hz : azero Try.prog 58 = some (.slice none 0 0):=by kernel_rfl
 have hk : keyPlain .string (.string ⟨g.toArray⟩) = true:=rfl
 have hcase:=lookE (gs:=gs) g
 rw [← h.val] at hcase
 unfold ledC at ho
 unfold bytesV
 obtain ⟨F,hF⟩ : ∃ F,F = findE ep (entsOf g L.gs):=⟨_,rfl⟩
 rw [← hF]
 refine wS fun K hK=>?_
 simp only [↓DN,Qa,Qb,Qc,Qd,Qe,Qf,Qg,Qh,reduceCtorEq,↓reduceIte,Na,Nb,Nc,Nk,Nf,Ng,Nh,Za,Zb,Zc,TT]
 intro o6 q6
 refine hK _ _ ?_;clear hK K
 have hp6 : p≠o6:=by rintro rfl; rw [ho] at q6; cases q6
 obtain ⟨es,hes⟩ : ∃ es,es = entsOf g L.gs:=⟨_,rfl⟩
 rw [← hes] at hF
 have hrow:=fun i (h : i < es.length)=>row_at (c:=EntV.cells) (k:=5) (fun _=>rfl) h
 have hlen : es.length≤2 ^ 40:=by
  rcases hcase with ⟨_,h2,_⟩ | ⟨x,hx,_,_,h3,_⟩
  ·rw [hes,h2]; decide
  ·rw [hes,h3]; exact (hle x hx).2
 refine wK fun K hK=>?_
 refine wK fun K1 hK1=>?_
 have hJ : ∀ (E : Env) (s1 : AS) (xv : AV),(es≠[]→∃ t e,xv = .sl 5 es.length (rowC EntV.cells es) (.own t e))→E 2 = .v (.int .i64 ep)→E 6 = .ptr o6 0→E 16 = xv→E 17 = .v (.int .i64 es.length)→E 18 = .v (.int .i64 0) →
   s.le s1→s1.objs o6 = some EntV.nought.cells→K1 E s1:=by
  intro E s1 xv hx g2 g6 g16 g17 g18 hl1 ho6
  refine hK1 _ _ ?_;clear hK1 K1
  generalize rowC EntV.cells es = X at *
  refine awp_block ?_
  refine awp_loop (fun E s'=>∃ j : Nat,j≤es.length∧E 2 = .v (.int .i64 ep)∧E 6 = .ptr o6 0∧E 16 = xv∧E 17 = .v (.int .i64 es.length)∧E 18 = .v (.int .i64 j)∧(∀ k,(h : k < es.length)→k < j→es[k].epoch≠ep)∧s.le s'∧s'.objs o6 = some EntV.nought.cells)
   (fun E _=>match E 18 with | .v (.int _ i)=>es.length - i.toNat | _=>0) ?_ ?_
  ·exact ⟨0,Nat.zero_le _,g2,g6,g16,g17,g18,fun _ _ q=>absurd q (Nat.not_lt_zero _),hl1,ho6⟩
  clear g2 g6 g16 g17 g18 hl1 ho6
  rintro E2 s2 ⟨j,hj,g2,g6,g16,g17,g18,hne,hl1,ho6⟩ -
  by_cases hj' : j < es.length
  ·obtain ⟨t,e,rfl⟩:=hx (fun q=>by rw [q] at hj'; cases hj')
   refine wS fun K hK=>?_
   simp only [↓DN,Qa,Qb,Qc,Qd,Qe,Qf,Qg,Qh,reduceCtorEq,↓reduceIte,Na,Nb,Nc,Nk,Nf,Ng,Nh,Za,Zb,Zc,TT,g18,g17,eye_lt_nat,decide_eq_true hj']
   refine hK _ _ ?_;clear hK K
   refine wK fun K3 hK3=>?_
   refine wC fun X Y hX hY=>?_
   simp only [UP,DF,Nc,↓reduceIte,DB]
   refine hX ?_;clear hX hY X Y
   refine awp_skip ?_
   refine hK3 _ _ ?_;clear hK3 K3
   refine wK fun K3 hK3=>?_
   refine awp_block ?_
   have hat:=hrow j hj'
   have hge : (0 : Int)≤((j : Nat) : Int):=by omega
   have hfd : es[j].epoch = ep→F = some es[j]:=by
    intro q
    rw [hF]
    unfold findE
    rw [List.find?_eq_some_iff_getElem]
    exact ⟨by simpa using q,j,hj',rfl,fun k hk=>by simpa using hne k (by omega) hk⟩
   have hnx : es[j].epoch≠ep→∀ k,(h : k < es.length)→k < j + 1→es[k].epoch≠ep:=by
    intro q k hk hkj
    by_cases e : k = j
    ·subst e; exact q
    ·exact hne k hk (by omega)
   generalize es[j] = d at *
   obtain ⟨d1,d2,d3,d4,d5⟩:=d
   unfold EntV.cells at hat
   simp only at hat hfd hnx
   refine wS fun K hK=>?_
   simp only [↓DN,Qa,Qb,Qc,Qd,Qe,Qf,Qg,Qh,reduceCtorEq,↓reduceIte,Na,Nb,Nc,Nk,Nf,Ng,Nh,Za,Zb,Zc,TT,g16,g18,hge,eye_lt_nat,hj',hat]
   intro o9 q9
   refine hK _ _ ?_;clear hK K
   have h69 : o6≠o9:=by rintro rfl; rw [ho6] at q9; cases q9
   have hl5:=AS.le_set hl1 (AS.le_none hl1 q9) [.v (.int .i64 d1),.v (.int .i64 d2),.v (.int .i64 d3),.v (.int .i64 d4),.v (.int .i64 d5)]
   have ho9:=AS.set_objs_same s2 o9 [.v (.int .i64 d1),.v (.int .i64 d2),.v (.int .i64 d3),.v (.int .i64 d4),.v (.int .i64 d5)]
   have ho6':=(AS.set_objs_ne s2 h69 [.v (.int .i64 d1),.v (.int .i64 d2),.v (.int .i64 d3),.v (.int .i64 d4),.v (.int .i64 d5)]).trans ho6
   generalize s2.set o9 [.v (.int .i64 d1),.v (.int .i64 d2),.v (.int .i64 d3),.v (.int .i64 d4),.v (.int .i64 d5)] = s5 at *
   by_cases he : d3 = ep
   ·refine wS fun K hK=>?_
    simp only [↓DN,Qa,Qb,Qc,Qd,Qe,Qf,Qg,Qh,reduceCtorEq,↓reduceIte,Na,Nb,Nc,Nk,Nf,Ng,Nh,Za,Zb,Zc,TT,ho9,g2,int_eq_yes he]
    refine hK _ _ ?_;clear hK K
    refine wC fun X Y hX hY=>?_
    simp only [UP,DF,Nc,↓reduceIte,DB]
    refine hX ?_;clear hX hY X Y
    unfold EntV.nought EntV.cells at ho6'
    refine wS fun K hK=>?_
    simp only [↓DN,Qa,Qb,Qc,Qd,Qe,Qf,Qg,Qh,reduceCtorEq,↓reduceIte,Na,Nb,Nc,Nk,Nf,Ng,Nh,Za,Zb,Zc,TT,ho9,g6,ho6']
    refine hK _ _ ?_;clear hK K
    refine awp_ret ?_
    refine aends_cell_tmp (o:=o6) (off:=0) (by simp only [upd,g6,Nc,↓reduceIte]) (AS.set_objs_same _ _ _) (by rw [T.c54]; decide) (by simp only [↓DN,Qa,Qb,Qc,Qd,Qe,Qf,Qg,Qh,reduceCtorEq,↓reduceIte,Na,Nb,Nc,Nk,Nf,Ng,Nh,Za,Zb,Zc,TT]; rfl) ?_
    rw [hfd he]
    exact ⟨_,_,AV.weak.refl _,AS.le.refl _,rfl,AS.le_set hl5 q6 _⟩
   ·refine wS fun K hK=>?_
    simp only [↓DN,Qa,Qb,Qc,Qd,Qe,Qf,Qg,Qh,reduceCtorEq,↓reduceIte,Na,Nb,Nc,Nk,Nf,Ng,Nh,Za,Zb,Zc,TT,ho9,g2,int_eq_no he]
    refine hK _ _ ?_;clear hK K
    refine wC fun X Y hX hY=>?_
    simp only [UP,DF,Nc,↓reduceIte,DB]
    refine hY ?_;clear hX hY X Y
    refine awp_skip ?_
    simp only [blockQ,thenQ]
    refine hK3 _ _ ?_;clear hK3 K3
    refine wE fun K hK=>?_
    simp only [↓DN,Qa,Qb,Qc,Qd,Qe,Qf,Qg,Qh,reduceCtorEq,↓reduceIte,Na,Nb,Nc,Nk,Nf,Ng,Nh,Za,Zb,Zc,TT,g18,eye_succM j (by omega)]
    refine hK _ _ ?_;clear hK K
    refine ⟨⟨j + 1,hj',by simp only [upd,g2,Nc,↓reduceIte],by simp only [upd,g6,Nc,↓reduceIte],by simp only [upd,g16,Nc,↓reduceIte],by simp only [upd,g17,Nc,↓reduceIte],by simp only [upd,Nc,↓reduceIte],hnx he,hl5,ho6'⟩,?_⟩
    simp only [g18,upd,↓reduceIte]
    omega
  ·refine wS fun K hK=>?_
   simp only [↓DN,Qa,Qb,Qc,Qd,Qe,Qf,Qg,Qh,reduceCtorEq,↓reduceIte,Na,Nb,Nc,Nk,Nf,Ng,Nh,Za,Zb,Zc,TT,g18,g17,eye_lt_nat,decide_eq_false hj']
   refine hK _ _ ?_;clear hK K
   refine wK fun K3 hK3=>?_
   refine wC fun X Y hX hY=>?_
   simp only [UP,DF,Nc,↓reduceIte,DB]
   refine hY ?_;clear hX hY X Y
   refine awp_exit ?_
   simp only [thenQ,blockQ,if_true]
   refine hK _ _ ?_;clear hK hK3 K3 K
   obtain rfl : F = none:=by
    rw [hF]
    unfold findE
    rw [List.find?_eq_none]
    intro e he
    obtain ⟨k,hk,rfl⟩:=List.getElem_of_mem he
    simpa using hne k hk (by omega)
   unfold EntV.nought EntV.cells at *
   refine wS fun K hK=>?_
   simp only [↓DN,Qa,Qb,Qc,Qd,Qe,Qf,Qg,Qh,reduceCtorEq,↓reduceIte,Na,Nb,Nc,Nk,Nf,Ng,Nh,Za,Zb,Zc,TT,g6,ho6]
   refine hK _ _ ?_;clear hK K
   refine awp_ret ?_
   refine aends_cell_tmp (o:=o6) (off:=0) (by simp only [upd,g6,Nc,↓reduceIte]) (AS.set_objs_same _ _ _) (by rw [T.c54]; decide) (by simp only [↓DN,Qa,Qb,Qc,Qd,Qe,Qf,Qg,Qh,reduceCtorEq,↓reduceIte,Na,Nb,Nc,Nk,Nf,Ng,Nh,Za,Zb,Zc,TT]; rfl) ?_
   exact ⟨_,_,AV.weak.refl _,AS.le.refl _,rfl,AS.le_set hl1 q6 _⟩
 clear hK1 hK
 have hl6:=AS.le_set (AS.le.refl s) q6 EntV.nought.cells
 rcases hcase with ⟨h1,h2,_⟩ | ⟨x,hx,h1,h2,h3,_⟩
 ·rw [h1] at hf
  rw [h2] at hes
  subst hes
  refine awp_drw_end T.mixed [3,6] (by kernel_rfl) ?_
  intro K hK
  simp only [↓DM,pval,DX,Nz,↓DN,Qa,Qb,Qc,Qd,Qe,Qf,Qg,Qh,reduceCtorEq,↓reduceIte,Na,Nb,Nc,Nk,Nf,Ng,Nh,Za,Zb,Zc,TT,AS.set_objs_ne _ hp6,ho,AS.set_maps,amOf,avOf,hm,Try.underlying49,Try.underlying9,hz,hk,hf]
  refine hK _ _ ?_;clear hK K
  exact hJ _ _ (.v (.slice none 0 0)) (fun q=>absurd rfl q) (by simp only [upd,initE,List.getD_cons_zero,List.getD_cons_succ,Nc,↓reduceIte]) (by simp only [upd,Nc,↓reduceIte]) (by simp only [upd,Nc,↓reduceIte]) (by simp only [upd,Nc,↓reduceIte]; rfl) (by simp only [upd,↓reduceIte]) hl6 (AS.set_objs_same _ _ _)
 ·rw [h1] at hf
  rw [h3] at hes
  subst hes
  simp only [Option.map_some,GEnt.av] at hf
  refine awp_drw_end T.mixed [3,6] (by kernel_rfl) ?_
  intro K hK
  simp only [↓DM,pval,DX,Nz,↓DN,Qa,Qb,Qc,Qd,Qe,Qf,Qg,Qh,reduceCtorEq,↓reduceIte,Na,Nb,Nc,Nk,Nf,Ng,Nh,Za,Zb,Zc,TT,AS.set_objs_ne _ hp6,ho,AS.set_maps,amOf,avOf,hm,Try.underlying49,Try.underlying9,hz,hk,hf]
  refine hK _ _ ?_;clear hK K
  exact hJ _ _ _ (fun _=>⟨x.t,x.e,rfl⟩) (by simp only [upd,initE,List.getD_cons_zero,List.getD_cons_succ,Nc,↓reduceIte]) (by simp only [upd,Nc,↓reduceIte]) (by simp only [upd,Nc,↓reduceIte]) (by simp only [upd,Nc,↓reduceIte]) (by simp only [upd,Nc,↓reduceIte]) hl6 (AS.set_objs_same _ _ _)
end Go.Proofs.Ytfbbckndpkmfcaa
