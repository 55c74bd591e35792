/- An abstract machine for the model: abstract values, their relation to worlds, and the rules of its walk, each proved sound over the model; no condition. -/
import Derived.Test.YtfbbckndpkmfcaaAMp5
import Derived.RangeFuncIn
import Derived.RangeFuncRecord
import Derived.RangeFuncSeq
import Derived.RangeFuncLeaves
import Derived.Test.YtfbbckndpkmfcaaAMp4
import Derived.SizedLaws
import Derived.OpenShut
set_option linter.unusedSimpArgs false
set_option linter.unusedVariables false
set_option autoImplicit false
namespace Go.AM
open Go Go.RowKit
variable {P : Program} {Γ : Nat→List AV} {G : Gh} {s : AS} {w : World} {N : Nat} {E : Env}
theorem Oper.wpIn_of_res {l : Option Nat} {a : Act} {o : Oper} {K : AV→AS→Prop} {next : Act→World→Prop} {Q : Exit→Act→World→Prop} (hnd : ∀ c,o.op≠.defer c) (hr : Rel Γ N G E s a w) (hd : ∀ d,o.dst = some d→d < N)
    (h : OpRes P Γ G K ((execOp a.eval o).run P w)) (hn : ∀ G' r s' a' w',G.le G'→Rel Γ N G' (updO E o.dst r) s' a' w'→K r s'→next a' w') : o.wpIn (fen l) 0 P a w next Q:=by
  refine ⟨fun _ _=>trivial,?_⟩
  rw [Oper.semAt_eq _ _ _ hnd]
  generalize (execOp a.eval o).run P w = R at h
  cases R with
  | ok n w' =>
    cases n <;> simp only [OpRes] at h
    case value v =>
      obtain ⟨G',r,s',h1,h2,h3,h4⟩:=h
      simp only [Oper.uponIn]
      exact hn G' r s' _ _ h1 (hr.put h1 h2 h3 hd) h4
    case skip =>
      obtain ⟨G',s',h1,h2,h3⟩:=h
      simp only [Oper.uponIn]
      exact hn G' (.v undef) s' _ _ h1 (hr.put h1 h2 (by simp [VRel]) hd) h3
    case enter f args =>
      simp only [Oper.uponIn]
      refine ⟨(fun e=>by cases e),CallsIn.mono (F:=Fence.wide) (callsIn_wide.2 h) ?_⟩
      rintro e w'' ⟨G',r,v,s',rfl,h1,h2,h3,h4⟩
      exact hn G' r s' _ _ h1 (hr.put h1 h2 h3 hd) h4
  | halt x w'=>simp only [OpRes] at h
theorem astep_defer {ρ : Operand→AV} {K : AV→AS→Prop} {op : Op} (h : astep P Γ ρ s K op) (c : Call) : op≠.defer c:=by
  rintro rfl
  simp [astep,aval,aeff] at h
theorem AX_stepIn {l : Option Nat} {a : Act} {ops : Array Oper} {i : Nat} {I : List Nat} {o : Oper} {L : List Oper} {K : Env→AS→Prop} {Q : Exit→Act→World→Prop} (ho : ops[i]? = some o)
    (h : AX P Γ N ops (o :: L) K E s) (hr : Rel Γ N G E s a w) (hn : ∀ G' E' s' a' w',G.le G'→Rel Γ N G' E' s' a' w'→AX P Γ N ops L K E' s'→wpOpsIn (fen l) 0 P ops Q I a' w') : wpOpsIn (fen l) 0 P ops Q (i :: I) a w:=by
  simp only [AX] at h
  obtain ⟨hd,h⟩:=h
  simp only [wpOpsIn,ho]
  split at h
  · rename_i hg
    rw [if_pos (wanted_none hg)]
    exact Oper.wpIn_of_res (astep_defer h) hr hd (astep_sound o h hr.eval hr.st) fun G' r s' a' w' h1 h2 h3=>hn G' _ s' a' w' h1 h2 h3
  · rename_i j want hg
    split at h
    · exact h.elim
    · rename_i d hj
      split at h
      · rename_i t hE
        have hy:=yielded_of hr hj hE
        have hw : Region.wanted o (yielded ops a.tmps) = (t == want):=by simp [Region.wanted,hg,hy]
        split at h
        · rename_i ht
          rw [if_pos (by rw [hw]; simpa using ht)]
          exact Oper.wpIn_of_res (astep_defer h) hr hd (astep_sound o h hr.eval hr.st) fun G' r s' a' w' h1 h2 h3=>hn G' _ s' a' w' h1 h2 h3
        · rename_i ht
          rw [if_neg (by rw [hw]; simpa using ht)]
          exact ⟨fun _ _=>trivial,hn G _ s _ _ (.refl G) (hr.put (.refl G) hr.st (by simp [VRel]) hd) h⟩
      · rename_i c hE
        have hy:=yielded_none hr hj hE
        have hw : Region.wanted o (yielded ops a.tmps) = false:=by simp [Region.wanted,hg,hy]
        rw [if_neg (by rw [hw]; simp)]
        exact ⟨fun _ _=>trivial,hn G _ s _ _ (.refl G) (hr.put (.refl G) hr.st (by simp [VRel]) hd) h⟩
      · exact h.elim
theorem AX_wpOpsIn_append {l : Option Nat} {ops : Array Oper} {Q : Exit→Act→World→Prop} {K : Env→AS→Prop} : ∀ (L : List Oper) (I J : List Nat) {G : Gh} {E : Env} {s : AS} {a : Act} {w : World},I.map (ops[·]?) = L.map some→AX P Γ N ops L K E s→Rel Γ N G E s a w →
    (∀ G' E' s' a' w',G.le G'→Rel Γ N G' E' s' a' w'→K E' s'→wpOpsIn (fen l) 0 P ops Q J a' w')→wpOpsIn (fen l) 0 P ops Q (I ++ J) a w
  | [],I,J,G,E,s,a,w,hI,h,hr,hq=>by
    have : I = []:=by simpa using hI
    subst this
    exact hq G E s a w (.refl G) hr h
  | o :: L,I,J,G,E,s,a,w,hI,h,hr,hq=>by
    cases I with
    | nil=>simp at hI
    | cons i I =>
      simp only [List.map_cons,List.cons.injEq] at hI
      exact AX_stepIn hI.1 h hr fun G' E' s' a' w' h1 h2 h3=>AX_wpOpsIn_append L I J hI.2 h3 h2 fun G'' E'' s'' a'' w'' k1 k2 k3=>hq G'' E'' s'' a'' w'' (h1.trans k1) k2 k3
theorem AX_wpOpsIn {l : Option Nat} {ops : Array Oper} {Q : Exit→Act→World→Prop} {K : Env→AS→Prop} : ∀ (L : List Oper) (I : List Nat) {G : Gh} {E : Env} {s : AS} {a : Act} {w : World},I.map (ops[·]?) = L.map some→AX P Γ N ops L K E s→Rel Γ N G E s a w →
    (∀ G' E' s' a' w',G.le G'→Rel Γ N G' E' s' a' w'→K E' s'→Q .normal a' w')→wpOpsIn (fen l) 0 P ops Q I a w
  | [],I,G,E,s,a,w,hI,h,hr,hq=>by
    have : I = []:=by simpa using hI
    subst this
    exact hq G E s a w (.refl G) hr h
  | o :: L,I,G,E,s,a,w,hI,h,hr,hq=>by
    cases I with
    | nil=>simp at hI
    | cons i I =>
      simp only [List.map_cons,List.cons.injEq] at hI
      exact AX_stepIn hI.1 h hr fun G' E' s' a' w' h1 h2 h3=>AX_wpOpsIn L I hI.2 h3 h2 fun G'' E'' s'' a'' w'' k1 k2 k3=>hq G'' E'' s'' a'' w'' (h1.trans k1) k2 k3
theorem cell_putObj {W : World} {k : Nat} {o o' : Obj} (hk : W.heap[k]? = some o) (ho : ∀ c T f,o≠.cells c T f) (ho' : ∀ c T f,o'≠.cells c T f) (b j : Nat) : (W.putObj k o').cell? ⟨b,j,none⟩ = W.cell? ⟨b,j,none⟩:=by
  by_cases e : b = k
  · subst e
    have h1:=World.putObj_heap_same (w:=W) (o:=o') (Array.getElem?_eq_some_iff.1 hk).1
    simp only [World.cell?,h1,hk]
    cases o <;> cases o' <;> first | rfl | exact absurd rfl (ho _ _ _) | exact absurd rfl (ho' _ _ _)
  · exact World.cell?_of_block (World.putObj_heap_other e)
theorem frozen_putObj {W : World} {k : Nat} {o o' : Obj} (hk : W.heap[k]? = some o) (ho : ∀ c T f,o≠.cells c T f) (ho' : ∀ c T f,o'≠.cells c T f) (b j : Nat) : (W.putObj k o').frozen? ⟨b,j,none⟩ = W.frozen? ⟨b,j,none⟩:=by
  by_cases e : b = k
  · subst e
    have h1:=World.putObj_heap_same (w:=W) (o:=o') (Array.getElem?_eq_some_iff.1 hk).1
    simp only [World.frozen?,h1,hk]
    cases o <;> cases o' <;> first | rfl | exact absurd rfl (ho _ _ _) | exact absurd rfl (ho' _ _ _)
  · exact World.frozen?_of_block (World.putObj_heap_other e)
theorem SRel.putObj {W : World} {k : Nat} {o o' : Obj} (h : SRel Γ G s W) (hk : W.heap[k]? = some o) (ho : ∀ c T f,o≠.cells c T f) (hom : (∀ es n,o≠.map es n)∧∀ m s q n,o≠.mapIter m s q n) (ho' : ∀ c T f,o'≠.cells c T f) (hB : G.w0.heap.size≤k) (hB' : G.B≤k) : SRel Γ G s (W.putObj k o'):=by
  have hg : W.grownBy (W.putObj k o') (some k):=⟨rfl,rfl,rfl,by simp [World.putObj],fun i _ hi=>World.putObj_heap_other (fun e=>hi (by rw [e]))⟩
  refine h.worldEq (fun b j=>cell_putObj hk ho ho' b j) (fun b j _ _=>frozen_putObj hk ho ho' b j) (by simp [World.putObj]) ?_ ?_ ?_ (fun b ob hq hm=>by
    have e : b≠k:=by
      rintro rfl
      rw [hm] at hk
      cases hk
      rcases hq with ⟨_,_,e⟩ | ⟨_,_,_,_,e⟩
      · exact hom.1 _ _ e
      · exact hom.2 _ _ _ _ e
    rw [World.putObj_heap_other e]; exact hm)
  · exact (Below.refl _ _).grown hg (by have:=(Array.getElem?_eq_some_iff.1 hk).1; omega) (fun i e=>by cases e; omega)
  · intro i x hi hx
    have hlt:=(Array.getElem?_eq_some_iff.1 hi).1
    rw [World.putObj_heap_other (by omega)]
    exact h.others i x hi hx
  · intro b c T lo hi hb hc
    by_cases e : b = k
    · subst e
      rw [World.putObj_heap_same (Array.getElem?_eq_some_iff.1 hk).1] at hc
      cases hc
      exact absurd rfl (ho' _ _ _)
    · rw [World.putObj_heap_other e] at hc
      exact h.soft b c T lo hi hb hc
theorem acalls_of_range {f : FuncId} {fn : Func} {c : Code} {args : List AV} {Post : AV→AS→Prop} {s : AS} (hf : P.funcs[f]? = some fn) (hb : fn.body = some c) (hn : args.length≤fn.ntmps)
    (h : ∀ G a w,G.df = []→Rel Γ fn.ntmps G (initE args) s a w→c.wpIn Fence.wide 0 P (fun e a' w'=>(e = .normal∨e = .ret)∧∃ D G' E' s',G.le G'∧(G.w0.heap.size≤D∧G.B≤D)∧w'.heap[D]? = some (.deferred (some [])) ∧
      a'.defers = [{ target:=.collected D,args:=#[] }]∧Rel Γ fn.ntmps (G'.setDf a'.defers) E' s' a' w'∧AEnds P fn.results.toList Post E' s') a w) : ACalls P Γ f args s Post:=by
  intro G w vs hs hv
  have hvl:=hv.length
  refine (callsIn_wide (n:=0)).1 (callsIn_of_wp_marks hf hb trivial ?_)
  have hrel : Rel Γ fn.ntmps (G.setDf []) (initE args) s { tmps:=vs.toArray ++ Array.replicate (fn.ntmps - vs.toArray.size) undef,defers:=[] } w:=by
    refine ⟨hs.setDf,by simp; omega,fun i=>?_,rfl⟩
    simp only [initE]
    by_cases hi : i < args.length
    · obtain ⟨u,h1,h2⟩:=hv.getD i hi
      have hi' : i < vs.length:=by omega
      rw [Array.getD_eq_getD_getElem?,Array.getElem?_append_left (by simpa using hi')]
      simp only [List.getElem?_toArray,h1,Option.getD_some]
      exact VRel.setDf _ _ h2
    · have e1 : args.getD i (.v undef) = .v undef:=by simp [List.getD,List.getElem?_eq_none (Nat.le_of_not_lt hi)]
      rw [e1,Array.getD_eq_getD_getElem?,Array.getElem?_append_right (by simp; omega)]
      simp only [VRel]
      cases hh : (Array.replicate (fn.ntmps - vs.toArray.size) undef)[i - vs.toArray.size]? with
      | none=>rfl
      | some u =>
        rw [Array.getElem?_replicate] at hh
        split at hh
        · cases hh; rfl
        · cases hh
  refine wpIn_mono (h _ _ w rfl hrel) ?_
  rintro e a' w' ⟨he,D,G',E',s',h1,hD,hk,hdf,h2,h3⟩
  have hw0 : G'.w0.heap.size≤D:=by
    rw [h1.w0]
    exact hD.1
  have hB : G'.B≤D:=by
    rw [h1.B]
    exact hD.2
  have fin : LeavesInM Fence.wide 0 P fn a'.tmps (fun e w'=>∃ G' r v s',e = .returned v∧G.le G'∧SRel Γ G' s' w'∧VRel G' r v∧Post r s') a'.defers .returning w':=by
    rw [hdf]
    refine ⟨by simp,.inl ⟨D,_,rfl,run_takeDeferred hk,?_⟩⟩
    have h4 : Rel Γ fn.ntmps (G'.setDf a'.defers) E' s' a' (w'.putObj D (.deferred none)):=⟨h2.st.putObj hk (by intros; simp) (by intros; simp) (by intros; simp) hw0 hB,h2.size,h2.tmps,h2.defers⟩
    unfold AEnds at h3
    split at h3
    · rename_i vs' hvs
      obtain ⟨r,s2,q1,q2,q3⟩:=h3
      obtain ⟨zs,r1,r2⟩:=run_aresL h4 hvs
      refine ⟨if h : zs.toArray.size = 1 then zs.toArray[0] else .tuple zs.toArray,?_,G'.setDf G.df,r,_,s2,rfl,Gh.le_setDf h1,(h4.st.mono q2).setDf (d:=G.df),VRel.setDf (G:=G'.setDf a'.defers) (d:=G.df) _ _ (q1 _ _ (VRel_tuple r2)),q3⟩
      rw [results_eq,Array.mapM_eq_mapM_toList]
      simp only [Sem.run_bind,Sem.run_map,r1,Result.andThen_ok,Sem.run_pure]
    · exact h3.elim
  rcases he with rfl | rfl
  · exact fin
  · exact fin
theorem AWp.wide {c : Code} {Q : Exit→Env→AS→Prop} {a : Act} (h : AWp P Γ N c Q E s) (hr : Rel Γ N G E s a w) {R : Exit→Act→World→Prop}
    (hq : ∀ e G' E' s' a' w',G.le G'→Rel Γ N G' E' s' a' w'→Q e E' s'→R e a' w') : c.wpIn Fence.wide 0 P R a w :=
  wpIn_mono (F:=fen none) (n:=0) (h G a w hr) fun e a' w' ⟨G',E',s',h1,h2,h3,_⟩=>hq e G' E' s' a' w' h1 h2 h3
theorem AWp.behind {c : Code} {Q : Exit→Env→AS→Prop} {a : Act} {G' : Gh} {D : Nat} {s' : AS} {w' : World} (hr : Rel Γ N G E s a w) (hle : G.le G') (hk : w'.heap[D]? = some (.deferred (some []))) (hs : SRel Γ G' s' w') (hdf : G.df = [])
    (h : AWp P Γ N c Q E s') {R : Exit→Act→World→Prop}
    (hq : ∀ e G'' E'' s'' a'' w'',G.le G''→w''.heap[D]? = some (.deferred (some []))→a''.defers = [{ target:=.collected D,args:=#[] }]→Rel Γ N (G''.setDf a''.defers) E'' s'' a'' w''→Q e E'' s''→R e a'' w'') :
    c.wpIn Fence.wide 0 P R { a with defers:={ target:=.collected D,args:=#[] } :: a.defers } w':=by
  have ha : a.defers = []:=hr.defers.trans hdf
  have hrel : Rel Γ N ((G'.setDf [{ target:=.collected D,args:=#[] }]).setW w') E s' { a with defers:={ target:=.collected D,args:=#[] } :: a.defers } w' :=
    ⟨(hs.setDf).setW,hr.size,fun i=>VRel.sub (Gh.sub_setW _ _) _ _ (VRel.setDf _ _ (VRel.mono hle _ _ (hr.tmps i))),by rw [ha]; rfl⟩
  refine h.wide hrel ?_
  intro e G2 E2 s2 a2 w2 g1 g2 g3
  have hkp : Keeps w' w2:=by
    have:=g2.st.others
    rwa [show G2.w0 = w' from g1.w0] at this
  have hd2 : a2.defers = [{ target:=.collected D,args:=#[] }]:=g2.defers.trans g1.df
  have hb:=SRel.backW (G:=G'.setDf [{ target:=.collected D,args:=#[] }]) hs.setDf g1 g2.st
  refine hq e (((G2.setW G'.w0)).setDf G'.df) E2 s2 a2 w2 ?_ (hkp _ _ hk (by intros; simp)) hd2 ?_ g3
  · refine hle.trans ?_
    exact ⟨hb.2.ro,hb.2.obj,hb.2.tok,hb.2.B,hb.2.w0,rfl⟩
  · refine ⟨?_,g2.size,fun i=>?_,rfl⟩
    · exact hb.1.setDf (d:=a2.defers)
    · exact VRel.sub (G:=G2) (G':=((G2.setW G'.w0).setDf G'.df).setDf a2.defers) ⟨rfl,rfl,rfl,rfl⟩ _ _ (g2.tmps i)
end Go.AM
namespace Go.AM
open Go Go.RowKit
variable {rd : Option Nat} {P : Program} {Γ : Nat→List AV} {G : Gh} {s : AS} {w : World}
def OutS (s : AS) (l : List UInt8) (r : AV) (s' : AS) : Prop :=
  s.le s'∧((l = []∧r = .v (.slice none 0 0))∨∃ t e,s.own t = none∧s'.own t = some e∧r = .sl 1 l.length (l.map byteV) (.own t e))
theorem OutS.nil (s : AS) : OutS s [] (.v (.slice none 0 0)) s:=⟨AS.le.refl s,.inl ⟨rfl,rfl⟩⟩
theorem OutS.weak {s s' : AS} {l : List UInt8} {r : AV} (h : OutS s l r s') : r.weak (bytesV l .any):=by
  rcases h.2 with ⟨rfl,rfl⟩ | ⟨t,e,_,_,rfl⟩
  · exact AV.weak_nil
  · exact AV.weak_any
end Go.AM
namespace Go.AM
open Go Go.RowKit
variable {P : Program} {Γ : Nat→List AV} {G : Gh} {s : AS} {w : World} {N : Nat} {E : Env}
theorem range_map (ops : Array Oper) : (List.range ops.size).map (ops[·]?) = ops.toList.map some:=by
  apply List.ext_getElem?
  intro i
  simp only [List.getElem?_map]
  by_cases hi : i < ops.size
  · simp [hi]
  · simp [hi]
theorem split_ops {ops : Array Oper} {I : List Nat} {A B : List Oper} {o : Oper} (hm : I.map (ops[·]?) = (A ++ o :: B).map some) : ∃ I1 i I2,I = I1 ++ i :: I2∧I1.map (ops[·]?) = A.map some∧ops[i]? = some o∧I2.map (ops[·]?) = B.map some:=by
  have h1 : (I.take A.length).map (ops[·]?) = A.map some:=by rw [List.map_take,hm]; simp
  have h2 : (I.drop A.length).map (ops[·]?) = (o :: B).map some:=by rw [List.map_drop,hm]; simp
  generalize hI2 : I.drop A.length = J at h2
  cases J with
  | nil=>simp at h2
  | cons i I2 =>
    simp only [List.map_cons,List.cons.injEq] at h2
    exact ⟨I.take A.length,i,I2,by rw [← hI2,List.take_append_drop],h1,h2.1,h2.2⟩
theorem Rel.entry {args : List AV} {vs : List Value} (hs : SRel Γ G s w) (hv : VRels G args vs) (hn : args.length≤N) (hdf : G.df = []) :
    Rel Γ N G (initE args) s { tmps:=vs.toArray ++ Array.replicate (N - vs.toArray.size) undef,defers:=[] } w:=by
  have hvl:=hv.length
  refine ⟨hs,by simp; omega,fun i=>?_,hdf.symm⟩
  simp only [initE]
  by_cases hi : i < args.length
  · obtain ⟨u,h1,h2⟩:=hv.getD i hi
    have hi' : i < vs.length:=by omega
    rw [Array.getD_eq_getD_getElem?,Array.getElem?_append_left (by simpa using hi')]
    simp only [List.getElem?_toArray,h1,Option.getD_some]
    exact h2
  · have e1 : args.getD i (.v undef) = .v undef:=by simp [List.getD,List.getElem?_eq_none (Nat.le_of_not_lt hi)]
    rw [e1,Array.getD_eq_getD_getElem?,Array.getElem?_append_right (by simp; omega)]
    simp only [VRel]
    cases hh : (Array.replicate (N - vs.toArray.size) undef)[i - vs.toArray.size]? with
    | none=>rfl
    | some u =>
      rw [Array.getElem?_replicate] at hh
      split at hh
      · cases hh; rfl
      · cases hh
end Go.AM
namespace Go.AM
open Go Go.RowKit
variable {P : Program} {Γ : Nat→List AV} {N : Nat}
theorem Ghost.trans {E E' E'' : Env} {s s' s'' : AS} (h : Ghost Γ N E s E' s') (k : Ghost Γ N E' s' E'' s'') : Ghost Γ N E s E'' s'':=by
  intro G a w hr
  obtain ⟨G1,h1,h2⟩:=h G a w hr
  obtain ⟨G2,k1,k2⟩:=k G1 a w h2
  exact ⟨G2,h1.trans k1,k2⟩
end Go.AM
namespace Go.AM
open Go Go.RowKit
variable {P : Program} {Γ : Nat→List AV} {G : Gh} {s : AS} {w : World}
end Go.AM
namespace Go.AM
open Go Go.RowKit
theorem AV.weak_slc {sz n : Nat} {cs ds : List AV} {sp : Sp} (h : AVs.weak cs ds) : (AV.sl sz n cs sp).weak (.sl sz n ds sp):=by
  intro G v hv
  simp only [VRel] at hv ⊢
  have hnil : cs = []→ds = []:=fun e=>by
    have:=h G [] (by rw [e]; simp [VRels])
    cases ds with
    | nil=>rfl
    | cons d ds=>simp only [VRels] at this; obtain ⟨u,us,h1,_⟩:=this; cases h1
  rcases hv with ⟨b,off,cap,vs,h1,h2,h3,h4,h5,h6⟩ | ⟨h1,h2,h3⟩ | ⟨h1,h2,h3⟩
  · refine .inl ⟨b,off,cap,vs,h1,?_,h3,h G vs h4,h5,h6⟩
    have e1:=h4.length
    have e2:=(h G vs h4).length
    omega
  · exact .inr (.inl ⟨h1,hnil h2,h3⟩)
  · exact .inr (.inr ⟨h1,hnil h2,h3⟩)
theorem AV.weak.trans {a b c : AV} (h : a.weak b) (k : b.weak c) : a.weak c:=fun G v hv=>k G v (h G v hv)
end Go.AM
namespace Go.AM
open Go Go.RowKit
variable {rd : Option Nat} {P : Program} {Γ : Nat→List AV} {N : Nat}
def GWp (P : Program) (Γ : Nat→List AV) (N : Nat) (c : Code) (Q : Exit→Env→AS→Prop) (E : Env) (s : AS) : Prop :=
  ∀ (G : Gh) (a : Act) (w : World),Rel Γ N G E s a w→∀ {rd : Option Nat},c.wpIn (fen rd) 0 P (fun e a' w'=>∃ G' E' s',G.le G'∧Rel Γ N G' E' s' a' w'∧Q e E' s') a w
section
variable {E : Env} {s : AS} {Q : Exit→Env→AS→Prop}
theorem AWp.g {c : Code} (h : AWp P Γ N c Q E s) : GWp P Γ N c Q E s:=fun G a w hr=>wpIn_mono (h G a w hr) fun e a' w' ⟨G',E',s',h1,h2,h3,_⟩=>⟨G',E',s',h1,h2,h3⟩
end
end Go.AM
namespace Go.AM
open Go Go.RowKit
variable {P : Program} {Γ : Nat→List AV} {G : Gh} {s : AS} {w : World}
theorem OpRes.frozen {sz n : Nat} {cs : List AV} {X : Result Next} (h : OpRes P Γ G (fun r s'=>∃ ob,s.objs ob = none∧r = .osl ob 0 sz n n∧s' = s.set ob cs) X) (hl : cs.length = n * sz) : OpRes P Γ G (fun r s'=>r = .sl sz n cs .no∧s' = s) X:=by
  have key : ∀ (G' : Gh) (s' : AS) (w' : World) (v : Value) (r : AV),G.le G'→SRel Γ G' s' w'→VRel G' r v→(∃ ob,s.objs ob = none∧r = .osl ob 0 sz n n∧s' = s.set ob cs)→∃ G'',G.le G''∧SRel Γ G'' s w'∧VRel G'' (.sl sz n cs .no) v:=by
    rintro G' s' w' v r h1 h2 h3 ⟨ob,ho,rfl,rfl⟩
    obtain ⟨b,vs,q1,q2,q3,q4,q5⟩:=h2.freeze (AS.set_objs_same _ _ _)
    rw [AS.drop_set ho] at q5
    refine ⟨_,h1.trans q3,q5,?_⟩
    simp only [VRel] at h3 ⊢
    obtain ⟨b',k1,k2,k3⟩:=h3
    rw [q1] at k1; cases k1
    exact .inl ⟨b,0,n,vs,k2,hl,Nat.le_refl _,VRels.mono q3 _ _ q2,q4,trivial⟩
  match X,h with
  | .ok (.value v) w',h =>
    obtain ⟨G',r,s',h1,h2,h3,h4⟩:=h
    obtain ⟨G'',k1,k2,k3⟩:=key G' s' w' v r h1 h2 h3 h4
    exact ⟨G'',_,_,k1,k2,k3,rfl,rfl⟩
  | .ok .skip w',h =>
    obtain ⟨G',s',h1,h2,ob,ho,h3,h4⟩:=h
    cases h3
  | .ok (.enter f args) w',h =>
    exact Calls.mono h fun e w'' ⟨G',r,v,s',he,h1,h2,h3,h4⟩=>by
      obtain ⟨G'',k1,k2,k3⟩:=key G' s' w'' v r h1 h2 h3 h4
      exact ⟨G'',_,v,_,he,k1,k2,k3,rfl,rfl⟩
end Go.AM
namespace Go.AM
open Go Go.RowKit
theorem DF : type_of% (And.intro (And.intro (And.intro (And.intro (And.intro (And.intro @aval.eq_1 (And.intro @aval.eq_2 @aval.eq_3)) (And.intro @aval.eq_4 (And.intro @aval.eq_5 @aval.eq_6))) (And.intro
    (And.intro @aval.eq_7 (And.intro @aval.eq_8 @aval.eq_9)) (And.intro (And.intro @aval.eq_10 @aval.eq_11) (And.intro @aval.eq_12 @aval.eq_13)))) (And.intro (And.intro (And.intro
    @aval.eq_14 (And.intro @aval.eq_15 @aval.eq_16)) (And.intro @aval.eq_17 (And.intro @aval.eq_18 @aval.eq_19))) (And.intro (And.intro @abin.eq_1 (And.intro @abin.eq_2
    @abin.eq_3)) (And.intro (And.intro @abin.eq_4 @abin.eq_5) (And.intro @abin.eq_6 @abin.eq_7))))) (And.intro (And.intro (And.intro (And.intro @abin.eq_8 (And.intro @abin.eq_9
    @abin.eq_10)) (And.intro @abin.eq_11 (And.intro @abin.eq_12 @abin.eq_13))) (And.intro (And.intro @aint.eq_1 (And.intro @aint.eq_2 @aint.eq_3)) (And.intro (And.intro @aint.eq_4
    @aint.eq_5) (And.intro @aint.eq_6 @aint.eq_7)))) (And.intro (And.intro (And.intro @aint.eq_8 (And.intro @aint.eq_9 @aint.eq_10)) (And.intro @aint.eq_11 (And.intro @aint.eq_12
    @aint.eq_13))) (And.intro (And.intro @aint.eq_14 (And.intro @aint.eq_15 @aint.eq_16)) (And.intro (And.intro @abool.eq_1 @abool.eq_2) (And.intro @abool.eq_3 @astr.eq_1))))))
    (And.intro (And.intro (And.intro (And.intro (And.intro @astr.eq_2 (And.intro @astr.eq_3 @astr.eq_4)) (And.intro @anil.eq_1 (And.intro @anil.eq_2 @anil.eq_3))) (And.intro
    (And.intro @aun.eq_1 (And.intro @aun.eq_2 @aun.eq_3)) (And.intro (And.intro @aun.eq_4 @aun.eq_5) (And.intro @aun.eq_6 @optInt.eq_1)))) (And.intro (And.intro (And.intro
    @optInt.eq_2 (And.intro @optInt.eq_3 @asrc.eq_1)) (And.intro @asrc.eq_2 (And.intro @asrc.eq_3 @asrc.eq_4))) (And.intro (And.intro @asrc.eq_5 (And.intro @afill.eq_1
    @afill.eq_2)) (And.intro (And.intro @placeOf.eq_1 @asetAll.eq_1) (And.intro @asetAll.eq_2 @undef.eq_1))))) (And.intro (And.intro (And.intro (And.intro @aload.eq_1 (And.intro
    @apart.eq_1 @aeval.eq_1)) (And.intro @aeval.eq_2 (And.intro @aeval.eq_3 @aeval.eq_4))) (And.intro (And.intro @updO.eq_1 (And.intro @updO.eq_2 @upd.eq_1)) (And.intro (And.intro
    @initE.eq_1 @gdst.eq_1) (And.intro @thenQ.eq_1 @thenQ.eq_2)))) (And.intro (And.intro (And.intro @blockQ.eq_1 (And.intro @blockQ.eq_2 @srcOk.eq_1)) (And.intro @bytesV.eq_1
    (And.intro @Array.isEmpty.eq_1.{0} @List.isEmpty.eq_1.{0}))) (And.intro (And.intro @List.isEmpty.eq_2.{0} (And.intro @implies_true.{0} @implies_true.{1})) (And.intro (And.intro
    @forall_eq'.{1} @ne_eq.{1}) (And.intro @if_true.{1} @if_false.{1}))))))) :=
  (And.intro (And.intro (And.intro (And.intro (And.intro (And.intro @aval.eq_1 (And.intro @aval.eq_2 @aval.eq_3)) (And.intro @aval.eq_4 (And.intro @aval.eq_5 @aval.eq_6))) (And.intro
    (And.intro @aval.eq_7 (And.intro @aval.eq_8 @aval.eq_9)) (And.intro (And.intro @aval.eq_10 @aval.eq_11) (And.intro @aval.eq_12 @aval.eq_13)))) (And.intro (And.intro (And.intro
    @aval.eq_14 (And.intro @aval.eq_15 @aval.eq_16)) (And.intro @aval.eq_17 (And.intro @aval.eq_18 @aval.eq_19))) (And.intro (And.intro @abin.eq_1 (And.intro @abin.eq_2
    @abin.eq_3)) (And.intro (And.intro @abin.eq_4 @abin.eq_5) (And.intro @abin.eq_6 @abin.eq_7))))) (And.intro (And.intro (And.intro (And.intro @abin.eq_8 (And.intro @abin.eq_9
    @abin.eq_10)) (And.intro @abin.eq_11 (And.intro @abin.eq_12 @abin.eq_13))) (And.intro (And.intro @aint.eq_1 (And.intro @aint.eq_2 @aint.eq_3)) (And.intro (And.intro @aint.eq_4
    @aint.eq_5) (And.intro @aint.eq_6 @aint.eq_7)))) (And.intro (And.intro (And.intro @aint.eq_8 (And.intro @aint.eq_9 @aint.eq_10)) (And.intro @aint.eq_11 (And.intro @aint.eq_12
    @aint.eq_13))) (And.intro (And.intro @aint.eq_14 (And.intro @aint.eq_15 @aint.eq_16)) (And.intro (And.intro @abool.eq_1 @abool.eq_2) (And.intro @abool.eq_3 @astr.eq_1))))))
    (And.intro (And.intro (And.intro (And.intro (And.intro @astr.eq_2 (And.intro @astr.eq_3 @astr.eq_4)) (And.intro @anil.eq_1 (And.intro @anil.eq_2 @anil.eq_3))) (And.intro
    (And.intro @aun.eq_1 (And.intro @aun.eq_2 @aun.eq_3)) (And.intro (And.intro @aun.eq_4 @aun.eq_5) (And.intro @aun.eq_6 @optInt.eq_1)))) (And.intro (And.intro (And.intro
    @optInt.eq_2 (And.intro @optInt.eq_3 @asrc.eq_1)) (And.intro @asrc.eq_2 (And.intro @asrc.eq_3 @asrc.eq_4))) (And.intro (And.intro @asrc.eq_5 (And.intro @afill.eq_1
    @afill.eq_2)) (And.intro (And.intro @placeOf.eq_1 @asetAll.eq_1) (And.intro @asetAll.eq_2 @undef.eq_1))))) (And.intro (And.intro (And.intro (And.intro @aload.eq_1 (And.intro
    @apart.eq_1 @aeval.eq_1)) (And.intro @aeval.eq_2 (And.intro @aeval.eq_3 @aeval.eq_4))) (And.intro (And.intro @updO.eq_1 (And.intro @updO.eq_2 @upd.eq_1)) (And.intro (And.intro
    @initE.eq_1 @gdst.eq_1) (And.intro @thenQ.eq_1 @thenQ.eq_2)))) (And.intro (And.intro (And.intro @blockQ.eq_1 (And.intro @blockQ.eq_2 @srcOk.eq_1)) (And.intro @bytesV.eq_1
    (And.intro @Array.isEmpty.eq_1.{0} @List.isEmpty.eq_1.{0}))) (And.intro (And.intro @List.isEmpty.eq_2.{0} (And.intro @implies_true.{0} @implies_true.{1})) (And.intro (And.intro
    @forall_eq'.{1} @ne_eq.{1}) (And.intro @if_true.{1} @if_false.{1})))))))
theorem DB : type_of% (And.intro (And.intro (And.intro @Bool.not_true @Bool.not_false) (And.intro @Bool.false_eq_true @Bool.true_eq_false)) (And.intro (And.intro @false_imp_iff @true_imp_iff) (And.intro @decide_eq_true_eq @decide_eq_false_iff_not))) :=
  (And.intro (And.intro (And.intro @Bool.not_true @Bool.not_false) (And.intro @Bool.false_eq_true @Bool.true_eq_false)) (And.intro (And.intro @false_imp_iff @true_imp_iff) (And.intro @decide_eq_true_eq @decide_eq_false_iff_not)))
theorem DX : type_of% (And.intro (And.intro @List.contains_cons.{0} (And.intro @List.contains_nil.{0} @Bool.or_false)) (And.intro (And.intro @Bool.or_true @Bool.or_self) (And.intro @Bool.false_eq_true @Bool.false_or))) :=
  (And.intro (And.intro @List.contains_cons.{0} (And.intro @List.contains_nil.{0} @Bool.or_false)) (And.intro (And.intro @Bool.or_true @Bool.or_self) (And.intro @Bool.false_eq_true @Bool.false_or)))
theorem DT : type_of% (And.intro (And.intro @atuple_nil (And.intro @atuple_one @atuple_two)) (And.intro @atuple_three (And.intro @atuple_four @atuple_five))) :=
  (And.intro (And.intro @atuple_nil (And.intro @atuple_one @atuple_two)) (And.intro @atuple_three (And.intro @atuple_four @atuple_five)))
end Go.AM
namespace Go.AM
open Go Go.RowKit
variable {rd : Option Nat} {P : Program} {Γ : Nat→List AV} {G : Gh} {s : AS} {w : World} {N : Nat} {ops : Array Oper}
inductive Mk where
  | val
  | eff
  | giv (v : AV)
  | frz
def frzV (P : Program) (o : Oper) : Option AV :=
  match o.op with
  | .makeSlice T (.const (.int _ n)) _ =>
    match P.underlying T with
    | some (.slice e)=>match zcells P e with | some z=>some (.sl (P.cellsOf e) n.toNat (zrow (n.toNat * P.cellsOf e) z) .no) | none=>none
    | _=>none
  | _=>none
def freshB (P : Program) (N : Nat) (o : Oper) : Bool :=
  match o.guard,o.dst,o.op with
  | none,some d,.alloc T=>decide (d < N) && (zcells P T).isSome
  | none,some d,.makeSlice T (.const (.int _ n)) (.const (.int _ m)) =>
    decide (d < N) && (match P.underlying T with
      | some (.slice e)=>(match zcells P e with
        | some z=>decide (0≤n) && (decide (m = n) && (decide (P.bytesOf e * n≤70368744177664) && (decide (n≤70368744177664) && (decide (P.cellsOf e≠0) && decide (z.length = P.cellsOf e)))))
        | none=>false)
      | _=>false)
  | _,_,_=>false
def gokB (ops : Array Oper) (o : Oper) (E : Env) : Prop :=
  match o.guard with
  | none=>True
  | some (j,want)=>match gdst ops j with | some d=>E d = .v (.bool want) | none=>False
theorem gok_congr {ops : Array Oper} {o : Oper} {E E' : Env} (h : ∀ d,d ∈ o.looksAt ops→E' d = E d) (hv : gokB ops o E) : gokB ops o E':=by
  cases hg : o.guard with
  | none=>simp [gokB,hg]
  | some g =>
    obtain ⟨j,want⟩:=g
    simp only [gokB,hg] at hv ⊢
    cases hj : gdst ops j with
    | none=>rw [hj] at hv; exact hv.elim
    | some d =>
      rw [hj] at hv
      have : E' d = E d:=h d (by
        by_cases hd : d ∈ o.looksAt ops
        · exact hd
        · exact absurd hj (looks_guard hd hg))
      simp only [this]
      exact hv
theorem gok_AX {P : Program} {Γ : Nat→List AV} {N : Nat} {ops : Array Oper} {o : Oper} {E : Env} {s : AS} {K : Env→AS→Prop} (hg : gokB ops o E) : AX P Γ N ops [o] K E s↔AX P Γ N ops [{ o with guard:=none }] K E s:=by
  cases h : o.guard with
  | none =>
    have : ({ o with guard:=none } : Oper) = o:=by cases o; simp_all
    rw [this]
  | some g =>
    obtain ⟨j,want⟩:=g
    simp only [gokB,h] at hg
    cases hj : gdst ops j with
    | none=>rw [hj] at hg; exact hg.elim
    | some d =>
      rw [hj] at hg
      have:=AX_guarded (P:=P) (Γ:=Γ) (N:=N) (rest:=[]) (K:=K) (s:=s) h hj hg
      rw [ay] at this
      rw [this,if_pos rfl]
def GivC (P : Program) (Γ : Nat→List AV) (o : Oper) (E : Env) (v : AV) : Prop :=
  o.guard = none ∧
  match o.op with
  | .call { callee:=.value f,args,.. } =>
    match aeval Γ E f with
    | .v (.func (.func k) first caps)=>first.isEmpty = true∧caps.isEmpty = true∧callable P k = true∧∀ s,ACalls P Γ k (args.toList.map (aeval Γ E)) s (fun r s'=>r = v∧s' = s)
    | _=>False
  | _=>False
def GV (P : Program) (Γ : Nat→List AV) (N : Nat) (ops : Array Oper) (m : Mk) (o : Oper) (E : Env) (v : AV) : Prop :=
  match m with
  | .giv u=>v = u∧GivC P Γ o E u
  | .val=>pval P Γ ops o E = some v
  | .frz=>gokB ops o E∧freshB P N { o with guard:=none } = true∧frzV P o = some v
  | .eff=>False
def Mk.isEff : Mk→Bool
  | .eff=>true
  | _=>false
def AXg (P : Program) (Γ : Nat→List AV) (N : Nat) (ops : Array Oper) : List (Oper × Mk)→(Env→AS→Prop)→Env→AS→Prop
  | [],K,E,s=>K E s
  | (o,m) :: rest,K,E,s =>
    if m.isEff = true then AX P Γ N ops [o] (AXg P Γ N ops rest K) E s
    else (∀ d,o.dst = some d→d < N)∧∃ v,GV P Γ N ops m o E v∧AXg P Γ N ops rest K (updO E o.dst v) s
theorem givC_congr {o : Oper} {E E' : Env} {v : AV} (h : ∀ d,d ∈ o.looksAt ops→E' d = E d) (hv : GivC P Γ o E v) : GivC P Γ o E' v:=by
  have hop : ∀ x ∈ o.op.operands,aeval Γ E' x = aeval Γ E x:=fun x hx=>by
    cases x with
    | tmp t=>exact h t (List.mem_append_left _ (List.mem_filterMap.2 ⟨.tmp t,by simpa using hx,rfl⟩))
    | const v=>rfl
    | global g=>rfl
    | func f=>rfl
  obtain ⟨hg,hv⟩:=hv
  refine ⟨hg,?_⟩
  cases hc : o.op <;> rw [hc] at hv
  case call c =>
    obtain ⟨callee,args,argTypes⟩:=c
    rw [hc] at hop
    cases callee with
    | value f =>
      have hf : aeval Γ E' f = aeval Γ E f:=hop f (by simp [Op.operands,Call.operands])
      have ha : args.toList.map (aeval Γ E') = args.toList.map (aeval Γ E):=List.map_congr_left fun x hx=>hop x (by
        have : x ∈ args:=by simpa using hx
        simp [Op.operands,Call.operands,this])
      simp only [hf,ha]
      exact hv
    | invoke r m=>exact hv
    | builtin b=>exact hv
  all_goals exact hv
theorem gv_congr {m : Mk} {o : Oper} {E E' : Env} {v : AV} (h : ∀ d,d ∈ o.looksAt ops→E' d = E d) (hv : GV P Γ N ops m o E v) : GV P Γ N ops m o E' v:=by
  cases m with
  | giv u=>exact ⟨hv.1,givC_congr h hv.2⟩
  | frz=>exact ⟨gok_congr h hv.1,hv.2⟩
  | val=>exact (pval_congr h).trans hv
  | eff=>exact hv
theorem gv_unique {m : Mk} {o : Oper} {E : Env} {v v' : AV} (h : GV P Γ N ops m o E v) (h' : GV P Γ N ops m o E v') : v = v':=by
  cases m with
  | giv u=>exact h.1.trans h'.1.symm
  | frz=>exact Option.some.inj (h.2.2.symm.trans h'.2.2)
  | val=>exact Option.some.inj (Eq.trans (Eq.symm h) h')
  | eff=>exact h.elim
theorem givC_AX {o : Oper} {E : Env} {v : AV} {K : Env→AS→Prop} (hd : ∀ d,o.dst = some d→d < N) (hv : GivC P Γ o E v) (h : K (updO E o.dst v) s) : AX P Γ N ops [o] K E s:=by
  obtain ⟨hg,hv⟩:=hv
  simp only [AX,hg]
  refine ⟨hd,?_⟩
  cases hc : o.op <;> rw [hc] at hv
  case call c =>
    obtain ⟨callee,args,argTypes⟩:=c
    cases callee with
    | value f =>
      simp only [astep,aval,aeff]
      simp only at hv
      split at hv
      · rename_i k first caps hf
        simp only [hf]
        obtain ⟨h1,h2,h3,h4⟩:=hv
        refine ⟨h1,h2,h3,(h4 s).mono ?_⟩
        rintro r s' ⟨rfl,rfl⟩
        exact h
      · cases hv
    | invoke r m=>cases hv
    | builtin b=>cases hv
  all_goals cases hv
theorem AXg_AX {o : Oper} {m : Mk} (hmf : m≠.frz) {L : List (Oper × Mk)} {E : Env} {K : Env→AS→Prop} (h : AXg P Γ N ops ((o,m) :: L) K E s) : AX P Γ N ops [o] (AXg P Γ N ops L K) E s:=by
  simp only [AXg] at h
  split at h
  · exact h
  · obtain ⟨hd,v,hv,h⟩:=h
    cases m with
    | giv u =>
      obtain ⟨rfl,hv⟩:=hv
      exact givC_AX hd hv h
    | eff=>exact hv.elim
    | frz=>exact absurd rfl hmf
    | val =>
      have hv : pval P Γ ops o E = some v:=hv
      have : AXp P Γ N ops [(o,false)] (AXg P Γ N ops L K) E s:=by
        simp only [AXp,Bool.false_eq_true,if_false,hv]
        exact ⟨hd,h⟩
      have:=AXp_AX this
      simpa only [AXp] using this
def FreshAt (P : Program) (Γ : Nat→List AV) (N : Nat) (ops : Array Oper) (o : Oper) : Prop :=
  ∃ (v : Nat→AV) (z : List AV),∀ (E : Env) (s : AS) (K : Env→AS→Prop),AX P Γ N ops [o] K E s↔∀ ob,s.objs ob = none→K (updO E o.dst (v ob)) (s.set ob z)
theorem fresh_swap {f o : Oper} (hf : FreshAt P Γ N ops f) (ho : FreshAt P Γ N ops o) (hd : ∀ d,f.dst = some d→o.dst≠some d) {E : Env} {K : Env→AS→Prop}
    (h : AX P Γ N ops [f] (fun E s=>AX P Γ N ops [o] K E s) E s) : AX P Γ N ops [o] (fun E s=>AX P Γ N ops [f] K E s) E s:=by
  obtain ⟨vf,zf,hf⟩:=hf
  obtain ⟨vo,zo,ho⟩:=ho
  rw [ho]
  intro o2 h2
  rw [hf]
  intro o1 h1
  rw [hf] at h
  have hne : o1≠o2:=by rintro rfl; rw [AS.set_objs_same] at h1; cases h1
  rw [AS.set_objs_ne _ hne] at h1
  have:=(ho _ _ _).1 (h o1 h1) o2 (by rw [AS.set_objs_ne _ hne.symm]; exact h2)
  have e1 : ((s.set o1 zf).set o2 zo) = ((s.set o2 zo).set o1 zf):=by
    simp only [AS.set,AS.mk.injEq,and_true]
    funext i
    simp only [upd]
    by_cases a : i = o1
    · subst a; simp [hne]
    · by_cases b : i = o2
      · subst b; simp [hne.symm]
      · simp [a,b]
  rw [e1,updO_comm hd] at this
  exact this
theorem FreshAt.alloc {T : TypeId} {z : List AV} {d : Tmp} {ty : TypeId} {pos : String} {after : Array Edge} (hz : zcells P T = some z) (hd : d < N) : FreshAt P Γ N ops { dst:=some d,op:=.alloc T,type:=ty,pos:=pos,after:=after,guard:=none }:=by
  refine ⟨fun o=>.ptr o 0,z,fun E s K=>?_⟩
  simp only [AX,astep,aval,aeff,hz]
  refine ⟨fun h=>h.2,fun h=>⟨fun d' hd'=>?_,h⟩⟩
  cases hd'; exact hd
theorem FreshAt.make {T e : TypeId} {k k' : IntKind} {n m : Int} {z : List AV} {d : Tmp} {ty : TypeId} {pos : String} {after : Array Edge} (hT : P.underlying T = some (.slice e)) (hz : zcells P e = some z)
    (h : 0≤n∧m = n∧P.bytesOf e * n≤2 ^ 46∧n≤2 ^ 46∧P.cellsOf e≠0∧z.length = P.cellsOf e) (hd : d < N) : FreshAt P Γ N ops { dst:=some d,op:=.makeSlice T (.const (.int k n)) (.const (.int k' m)),type:=ty,pos:=pos,after:=after,guard:=none }:=by
  refine ⟨fun o=>.osl o 0 (P.cellsOf e) n.toNat n.toNat,zrow (n.toNat * P.cellsOf e) z,fun E s K=>?_⟩
  simp only [AX,astep,aval,aeff,aeval,hT,hz]
  obtain ⟨h1,h2,h3,h4,h5,h6⟩:=h
  refine ⟨fun h=>h.2.2.2.2.2.2.2,fun h=>⟨fun d' hd'=>?_,h1,h2,h3,h4,h5,h6,h⟩⟩
  cases hd'; exact hd
theorem freshB_spec {o : Oper} (h : freshB P N o = true) : FreshAt P Γ N ops o:=by
  obtain ⟨dst,op,ty,pos,after,guard⟩:=o
  unfold freshB at h
  split at h
  · rename_i d T h1 h2 h3
    simp only at h1 h2 h3
    subst h1 h2 h3
    simp only [Bool.and_eq_true,decide_eq_true_eq] at h
    obtain ⟨hd,hz⟩:=h
    obtain ⟨z,hz⟩:=Option.isSome_iff_exists.1 hz
    exact FreshAt.alloc hz hd
  · rename_i d T k n k' m h1 h2 h3
    simp only at h1 h2 h3
    subst h1 h2 h3
    simp only [Bool.and_eq_true] at h
    obtain ⟨hd,h⟩:=h
    split at h
    · rename_i e hT
      split at h
      · rename_i z hz
        simp only [Bool.and_eq_true,decide_eq_true_eq] at h
        obtain ⟨q1,q2,q3,q4,q5,q6⟩:=h
        exact FreshAt.make hT hz ⟨q1,q2,by simpa using q3,by simpa using q4,q5,q6⟩ (of_decide_eq_true hd)
      · cases h
    · cases h
  · cases h
theorem frz_ghost0 {o : Oper} {v : AV} (hb : freshB P N o = true) (hv : frzV P o = some v) : ∃ (d : Tmp) (sz n : Nat) (z : List AV),o.dst = some d ∧
    (∀ (E : Env) (s : AS) (K : Env→AS→Prop),AX P Γ N ops [o] K E s↔∀ ob,s.objs ob = none→K (updO E o.dst (.osl ob 0 sz n n)) (s.set ob z))∧v = .sl sz n z .no∧z.length = n * sz:=by
  obtain ⟨dst,op,ty,pos,after,guard⟩:=o
  unfold freshB at hb
  split at hb
  · rename_i d T h1 h2 h3
    simp only at h1 h2 h3
    subst h1 h2 h3
    simp [frzV] at hv
  · rename_i d T k n k' m h1 h2 h3
    simp only at h1 h2 h3
    subst h1 h2 h3
    simp only [Bool.and_eq_true] at hb
    obtain ⟨hd,hb⟩:=hb
    split at hb
    · rename_i e hT
      split at hb
      · rename_i z hz
        simp only [Bool.and_eq_true,decide_eq_true_eq] at hb
        obtain ⟨q1,q2,q3,q4,q5,q6⟩:=hb
        simp only [frzV,hT,hz,Option.some.injEq] at hv
        refine ⟨d,P.cellsOf e,n.toNat,zrow (n.toNat * P.cellsOf e) z,rfl,fun E s K=>?_,hv.symm,?_⟩
        · simp only [AX,astep,aval,aeff,aeval,hT,hz]
          refine ⟨fun h=>h.2.2.2.2.2.2.2,fun h=>⟨fun d' hd'=>?_,q1,q2,by simpa using q3,by simpa using q4,q5,q6,h⟩⟩
          cases hd'; exact of_decide_eq_true hd
        · simp [zrow]
      · cases hb
    · cases hb
  · cases hb
theorem frz_ghost {o : Oper} {v : AV} (hb : freshB P N { o with guard:=none } = true) (hv : frzV P o = some v) : ∃ (d : Tmp) (sz n : Nat) (z : List AV),o.dst = some d ∧
    (∀ (E : Env) (s : AS) (K : Env→AS→Prop),gokB ops o E→(AX P Γ N ops [o] K E s↔∀ ob,s.objs ob = none→K (updO E o.dst (.osl ob 0 sz n n)) (s.set ob z)))∧v = .sl sz n z .no∧z.length = n * sz:=by
  obtain ⟨d,sz,n,z,h1,h2,h3,h4⟩:=frz_ghost0 (Γ:=Γ) (ops:=ops) hb hv
  exact ⟨d,sz,n,z,h1,fun E s K hg=>(gok_AX hg).trans (h2 E s K),h3,h4⟩
theorem frz_rel {o : Oper} {d : Tmp} {sz n : Nat} {z : List AV} {E : Env} {G' : Gh} {a' : Act} {w' : World} {ob : Nat} (hd : o.dst = some d) (hz : z.length = n * sz) (ho : s.objs ob = none)
    (hr : Rel Γ N G' (updO E o.dst (.osl ob 0 sz n n)) (s.set ob z) a' w') : ∃ G2,G'.le G2∧Rel Γ N G2 (updO E o.dst (.sl sz n z .no)) s a' w':=by
  rw [hd] at hr ⊢
  have hg:=Ghost.freeze (Γ:=Γ) (N:=N) (E:=updO E (some d) (.osl ob 0 sz n n)) (s:=s.set ob z) (d:=d) (o:=ob) (off:=0) (sz:=sz) (n:=n) (cap:=n) (by simp [updO,upd]) (AS.set_objs_same _ _ _) (by omega)
  rw [AS.drop_set ho,List.drop_zero,List.take_of_length_le (by omega)] at hg
  obtain ⟨G2,k1,k2⟩:=hg _ _ _ hr
  refine ⟨G2,k1,?_⟩
  have : upd (updO E (some d) (.osl ob 0 sz n n)) d (.sl sz n z .no) = updO E (some d) (.sl sz n z .no):=by
    funext i
    simp only [updO,upd]
    split <;> rfl
  rwa [this] at k2
theorem AXg_some {o : Oper} {m : Mk} {L : List (Oper × Mk)} {E : Env} {a : Act} {K : Env→AS→Prop} (h : AXg P Γ N ops ((o,m) :: L) K E s) (hr : Rel Γ N G E s a w) :
    ∃ G' E' s' a' w',Rel Γ N G' E' s' a' w'∧AXg P Γ N ops L K E' s'∧∀ i,o.dst≠some i→E' i = E i:=by
  by_cases hm : m = .frz
  · subst hm
    simp only [AXg,Mk.isEff,Bool.false_eq_true,if_false] at h
    obtain ⟨_,v,⟨hgk,hb,hv⟩,h⟩:=h
    obtain ⟨d,sz,n,z,hd,hax,rfl,hz⟩:=frz_ghost (Γ:=Γ) (ops:=ops) hb hv
    have:=(hax E s (fun E' s'=>∃ ob,s.objs ob = none∧E' = updO E o.dst (.osl ob 0 sz n n)∧s' = s.set ob z) hgk).2 fun ob ho=>⟨ob,ho,rfl,rfl⟩
    obtain ⟨G',E',s',a',w',hr',⟨ob,ho,rfl,rfl⟩,_⟩:=AX_one_some this hr
    obtain ⟨G2,_,hr2⟩:=frz_rel hd hz ho hr'
    exact ⟨G2,_,_,a',w',hr2,h,fun i hi=>updO_other hi⟩
  · exact AX_one_some (AXg_AX hm h) hr
theorem gv_later {y : Oper} {m : Mk} (hm : m.isEff = false) {L2 : List (Oper × Mk)} {K : Env→AS→Prop} : ∀ (L1 : List (Oper × Mk)) {G : Gh} {E : Env} {s : AS} {a : Act} {w : World},(∀ x ∈ L1,Apart ops x.1 y)→AXg P Γ N ops (L1 ++ (y,m) :: L2) K E s→Rel Γ N G E s a w →
    (∀ d,y.dst = some d→d < N)∧∃ v,GV P Γ N ops m y E v
  | [],G,E,s,a,w,_,h,hr=>by
    simp only [List.nil_append,AXg,hm,Bool.false_eq_true,if_false] at h
    obtain ⟨h1,v,h2,_⟩:=h
    exact ⟨h1,v,h2⟩
  | (x,ex) :: L1,G,E,s,a,w,hap,h,hr=>by
    obtain ⟨G',E',s',a',w',hr',hK,hf⟩:=AXg_some h hr
    obtain ⟨h1,v,h2⟩:=gv_later hm L1 (fun x hx=>hap x (List.mem_cons_of_mem _ hx)) hK hr'
    refine ⟨h1,v,gv_congr (fun d hd=>(hf d fun e=>?_).symm) h2⟩
    exact (Oper.apart_spec (hap (x,ex) (by simp))).1 d e hd
theorem AXg_first_val {y : Oper} {m : Mk} (hm : m.isEff = false) {L2 : List (Oper × Mk)} {K : Env→AS→Prop} {v : AV} : ∀ (L1 : List (Oper × Mk)) {E : Env} {s : AS},(∀ x ∈ L1,Apart ops x.1 y)→GV P Γ N ops m y E v→AXg P Γ N ops (L1 ++ (y,m) :: L2) K E s →
    AXg P Γ N ops (L1 ++ L2) K (updO E y.dst v) s
  | [],E,s,_,hv,h=>by
    simp only [List.nil_append,AXg,hm,Bool.false_eq_true,if_false] at h
    obtain ⟨_,u,hu,h⟩:=h
    rw [gv_unique hv hu]
    exact h
  | (x,ex) :: L1,E,s,hap,hv,h=>by
    obtain ⟨a1,a2,a3⟩:=Oper.apart_spec (hap (x,ex) (by simp))
    have hap' : ∀ x ∈ L1,Apart ops x.1 y:=fun x hx=>hap x (List.mem_cons_of_mem _ hx)
    have hv' : ∀ E' : Env,(∀ i,x.dst≠some i→E' i = E i)→GV P Γ N ops m y E' v:=fun E' hE=>gv_congr (fun d hd=>hE d fun e=>a1 d e hd) hv
    simp only [List.cons_append,AXg] at h ⊢
    split at h
    · rename_i he
      rw [if_pos he]
      refine (AX_put (fun d hd=>a3 d hd) (fun d hd e=>a2 d e hd)).2 ?_
      refine AX_mono _ (fun E' s' hE=>?_) (AX_one_frame h)
      exact AXg_first_val hm L1 hap' (hv' E' hE.2) hE.1
    · rename_i he
      rw [if_neg he]
      obtain ⟨h0,u,hu,h⟩:=h
      refine ⟨h0,u,gv_congr (fun d hd=>updO_other fun e=>a3 d e hd) hu,?_⟩
      rw [updO_comm (fun d h1 h2=>a2 d h2 h1)]
      exact AXg_first_val hm L1 hap' (hv' _ fun i hi=>updO_other hi) h
theorem AXg_first_eff {y : Oper} {L2 : List (Oper × Mk)} {K : Env→AS→Prop} : ∀ (L1 : List (Oper × Mk)) {E : Env} {s : AS},(∀ x ∈ L1,Apart ops x.1 y∧(x.2.isEff = false∨(FreshAt P Γ N ops x.1∧FreshAt P Γ N ops y)))→AXg P Γ N ops (L1 ++ (y,.eff) :: L2) K E s →
    AX P Γ N ops [y] (AXg P Γ N ops (L1 ++ L2) K) E s
  | [],E,s,_,h=>by simpa only [List.nil_append,AXg,Mk.isEff,if_true] using h
  | (x,ex) :: L1,E,s,hap,h=>by
    obtain ⟨hap0,hex⟩:=hap (x,ex) (by simp)
    simp only at hex
    obtain ⟨a1,a2,a3⟩:=Oper.apart_spec hap0
    have hap' : ∀ x ∈ L1,Apart ops x.1 y∧(x.2.isEff = false∨(FreshAt P Γ N ops x.1∧FreshAt P Γ N ops y)):=fun x hx=>hap x (List.mem_cons_of_mem _ hx)
    cases hx : ex.isEff with
    | true =>
      rw [hx] at hex
      rcases hex with hex | ⟨f1,f2⟩
      · cases hex
      simp only [List.cons_append,AXg,hx,if_true] at h ⊢
      exact fresh_swap f1 f2 (fun d hd e=>a2 d hd e) (AX_mono _ (fun E' s' hE=>AXg_first_eff L1 hap' hE) h)
    | false =>
      simp only [List.cons_append,AXg,hx,Bool.false_eq_true,if_false] at h
      obtain ⟨h0,v,hv,h⟩:=h
      have h1:=AXg_first_eff L1 hap' h
      have h2:=(AX_put (fun d hd=>a1 d hd) (fun d hd=>a2 d hd)).1 h1
      refine AX_mono _ (fun E' s' hE=>?_) (AX_one_frame h2)
      simp only [List.cons_append,AXg,hx,Bool.false_eq_true,if_false]
      exact ⟨h0,v,gv_congr (fun d hd=>hE.2 d fun e=>a3 d e hd) hv,hE.1⟩
theorem AXg_frame : ∀ (L : List (Oper × Mk)) {K : Env→AS→Prop} {E : Env} {s : AS},AXg P Γ N ops L K E s→AXg P Γ N ops L (fun E' s'=>K E' s'∧∀ i,i ∉ dsts (L.map (·.1))→E' i = E i) E s
  | [],K,E,s,h=>⟨h,fun _ _=>rfl⟩
  | (o,mm) :: L,K,E,s,h=>by
    have mono : ∀ (L : List (Oper × Mk)) {K K' : Env→AS→Prop} {E : Env} {s : AS},(∀ E s,K E s→K' E s)→AXg P Γ N ops L K E s→AXg P Γ N ops L K' E s:=by
      intro L
      induction L with
      | nil=>intro K K' E s hk h; exact hk _ _ h
      | cons x L ih =>
        intro K K' E s hk h
        simp only [AXg] at h ⊢
        split at h
        · rename_i he; rw [if_pos he]; exact AX_mono _ (fun E s h=>ih hk h) h
        · rename_i he
          rw [if_neg he]
          obtain ⟨h0,v,hv,h⟩:=h
          exact ⟨h0,v,hv,ih hk h⟩
    have hmem : ∀ i,i ∉ dsts (((o,mm) :: L).map (·.1))→i ∉ dsts (L.map (·.1))∧o.dst≠some i:=by
      intro i hi
      simp only [dsts,List.map_cons,List.filterMap_cons] at hi
      refine ⟨fun hm=>hi ?_,fun e=>hi (by simp [e])⟩
      simp only [dsts] at hm
      split
      · exact hm
      · exact List.mem_cons_of_mem _ hm
    simp only [AXg] at h ⊢
    split at h
    · rename_i he
      rw [if_pos he]
      refine AX_mono _ (fun E' s' hE=>?_) (AX_one_frame h)
      refine mono L (fun E'' s'' hE'=>⟨hE'.1,fun i hi=>?_⟩) (AXg_frame L hE.1)
      obtain ⟨m1,m2⟩:=hmem i hi
      rw [hE'.2 i m1,hE.2 i m2]
    · rename_i he
      rw [if_neg he]
      obtain ⟨h0,v,hv,h⟩:=h
      refine ⟨h0,v,hv,mono L (fun E'' s'' hE'=>⟨hE'.1,fun i hi=>?_⟩) (AXg_frame L h)⟩
      obtain ⟨m1,m2⟩:=hmem i hi
      rw [hE'.2 i m1,updO_other m2]
def opAtG (ops : Array Oper) (mk : Nat→Mk) (i : Nat) : Oper × Mk:=((ops[i]?).getD default,mk i)
def pairsOkG (ops : Array Oper) (D : List Nat) (mk : Nat→Mk) (fr : List Nat) : Bool :=
  (List.range ops.size).all fun j=>(List.range j).all fun i =>
    match ops[i]?,ops[j]? with
    | some x,some y=>(D.getD j 0).testBit i || (x.apart ops y && !((mk i).isEff && (mk j).isEff && !(fr.contains i && fr.contains j)))
    | _,_=>true
def drawOkG (ops : Array Oper) (mk : Nat→Mk) (fr : List Nat) : Bool :=
  depEq ops (Region.before ops).toList && pairsOkG ops (Region.before ops).toList mk fr
theorem wpAny_of_AXg {mk : Nat→Mk} {fr : List Nat} (hfr : ∀ i ∈ fr,FreshAt P Γ N ops ((ops[i]?).getD default)) {Q : Exit→Act→World→Prop} {K : Env→AS→Prop} (hok : drawOkG ops mk fr = true) :
    ∀ (fuel : Nat) (listed : Array Bool) {G : Gh} {E : Env} {s : AS} {a : Act} {w : World},listed.size = ops.size→(left ops listed).length≤fuel →
      (∀ (i : Nat) (o : Oper),ops[i]? = some o→listed.getD i true = true→∀ e ∈ o.after.toList,Region.binds .any e = true→listed.getD e.on false = true) →
      AXg P Γ N ops ((left ops listed).map (opAtG ops mk)) K E s→Rel Γ N G E s a w →
      (∀ G' E' s' a' w',G.le G'→Rel Γ N G' E' s' a' w'→K E' s'→Q .normal a' w')→wpAnyIn (fen rd) 0 P .any ops Q fuel listed a w:=by
  simp only [drawOkG,Bool.and_eq_true] at hok
  obtain ⟨hdep,hpairs⟩:=hok
  intro fuel
  have hnil : ∀ (listed : Array Bool),Region.ready .any ops listed = []→left ops listed = []:=by
    intro listed h
    -- the first that is left could go
    cases hl : left ops listed with
    | nil=>rfl
    | cons i L =>
      exfalso
      have hi : i ∈ left ops listed:=by rw [hl]; simp
      obtain ⟨h1,h2⟩:=mem_left.1 hi
      have hmin : ∀ j,j < i→listed.getD j true = true:=by
        intro j hj
        cases hjl : listed.getD j true with
        | true=>rfl
        | false =>
          exfalso
          have hjm : j ∈ left ops listed:=mem_left.2 ⟨by omega,hjl⟩
          have hs : (left ops listed).Pairwise (· < ·):=by
            unfold left
            exact List.Pairwise.filter _ List.pairwise_lt_range
          rw [hl] at hs hjm
          rcases List.mem_cons.1 hjm with rfl | hjm
          · omega
          · have:=(List.pairwise_cons.1 hs).1 j hjm
            omega
      have ho : ops[i]? = some ops[i]:=by simp [h1]
      have hr : i ∈ Region.ready .any ops listed:=by
        rw [mem_ready]
        refine ⟨h2,_,ho,fun e he hb=>?_⟩
        have hlt:=(depEq_spec hdep ho).2 e (by simpa using he) hb
        have:=hmin _ hlt
        -- both defaults agree where the place is there
        have hsz : e.on < listed.size:=by
          rcases Nat.lt_or_ge e.on listed.size with h' | h'
          · exact h'
          · exfalso
            have : listed.getD i true = true:=by
              simp [Array.getElem?_eq_none (show listed.size≤i by omega)]
            rw [h2] at this; cases this
        simpa [hsz] using this
      rw [h] at hr
      cases hr
  induction fuel with
  | zero =>
    intro listed G E s a w hsz hlen hcl h hr hq
    have hl : left ops listed = []:=List.eq_nil_of_length_eq_zero (by omega)
    have hready : Region.ready .any ops listed = []:=by
      cases hrd : Region.ready .any ops listed with
      | nil=>rfl
      | cons i L =>
        exfalso
        have : i ∈ Region.ready .any ops listed:=by rw [hrd]; simp
        rw [mem_ready] at this
        obtain ⟨h0,o,ho,_⟩:=this
        have : i ∈ left ops listed:=mem_left.2 ⟨(Array.getElem?_eq_some_iff.1 ho).1,h0⟩
        rw [hl] at this
        cases this
    rw [hl] at h
    exact ⟨hready,hq G E s a w (.refl G) hr h⟩
  | succ fuel ih =>
    intro listed G E s a w hsz hlen hcl h hr hq
    refine ⟨fun hready=>?_,fun i hi=>?_⟩
    · rw [hnil listed hready] at h
      exact hq G E s a w (.refl G) hr h
    · obtain ⟨h0,o,ho,hall⟩:=mem_ready.1 hi
      have hilt : i < ops.size:=(Array.getElem?_eq_some_iff.1 ho).1
      obtain ⟨L1,L2,q1,q2,q3⟩:=left_set hsz hilt h0
      -- what comes before i is done
      have hbefore : ∀ (j : Nat) (oj : Oper),ops[j]? = some oj→(∀ e ∈ oj.after.toList,Region.binds .any e = true→listed.getD e.on false = true)→∀ l,((Region.before ops).toList.getD j 0).testBit l = true→listed.getD l false = true:=by
        intro j
        induction j using Nat.strongRecOn with
        | _ j ihj =>
          intro oj hoj hj l hl
          obtain ⟨d1,d2⟩:=depEq_spec hdep hoj
          obtain ⟨e,he,hb,h1⟩:=d1 l hl
          have hel:=hj e he hb
          rcases h1 with rfl | h1
          · exact hel
          · have hlt:=d2 e he hb
            have hon : e.on < ops.size:=by
              have:=(Array.getElem?_eq_some_iff.1 hoj).1
              omega
            have heon : ops[e.on]? = some ops[e.on]:=by simp [hon]
            refine ihj e.on hlt _ heon (hcl e.on _ heon ?_) l h1
            have : e.on < listed.size:=by omega
            simpa [this] using hel
      have hpair : ∀ x ∈ L1,Apart ops ((ops[x]?).getD default) o∧((mk x).isEff = false∨(mk i).isEff = false∨(fr.contains x = true∧fr.contains i = true)):=by
        intro x hx
        obtain ⟨hxi,hxl⟩:=q3 x hx
        unfold pairsOkG at hpairs
        rw [List.all_eq_true] at hpairs
        have h1:=hpairs i (by simpa using hilt)
        rw [List.all_eq_true] at h1
        have h2:=h1 x (by simpa using hxi)
        have hox : ops[x]? = some (ops[x]'(by omega)):=by simp
        rw [hox,ho] at h2
        simp only [Bool.or_eq_true,Bool.and_eq_true,Bool.not_eq_true'] at h2
        rcases h2 with h2 | ⟨h2,h3⟩
        · exfalso
          have:=hbefore i o ho (fun e he hb=>hall e (by simpa using he) hb) x h2
          have hxs : x < listed.size:=by omega
          simp [hxs] at this hxl
          rw [hxl] at this; cases this
        · refine ⟨by rw [hox]; exact h2,?_⟩
          cases e1 : (mk x).isEff with
          | false=>exact Or.inl rfl
          | true =>
            cases e2 : (mk i).isEff with
            | false=>exact Or.inr (Or.inl rfl)
            | true =>
              rw [e1,e2] at h3
              simp only [Bool.true_and,Bool.not_eq_eq_eq_not,Bool.not_false,Bool.and_eq_true,Bool.not_eq_true'] at h3
              exact Or.inr (Or.inr (by simpa using h3))
      have hset : ∀ {G' : Gh} {E' : Env} {s' : AS} {a' : Act} {w' : World},G.le G'→AXg P Γ N ops ((L1 ++ L2).map (opAtG ops mk)) K E' s'→Rel Γ N G' E' s' a' w'→wpAnyIn (fen rd) 0 P .any ops Q fuel (listed.setIfInBounds i true) a' w':=by
        intro G' E' s' a' w' hle hA hr'
        refine ih (listed.setIfInBounds i true) (by simpa using hsz) ?_ ?_ ?_ hr' (fun G'' E'' s'' a'' w'' k1 k2 k3=>hq G'' E'' s'' a'' w'' (hle.trans k1) k2 k3)
        · rw [q2]
          rw [q1] at hlen
          simp at hlen ⊢
          omega
        · intro j oj hoj hj e he hb
          by_cases hji : j = i
          · subst hji
            rw [ho] at hoj; cases hoj
            exact getD_set_true (hall e (by simpa using he) hb)
          · rw [getD_set_ne true (Ne.symm hji)] at hj
            exact getD_set_true (hcl j oj hoj hj e he hb)
        · rw [q2]; exact hA
      rw [q1] at h
      simp only [List.map_append,List.map_cons] at h hset
      have hop : opAtG ops mk i = (o,mk i):=by simp [opAtG,ho]
      rw [hop] at h
      cases hf : (mk i).isEff with
      | false =>
        have hap : ∀ x ∈ L1.map (opAtG ops mk),Apart ops x.1 o:=by
          intro x hx
          obtain ⟨j,hj,rfl⟩:=List.mem_map.1 hx
          exact (hpair j hj).1
        obtain ⟨hd,v,hv⟩:=gv_later hf _ hap h hr
        have h1:=AXg_first_val hf _ hap hv h
        have hX : AXg P Γ N ops ((o,mk i) :: (L1.map (opAtG ops mk) ++ L2.map (opAtG ops mk))) K E s:=by
          simp only [AXg,hf,Bool.false_eq_true,if_false]
          exact ⟨hd,v,hv,h1⟩
        by_cases hmf : mk i = .frz
        · rw [hmf] at hv
          obtain ⟨hgk,hb,hv⟩:=hv
          obtain ⟨d,sz,n,z,hdd,hax,rfl,hz⟩:=frz_ghost (Γ:=Γ) (ops:=ops) hb hv
          have h2:=(hax E s (fun E' s'=>∃ ob,s.objs ob = none∧E' = updO E o.dst (.osl ob 0 sz n n)∧s' = s.set ob z) hgk).2 fun ob hob=>⟨ob,hob,rfl,rfl⟩
          refine AX_step (L:=[]) (K:=fun E' s'=>∃ ob,s.objs ob = none∧E' = updO E o.dst (.osl ob 0 sz n n)∧s' = s.set ob z) ho h2 hr (fun G' E' s' a' w' k1 k2 k3=>?_)
          obtain ⟨ob,hob,rfl,rfl⟩ : ∃ ob,s.objs ob = none∧E' = updO E o.dst (.osl ob 0 sz n n)∧s' = s.set ob z:=k3
          obtain ⟨G2,k4,k5⟩:=frz_rel hdd hz hob k2
          exact hset (k1.trans k4) h1 k5
        have h2:=AXg_AX hmf hX
        exact AX_step (L:=[]) (K:=fun E s=>AXg P Γ N ops (L1.map (opAtG ops mk) ++ L2.map (opAtG ops mk)) K E s) ho h2 hr (fun G' E' s' a' w' k1 k2 k3=>hset k1 k3 k2)
      | true =>
        have hme : mk i = .eff:=by
          cases hm : mk i with
          | eff=>rfl
          | val=>rw [hm] at hf; cases hf
          | frz=>rw [hm] at hf; cases hf
          | giv u=>rw [hm] at hf; cases hf
        rw [hme] at h
        have hap : ∀ x ∈ L1.map (opAtG ops mk),Apart ops x.1 o∧(x.2.isEff = false∨(FreshAt P Γ N ops x.1∧FreshAt P Γ N ops o)):=by
          intro x hx
          obtain ⟨j,hj,rfl⟩:=List.mem_map.1 hx
          refine ⟨(hpair j hj).1,?_⟩
          rcases (hpair j hj).2 with k | k | ⟨k1,k2⟩
          · exact Or.inl k
          · rw [hf] at k; cases k
          · refine Or.inr ⟨hfr j (by simpa using k1),?_⟩
            have:=hfr i (by simpa using k2)
            rwa [ho] at this
        have h2:=AXg_first_eff _ hap h
        exact AX_step (L:=[]) (K:=fun E s=>AXg P Γ N ops (L1.map (opAtG ops mk) ++ L2.map (opAtG ops mk)) K E s) ho h2 hr (fun G' E' s' a' w' k1 k2 k3=>hset k1 k3 k2)
def markedG (ops : Array Oper) (mk : Nat→Mk) : List (Oper × Mk):=(List.range ops.size).map (opAtG ops mk)
theorem awp_region_drawG {E : Env} {Q : Exit→Env→AS→Prop} (hm : P.follows .mixedOrders = true) (mk : Nat→Mk) (fr : List Nat) {id : Nat} (hok : drawOkG ops mk fr = true) (hfr : ∀ i ∈ fr,FreshAt P Γ N ops ((ops[i]?).getD default)) (h : AXg P Γ N ops (markedG ops mk) (fun E' s'=>Q .normal E' s') E s) :
    AWp P Γ N (.region id ops true) Q E s:=by
  intro G a w hr
  refine wpIn_region_any hm ?_
  have hleft : left ops (Array.replicate ops.size false) = List.range ops.size:=by
    unfold left
    rw [List.filter_eq_self]
    intro i hi
    have : i < ops.size:=by simpa using hi
    simp [this]
  have hr' : Rel Γ N G E s a w.drew:=⟨hr.st.drew,hr.size,hr.tmps,hr.defers⟩
  refine wpAny_of_AXg hfr hok ops.size (Array.replicate ops.size false) (by simp) (by rw [hleft]; simp) ?_ (by rw [hleft]; exact AXg_frame _ h) hr' ?_
  · intro i o ho hl
    have : i < ops.size:=(Array.getElem?_eq_some_iff.1 ho).1
    simp [this] at hl
  · intro G' E' s' a' w' h1 h2 h3
    refine ⟨G',E',s',h1,h2,h3.1,fun i hi=>h3.2 i fun hm=>hi ?_⟩
    have : (markedG ops mk).map (·.1) = ops.toList:=by
      apply List.ext_getElem?
      intro j
      simp only [markedG,List.getElem?_map]
      by_cases hj : j < ops.size
      · simp [hj,opAtG]
      · simp [hj]
    have hm' : i ∈ dsts ((markedG ops mk).map (·.1)):=hm
    rw [this] at hm'
    exact hm'
def glook : List (Nat × AV)→Nat→Option AV
  | [],_=>none
  | (i,v) :: L,k=>if k = i then some v else glook L k
theorem glook_nil {k : Nat} : glook [] k = none:=rfl
theorem glook_cons {i k : Nat} {v : AV} {L : List (Nat × AV)} : glook ((i,v) :: L) k = if k = i then some v else glook L k:=rfl
def glookN : List (Nat × Nat)→Nat→Option Nat
  | [],_=>none
  | (i,v) :: L,k=>if k = i then some v else glookN L k
theorem glookN_nil {k : Nat} : glookN [] k = none:=rfl
theorem glookN_cons {i k v : Nat} {L : List (Nat × Nat)} : glookN ((i,v) :: L) k = if k = i then some v else glookN L k:=rfl
def noughtV (n : Nat) : AV:=.sl 1 n (List.replicate n (.v (.int .u8 0))) .no
def frzB (P : Program) (N : Nat) (o : Oper) (n : Nat) : Bool :=
  freshB P N { o with guard:=none } &&
  match o.op with
  | .makeSlice T (.const (.int _ m)) _ =>
    decide (m = (n : Int)) && (match P.underlying T with
      | some (.slice e)=>decide (P.cellsOf e = 1) && (match zcells P e with | some [.v (.int .u8 x)]=>decide (x = 0) | _=>false)
      | _=>false)
  | _=>false
theorem frzB_spec {o : Oper} {n : Nat} (h : frzB P N o n = true) : freshB P N { o with guard:=none } = true∧frzV P o = some (noughtV n):=by
  simp only [frzB,Bool.and_eq_true] at h
  obtain ⟨h1,h2⟩:=h
  refine ⟨h1,?_⟩
  split at h2
  · rename_i T k m y ho
    simp only [Bool.and_eq_true,decide_eq_true_eq] at h2
    obtain ⟨rfl,h2⟩:=h2
    split at h2
    · rename_i e hT
      simp only [Bool.and_eq_true,decide_eq_true_eq] at h2
      obtain ⟨hc,h2⟩:=h2
      split at h2
      · rename_i x hz
        simp only [decide_eq_true_eq] at h2
        subst h2
        simp only [frzV,ho,hT,hz,hc,noughtV,Nat.mul_one,zrow_one,Int.toNat_natCast]
      · cases h2
    · cases h2
  · cases h2
def mkOf (fl : List Nat) (fz : List (Nat × Nat)) (gv : List (Nat × AV)) (i : Nat) : Mk:=if fl.contains i = true then .eff else match glookN fz i with | some _=>.frz | none=>match glook gv i with | some v=>.giv v | none=>.val
theorem mkOf_eff {fl : List Nat} {fz : List (Nat × Nat)} {gv : List (Nat × AV)} {i : Nat} : (mkOf fl fz gv i).isEff = fl.contains i:=by
  unfold mkOf
  split
  · rename_i h; rw [h]; rfl
  · rename_i h
    rw [Bool.not_eq_true] at h
    rw [h]
    cases glookN fz i with
    | some n=>rfl
    | none=>cases glook gv i <;> rfl
def pairsOkF (ops : Array Oper) (D : List Nat) (fl fr : List Nat) : Bool :=
  (List.range ops.size).all fun j=>(List.range j).all fun i =>
    match ops[i]?,ops[j]? with
    | some x,some y=>(D.getD j 0).testBit i || (x.apart ops y && !(fl.contains i && fl.contains j && !(fr.contains i && fr.contains j)))
    | _,_=>true
def drawOkF (P : Program) (N : Nat) (ops : Array Oper) (fl fr : List Nat) (fz : List (Nat × Nat)) : Bool :=
  depEq ops (Region.before ops).toList && pairsOkF ops (Region.before ops).toList fl fr && (fr.all fun i=>freshB P N ((ops[i]?).getD default)) &&
    (List.range ops.size).all fun i=>match ops[i]?,glookN fz i with | some o,some n=>frzB P N o n | _,_=>true
def markG (mk : Nat→Mk) : Nat→List Oper→List (Oper × Mk)
  | _,[]=>[]
  | k,o :: L=>(o,mk k) :: markG mk (k + 1) L
theorem markG_get (mk : Nat→Mk) : ∀ (L : List Oper) (k i : Nat),(markG mk k L)[i]? = (L[i]?).map fun o=>(o,mk (k + i))
  | [],k,i=>by simp [markG]
  | o :: L,k,0=>by simp [markG]
  | o :: L,k,i + 1=>by
    simp only [markG,List.getElem?_cons_succ,markG_get mk L (k + 1) i]
    rw [show k + 1 + i = k + (i + 1) by omega]
theorem markedG_eq (mk : Nat→Mk) : markedG ops mk = markG mk 0 ops.toList:=by
  apply List.ext_getElem?
  intro i
  simp only [markedG,List.getElem?_map,markG_get,Nat.zero_add]
  by_cases h : i < ops.size
  · simp [h,opAtG]
  · simp [h]
def AGivK (P : Program) (Γ : Nat→List AV) (k : FuncId) (as : List AV) (v : AV) (c : Prop) : Prop:=(∀ s,ACalls P Γ k as s (fun r s'=>r = v∧s' = s))∧c
def AGiv (P : Program) (Γ : Nat→List AV) (N : Nat) (o : Oper) (v : AV) (C : Env→Prop) (E : Env) : Prop:=(∀ d,o.dst = some d→d < N)∧GivC P Γ o E v∧C (updO E o.dst v)
theorem AGiv_call {dst : Option Tmp} {k : FuncId} {args : Array Operand} {aT : Array TypeId} {ty : TypeId} {pos : String} {after : Array Edge} {v : AV} {C : Env→Prop} {E : Env} :
    AGiv P Γ N { dst:=dst,op:=.call { callee:=.value (.func k),args:=args,argTypes:=aT },type:=ty,pos:=pos,after:=after,guard:=none } v C E =
      ((∀ d,dst = some d→d < N)∧callable P k = true∧AGivK P Γ k (args.toList.map (aeval Γ E)) v (C (updO E dst v))):=by
  apply propext
  constructor
  · rintro ⟨h1,⟨_,h2⟩,h3⟩
    exact ⟨h1,h2.2.2.1,h2.2.2.2,h3⟩
  · rintro ⟨h1,h2,h3,h4⟩
    exact ⟨h1,⟨rfl,⟨rfl,rfl,h2,h3⟩⟩,h4⟩
def AXz0 (P : Program) (Γ : Nat→List AV) (N : Nat) (ops : Array Oper) (fl : List Nat) (fz : List (Nat × Nat)) (gv : List (Nat × AV)) : Nat→List Oper→(Env→AS→Prop)→Env→AS→Prop
  | _,[],K,E,s=>K E s
  | k,o :: rest,K,E,s =>
    if fl.contains k = true then AX P Γ N ops [o] (AXz0 P Γ N ops fl fz gv (k + 1) rest K) E s
    else match glookN fz k with
      | some n=>gokB ops o E∧(∀ d,o.dst = some d→d < N)∧AXz0 P Γ N ops fl fz gv (k + 1) rest K (updO E o.dst (noughtV n)) s
      | none =>
        match glook gv k with
        | some v=>AGiv P Γ N o v (fun E=>AXz0 P Γ N ops fl fz gv (k + 1) rest K E s) E
        | none=>((∀ d,o.dst = some d→d < N)∧match pval P Γ ops o E with | some v=>AXz0 P Γ N ops fl fz gv (k + 1) rest K (updO E o.dst v) s | none=>False)
theorem axz_is : ∃ f : Program→(Nat→List AV)→Nat→Array Oper→List Nat→List (Nat × Nat)→List (Nat × AV)→Nat→List Oper→(Env→AS→Prop)→Env→AS→Prop,f = AXz0:=⟨_,rfl⟩
noncomputable def AXz : Program→(Nat→List AV)→Nat→Array Oper→List Nat→List (Nat × Nat)→List (Nat × AV)→Nat→List Oper→(Env→AS→Prop)→Env→AS→Prop:=Classical.choose axz_is
theorem axz : AXz = AXz0:=Classical.choose_spec axz_is
theorem AXz_nil {fl : List Nat} {fz : List (Nat × Nat)} {gv : List (Nat × AV)} {k : Nat} {K : Env→AS→Prop} {E : Env} : AXz P Γ N ops fl fz gv k [] K E s = K E s:=by rw [axz]; rfl
theorem AXz_cons {fl : List Nat} {fz : List (Nat × Nat)} {gv : List (Nat × AV)} {k : Nat} {o : Oper} {rest : List Oper} {K : Env→AS→Prop} {E : Env} : AXz P Γ N ops fl fz gv k (o :: rest) K E s =
    if fl.contains k = true then AY P Γ N ops [o] (AXz P Γ N ops fl fz gv (k + 1) rest K) E s
    else match glookN fz k with
      | some n=>gokB ops o E∧(∀ d,o.dst = some d→d < N)∧AXz P Γ N ops fl fz gv (k + 1) rest K (updO E o.dst (noughtV n)) s
      | none =>
        match glook gv k with
        | some v=>AGiv P Γ N o v (fun E=>AXz P Γ N ops fl fz gv (k + 1) rest K E s) E
        | none=>((∀ d,o.dst = some d→d < N)∧match pval P Γ ops o E with | some v=>AXz P Γ N ops fl fz gv (k + 1) rest K (updO E o.dst v) s | none=>False):=by rw [axz,ay]; rfl
theorem AXz0_g {fl : List Nat} {fz : List (Nat × Nat)} {gv : List (Nat × AV)} {K : Env→AS→Prop} : ∀ (L : List Oper) (k : Nat) {E : Env} {s : AS},(∀ i o n,L[i]? = some o→glookN fz (k + i) = some n→frzB P N o n = true) →
    AXz0 P Γ N ops fl fz gv k L K E s→AXg P Γ N ops (markG (mkOf fl fz gv) k L) K E s
  | [],k,E,s,_,h=>h
  | o :: L,k,E,s,hc,h=>by
    have hc' : ∀ i o n,L[i]? = some o→glookN fz (k + 1 + i) = some n→frzB P N o n = true:=fun i o' n h1 h2=>hc (i + 1) o' n (by simpa using h1) (by rw [show k + (i + 1) = k + 1 + i by omega]; exact h2)
    simp only [AXz0] at h
    simp only [markG,AXg,mkOf_eff]
    cases hf : fl.contains k with
    | true =>
      rw [hf] at h
      simp only [if_true] at h ⊢
      have mono : ∀ {K K' : Env→AS→Prop} {E : Env} {s : AS},(∀ E s,K E s→K' E s)→AX P Γ N ops [o] K E s→AX P Γ N ops [o] K' E s:=fun hk h=>AX_mono _ hk h
      exact mono (fun E' s' hE=>AXz0_g L (k + 1) hc' hE) h
    | false =>
      rw [hf] at h
      simp only [Bool.false_eq_true,if_false] at h ⊢
      cases hz : glookN fz k with
      | some n =>
        rw [hz] at h
        have hm : mkOf fl fz gv k = .frz:=by unfold mkOf; rw [if_neg (by rw [hf]; simp),hz]
        rw [hm]
        exact ⟨h.2.1,_,⟨h.1,frzB_spec (hc 0 o n rfl (by simpa using hz))⟩,AXz0_g L (k + 1) hc' h.2.2⟩
      | none =>
        rw [hz] at h
        simp only at h
        cases hg : glook gv k with
        | some v =>
          rw [hg] at h
          have hm : mkOf fl fz gv k = .giv v:=by unfold mkOf; rw [if_neg (by rw [hf]; simp),hz]; simp only [hg]
          rw [hm]
          obtain ⟨h1,h2,h3⟩:=h
          exact ⟨h1,v,⟨rfl,h2⟩,AXz0_g L (k + 1) hc' h3⟩
        | none =>
          rw [hg] at h
          have hm : mkOf fl fz gv k = .val:=by unfold mkOf; rw [if_neg (by rw [hf]; simp),hz]; simp only [hg]
          rw [hm]
          refine ⟨h.1,?_⟩
          have h:=h.2
          split at h
          · rename_i v hv
            exact ⟨v,hv,AXz0_g L (k + 1) hc' h⟩
          · exact h.elim
theorem drawOkF_spec {fl : List Nat} {fz : List (Nat × Nat)} {gv : List (Nat × AV)} {fr : List Nat} (h : drawOkF P N ops fl fr fz = true) : drawOkG ops (mkOf fl fz gv) fr = true∧(∀ i ∈ fr,FreshAt P Γ N ops ((ops[i]?).getD default)) ∧
    ∀ i o n,ops.toList[i]? = some o→glookN fz (0 + i) = some n→frzB P N o n = true:=by
  simp only [drawOkF,Bool.and_eq_true] at h
  obtain ⟨⟨⟨h1,h2⟩,h3⟩,h4⟩:=h
  refine ⟨?_,fun i hi=>freshB_spec (List.all_eq_true.1 h3 i hi),fun i o n ho hn=>?_⟩
  · simp only [drawOkG,Bool.and_eq_true]
    refine ⟨h1,?_⟩
    unfold pairsOkG
    unfold pairsOkF at h2
    simpa only [mkOf_eff] using h2
  · rw [Nat.zero_add] at hn
    have ho' : ops[i]? = some o:=by simpa using ho
    have hi : i < ops.size:=(Array.getElem?_eq_some_iff.1 ho').1
    have:=List.all_eq_true.1 h4 i (by simpa using hi)
    rw [ho',hn] at this
    exact this
section
variable {Q : Exit→Env→AS→Prop} {E : Env}
theorem awp_drf_seq (hm : P.follows .mixedOrders = true) (fl : List Nat) (fz : List (Nat × Nat)) (gv : List (Nat × AV)) (fr : List Nat) {id : Nat} {L : List Oper} {y : Code} (hok : drawOkF P N L.toArray fl fr fz = true) (h : ∀ K : Env→AS→Prop,(∀ E s,AWp P Γ N y Q E s→K E s)→AXz P Γ N L.toArray fl fz gv 0 L K E s) :
    AWp P Γ N (.seq (.region id L.toArray true) y) Q E s:=by
  obtain ⟨h1,h2,h3⟩:=drawOkF_spec (Γ:=Γ) (gv:=gv) hok
  refine awp_seq (awp_region_drawG hm (mkOf fl fz gv) fr h1 h2 ?_)
  have:=h _ (fun _ _ h=>h)
  rw [axz] at this
  rw [markedG_eq]
  exact AXz0_g L 0 h3 this
end
end Go.AM
namespace Go.AM
open Go Go.RowKit
variable {P : Program} {Γ : Nat→List AV} {G : Gh} {s : AS} {w : World} {N : Nat}
theorem AVs.weak.trans {a b c : List AV} (h : AVs.weak a b) (k : AVs.weak b c) : AVs.weak a c:=fun G v hv=>k G v (h G v hv)
theorem AVs.weak.append {a b c d : List AV} (h : AVs.weak a c) (k : AVs.weak b d) : AVs.weak (a ++ b) (c ++ d):=by
  intro G v hv
  have hl:=hv.length
  have h1:=hv.take a.length
  have h2:=hv.drop a.length
  rw [List.take_left] at h1
  rw [List.drop_left] at h2
  have:=VRels.append (h G _ h1) (k G _ h2)
  rwa [List.take_append_drop] at this
def AS.tells (Γ : Nat→List AV) (s s' : AS) : Prop:=∀ G w,SRel Γ G s w→SRel Γ G s' w
theorem AS.tells.refl (s : AS) : AS.tells Γ s s:=fun _ _ h=>h
theorem AS.tells.trans {a b c : AS} (h : AS.tells Γ a b) (k : AS.tells Γ b c) : AS.tells Γ a c:=fun G w x=>k G w (h G w x)
theorem SRel.weakObj {o : Nat} {cs cs' : List AV} (h : SRel Γ G s w) (ho : s.objs o = some cs) (hw : AVs.weak cs cs') : SRel Γ G (s.set o cs') w:=by
  refine ⟨h.ro,?_,h.objLt,h.inj,h.own,h.ownInj,h.ownLast,h.freshO,h.freshT,h.below,h.others,h.base,h.glob,h.soft,h.maps⟩
  intro o' ds hd
  by_cases e : o' = o
  · subst e
    rw [AS.set_objs_same] at hd
    cases hd
    obtain ⟨b,vs,h1,h2,h3,h4⟩:=h.objs o' cs ho
    exact ⟨b,vs,h1,hw G vs h2,h3,h4⟩
  · rw [AS.set_objs_ne _ e] at hd
    exact h.objs o' ds hd
theorem AS.tells_obj {o : Nat} {cs cs' : List AV} (ho : s.objs o = some cs) (hw : AVs.weak cs cs') : AS.tells Γ s (s.set o cs'):=fun _ _ h=>h.weakObj ho hw
theorem awp_tells {c : Code} {Q : Exit→Env→AS→Prop} {E : Env} {s s' : AS} (h : AS.tells Γ s s') (k : AWp P Γ N c Q E s') : AWp P Γ N c Q E s :=
  fun G a w hr=>k G a w ⟨h G w hr.st,hr.size,hr.tmps,hr.defers⟩
def RBuf (sz : Nat) (s0 s : AS) (x : AV) (n : Nat) (cs : List AV) : Prop:=(x = nilS∧n = 0∧cs = [])∨∃ t e,x = .sl sz n cs (.own t e)∧s.own t = some e∧s0.own t = none
theorem RBuf.weak {sz : Nat} {s0 s : AS} {x : AV} {n : Nat} {cs : List AV} (h : RBuf sz s0 s x n cs) : x.weak (.sl sz n cs .any):=by
  rcases h with ⟨rfl,rfl,rfl⟩ | ⟨t,e,rfl,_,_⟩
  · exact AV.weak_nil
  · exact AV.weak_any
theorem RBuf.one {sz : Nat} {s0 s : AS} {x : AV} {n : Nat} {cs : List AV} (h : RBuf sz s0 s x n cs) : x.one = true:=by
  rcases h with ⟨rfl,_,_⟩ | ⟨t,e,rfl,_,_⟩
  · rfl
  · rfl
theorem RBuf.nil (sz : Nat) (s0 s : AS) : RBuf sz s0 s nilS 0 []:=.inl ⟨rfl,rfl,rfl⟩
theorem RBuf.own {sz : Nat} {s0 s s' : AS} {x : AV} {n : Nat} {cs : List AV} (h : RBuf sz s0 s x n cs) (k : ∀ t e,s.own t = some e→s0.own t = none→s'.own t = some e) : RBuf sz s0 s' x n cs:=by
  rcases h with h | ⟨t,e,h1,h2,h3⟩
  · exact .inl h
  · exact .inr ⟨t,e,h1,k t e h2 h3,h3⟩
end Go.AM
