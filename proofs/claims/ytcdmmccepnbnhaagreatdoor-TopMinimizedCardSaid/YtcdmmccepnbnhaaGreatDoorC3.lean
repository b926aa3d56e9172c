/-
 What the functions of the law give.
-/
import Derived.Test.YtcdmmccepnbnhaaGreatDoorC2
set_option linter.unusedSimpArgs false
set_option linter.unusedVariables false
namespace Go.Pv
theorem edgesOf_mem {es : List Edge} {p : Int} {e : Edge} : e ∈ edgesOf es p ↔ e ∈ es ∧ e.fr = p := by simp [edgesOf]
theorem lackE_iff {a b : List Edge} (ha : a.Pairwise (apt Edge.lt)) {p q : Int} : (lackE a b p q).isSome = true ↔ ∃ d x t,nextE p d x a = some t ∧ nextE q d x b = none := by
 unfold lackE
 rw [List.find?_isSome]
 constructor
 ·rintro ⟨e,he,hn⟩
  obtain ⟨h1,rfl⟩ := edgesOf_mem.1 he
  exact ⟨e.send,e.label,e.to,(nextE_some ha).2 h1,by simpa using hn⟩
 ·rintro ⟨d,x,t,h1,h2⟩
  exact ⟨⟨p,d,x,t⟩,edgesOf_mem.2 ⟨(nextE_some ha).1 h1,rfl⟩,by simp [h2]⟩
theorem lkB_iff {a b : List Edge} (ha : a.Pairwise (apt Edge.lt)) (hb : b.Pairwise (apt Edge.lt)) {p q : Int} : lkB a b p q = true ↔ ¬ Ev a b 1 p q := by
 unfold lkB
 rw [Bool.or_eq_true,lackE_iff ha,lackE_iff hb]
 constructor
 ·rintro (⟨d,x,t,h1,h2⟩ | ⟨d,x,t,h1,h2⟩) h
  ·have := h d x
   rw [h1,h2] at this
   exact this
  ·have := h d x
   rw [h1,h2] at this
   exact this
 ·intro h
  apply Classical.byContradiction
  intro hno
  apply h
  intro d x
  cases h1 : nextE p d x a with
  | none =>
   cases h2 : nextE q d x b with
   | none => trivial
   | some t => exact (hno (.inr ⟨d,x,t,h2,h1⟩)).elim
  | some t =>
   cases h2 : nextE q d x b with
   | none => exact (hno (.inl ⟨d,x,t,h1,h2⟩)).elim
   | some u => trivial
theorem nearE_iff {a b : List Edge} (ha : a.Pairwise (apt Edge.lt)) {M : List (List Int)} {p q k : Int} : (nearE a b M p q k).isSome = true ↔ ∃ d x t u,nextE p d x a = some t ∧ nextE q d x b = some u ∧ ent M t u = k := by
 unfold nearE
 rw [List.find?_isSome]
 constructor
 ·rintro ⟨e,he,hn⟩
  obtain ⟨h1,rfl⟩ := edgesOf_mem.1 he
  unfold nearP at hn
  split at hn
  ·rename_i u hu
   exact ⟨e.send,e.label,e.to,u,(nextE_some ha).2 h1,hu,by simpa using hn⟩
  ·cases hn
 ·rintro ⟨d,x,t,u,h1,h2,h3⟩
  exact ⟨⟨p,d,x,t⟩,edgesOf_mem.2 ⟨(nextE_some ha).1 h1,rfl⟩,by simp [nearP,h2,h3]⟩
theorem ent_set {na nb p q p' q' : Nat} {M : List (List Int)} {v : Int} (h : MatOk na nb M) (hp : p < na) (hq : q < nb) (hp' : p' < na) : ent (setM M p q v) p' q' = if p = p' ∧ q = q' then v else ent M p' q' := by
 have hl : p < M.length := by rw [h.len]; exact hp
 have hr : (M.getD p []).length = nb := h.row _ (by
  have : M[p]? = some (M.getD p []) := by simp [hl]
  exact List.mem_of_getElem? this)
 have hgs : ∀ r : List Int,(M.set p r).getD p' [] = if p = p' then r else M.getD p' [] := fun r => by
  simp only [List.getD_eq_getElem?_getD,List.getElem?_set]
  by_cases e : p = p'
  ·subst e
   simp [hl]
  ·simp [e]
 unfold ent setM
 simp only [Int.toNat_natCast]
 rw [hgs]
 by_cases e : p = p'
 ·subst e
  rw [if_pos rfl,getD_set' (by rw [hr]; exact hq)]
  simp
 ·simp [e]
noncomputable def newE (a b : List Edge) (M : List (List Int)) (k : Int) (p q : Nat) : Int := if (nearE a b M p q k).isSome = true ∧ ent M p q = 0 then k + 1 else ent M p q
theorem near_same {a b : Auto} (ha : a.Good) (hb : b.Good) {M M' : List (List Int)} {k p q : Int} (h : ∀ s t : Int,a.inr s → b.inr t → (ent M' s t = k ↔ ent M s t = k)) : (nearE a.edges b.edges M' p q k).isSome = (nearE a.edges b.edges M p q k).isSome := by
 rw [Bool.eq_iff_iff,nearE_iff ha.apt,nearE_iff ha.apt]
 constructor
 ·rintro ⟨d,x,t,u,h1,h2,h3⟩
  exact ⟨d,x,t,u,h1,h2,(h t u (ha.next_in h1) (hb.next_in h2)).1 h3⟩
 ·rintro ⟨d,x,t,u,h1,h2,h3⟩
  exact ⟨d,x,t,u,h1,h2,(h t u (ha.next_in h1) (hb.next_in h2)).2 h3⟩
theorem newE_same {a b : List Edge} {M : List (List Int)} {k : Int} (hk : 1 ≤ k) {p q : Nat} : newE a b M k p q = k ↔ ent M p q = k := by
 unfold newE
 split
 ·rename_i h
  rw [h.2]
  omega
 ·rfl
theorem round_ent {a b : Auto} (ha : a.Good) (hb : b.Good) {M : List (List Int)} {k : Int} (hk : 1 ≤ k) (hM : MatOk a.states.toNat b.states.toNat M) : MatOk a.states.toNat b.states.toNat (roundM a.edges b.edges a.states.toNat b.states.toNat k M) ∧
  ∀ p q : Nat,p < a.states.toNat → q < b.states.toNat → ent (roundM a.edges b.edges a.states.toNat b.states.toNat k M) p q = newE a.edges b.edges M k p q := by
 let Inv : Nat → Nat → List (List Int) → Prop := fun P Q M' => MatOk a.states.toNat b.states.toNat M' ∧ ∀ p q : Nat,p < a.states.toNat → q < b.states.toNat → ent M' p q = if p < P ∨ (p = P ∧ q < Q) then newE a.edges b.edges M k p q else ent M p q
 have hin : ∀ P,P < a.states.toNat → ∀ Q,Q ≤ b.states.toNat → ∀ M',Inv P 0 M' → Inv P Q ((List.range Q).foldl (stepM a.edges b.edges k P) M') := by
  intro P hP Q
  induction Q with
  | zero => intro _ M' h; exact h
  | succ Q ih =>
   intro hQ M' h
   rw [List.range_succ,List.foldl_append]
   obtain ⟨h1,h2⟩ := ih (by omega) M' h
   generalize (List.range Q).foldl (stepM a.edges b.edges k P) M' = N at h1 h2
   have hsame : (nearE a.edges b.edges N P Q k).isSome = (nearE a.edges b.edges M P Q k).isSome := near_same ha hb fun s t hs ht => by
    unfold Auto.inr at hs ht
    have := h2 s.toNat t.toNat (by omega) (by omega)
    rw [show ((s.toNat : Nat) : Int) = s by omega,show ((t.toNat : Nat) : Int) = t by omega] at this
    rw [this]
    split
    ·have h3 := newE_same (a := a.edges) (b := b.edges) (M := M) hk (p := s.toNat) (q := t.toNat)
     rw [show ((s.toNat : Nat) : Int) = s by omega,show ((t.toNat : Nat) : Int) = t by omega] at h3
     exact h3
    ·rfl
   have hent : ent N P Q = ent M P Q := by
    rw [h2 P Q hP (by omega),if_neg (by omega)]
   show Inv P (Q + 1) (stepM a.edges b.edges k P N Q)
   have hnew : newE a.edges b.edges M k P Q = if (nearE a.edges b.edges N P Q k).isSome = true ∧ ent N P Q = 0 then k + 1 else ent M P Q := by
    unfold newE
    rw [hsame,hent]
   unfold stepM
   split
   ·rename_i hc
    rw [if_pos hc] at hnew
    refine ⟨setM_ok h1 hP,fun p q hp hq => ?_⟩
    rw [ent_set h1 hP (by omega) hp]
    by_cases e : P = p ∧ Q = q
    ·obtain ⟨rfl,rfl⟩ := e
     rw [if_pos ⟨rfl,rfl⟩,if_pos (by omega),hnew]
    ·rw [if_neg e,h2 p q hp hq]
     by_cases h3 : p < P ∨ (p = P ∧ q < Q)
     ·rw [if_pos h3,if_pos (by omega)]
     ·rw [if_neg h3,if_neg (by omega)]
   ·rename_i hc
    rw [if_neg hc] at hnew
    refine ⟨h1,fun p q hp hq => ?_⟩
    rw [h2 p q hp hq]
    by_cases e : P = p ∧ Q = q
    ·obtain ⟨rfl,rfl⟩ := e
     rw [if_neg (by omega),if_pos (by omega),hnew]
    ·by_cases h3 : p < P ∨ (p = P ∧ q < Q)
     ·rw [if_pos h3,if_pos (by omega)]
     ·rw [if_neg h3,if_neg (by omega)]
 have hout : ∀ P,P ≤ a.states.toNat → Inv P 0 ((List.range P).foldl (rowM a.edges b.edges b.states.toNat k) M) := by
  intro P
  induction P with
  | zero => exact fun _ => ⟨hM,fun p q _ _ => by rw [if_neg (by omega)]; rfl⟩
  | succ P ih =>
   intro hP
   rw [List.range_succ,List.foldl_append]
   obtain ⟨h1,h2⟩ := hin P (by omega) b.states.toNat (Nat.le_refl _) _ (ih (by omega))
   refine ⟨h1,fun p q hp hq => ?_⟩
   have := h2 p q hp hq
   refine this.trans ?_
   by_cases h3 : p < P ∨ (p = P ∧ q < b.states.toNat)
   ·rw [if_pos h3,if_pos (by omega)]
   ·rw [if_neg h3,if_neg (by omega)]
 obtain ⟨h1,h2⟩ := hout a.states.toNat (Nat.le_refl _)
 refine ⟨h1,fun p q hp hq => ?_⟩
 exact (h2 p q hp hq).trans (by rw [if_pos (by omega)])
theorem difM_ent {a b : Auto} (ha : a.Good) (hb : b.Good) : ∀ j,MatOk a.states.toNat b.states.toNat (difM a.edges b.edges a.states.toNat b.states.toNat j) ∧
  ∀ p q : Nat,p < a.states.toNat → q < b.states.toNat → ent (difM a.edges b.edges a.states.toNat b.states.toNat j) p q = (lst a.edges b.edges (j + 1) p q : Int)
 | 0 => by
  refine ⟨baseM_ok _ _ _ _,fun p q hp hq => ?_⟩
  have hbl : bTo a.edges b.edges b.states.toNat p b.states.toNat = (List.range b.states.toNat).map fun (q : Nat) => b01 (lkB a.edges b.edges p q) := by
   have := partTo_all (fun (q : Nat) => b01 (lkB a.edges b.edges p q)) 0 (List.range b.states.toNat)
   rw [List.length_range] at this
   exact this
  have he : ent (difM a.edges b.edges a.states.toNat b.states.toNat 0) p q = b01 (lkB a.edges b.edges p q) := by
   unfold ent difM baseM
   simp only [Int.toNat_natCast,List.getD_eq_getElem?_getD,List.getElem?_map,List.getElem?_range hp,Option.map_some,Option.getD_some,hbl,List.getElem?_range hq]
  rw [he]
  have h1 := lst_zero (a := a.edges) (b := b.edges) (k := 1) (p := p) (q := q)
  have h2 := lst_succ (a := a.edges) (b := b.edges) (m := 0) (k := 1) (p := p) (q := q)
  by_cases hl : lkB a.edges b.edges p q = true
  ·have := h2.2 ⟨Nat.le_refl _,trivial,(lkB_iff ha.apt hb.apt).1 hl⟩
   rw [this,hl]
   rfl
  ·have hz := h1.2 (Classical.byContradiction fun hn => hl ((lkB_iff ha.apt hb.apt).2 hn))
   rw [hz]
   simp [b01,hl]
 | j + 1 => by
  obtain ⟨h1,h2⟩ := difM_ent ha hb j
  obtain ⟨g1,g2⟩ := round_ent ha hb (k := ((j + 1 : Nat) : Int)) (by omega) h1
  refine ⟨g1,fun p q hp hq => ?_⟩
  have hg := g2 p q hp hq
  have hd : difM a.edges b.edges a.states.toNat b.states.toNat (j + 1) = roundM a.edges b.edges a.states.toNat b.states.toNat ((j + 1 : Nat) : Int) (difM a.edges b.edges a.states.toNat b.states.toNat j) := rfl
  rw [hd,hg]
  unfold newE
  rw [h2 p q hp hq]
  by_cases h0 : lst a.edges b.edges (j + 1) p q = 0
  ·have hev := lst_zero.1 h0
   have hn : (nearE a.edges b.edges (difM a.edges b.edges a.states.toNat b.states.toNat j) p q ((j + 1 : Nat) : Int)).isSome = true ↔ ¬ Ev a.edges b.edges (j + 2) p q := by
    rw [nearE_iff ha.apt]
    constructor
    ·rintro ⟨d,x,t,u,e1,e2,e3⟩ hc
     have ht := ha.next_in e1
     have hu := hb.next_in e2
     unfold Auto.inr at ht hu
     have h3 := h2 t.toNat u.toNat (by omega) (by omega)
     rw [show ((t.toNat : Nat) : Int) = t by omega,show ((u.toNat : Nat) : Int) = u by omega] at h3
     rw [h3] at e3
     have h4 := (lst_succ (m := j)).1 (show lst a.edges b.edges (j + 1) t u = j + 1 by omega)
     have h5 := hc d x
     rw [e1,e2] at h5
     exact h4.2.2 h5
    ·intro hc
     apply Classical.byContradiction
     intro hno
     apply hc
     intro d x
     have h6 := hev d x
     cases e1 : nextE p d x a.edges with
     | none =>
      cases e2 : nextE q d x b.edges with
      | none => trivial
      | some u => rw [e1,e2] at h6; exact h6
     | some t =>
      cases e2 : nextE q d x b.edges with
      | none => rw [e1,e2] at h6; exact h6
      | some u =>
       rw [e1,e2] at h6
       show Ev a.edges b.edges (j + 1) t u
       apply Classical.byContradiction
       intro h7
       apply hno
       have ht := ha.next_in e1
       have hu := hb.next_in e2
       unfold Auto.inr at ht hu
       have h3 := h2 t.toNat u.toNat (by omega) (by omega)
       rw [show ((t.toNat : Nat) : Int) = t by omega,show ((u.toNat : Nat) : Int) = u by omega] at h3
       exact ⟨d,x,t,u,e1,e2,by rw [h3,(lst_succ (m := j)).2 ⟨Nat.le_refl _,h6,h7⟩]⟩
   by_cases hE : Ev a.edges b.edges (j + 2) p q
   ·rw [if_neg (fun hc => (hn.1 hc.1) hE),h0,lst_zero.2 hE]
   ·rw [if_pos ⟨hn.2 hE,by rw [h0]; rfl⟩,(lst_succ (m := j + 1)).2 ⟨Nat.le_refl _,hev,hE⟩]
    omega
  ·have hne : ¬ ((lst a.edges b.edges (j + 1) p q : Int) = 0) := by omega
   rw [if_neg (fun hc => hne hc.2)]
   congr 1
   obtain ⟨m,hm⟩ : ∃ m,lst a.edges b.edges (j + 1) p q = m + 1 := ⟨lst a.edges b.edges (j + 1) p q - 1,by omega⟩
   obtain ⟨k1,k2,k3⟩ := lst_succ.1 hm
   rw [hm]
   exact (lst_succ.2 ⟨by omega,k2,k3⟩).symm
theorem differ_zero {a b : Auto} (ha : a.Good) (hb : b.Good) {p q : Int} (hp : a.inr p) (hq : b.inr q) : ent (differ a b) p q = 0 ↔ ∀ j,Ev a.edges b.edges j p q := by
 have hp' := hp
 have hq' := hq
 unfold Auto.inr at hp' hq'
 have h := (difM_ent ha hb (a.states.toNat * b.states.toNat)).2 p.toNat q.toNat (by omega) (by omega)
 rw [show ((p.toNat : Nat) : Int) = p by omega,show ((q.toNat : Nat) : Int) = q by omega] at h
 unfold differ
 rw [h]
 constructor
 ·intro h0
  exact Ev.stable ha hb hp hq ((lst_zero.1 (show lst a.edges b.edges _ p q = 0 by omega)).down)
 ·intro hall
  rw [lst_zero.2 (hall _)]
  rfl
end Go.Pv
namespace Go.Pv
theorem leastC_spec (es : List Edge) (c : List Int) (i : Nat) : (leastC es c i = i ∨ simB es c (leastC es c i) i = true) ∧ leastC es c i ≤ i ∧ ∀ k,k < leastC es c i → simB es c k i = false := by
 unfold leastC
 cases h : (List.range i).find? fun k => simB es c k i with
 | none =>
  rw [List.find?_eq_none] at h
  exact ⟨.inl rfl,Nat.le_refl _,fun k hk => by simpa using h k (List.mem_range.2 hk)⟩
 | some l =>
  rw [List.find?_eq_some_iff_getElem] at h
  obtain ⟨h1,j,hj,h2,h3⟩ := h
  simp only [List.getElem_range] at h2 h3
  simp only [List.length_range] at hj
  subst h2
  exact ⟨.inr (by simpa using h1),by simp; omega,fun k hk => by simpa using h3 k hk⟩
theorem movesL_mem {es : List Edge} {s : Int} {c : List Int} {m : Mv} : m ∈ movesL es s c ↔ ∃ t,(⟨s,m.send,m.label,t⟩ : Edge) ∈ es ∧ m.cls = c.getD t.toNat 0 := by
 unfold movesL
 rw [List.mem_map]
 constructor
 ·rintro ⟨e,he,rfl⟩
  obtain ⟨h1,h2⟩ := List.mem_filter.1 he
  simp only [beq_iff_eq] at h2
  subst h2
  exact ⟨e.to,h1,rfl⟩
 ·rintro ⟨t,h1,h2⟩
  refine ⟨_,List.mem_filter.2 ⟨h1,by simp⟩,?_⟩
  cases m
  simp_all
def Mv.lt (a b : Mv) : Bool := if a.send ≠ b.send then b.send else decide (a.label < b.label)
theorem movesL_pw {es : List Edge} (h : es.Pairwise (fun x y => Edge.lt x y = true)) (s : Int) (c : List Int) : (movesL es s c).Pairwise (fun x y => Mv.lt x y = true) := by
 unfold movesL
 rw [List.pairwise_map]
 refine List.Pairwise.imp_of_mem (fun {x y} hx hy hxy => ?_) (h.filter _)
 have hx' := (List.mem_filter.1 hx).2
 have hy' := (List.mem_filter.1 hy).2
 simp only [beq_iff_eq] at hx' hy'
 unfold Edge.lt at hxy
 rw [hx',hy'] at hxy
 simpa [Mv.lt] using hxy
theorem movesL_eq {es : List Edge} (h : es.Pairwise (fun x y => Edge.lt x y = true)) {p q : Int} {c : List Int} : movesL es p c = movesL es q c ↔ ∀ d x,(nextE p d x es).map (fun t => c.getD t.toNat 0) = (nextE q d x es).map (fun t => c.getD t.toNat 0) := by
 have ha : es.Pairwise (apt Edge.lt) := h.imp .inl
 have key : ∀ {p q : Int},movesL es p c = movesL es q c → ∀ d x t,nextE p d x es = some t → ∃ u,nextE q d x es = some u ∧ c.getD u.toNat 0 = c.getD t.toNat 0 := fun {p q} he d x t ht => by
  have hm : (⟨d,x,c.getD t.toNat 0⟩ : Mv) ∈ movesL es p c := movesL_mem.2 ⟨t,(nextE_some ha).1 ht,rfl⟩
  rw [he] at hm
  obtain ⟨u,h1,h2⟩ := movesL_mem.1 hm
  exact ⟨u,(nextE_some ha).2 h1,h2.symm⟩
 constructor
 ·intro he d x
  cases hp : nextE p d x es with
  | none =>
   cases hq : nextE q d x es with
   | none => rfl
   | some u =>
    obtain ⟨t,h1,_⟩ := key he.symm d x u hq
    rw [hp] at h1
    cases h1
  | some t =>
   obtain ⟨u,h1,h2⟩ := key he d x t hp
   rw [h1]
   simp only [Option.map_some,h2]
 ·intro hh
  refine pw_ext (r := fun x y => Mv.lt x y = true) (fun x => by simp [Mv.lt]) (fun x y z h1 h2 => ?_) (movesL_pw h p c) (movesL_pw h q c) fun m => ?_
  ·unfold Mv.lt at *
   by_cases b1 : x.send = y.send <;> by_cases b2 : y.send = z.send <;> simp_all <;> (try omega)
  ·have half : ∀ {p q : Int},(∀ d x,(nextE p d x es).map (fun t => c.getD t.toNat 0) = (nextE q d x es).map (fun t => c.getD t.toNat 0)) → m ∈ movesL es p c → m ∈ movesL es q c := fun {p q} hh hm => by
    obtain ⟨t,h1,h2⟩ := movesL_mem.1 hm
    have h3 := hh m.send m.label
    rw [(nextE_some ha).2 h1] at h3
    cases hq : nextE q m.send m.label es with
    | none => rw [hq] at h3; cases h3
    | some u =>
     rw [hq] at h3
     simp only [Option.map_some,Option.some.injEq] at h3
     exact movesL_mem.2 ⟨u,(nextE_some ha).1 hq,h2.trans h3⟩
   exact ⟨half hh,half fun d x => (hh d x).symm⟩
structure Lst (R : Nat → Nat → Prop) (p l : Nat) : Prop where
 rel : R l p
 min : ∀ k,k < l → ¬ R k p
theorem Lst.uniq {R S : Nat → Nat → Prop} {p l m : Nat} (h : Lst R p l) (h2 : Lst S p m) (hl : R l p → S l p) (hm : S m p → R m p) : l = m := by
 rcases Nat.lt_trichotomy l m with h3 | h3 | h3
 ·exact (h2.min l h3 (hl h.rel)).elim
 ·exact h3
 ·exact (h.min m h3 (hm h2.rel)).elim
theorem cls_spec {a : Auto} (ha : a.Good) : ∀ j,
  (∀ p q : Nat,p < a.states.toNat → q < a.states.toNat → ((cls a.states.toNat a.edges j).getD p 0 = (cls a.states.toNat a.edges j).getD q 0 ↔ Ev a.edges a.edges j p q)) ∧
  (∀ p : Nat,p < a.states.toNat → leastC a.edges (cls a.states.toNat a.edges j) p ≤ p ∧ Lst (fun k i => Ev a.edges a.edges (j + 1) k i) p (leastC a.edges (cls a.states.toNat a.edges j) p)) := by
 have second : ∀ j,(∀ p q : Nat,p < a.states.toNat → q < a.states.toNat → ((cls a.states.toNat a.edges j).getD p 0 = (cls a.states.toNat a.edges j).getD q 0 ↔ Ev a.edges a.edges j p q)) →
   ∀ p : Nat,p < a.states.toNat → leastC a.edges (cls a.states.toNat a.edges j) p ≤ p ∧ Lst (fun k i => Ev a.edges a.edges (j + 1) k i) p (leastC a.edges (cls a.states.toNat a.edges j) p) := by
  intro j hj p hp
  have hsim : ∀ k i : Nat,k < a.states.toNat → i < a.states.toNat → (simB a.edges (cls a.states.toNat a.edges j) k i = true ↔ Ev a.edges a.edges (j + 1) k i) := fun k i hk hi => by
   unfold simB
   rw [Bool.and_eq_true,decide_eq_true_eq,decide_eq_true_eq,hj k i hk hi,movesL_eq ha.asc]
   have hcl : ∀ {t u : Int},a.inr t → a.inr u → ((cls a.states.toNat a.edges j).getD t.toNat 0 = (cls a.states.toNat a.edges j).getD u.toNat 0 ↔ Ev a.edges a.edges j t u) := fun {t u} ht hu => by
    unfold Auto.inr at ht hu
    have := hj t.toNat u.toNat (by omega) (by omega)
    rw [show ((t.toNat : Nat) : Int) = t by omega,show ((u.toNat : Nat) : Int) = u by omega] at this
    exact this
   constructor
   ·rintro ⟨_,h2⟩ d x
    have h3 := h2 d x
    cases e1 : nextE k d x a.edges <;> cases e2 : nextE i d x a.edges <;> rw [e1,e2] at h3 <;> first | trivial | cases h3 | skip
    simp only [Option.map_some,Option.some.injEq] at h3
    exact (hcl (ha.next_in e1) (ha.next_in e2)).1 h3
   ·intro h
    refine ⟨h.down,fun d x => ?_⟩
    have h3 := h d x
    cases e1 : nextE k d x a.edges <;> cases e2 : nextE i d x a.edges <;> rw [e1,e2] at h3 <;> first | rfl | (exact h3.elim) | skip
    simp only [Option.map_some,Option.some.injEq]
    exact (hcl (ha.next_in e1) (ha.next_in e2)).2 h3
  obtain ⟨h1,h2,h3⟩ := leastC_spec a.edges (cls a.states.toNat a.edges j) p
  refine ⟨h2,?_,fun k hk hE => ?_⟩
  ·rcases h1 with h1 | h1
   ·rw [h1]
    exact Ev.refl _ _ _
   ·exact (hsim _ p (by omega) hp).1 h1
  ·have := h3 k hk
   rw [(hsim k p (by omega) hp).2 hE] at this
   cases this
 intro j
 induction j with
 | zero =>
  have h0 : ∀ p q : Nat,p < a.states.toNat → q < a.states.toNat → ((cls a.states.toNat a.edges 0).getD p 0 = (cls a.states.toNat a.edges 0).getD q 0 ↔ Ev a.edges a.edges 0 p q) := fun p q hp hq => by
   simp [cls,Ev,hp,hq]
  exact ⟨h0,second 0 h0⟩
 | succ j ih =>
  have hget : ∀ p : Nat,p < a.states.toNat → (cls a.states.toNat a.edges (j + 1)).getD p 0 = (leastC a.edges (cls a.states.toNat a.edges j) p : Int) := fun p hp => by
   show (stepC _ _ _).getD p 0 = _
   unfold stepC
   simp [hp]
  have h0 : ∀ p q : Nat,p < a.states.toNat → q < a.states.toNat → ((cls a.states.toNat a.edges (j + 1)).getD p 0 = (cls a.states.toNat a.edges (j + 1)).getD q 0 ↔ Ev a.edges a.edges (j + 1) p q) := fun p q hp hq => by
   rw [hget p hp,hget q hq]
   obtain ⟨hp1,hp2⟩ := ih.2 p hp
   obtain ⟨hq1,hq2⟩ := ih.2 q hq
   constructor
   ·intro he
    have he' : leastC a.edges (cls a.states.toNat a.edges j) p = leastC a.edges (cls a.states.toNat a.edges j) q := by omega
    have h1 := hp2.rel
    rw [he'] at h1
    exact Ev.trans (Ev.symm h1) hq2.rel
   ·intro hE
    have h1 : ¬ leastC a.edges (cls a.states.toNat a.edges j) p < leastC a.edges (cls a.states.toNat a.edges j) q := fun hlt => hq2.min _ hlt (Ev.trans hp2.rel hE)
    have h2 : ¬ leastC a.edges (cls a.states.toNat a.edges j) q < leastC a.edges (cls a.states.toNat a.edges j) p := fun hlt => hp2.min _ hlt (Ev.trans hq2.rel (Ev.symm hE))
    omega
  exact ⟨h0,second (j + 1) h0⟩
theorem cls_get (n : Nat) (es : List Edge) (j : Nat) {p : Nat} (hp : p < n) : (cls n es (j + 1))[p]? = some (leastC es (cls n es j) p : Int) := by
 show (stepC _ _ _)[p]? = _
 unfold stepC
 simp [hp]
theorem least_exists {P : Nat → Prop} : ∀ {n : Nat},P n → ∃ m,P m ∧ ∀ k,k < m → ¬ P k := by
 intro n
 induction n using Nat.strongRecOn with
 | _ n ih =>
  intro h
  by_cases hk : ∃ k,k < n ∧ P k
  ·obtain ⟨k,h1,h2⟩ := hk
   exact ih k h1 h2
  ·exact ⟨n,h,fun k h1 h2 => hk ⟨k,h1,h2⟩⟩
theorem cls_rest {a : Auto} (ha : a.Good) : ∃ J,cls a.states.toNat a.edges (J + 1) = cls a.states.toNat a.edges J ∧ ∀ j,j < J → cls a.states.toNat a.edges (j + 1) ≠ cls a.states.toNat a.edges j := by
 refine least_exists (P := fun J => cls a.states.toNat a.edges (J + 1) = cls a.states.toNat a.edges J) (n := a.states.toNat * a.states.toNat + 1) ?_
 apply List.ext_getElem?
 intro p
 rcases Nat.lt_or_ge p a.states.toNat with hp | hp
 ·rw [cls_get _ _ _ hp,cls_get _ _ _ hp]
  have h1 := ((cls_spec ha (a.states.toNat * a.states.toNat + 1)).2 p hp)
  have h2 := ((cls_spec ha (a.states.toNat * a.states.toNat)).2 p hp)
  congr 2
  refine h1.2.uniq h2.2 (fun h => h.down) fun h => ?_
  refine Ev.stable ha ha ?_ ?_ h.down _
  ·unfold Auto.inr; omega
  ·unfold Auto.inr; omega
 ·rw [List.getElem?_eq_none (by rw [cls_len]; exact hp),List.getElem?_eq_none (by rw [cls_len]; exact hp)]
def leastR (D : List (List Int)) (n : Nat) (p : Nat) : Nat := ((List.range n).find? fun (q : Nat) => decide (ent D p q = 0)).getD 0
def Auto.classes (a : Auto) : List Int := (List.range a.states.toNat).map fun p => (leastR (differ a a) a.states.toNat p : Int)
theorem classes_len (a : Auto) : a.classes.length = a.states.toNat := by simp [Auto.classes]
theorem leastR_spec {a : Auto} (ha : a.Good) {p : Nat} (hp : p < a.states.toNat) : leastR (differ a a) a.states.toNat p ≤ p ∧ Lst (fun k i => ∀ j,Ev a.edges a.edges j k i) p (leastR (differ a a) a.states.toNat p) ∧ ent (differ a a) p (leastR (differ a a) a.states.toNat p : Nat) = 0 ∧ ∀ k,k < leastR (differ a a) a.states.toNat p → ent (differ a a) p k ≠ 0 := by
 have hz : ∀ q : Nat,q < a.states.toNat → (ent (differ a a) p q = 0 ↔ ∀ j,Ev a.edges a.edges j q p) := fun q hq => by
  rw [differ_zero ha ha (by unfold Auto.inr; omega) (by unfold Auto.inr; omega)]
  exact ⟨fun h j => (h j).symm,fun h j => (h j).symm⟩
 unfold leastR
 cases h : (List.range a.states.toNat).find? fun (q : Nat) => decide (ent (differ a a) p q = 0) with
 | none =>
  rw [List.find?_eq_none] at h
  have := h p (List.mem_range.2 hp)
  exact (this (by simpa using (hz p hp).2 fun j => Ev.refl _ j _)).elim
 | some l =>
  rw [List.find?_eq_some_iff_getElem] at h
  obtain ⟨h1,j,hj,h2,h3⟩ := h
  simp only [List.getElem_range] at h2 h3
  simp only [List.length_range] at hj
  subst h2
  simp only [Option.getD_some]
  have h1' : ent (differ a a) p j = 0 := by simpa using h1
  have h3' : ∀ k,k < j → ent (differ a a) p k ≠ 0 := fun k hk => by simpa using h3 k hk
  refine ⟨?_,⟨(hz j hj).1 h1',fun k hk hE => h3' k hk ((hz k (by omega)).2 hE)⟩,h1',h3'⟩
  rcases Nat.lt_or_ge p j with h4 | h4
  ·exact (h3' p h4 ((hz p hp).2 fun j => Ev.refl _ j _)).elim
  ·exact h4
theorem cls_classes {a : Auto} (ha : a.Good) {J : Nat} (hJ : cls a.states.toNat a.edges (J + 1) = cls a.states.toNat a.edges J) : cls a.states.toNat a.edges J = a.classes := by
 rw [← hJ]
 apply List.ext_getElem?
 intro p
 rcases Nat.lt_or_ge p a.states.toNat with hp | hp
 ·rw [cls_get _ _ _ hp]
  unfold Auto.classes
  rw [List.getElem?_map,List.getElem?_range hp]
  simp only [Option.map_some]
  congr 2
  obtain ⟨h1,h2⟩ := (cls_spec ha J).2 p hp
  obtain ⟨g1,g2,_⟩ := leastR_spec ha hp
  refine h2.uniq g2 (fun h => ?_) fun h => h _
  refine Ev.fix ha ha (j := J) (fun s t hs ht hE => ?_) (by unfold Auto.inr; omega) (by unfold Auto.inr; omega) h.down
  unfold Auto.inr at hs ht
  have e1 := (cls_spec ha J).1 s.toNat t.toNat (by omega) (by omega)
  have e2 := (cls_spec ha (J + 1)).1 s.toNat t.toNat (by omega) (by omega)
  rw [show ((s.toNat : Nat) : Int) = s by omega,show ((t.toNat : Nat) : Int) = t by omega] at e1 e2
  rw [hJ] at e2
  exact e2.1 (e1.2 hE)
 ·rw [List.getElem?_eq_none (by rw [cls_len]; exact hp),List.getElem?_eq_none (by rw [classes_len]; exact hp)]
end Go.Pv
namespace Go.Pv
@[go_sem] theorem r10 (t : Nat) (a : Auto) (hl : a.edges.length ≤ 2000000000) : res A PrA 10 [.agg [.int .i64 a.states,.int .i64 a.start,.lst t (a.edges.map Edge.c)]] = some (if a.err = 0 then [.lst 0 (ints a.classes),.int .i64 0] else [.lst 0 [],.int .i64 a.err]) := by
 refine res_of a10 rfl rfl ?_
 simp only [F10]; try delta sS tT zZ nN gG bB pZ
 simp (disch := omega) only [go_sem]
 refine Br.ofP (fun h1 => ?_) (fun h1 => ?_) <;> simp (disch := omega) only [go_sem,h1]
 have hg := Auto.good_iff.1 h1
 have hmx := hg.mx
 have hst := hg.st
 obtain ⟨J,hJ,hb⟩ := cls_rest hg
 have hto : ∀ e ∈ a.edges,0 ≤ e.to ∧ e.to < (a.states.toNat : Int) := fun e he => by have := fits_iff.1 (hg.fit e he); omega
 have h30 := r30 t a.states.toNat J a.start a.edges (by omega) hl hto hJ hb
 rw [cls_classes hg hJ,show ((a.states.toNat : Nat) : Int) = a.states by omega] at h30
 simp (disch := omega) only [go_sem,h30]
 rw [if_pos h1]
def Auto.cl (a : Auto) (v : Int) : Int := a.classes.getD v.toNat 0
def Auto.merged (a : Auto) : Auto := ⟨a.states,a.cl a.start,(a.edges.filter fun e => a.cl e.fr == e.fr).map fun e => ⟨e.fr,e.send,e.label,a.cl e.to⟩⟩
def Auto.mini (a : Auto) : Auto := a.merged.trim
theorem Auto.Good.cl_in {a : Auto} (h : a.Good) {v : Int} (hv : a.inr v) : a.classes[v.toNat]? = some (a.cl v) ∧ a.inr (a.cl v) ∧ a.cl v ≤ v := by
 unfold Auto.inr at hv
 have hvn : v.toNat < a.states.toNat := by omega
 obtain ⟨e1,_⟩ := leastR_spec h hvn
 have hcg : a.classes[v.toNat]? = some (leastR (differ a a) a.states.toNat v.toNat : Int) := by
  unfold Auto.classes
  rw [List.getElem?_map,List.getElem?_range hvn]
  rfl
 have hc : a.cl v = (leastR (differ a a) a.states.toNat v.toNat : Int) := by
  unfold Auto.cl
  rw [List.getD_eq_getElem?_getD,hcg]
  rfl
 unfold Auto.inr
 exact ⟨by rw [hcg,hc],by omega,by omega⟩
theorem Auto.Good.merged {a : Auto} (h : a.Good) : a.merged.Good where
 st := (h.cl_in h.st).2.1
 mx := h.mx
 len := by
  show ((a.edges.filter _).map _).length ≤ 100
  rw [List.length_map]
  have := List.length_filter_le (fun e : Edge => a.cl e.fr == e.fr) a.edges
  have := h.len
  omega
 fit x hx := by
  obtain ⟨e,he,rfl⟩ := List.mem_map.1 hx
  have hf := fits_iff.1 (h.fit e (List.mem_filter.1 he).1)
  have := (h.cl_in (v := e.to) ⟨hf.2.2.1,hf.2.2.2.1⟩).2.1
  rw [fits_iff]
  exact ⟨hf.1,hf.2.1,this.1,this.2,hf.2.2.2.2⟩
 asc := by
  show ((a.edges.filter _).map _).Pairwise _
  rw [List.pairwise_map]
  exact (h.asc.filter _).imp fun {x y} hxy => hxy
end Go.Pv
namespace Go.Pv
theorem merged_fold (a : Auto) : a.edges.foldl (fun o e => if a.cl e.fr = e.fr then o ++ [(⟨e.fr,e.send,e.label,a.cl e.to⟩ : Edge)] else o) [] = a.merged.edges := by
 have h := fold_filter (fun e : Edge => a.cl e.fr == e.fr) (fun e => (⟨e.fr,e.send,e.label,a.cl e.to⟩ : Edge)) a.edges []
 rw [List.nil_append] at h
 rw [← show _ = a.merged.edges from h]
 congr 1
 funext o e
 by_cases hc : a.cl e.fr = e.fr
 ·simp [hc]
 ·simp [hc]
set_option maxHeartbeats 4000000 in
@[go_sem] theorem r12 (t : Nat) (a : Auto) (hl : a.edges.length ≤ 2000000000) : res A PrA 12 [.agg [.int .i64 a.states,.int .i64 a.start,.lst t (a.edges.map Edge.c)]] = some (if a.err = 0 then [.agg [.int .i64 a.mini.states,.int .i64 0,.lst 0 (edgs a.mini.edges)],.int .i64 0] else [.agg [.int .i64 0,.int .i64 0,.lst 0 []],.int .i64 a.err]) := by
 refine res_of a12 rfl rfl ?_
 simp only [F12]; try delta sS tT zZ nN gG bB pZ
 by_cases h1 : a.err = 0
 case neg => simp (disch := omega) only [go_sem,h1]
 have hg := Auto.good_iff.1 h1
 have hst := hg.st
 have hmx := hg.mx
 obtain ⟨c1,c2,c3⟩ := hg.cl_in hg.st
 have hcl := classes_len a
 simp (disch := omega) only [go_sem,h1,idxR_int,c1]
 refine W.fold a.edges (fun o e => if a.cl e.fr = e.fr then o ++ [(⟨e.fr,e.send,e.label,a.cl e.to⟩ : Edge)] else o) [] (fun k o => ⟨[(2,.ptr 2 0),(4,.pv (.lst 0 (ints a.classes))),(6,.ptr 6 0),(27,.pv (.lst t (a.edges.map Edge.c))),(28,.pv (.int .i64 a.edges.length)),(29,.pv (.int .i64 k))],⟨[(2,[.pv (.int .i64 0),.pv (.int .i64 0),.tl []]),(6,[.pv (.int .i64 a.states),.pv (.int .i64 (a.cl a.start)),grV 0 (edgs o)])],grA 4 (edgs o),[]⟩⟩) (fun k o => o.length ≤ k) rfl (Nat.le_refl _) (fun k e o he hk _ hi => ?_) (fun o ho hi => ?_)
 ·have hf := fits_iff.1 (hg.fit e (List.mem_of_getElem? he))
  obtain ⟨d1,d2,d3⟩ := hg.cl_in (v := e.fr) ⟨hf.1,hf.2.1⟩
  obtain ⟨e1,e2,e3⟩ := hg.cl_in (v := e.to) ⟨hf.2.2.1,hf.2.2.2.1⟩
  simp (disch := omega) only [go_sem]
  refine Br.ofP (fun h => ?_) (fun h => (h (by omega)).elim)
  simp (disch := omega) only [go_sem,he,idxR_int,d1]
  refine Br.ofP (fun f => ?_) (fun f => ?_) <;> simp (disch := omega) only [go_sem,f,idxR_int,e1]
  ·refine foldK.of ?_ (by rw [if_pos f]; simp; omega)
   show _ = St.mk _ _
   rw [if_pos f]
   rfl
  ·refine foldK.of ?_ (by rw [if_neg f]; omega)
   show _ = St.mk _ _
   rw [if_neg f]
   rfl
 ·rw [merged_fold] at ho
  subst ho
  have hm := hg.merged
  have hme := Auto.good_iff.2 hm
  have hml := hm.len
  have hmm : (⟨a.states,a.cl a.start,a.merged.edges⟩ : Auto) = a.merged := rfl
  simp (disch := omega) only [go_sem,hmm,hme]
  rw [if_pos h1]
  rfl
end Go.Pv
namespace Go.Pv
theorem r77 (g t u : Nat) (cs : List PV) (l : List Edge) (p : Edge → Bool) (hl : l.length ≤ 2 ^ 63 - 1) (hi : inls A g = false) (hp : PrA g = none) (ht : takes A g = false) (hf : ∀ x ∈ l,res A PrA g [.agg [.int .i64 x.fr,.bool x.send,.int .i64 x.label,.int .i64 x.to],.ro u cs] = some [.bool (p x)]) : res A PrA 77 [.lst t (edgs l),.func g [.ro u cs]] = some [.int .i64 (idxP p l)] := by
 refine res_of a77 rfl rfl ?_
 simp only [F77]; try delta sS tT zZ nN gG bB pZ
 simp (disch := omega) only [go_sem]
 refine W.find l p (fun k => ⟨[(0,.pv (.lst t (edgs l))),(1,.pv (.func g [.ro u cs])),(7,.pv (.int .i64 l.length)),(8,.pv (.int .i64 k))],⟨[],[],[]⟩⟩) rfl (fun k x hx hk hfd => ?_) (fun hn => ?_)
 ·have hfx := hf x (List.mem_of_getElem? hx)
  simp (disch := omega) only [go_sem]
  refine Br.ofP (fun h => ?_) (fun h => (h (by omega)).elim)
  simp (disch := omega) only [go_sem,hx,CW_none hi hp ht,hfx]
  refine Br.of (fun h2 => ?_) (fun h2 => ?_) <;> simp (disch := omega) only [go_sem]
  ·rw [(hfd h2).idxP]
  ·exact findK.of h2 rfl
 ·simp (disch := omega) only [go_sem]
  rw [hn.idxP]
end Go.Pv
namespace Go.Pv
theorem rowsFit_rows {k : Nat} {rows : List (List PV)} (h : ∀ r ∈ rows,r.length = k) : rowsFit k (.inl rows) = true := by
 simp only [rowsFit,List.all_eq_true,beq_iff_eq]
 exact h
@[go_sem] theorem rowsFit_ints (l : List Int) : rowsFit 1 (.inl (ints l)) = true := rowsFit_rows fun r hr => by
 obtain ⟨x,_,rfl⟩ := List.mem_map.1 hr
 rfl
@[go_sem] theorem sl_lst_from (g : Opd → V) (h : Heap) (k t : Nat) (rows : List (List PV)) (lo : Opd) :
  sliceV g h k (.pv (.lst t rows)) (some lo) none none = if rowsFit k (.inl rows) = true then (intOf (g lo)).bind fun i => chkR i rows.length (.pv (.lst t (rows.drop i.toNat)),{}) else none := by
 cases hf : rowsFit k (.inl rows) with
 | false => simp [sliceV,hf]
 | true =>
  cases hj : intOf (g lo) with
  | none => simp [sliceV,hf,bounds,bound,hj]
  | some i => by_cases h0 : 0 ≤ i ∧ i ≤ rows.length <;> simp [sliceV,hf,bounds,bound,hj,h0,chkR]
end Go.Pv
namespace Go.Pv
theorem r198 {Pr : Prims} (b : Bool) : res A Pr 198 [.bool b] = some [.int .i64 (if b = true then 1 else 0)] := by
 refine res_of a198 rfl rfl ?_
 simp only [F198]; try delta sS tT zZ nN gG bB pZ
 cases b <;> simp (disch := omega) only [go_sem]
theorem r197 {Pr : Prims} (h66 : Pr 66 = none) (h60 : Pr 60 = none) (h59 : Pr 59 = none) (h198 : Pr 198 = none) (a b : Mov) : res A Pr 197 [.agg a.c,.agg b.c] = some [.int .i64 (Mov.cmp a b)] := by
 refine res_of a197 rfl rfl ?_
 simp only [F197]; try delta sS tT zZ nN gG bB pZ
 have e59 := fun x y z => r59 (Pr := Pr) 0 [x,y,z] (by simp)
 simp only [ints,List.map_cons,List.map_nil] at e59
 simp (disch := omega) only [go_sem,CW_CN (by kernel_rfl) h60 tk60,CW_CN (by kernel_rfl) h59 tk59,CW_CN (by kernel_rfl) h198 tk198,r60 h66,r198,e59]
 unfold Mov.cmp Edge.cmp Edge.side Mov.e
 by_cases h : cmpI a.label b.label = 0 <;> simp [orI,h]
def sysErr (a b : Auto) (cap : Int) : Int := if a.err ≠ 0 then a.err else if b.err ≠ 0 then b.err else if cap < 1 ∨ 3 < cap then 7 else 0
set_option maxHeartbeats 1000000 in
@[go_sem] theorem r152 (t1 t2 : Nat) (a b : Auto) (cap : Int) (ha : a.edges.length ≤ 2 ^ 63 - 1) (hb : b.edges.length ≤ 2 ^ 63 - 1) : res A PrA 152 [.agg [.int .i64 a.states,.int .i64 a.start,.lst t1 (a.edges.map Edge.c),.int .i64 b.states,.int .i64 b.start,.lst t2 (b.edges.map Edge.c),.int .i64 cap]] = some [.int .i64 (sysErr a b cap)] := by
 refine res_of a152 rfl rfl ?_
 simp only [F152]; try delta sS tT zZ nN gG bB pZ
 unfold sysErr
 simp (disch := omega) only [go_sem]
 by_cases h1 : a.err = 0
 ·by_cases h2 : b.err = 0
  ·by_cases h3 : cap < 1
   ·simp (disch := omega) only [go_sem,h1,h2,h3]
    simp
   ·by_cases h4 : 3 < cap
    ·simp (disch := omega) only [go_sem,h1,h2,h3,h4]
     simp
    ·simp (disch := omega) only [go_sem,h1,h2,h3,h4]
     simp
  ·simp (disch := omega) only [go_sem,h1,h2]
   simp [h2]
 ·simp (disch := omega) only [go_sem,h1]
  simp [h1]
@[go_sem] theorem r155 (t1 t2 : Nat) (a b : Auto) (cap : Int) : res A PrA 155 [.agg [.int .i64 a.states,.int .i64 a.start,.lst t1 (a.edges.map Edge.c),.int .i64 b.states,.int .i64 b.start,.lst t2 (b.edges.map Edge.c),.int .i64 cap]] = some [.agg [.int .i64 a.start,.int .i64 b.start,.lst 0 [],.lst 0 []]] := by
 refine res_of a155 rfl rfl ?_
 simp only [F155]; try delta sS tT zZ nN gG bB pZ
 simp (disch := omega) only [go_sem]
def badL (x : Int) : Bool := decide (x < 1) || decide (1000 < x)
def chanB (l : List Int) (cap : Int) : Bool := decide ((l.length : Int) ≤ cap) && !l.any badL
theorem r188 (x : Int) : res A PrA 188 [.int .i64 x] = some [.bool (badL x)] := by
 refine res_of a188 rfl rfl ?_
 simp only [F188]; try delta sS tT zZ nN gG bB pZ
 simp (disch := omega) only [go_sem]
 unfold badL
 by_cases c1 : x < 1
 ·simp (disch := omega) only [go_sem,c1]
 ·simp (disch := omega) only [go_sem,c1]
theorem r117c (g t : Nat) (l : List Int) (p : Int → Bool) (hl : l.length ≤ 2 ^ 63 - 1) (hi : inls A g = false) (hp : PrA g = none) (ht : takes A g = false) (hf : ∀ x ∈ l,res A PrA g [.int .i64 x] = some [.bool (p x)]) : res A PrA 117 [.lst t (ints l),.func g []] = some [.int .i64 (idxP p l)] := by
 refine res_of a117 rfl rfl ?_
 simp only [F117]; try delta sS tT zZ nN gG bB pZ
 simp (disch := omega) only [go_sem]
 refine W.find l p (fun k => ⟨[(0,.pv (.lst t (ints l))),(1,.pv (.func g [])),(7,.pv (.int .i64 l.length)),(8,.pv (.int .i64 k))],⟨[],[],[]⟩⟩) rfl (fun k x hx hk hfd => ?_) (fun hn => ?_)
 ·have hfx := hf x (List.mem_of_getElem? hx)
  simp (disch := omega) only [go_sem]
  refine Br.ofP (fun h => ?_) (fun h => (h (by omega)).elim)
  simp (disch := omega) only [go_sem,hx,CW_none hi hp ht,hfx]
  refine Br.of (fun h2 => ?_) (fun h2 => ?_) <;> simp (disch := omega) only [go_sem]
  ·rw [(hfd h2).idxP]
  ·exact findK.of h2 rfl
 ·simp (disch := omega) only [go_sem]
  rw [hn.idxP]
theorem r108c (t : Nat) (l : List Int) (hl : l.length ≤ 2 ^ 63 - 1) : res A PrA 108 [.lst t (ints l),.func 188 []] = some [.bool (l.any badL)] := by
 refine res_of a108 rfl rfl ?_
 simp only [F108]; try delta sS tT zZ nN gG bB pZ
 have := r117c 188 t l badL hl (by kernel_rfl) (by kernel_rfl) (by kernel_rfl) (fun x _ => r188 x)
 simp (disch := omega) only [go_sem,this]
 rw [idxP_pos]
@[go_sem] theorem r177 (t : Nat) (l : List Int) (cap : Int) (hl : l.length ≤ 2000000000) : res A PrA 177 [.lst t (ints l),.int .i64 cap] = some [.bool (chanB l cap)] := by
 refine res_of a177 rfl rfl ?_
 simp only [F177]; try delta sS tT zZ nN gG bB pZ
 have h108 := r108c t l (by omega)
 unfold chanB
 by_cases c : (l.length : Int) ≤ cap
 ·simp (disch := omega) only [go_sem,c,h108]
 ·simp (disch := omega) only [go_sem,c]
def fitsB (a b : Auto) (cap : Int) (x y : Int) (l m : List Int) : Bool := decide (sysErr a b cap = 0) && decide (0 ≤ x) && decide (x < a.states) && decide (0 ≤ y) && decide (y < b.states) && chanB l cap && chanB m cap
end Go.Pv
namespace Go.Pv
theorem bool_le {a b : Int} : decide (0 ≤ min a b) = (decide (0 ≤ a) && decide (0 ≤ b)) := by
 by_cases h1 : 0 ≤ a <;> by_cases h2 : 0 ≤ b <;> simp [h1,h2] <;> omega
set_option maxHeartbeats 2000000 in
@[go_sem] theorem r157 (t1 t2 : Nat) (a b : Auto) (cap : Int) (u1 u2 : Nat) (x y : Int) (l m : List Int) (ha : a.edges.length ≤ 2 ^ 63 - 1) (hb : b.edges.length ≤ 2 ^ 63 - 1) (hl : l.length ≤ 2000000000) (hm : m.length ≤ 2000000000) : res A PrA 157 [.agg [.int .i64 a.states,.int .i64 a.start,.lst t1 (a.edges.map Edge.c),.int .i64 b.states,.int .i64 b.start,.lst t2 (b.edges.map Edge.c),.int .i64 cap],.agg [.int .i64 x,.int .i64 y,.lst u1 (ints l),.lst u2 (ints m)]] = some [.bool (fitsB a b cap x y l m)] := by
 refine res_of a157 rfl rfl ?_
 simp only [F157]; try delta sS tT zZ nN gG bB pZ
 simp (disch := omega) only [go_sem]
 unfold fitsB
 rw [bool_le]
 cases hb2 : decide (0 ≤ x)
 ·cases hb1 : decide (sysErr a b cap = 0) <;> simp (disch := omega) only [go_sem,hb1]
 ·cases hb4 : decide (0 ≤ y)
  ·cases hb1 : decide (sysErr a b cap = 0) <;> simp (disch := omega) only [go_sem,hb1]
  ·cases hb3 : decide (x < a.states)
   ·cases hb1 : decide (sysErr a b cap = 0) <;> simp (disch := omega) only [go_sem,hb1,hb3]
   ·cases hb5 : decide (y < b.states)
    ·cases hb1 : decide (sysErr a b cap = 0) <;> simp (disch := omega) only [go_sem,hb1,hb3,hb5]
    ·cases hb1 : decide (sysErr a b cap = 0)
     ·simp (disch := omega) only [go_sem,hb1,hb3,hb5]
     ·cases hb6 : chanB l cap
      ·simp (disch := omega) only [go_sem,hb1,hb3,hb5,hb6]
      ·simp (disch := omega) only [go_sem,hb1,hb3,hb5,hb6]
theorem r181 (t : Nat) (e : Edge) (s : Int) : res A PrA 181 [.agg [.int .i64 e.fr,.bool e.send,.int .i64 e.label,.int .i64 e.to],.ro t [.int .i64 s]] = some [.bool (decide (e.fr = s))] := by
 refine res_of a181 rfl rfl ?_
 simp only [F181]; try delta sS tT zZ nN gG bB pZ
 simp (disch := omega) only [go_sem]
theorem isEnd_any (s : Int) : ∀ l : List Edge,isEnd s l = !(l.any fun e => decide (e.fr = s))
 | [] => rfl
 | e :: r => by
  unfold isEnd
  rw [List.any_cons,isEnd_any s r]
  by_cases h : e.fr = s <;> simp [h]
theorem r180 (t u : Nat) (l : List Edge) (s : Int) (hl : l.length ≤ 2 ^ 63 - 1) : res A PrA 180 [.lst t (l.map Edge.c),.func 181 [.ro u [.int .i64 s]]] = some [.bool (!isEnd s l)] := by
 refine res_of a180 rfl rfl ?_
 simp only [F180]; try delta sS tT zZ nN gG bB pZ
 have h77 := r77 181 t u [.int .i64 s] l (fun e => decide (e.fr = s)) hl (by kernel_rfl) (by kernel_rfl) (by kernel_rfl) (fun e _ => r181 u e s)
 have e1 : edgs l = l.map Edge.c := rfl
 rw [e1] at h77
 simp (disch := omega) only [go_sem,h77]
 rw [idxP_pos,isEnd_any,Bool.not_not]
@[go_sem] theorem r179 (t : Nat) (a : Auto) (s : Int) (hl : a.edges.length ≤ 2 ^ 63 - 1) : res A PrA 179 [.agg [.int .i64 a.states,.int .i64 a.start,.lst t (a.edges.map Edge.c)],.int .i64 s] = some [.bool (!isEnd s a.edges)] := by
 refine res_of a179 rfl rfl ?_
 simp only [F179]; try delta sS tT zZ nN gG bB pZ
 have h180 := fun t u => r180 t u a.edges s hl
 simp (disch := omega) only [go_sem,h180]
def doneB (a b : Auto) (cap : Int) (x y : Int) (l m : List Int) : Bool := fitsB a b cap x y l m && decide (l.length + m.length = 0) && isEnd x a.edges && isEnd y b.edges
set_option maxHeartbeats 2000000 in
@[go_sem] theorem r159 (t1 t2 : Nat) (a b : Auto) (cap : Int) (u1 u2 : Nat) (x y : Int) (l m : List Int) (ha : a.edges.length ≤ 2 ^ 63 - 1) (hb : b.edges.length ≤ 2 ^ 63 - 1) (hl : l.length ≤ 2000000000) (hm : m.length ≤ 2000000000) : res A PrA 159 [.agg [.int .i64 a.states,.int .i64 a.start,.lst t1 (a.edges.map Edge.c),.int .i64 b.states,.int .i64 b.start,.lst t2 (b.edges.map Edge.c),.int .i64 cap],.agg [.int .i64 x,.int .i64 y,.lst u1 (ints l),.lst u2 (ints m)]] = some [.bool (doneB a b cap x y l m)] := by
 refine res_of a159 rfl rfl ?_
 simp only [F159]; try delta sS tT zZ nN gG bB pZ
 simp (disch := omega) only [go_sem]
 unfold doneB
 cases hb1 : fitsB a b cap x y l m
 ·simp (disch := omega) only [go_sem]
 ·by_cases hc : l.length + m.length = 0
  ·have q1 : ¬ (0 < (l.length : Int) + m.length) := by omega
   simp (disch := omega) only [go_sem,q1]
   cases hb2 : isEnd x a.edges
   ·simp (disch := omega) only [go_sem]
   ·simp (disch := omega) only [go_sem]
    simp [hc]
  ·have q1 : (0 < (l.length : Int) + m.length) := by omega
   simp (disch := omega) only [go_sem,q1]
   rw [decide_eq_false hc]
   rfl
def chkE (a b : Auto) (cap : Int) (x y : Int) (l m : List Int) : Int := if sysErr a b cap ≠ 0 then sysErr a b cap else if fitsB a b cap x y l m = true then 0 else 1
@[go_sem] theorem r187 (t1 t2 : Nat) (a b : Auto) (cap : Int) (u1 u2 : Nat) (x y : Int) (l m : List Int) (ha : a.edges.length ≤ 2 ^ 63 - 1) (hb : b.edges.length ≤ 2 ^ 63 - 1) (hl : l.length ≤ 2000000000) (hm : m.length ≤ 2000000000) : res A PrA 187 [.agg [.int .i64 a.states,.int .i64 a.start,.lst t1 (a.edges.map Edge.c),.int .i64 b.states,.int .i64 b.start,.lst t2 (b.edges.map Edge.c),.int .i64 cap],.agg [.int .i64 x,.int .i64 y,.lst u1 (ints l),.lst u2 (ints m)]] = some [.int .i64 (chkE a b cap x y l m)] := by
 refine res_of a187 rfl rfl ?_
 simp only [F187]; try delta sS tT zZ nN gG bB pZ
 simp (disch := omega) only [go_sem]
 unfold chkE
 by_cases h1 : sysErr a b cap = 0
 ·simp (disch := omega) only [go_sem,h1]
  cases hb1 : fitsB a b cap x y l m
  ·simp (disch := omega) only [go_sem]
   rw [if_neg (by simp [h1])]
  ·simp (disch := omega) only [go_sem]
   rw [if_neg (by simp [h1])]
 ·simp (disch := omega) only [go_sem,h1]
  simp [h1]
end Go.Pv
namespace Go.Pv
end Go.Pv
namespace Go.Pv
variable {A : Nat → Option AFunc} {Pr : Prims}
def rndM {α : Type} (kt kb : List Nat) (S : α → St) (P : α → Prop) (m : α → Nat) (x : α) (Q : Ex → St → Prop) (_t : Tie (kt,kb,S,P,m,x,Q) := .mk) : Ex → St → Prop
 | .normal,s => ∃ y,P y ∧ m y < m x ∧ s.mask kt kb = S y
 | .exit i,s => Q (.exit i) s
 | .ret,s => Q .ret s
@[go_sem] theorem rndM_exit {α : Type} (kt kb : List Nat) (S : α → St) (P : α → Prop) (m : α → Nat) (x : α) (Q : Ex → St → Prop) (i : Nat) (s : St) : rndM kt kb S P m x Q .mk (.exit i) s = Q (.exit i) s := rfl
@[go_sem] theorem rndM_ret {α : Type} (kt kb : List Nat) (S : α → St) (P : α → Prop) (m : α → Nat) (x : α) (Q : Ex → St → Prop) (s : St) : rndM kt kb S P m x Q .mk .ret s = Q .ret s := rfl
end Go.Pv
namespace Go.Pv
end Go.Pv
namespace Go.Pv
end Go.Pv
namespace Go.Pv
theorem cloneIntsT {l : List Int} (hm : l.length ≤ 2147483648) (t : Nat) (ht : t ≤ 1) : (l = [] ∧ ∀ h,cloneP 1 [.pv (.lst t [])] h = some (.tl [],{})) ∨ (l ≠ [] ∧ ∀ h,cloneP 1 [.pv (.lst t (ints l))] h = some (.own h.ar.length 0 0 l.length,{ push := [⟨0,1,.inl (ints l)⟩],base := h.ar.length })) := by
 by_cases h0 : l = []
 ·subst h0
  exact .inl ⟨rfl,fun h => by simp [cloneP,srcRows,rowsFit,ht]⟩
 ·refine .inr ⟨h0,fun h => ?_⟩
  have hl : ¬ l.length = 0 := fun e => h0 (List.eq_nil_of_length_eq_zero e)
  have hf := rowsFit_ints l
  have hil : (ints l).length = l.length := ints_length l
  simp [cloneP,srcRows,hf,hl,mostRows,hm,ht,hil]
def cfgP (c : Cfg) : PV := .agg [.int .i64 c.a,.int .i64 c.b,.lst 0 (ints c.toA),.lst 0 (ints c.toB)]
@[go_sem] theorem cfgP_eq (c : Cfg) : cfgP c = .agg [.int .i64 c.a,.int .i64 c.b,.lst 0 (ints c.toA),.lst 0 (ints c.toB)] := rfl
def cfg0 : Cfg := ⟨0,0,[],[]⟩
def putC (x y : Int) (party state : Int) (i o : List Int) : Cfg := if party = 0 then ⟨state,y,i,o⟩ else ⟨x,state,o,i⟩
set_option maxHeartbeats 2000000 in
theorem r190 (u1 u2 w1 w2 : Nat) (x y party state : Int) (l m i o : List Int) (hw1 : w1 ≤ 1) (hw2 : w2 ≤ 1) (hi : i.length ≤ 2147483648) (ho : o.length ≤ 2147483648) : res A PrA 190 [.agg [.int .i64 x,.int .i64 y,.lst u1 (ints l),.lst u2 (ints m)],.int .i64 party,.int .i64 state,.lst w1 (ints i),.lst w2 (ints o)] = some [cfgP (putC x y party state i o)] := by
 refine res_of a190 rfl rfl ?_
 simp only [F190]; try delta sS tT zZ nN gG bB pZ
 unfold putC cfgP
 rcases cloneIntsT hi w1 hw1 with ⟨rfl,hc⟩ | ⟨h0,hc⟩ <;> rcases cloneIntsT ho w2 hw2 with ⟨rfl,hd⟩ | ⟨h2,hd⟩
 all_goals
  by_cases hp : party = 0
  ·have dp : decide (party = 0) = true := by simp [hp]
   simp (disch := omega) only [go_sem,dp,hc,hd,List.take_length,if_pos hp]
  ·have dp : decide (party = 0) = false := by simp [hp]
   simp (disch := omega) only [go_sem,dp,hc,hd,List.take_length,if_neg hp]
theorem r189 (a b : Auto) (cap : Int) (x y : Int) (l m : List Int) (party : Int) : res A PrA 189 [.agg [.int .i64 a.states,.int .i64 a.start,.lst 0 (a.edges.map Edge.c),.int .i64 b.states,.int .i64 b.start,.lst 0 (b.edges.map Edge.c),.int .i64 cap],.agg [.int .i64 x,.int .i64 y,.lst 0 (ints l),.lst 0 (ints m)],.int .i64 party] = some [if party = 0 then .agg [.int .i64 a.states,.int .i64 a.start,.lst 0 (a.edges.map Edge.c),.int .i64 x,.lst 0 (ints l),.lst 0 (ints m),.int .i64 cap] else .agg [.int .i64 b.states,.int .i64 b.start,.lst 0 (b.edges.map Edge.c),.int .i64 y,.lst 0 (ints m),.lst 0 (ints l),.int .i64 cap]] := by
 refine res_of a189 rfl rfl ?_
 simp only [F189]; try delta sS tT zZ nN gG bB pZ
 by_cases hp : party = 0
 ·have dp : decide (party = 0) = true := by simp [hp]
  simp (disch := omega) only [go_sem,dp,if_pos hp]
 ·have dp : decide (party = 0) = false := by simp [hp]
  simp (disch := omega) only [go_sem,dp,if_neg hp]
def sideC (es : List Edge) (cap st : Int) (i o : List Int) (send : Bool) (label : Int) : Option (Int × List Int × List Int) × Bool :=
 match nextE st send label es with
 | none => (none,false)
 | some q => if send = true then (some (q,i,o ++ [label]),decide ((o.length : Int) < cap)) else match i with
  | [] => (none,false)
  | z :: r => if z = label then (some (q,r,o),true) else (none,false)
def afterC (a b : Auto) (cap x y : Int) (l m : List Int) (mv : Mov) : Cfg × Bool :=
 if mv.party = 0 then (match sideC a.edges cap x l m mv.send mv.label with
  | (none,ok) => (cfg0,ok)
  | (some (q,i,o),ok) => (⟨q,y,i,o⟩,ok))
 else if mv.party = 1 then (match sideC b.edges cap y m l mv.send mv.label with
  | (none,ok) => (cfg0,ok)
  | (some (q,i,o),ok) => (⟨x,q,o,i⟩,ok))
 else (cfg0,false)
set_option maxHeartbeats 4000000 in
theorem r182 (a b : Auto) (cap : Int) (x y : Int) (l m : List Int) (mv : Mov) (ha : a.edges.length ≤ 2 ^ 63 - 1) (hb : b.edges.length ≤ 2 ^ 63 - 1) (hl : l.length ≤ 2000000000) (hm : m.length ≤ 2000000000) : res A PrA 182 [.agg [.int .i64 a.states,.int .i64 a.start,.lst 0 (a.edges.map Edge.c),.int .i64 b.states,.int .i64 b.start,.lst 0 (b.edges.map Edge.c),.int .i64 cap],.agg [.int .i64 x,.int .i64 y,.lst 0 (ints l),.lst 0 (ints m)],.agg [.int .i64 mv.party,.bool mv.send,.int .i64 mv.label]] = some [cfgP (afterC a b cap x y l m mv).1,.bool (afterC a b cap x y l m mv).2] := by
 refine res_of a182 rfl rfl ?_
 simp only [F182]; try delta sS tT zZ nN gG bB pZ
 obtain ⟨p,send,label⟩ := mv
 have h190 := fun u1 u2 w1 w2 x y q s l m i o h1 h2 h3 h4 => r190 u1 u2 w1 w2 x y q s l m i o h1 h2 h3 h4
 have h189 := r189 a b cap x y l m
 by_cases hp : p = 0
 ·subst hp
  have d0 : decide (((0 : Nat) : Int) = 0) = true := rfl
  have hA : afterC a b cap x y l m ⟨0,send,label⟩ = (match sideC a.edges cap x l m send label with
   | (none,ok) => (cfg0,ok)
   | (some (q,i,o),ok) => (⟨q,y,i,o⟩,ok)) := rfl
  rw [hA]
  unfold sideC
  have h189 := h189 0
  rw [if_pos rfl] at h189
  cases hn : nextE x send label a.edges with
  | none =>
   simp (disch := omega) only [go_sem,h189,hn,Option.isSome_none,Option.getD_none]
   rfl
  | some q =>
   cases send with
   | true =>
    have htk : (m ++ [label]).take (m.length + 1) = m ++ [label] := List.take_of_length_le (by simp)
    have hml : (m ++ [label]).length = m.length + 1 := by simp
    have h190' := fun u1 u2 w1 w2 h1 h2 => h190 u1 u2 w1 w2 x y 0 q l m l (m ++ [label]) h1 h2 (by omega) (by omega)
    rcases cloneIntsT (l := m) (by omega) 0 (by omega) with ⟨rfl,hd⟩ | ⟨h2,hd⟩
    ·simp only [ints_nil,List.nil_append] at h189 h190'
     simp (disch := omega) only [go_sem,h189,h190',hn,hd,Option.isSome_some,Option.getD_some]
     rfl
    ·simp (disch := omega) only [go_sem,h189,hn,hd,Option.isSome_some,Option.getD_some,htk,h190']
     rfl
   | false =>
    cases l with
    | nil =>
     simp only [ints_nil] at h189 h190
     simp (disch := omega) only [go_sem,h189,hn,Option.isSome_some,Option.getD_some,d0]
     rfl
    | cons z r =>
     have dz : decide (((r.length + 1 : Nat) : Int) = 0) = false := by rw [decide_eq_false_iff_not]; omega
     simp (disch := omega) only [go_sem,h189,hn,Option.isSome_some,Option.getD_some,dz,idxR_int]
     by_cases hz : z = label
     ·have dl : decide (z = label) = true := by simp [hz]
      have hl' : r.length + 1 ≤ 2000000000 := hl
      have h190z := fun u1 u2 w1 w2 l' h1 h2 => h190 u1 u2 w1 w2 x y 0 q l' m r m h1 h2 (by omega) (by omega)
      simp (disch := omega) only [go_sem,dl,h190z,if_pos hz]
      rfl
     ·have dl : decide (z = label) = false := by simp [hz]
      simp (disch := omega) only [go_sem,dl,if_neg hz]
      rfl
 ·by_cases hp1 : p = 1
  ·subst hp1
   have d0 : decide (((0 : Nat) : Int) = 0) = true := rfl
   have hA : afterC a b cap x y l m ⟨1,send,label⟩ = (match sideC b.edges cap y m l send label with
    | (none,ok) => (cfg0,ok)
    | (some (q,i,o),ok) => (⟨x,q,o,i⟩,ok)) := rfl
   rw [hA]
   unfold sideC
   have h189 := h189 1
   rw [if_neg (by decide)] at h189
   cases hn : nextE y send label b.edges with
   | none =>
    simp (disch := omega) only [go_sem,h189,hn,Option.isSome_none,Option.getD_none]
    rfl
   | some q =>
    cases send with
    | true =>
     have htk : (l ++ [label]).take (l.length + 1) = l ++ [label] := List.take_of_length_le (by simp)
     have hml : (l ++ [label]).length = l.length + 1 := by simp
     have h190' := fun u1 u2 w1 w2 h1 h2 => h190 u1 u2 w1 w2 x y 1 q l m m (l ++ [label]) h1 h2 (by omega) (by omega)
     rcases cloneIntsT (l := l) (by omega) 0 (by omega) with ⟨rfl,hd⟩ | ⟨h2,hd⟩
     ·simp only [ints_nil,List.nil_append] at h189 h190'
      simp (disch := omega) only [go_sem,h189,h190',hn,hd,Option.isSome_some,Option.getD_some]
      rfl
     ·simp (disch := omega) only [go_sem,h189,hn,hd,Option.isSome_some,Option.getD_some,htk,h190']
      rfl
    | false =>
     cases m with
     | nil =>
      simp only [ints_nil] at h189 h190
      simp (disch := omega) only [go_sem,h189,hn,Option.isSome_some,Option.getD_some,d0]
      rfl
     | cons z r =>
      have dz : decide (((r.length + 1 : Nat) : Int) = 0) = false := by rw [decide_eq_false_iff_not]; omega
      simp (disch := omega) only [go_sem,h189,hn,Option.isSome_some,Option.getD_some,dz,idxR_int]
      by_cases hz : z = label
      ·have dl : decide (z = label) = true := by simp [hz]
       have hl' : r.length + 1 ≤ 2000000000 := hm
       have h190z := fun u1 u2 w1 w2 l' h1 h2 => h190 u1 u2 w1 w2 x y 1 q l l' r l h1 h2 (by omega) (by omega)
       simp (disch := omega) only [go_sem,dl,h190z,if_pos hz]
       rfl
      ·have dl : decide (z = label) = false := by simp [hz]
       simp (disch := omega) only [go_sem,dl,if_neg hz]
       rfl
  ·have hA : afterC a b cap x y l m ⟨p,send,label⟩ = (cfg0,false) := by
    unfold afterC
    rw [if_neg hp,if_neg hp1]
   rw [hA]
   have e0 : decide (p = 0) = false := by simp [hp]
   have e1 : decide (p = 1) = false := by simp [hp1]
   simp (disch := omega) only [go_sem,e0,e1]
   rfl
end Go.Pv
namespace Go.Pv
end Go.Pv
namespace Go.Pv
def mvs3 (l : List Mov) : List (List PV) := l.map Mov.c
@[go_sem] theorem mvs3_length (l : List Mov) : (mvs3 l).length = l.length := by simp [mvs3]
@[go_sem] theorem mvs3_nil : mvs3 [] = [] := rfl
@[go_sem] theorem mvs3_get (l : List Mov) (i : Nat) : (mvs3 l)[i]? = l[i]?.map fun x => [.int .i64 x.party,.bool x.send,.int .i64 x.label] := by simp [mvs3]; rfl
@[go_sem] theorem mvs3_snoc (l : List Mov) (a : Int) (b : Bool) (c : Int) : mvs3 l ++ [[.int .i64 a,.bool b,.int .i64 c]] = mvs3 (l ++ [⟨a,b,c⟩]) := by simp [mvs3,Mov.c]
@[go_sem] theorem grow03 (bx : List (Nat × List V)) (mp : List (List (PV × PV))) (rows : List (List PV)) (a b c : PV) (hm : rows.length + 1 ≤ 2147483648) : appendV ⟨bx,grA 3 rows,mp⟩ 3 (grV 0 rows) (.tl [[a,b,c]]) = some (grV 0 (rows ++ [[a,b,c]]),grT 0 3 rows [a,b,c]) := grow0 bx mp 3 rows [a,b,c] rfl hm
def Edge.mv (p : Int) (e : Edge) : Mov := ⟨p,e.send,e.label⟩
def mvsOf (a b : Auto) (cap x y : Int) (l m : List Int) (p st : Int) (es : List Edge) : List Mov :=
 (es.filter fun e => decide (e.fr = st) && (afterC a b cap x y l m (e.mv p)).2).map (Edge.mv p)
def movesC (a b : Auto) (cap x y : Int) (l m : List Int) : List Mov := mvsOf a b cap x y l m 0 x a.edges ++ mvsOf a b cap x y l m 1 y b.edges
theorem mvsOf_snoc (a b : Auto) (cap x y : Int) (l m : List Int) (p st : Int) {es : List Edge} {k : Nat} {e : Edge} (h : es[k]? = some e) : mvsOf a b cap x y l m p st (es.take (k + 1)) = if e.fr = st ∧ (afterC a b cap x y l m (e.mv p)).2 = true then mvsOf a b cap x y l m p st (es.take k) ++ [e.mv p] else mvsOf a b cap x y l m p st (es.take k) := by
 unfold mvsOf
 rw [List.take_add_one,h,List.filter_append,List.map_append]
 by_cases h1 : e.fr = st
 ·cases h2 : (afterC a b cap x y l m (e.mv p)).2 <;> simp [h1,h2]
 ·simp [h1]
theorem mvsOf_len (a b : Auto) (cap x y : Int) (l m : List Int) (p st : Int) (es : List Edge) : (mvsOf a b cap x y l m p st es).length ≤ es.length := by
 unfold mvsOf
 rw [List.length_map]
 exact List.length_filter_le _ _
end Go.Pv
namespace Go.Pv
theorem isort_id {α : Type} {lt : α → α → Bool} (asym : ∀ x y,lt x y = true → lt y x = false) : ∀ {l : List α},l.Pairwise (fun a b => lt a b = true) → isort lt l = l
 | [],_ => rfl
 | x :: l,h => by
  obtain ⟨h1,h2⟩ := List.pairwise_cons.1 h
  unfold isort
  rw [isort_id asym h2]
  cases l with
  | nil => rfl
  | cons y r =>
   unfold ins
   rw [if_neg (by rw [asym x y (h1 y (by simp))]; decide)]
theorem Mov.asym (x y : Mov) (h : Mov.lt x y = true) : Mov.lt y x = false := by
 cases hc : Mov.lt y x with
 | false => rfl
 | true =>
  have := Mov.swo.trans x y x h hc
  rw [Mov.swo.irrefl] at this
  cases this
theorem mvs3_dec (l : List Mov) : mapO Mov.dec (mvs3 l) = some l := by
 induction l with
 | nil => rfl
 | cons x l ih =>
  show mapO Mov.dec (x.c :: mvs3 l) = _
  have : Mov.dec x.c = some x := rfl
  simp only [mapO,this,ih]
def srtM (l : List Mov) : Tn := if l.length = 0 then {} else { ar := some (0,⟨l.length - 1,3,.inl (mvs3 l)⟩) }
theorem sortP_mvs {bx : List (Nat × List V)} {mp : List (List (PV × PV))} {l : List Mov} (hm : l.length ≤ 2147483648) (hs : l.Pairwise (fun a b => Mov.lt a b = true)) :
  sortP 3 (sortRows Mov.c Mov.dec Mov.lt) 197 [grV 0 (mvs3 l),.func 197 []] ⟨bx,grA 3 (mvs3 l),mp⟩ = some (.tup [],srtM l) := by
 rcases Nat.eq_zero_or_pos l.length with h | h
 ·have : l = [] := List.eq_nil_of_length_eq_zero h
  subst this
  simp [srtM,grV,sortP,mvs3]
 ·obtain ⟨q,hq⟩ : ∃ q,(mvs3 l).length = q + 1 := ⟨l.length - 1,by rw [mvs3_length]; omega⟩
  have e1 : (mvs3 l).length = l.length := mvs3_length l
  rw [grV_own hq,grA_own hq]
  have hr := rising_of hs
  have hid := isort_id Mov.asym hs
  have hl : q + 1 = l.length := by omega
  have ho : ownArr ⟨bx,[⟨q,3,.inl (mvs3 l)⟩],mp⟩ 0 q = some ⟨q,3,.inl (mvs3 l)⟩ := by simp [ownArr]
  rw [hl]
  have h0 : ¬ l.length = 0 := by omega
  have hlq : l.length - 1 = q := by omega
  simp [sortP,ho,h0,e1,mostRows,hm,sortRows,mvs3_dec,hr,hid,List.take_of_length_le (Nat.le_of_eq e1),List.drop_eq_nil_of_le (Nat.le_of_eq e1),srtM,hlq]
  rfl
@[go_sem] theorem srtM_apply (bx : List (Nat × List V)) (mp : List (List (PV × PV))) (l : List Mov) : (srtM l).apply ⟨bx,grA 3 (mvs3 l),mp⟩ = ⟨bx,grA 3 (mvs3 l),mp⟩ := by
 rcases Nat.eq_zero_or_pos l.length with h | h
 ·have : l = [] := List.eq_nil_of_length_eq_zero h
  subst this
  simp [srtM,mvs3,Tn.apply,grA]
 ·obtain ⟨q,hq⟩ : ∃ q,(mvs3 l).length = q + 1 := ⟨l.length - 1,by rw [mvs3_length]; omega⟩
  have e1 : (mvs3 l).length = l.length := mvs3_length l
  have h0 : ¬ l.length = 0 := by omega
  have hlq : l.length - 1 = q := by omega
  rw [grA_own hq]
  simp [srtM,h0,hlq,Tn.apply]
theorem mvsOf_mem {a b : Auto} {cap x y : Int} {l m : List Int} {p st : Int} {es : List Edge} {mv : Mov} : mv ∈ mvsOf a b cap x y l m p st es ↔ ∃ e ∈ es,e.fr = st ∧ mv = e.mv p ∧ (afterC a b cap x y l m mv).2 = true := by
 unfold mvsOf
 rw [List.mem_map]
 constructor
 ·rintro ⟨e,he,rfl⟩
  obtain ⟨h1,h2⟩ := List.mem_filter.1 he
  rw [Bool.and_eq_true,decide_eq_true_eq] at h2
  exact ⟨e,h1,h2.1,rfl,h2.2⟩
 ·rintro ⟨e,h1,h2,rfl,h3⟩
  exact ⟨e,List.mem_filter.2 ⟨h1,by rw [h3,decide_eq_true h2]; rfl⟩,rfl⟩
theorem mvsOf_asc {a b : Auto} {cap x y : Int} {l m : List Int} {p st : Int} {es : List Edge} (h : es.Pairwise (fun x y => Edge.lt x y = true)) : (mvsOf a b cap x y l m p st es).Pairwise (fun x y => Mov.lt x y = true) := by
 unfold mvsOf
 rw [List.pairwise_map]
 refine (h.filter _).imp_of_mem fun {e f} he hf hlt => ?_
 have h1 := (List.mem_filter.1 he).2
 have h2 := (List.mem_filter.1 hf).2
 rw [Bool.and_eq_true,decide_eq_true_eq] at h1 h2
 have h3 : e.fr = f.fr := h1.1.trans h2.1.symm
 unfold Mov.lt Mov.e Edge.mv
 unfold Edge.lt at hlt ⊢
 simpa [h3] using hlt
theorem movesC_asc {a b : Auto} {cap x y : Int} {l m : List Int} (ha : a.edges.Pairwise (fun x y => Edge.lt x y = true)) (hb : b.edges.Pairwise (fun x y => Edge.lt x y = true)) : (movesC a b cap x y l m).Pairwise (fun x y => Mov.lt x y = true) := by
 unfold movesC
 rw [List.pairwise_append]
 refine ⟨mvsOf_asc ha,mvsOf_asc hb,fun u hu v hv => ?_⟩
 obtain ⟨e,_,_,rfl,_⟩ := mvsOf_mem.1 hu
 obtain ⟨f,_,_,rfl,_⟩ := mvsOf_mem.1 hv
 unfold Mov.lt Mov.e Edge.mv Edge.lt
 simp
theorem sys_good {a b : Auto} {cap : Int} (h : sysErr a b cap = 0) : a.Good ∧ b.Good ∧ 1 ≤ cap ∧ cap ≤ 3 := by
 unfold sysErr at h
 by_cases h1 : a.err = 0
 ·rw [if_neg (by simp [h1])] at h
  by_cases h2 : b.err = 0
  ·rw [if_neg (by simp [h2])] at h
   refine ⟨Auto.good_iff.1 h1,Auto.good_iff.1 h2,?_⟩
   by_cases h3 : cap < 1 ∨ 3 < cap
   ·rw [if_pos h3] at h
    cases h
   ·omega
  ·rw [if_pos (by simp [h2])] at h
   exact absurd h h2
 ·rw [if_pos (by simp [h1])] at h
  exact absurd h h1
set_option maxHeartbeats 8000000 in
theorem r186 (a b : Auto) (cap : Int) (x y : Int) (l m : List Int) (ha : a.edges.length ≤ 1000000) (hb : b.edges.length ≤ 1000000) (hl : l.length ≤ 2000000000) (hm : m.length ≤ 2000000000) (hs : (movesC a b cap x y l m).Pairwise (fun x y => Mov.lt x y = true)) : res A PrA 186 [.agg [.int .i64 a.states,.int .i64 a.start,.lst 0 (a.edges.map Edge.c),.int .i64 b.states,.int .i64 b.start,.lst 0 (b.edges.map Edge.c),.int .i64 cap],.agg [.int .i64 x,.int .i64 y,.lst 0 (ints l),.lst 0 (ints m)]] = some [.lst 0 (mvs3 (movesC a b cap x y l m))] := by
 refine res_of a186 rfl rfl ?_
 simp only [F186]; try delta sS tT zZ nN gG bB pZ
 have h182 := fun mv => r182 a b cap x y l m mv (by omega) (by omega) hl hm
 have h1890 := r189 a b cap x y l m ((0 : Nat) : Int)
 have h1891 := r189 a b cap x y l m ((1 : Nat) : Int)
 rw [if_pos (by rfl)] at h1890
 rw [if_neg (by decide)] at h1891
 simp (disch := omega) only [go_sem]
 refine W.upto 2 (fun k => ⟨[(2,.ptr 2 0),(3,.ptr 3 0),(5,grV 0 (mvs3 (if k = 0 then [] else if k = 1 then mvsOf a b cap x y l m 0 x a.edges else movesC a b cap x y l m))),(13,.pv (.int .i64 k))],⟨[(2,[.pv (.int .i64 a.states),.pv (.int .i64 a.start),.pv (.lst 0 (a.edges.map Edge.c)),.pv (.int .i64 b.states),.pv (.int .i64 b.start),.pv (.lst 0 (b.edges.map Edge.c)),.pv (.int .i64 cap)]),(3,[.pv (.int .i64 x),.pv (.int .i64 y),.pv (.lst 0 (ints l)),.pv (.lst 0 (ints m))])],grA 3 (mvs3 (if k = 0 then [] else if k = 1 then mvsOf a b cap x y l m 0 x a.edges else movesC a b cap x y l m)),[]⟩⟩) (fun _ => True) rfl trivial fun k hk _ => ?_
 have d0 : decide (((0 : Nat) : Int) < 2) = true := rfl
 have d1 : decide (((1 : Nat) : Int) < 2) = true := rfl
 have d2 : decide (((2 : Nat) : Int) < 2) = false := rfl
 have hl0 := mvsOf_len a b cap x y l m 0 x a.edges
 obtain rfl | rfl | rfl : k = 0 ∨ k = 1 ∨ k = 2 := by omega
 ·simp (disch := omega) only [go_sem,d0,h1890]
  refine W.upto a.edges.length (fun k => ⟨[(2,.ptr 2 0),(3,.ptr 3 0),(5,grV 0 (mvs3 (mvsOf a b cap x y l m 0 x (a.edges.take k)))),(6,.pv (.int .i64 0)),(7,.ptr 7 0),(13,.pv (.int .i64 0)),(22,.pv (.lst 0 (a.edges.map Edge.c))),(23,.pv (.int .i64 a.edges.length)),(24,.pv (.int .i64 k))],⟨[(2,[.pv (.int .i64 a.states),.pv (.int .i64 a.start),.pv (.lst 0 (a.edges.map Edge.c)),.pv (.int .i64 b.states),.pv (.int .i64 b.start),.pv (.lst 0 (b.edges.map Edge.c)),.pv (.int .i64 cap)]),(3,[.pv (.int .i64 x),.pv (.int .i64 y),.pv (.lst 0 (ints l)),.pv (.lst 0 (ints m))]),(7,[.pv (.int .i64 a.states),.pv (.int .i64 a.start),.pv (.lst 0 (a.edges.map Edge.c)),.pv (.int .i64 x),.pv (.lst 0 (ints l)),.pv (.lst 0 (ints m)),.pv (.int .i64 cap)])],grA 3 (mvs3 (mvsOf a b cap x y l m 0 x (a.edges.take k))),[]⟩⟩) (fun _ => True) ?_ trivial fun k hk _ => ?_
  ·rw [show mvsOf a b cap x y l m 0 x (a.edges.take 0) = [] from rfl]
   rfl
  simp (disch := omega) only [go_sem]
  refine Br.ofP (fun c => ?_) (fun c => ?_)
  ·obtain ⟨e,he⟩ := get_at (l := a.edges) (k := k) (by omega)
   have hlen : (mvsOf a b cap x y l m 0 x (a.edges.take k)).length ≤ k := Nat.le_trans (mvsOf_len a b cap x y l m 0 x _) (by rw [List.length_take]; omega)
   have hs : mvsOf a b cap x y l m 0 x (a.edges.take (k + 1)) = if e.fr = x ∧ (afterC a b cap x y l m ⟨0,e.send,e.label⟩).2 = true then (mvsOf a b cap x y l m 0 x (a.edges.take k)) ++ [⟨0,e.send,e.label⟩] else mvsOf a b cap x y l m 0 x (a.edges.take k) := by
    rw [mvsOf_snoc a b cap x y l m 0 x he]
    rfl
   have h182e := h182 ⟨0,e.send,e.label⟩
   have hql : (mvsOf a b cap x y l m 0 x (a.edges.take k)).length ≤ 3000000 := by omega
   generalize mvsOf a b cap x y l m 0 x (a.edges.take k) = q at *
   have hq2 : (mvs3 q).length ≤ 3000000 := by rw [mvs3_length]; exact hql
   simp (disch := omega) only [go_sem,he]
   by_cases c1 : e.fr = x
   ·have e1 : decide (e.fr = x) = true := by simp [c1]
    simp (disch := omega) only [go_sem,e1,h182e]
    refine Br.of (fun g => ?_) (fun g => ?_) <;> simp (disch := omega) only [go_sem,g]
    ·refine .of (by omega) ?_ trivial
     rw [hs,if_pos ⟨c1,g⟩]
     rfl
    ·refine .of (by omega) ?_ trivial
     rw [hs,if_neg (fun h => by rw [h.2] at g; cases g)]
     rfl
   ·have e1 : decide (e.fr = x) = false := by simp [c1]
    simp (disch := omega) only [go_sem,e1]
    refine .of (by omega) ?_ trivial
    rw [hs,if_neg (fun h => c1 h.1)]
    rfl
  ·obtain rfl : k = a.edges.length := by omega
   rw [List.take_length]
   simp (disch := omega) only [go_sem]
   refine .of (by omega) ?_ trivial
   rfl
 ·simp (disch := omega) only [go_sem,d1,h1891]
  refine W.upto b.edges.length (fun k => ⟨[(2,.ptr 2 0),(3,.ptr 3 0),(5,grV 0 (mvs3 (mvsOf a b cap x y l m 0 x a.edges ++ mvsOf a b cap x y l m 1 y (b.edges.take k)))),(6,.pv (.int .i64 1)),(7,.ptr 7 0),(13,.pv (.int .i64 1)),(22,.pv (.lst 0 (b.edges.map Edge.c))),(23,.pv (.int .i64 b.edges.length)),(24,.pv (.int .i64 k))],⟨[(2,[.pv (.int .i64 a.states),.pv (.int .i64 a.start),.pv (.lst 0 (a.edges.map Edge.c)),.pv (.int .i64 b.states),.pv (.int .i64 b.start),.pv (.lst 0 (b.edges.map Edge.c)),.pv (.int .i64 cap)]),(3,[.pv (.int .i64 x),.pv (.int .i64 y),.pv (.lst 0 (ints l)),.pv (.lst 0 (ints m))]),(7,[.pv (.int .i64 b.states),.pv (.int .i64 b.start),.pv (.lst 0 (b.edges.map Edge.c)),.pv (.int .i64 y),.pv (.lst 0 (ints m)),.pv (.lst 0 (ints l)),.pv (.int .i64 cap)])],grA 3 (mvs3 (mvsOf a b cap x y l m 0 x a.edges ++ mvsOf a b cap x y l m 1 y (b.edges.take k))),[]⟩⟩) (fun _ => True) ?_ trivial fun k hk _ => ?_
  ·rw [show mvsOf a b cap x y l m 0 x a.edges ++ mvsOf a b cap x y l m 1 y (b.edges.take 0) = mvsOf a b cap x y l m 0 x a.edges from List.append_nil _]
   rfl
  simp (disch := omega) only [go_sem]
  refine Br.ofP (fun c => ?_) (fun c => ?_)
  ·obtain ⟨e,he⟩ := get_at (l := b.edges) (k := k) (by omega)
   have hlen : (mvsOf a b cap x y l m 1 y (b.edges.take k)).length ≤ k := Nat.le_trans (mvsOf_len a b cap x y l m 1 y _) (by rw [List.length_take]; omega)
   have hs : mvsOf a b cap x y l m 0 x a.edges ++ mvsOf a b cap x y l m 1 y (b.edges.take (k + 1)) = if e.fr = y ∧ (afterC a b cap x y l m ⟨1,e.send,e.label⟩).2 = true then (mvsOf a b cap x y l m 0 x a.edges ++ mvsOf a b cap x y l m 1 y (b.edges.take k)) ++ [⟨1,e.send,e.label⟩] else mvsOf a b cap x y l m 0 x a.edges ++ mvsOf a b cap x y l m 1 y (b.edges.take k) := by
    rw [mvsOf_snoc a b cap x y l m 1 y he]
    unfold Edge.mv; split <;> simp
   have h182e := h182 ⟨1,e.send,e.label⟩
   have hql : (mvsOf a b cap x y l m 0 x a.edges ++ mvsOf a b cap x y l m 1 y (b.edges.take k)).length ≤ 3000000 := by rw [List.length_append]; omega
   generalize mvsOf a b cap x y l m 0 x a.edges ++ mvsOf a b cap x y l m 1 y (b.edges.take k) = q at *
   have hq2 : (mvs3 q).length ≤ 3000000 := by rw [mvs3_length]; exact hql
   simp (disch := omega) only [go_sem,he]
   by_cases c1 : e.fr = y
   ·have e1 : decide (e.fr = y) = true := by simp [c1]
    simp (disch := omega) only [go_sem,e1,h182e]
    refine Br.of (fun g => ?_) (fun g => ?_) <;> simp (disch := omega) only [go_sem,g]
    ·refine .of (by omega) ?_ trivial
     rw [hs,if_pos ⟨c1,g⟩]
     rfl
    ·refine .of (by omega) ?_ trivial
     rw [hs,if_neg (fun h => by rw [h.2] at g; cases g)]
     rfl
   ·have e1 : decide (e.fr = y) = false := by simp [c1]
    simp (disch := omega) only [go_sem,e1]
    refine .of (by omega) ?_ trivial
    rw [hs,if_neg (fun h => c1 h.1)]
    rfl
  ·obtain rfl : k = b.edges.length := by omega
   rw [List.take_length]
   simp (disch := omega) only [go_sem]
   refine .of (by omega) ?_ trivial
   rfl
 ·have hml : (movesC a b cap x y l m).length ≤ 2000000 := by
   have := mvsOf_len a b cap x y l m 1 y b.edges
   unfold movesC
   rw [List.length_append]
   omega
  have hsp := fun bx mp => sortP_mvs (bx := bx) (mp := mp) (l := movesC a b cap x y l m) (by omega) hs
  have e20 : ((if 2 = 0 then [] else if 2 = 1 then mvsOf a b cap x y l m 0 x a.edges else movesC a b cap x y l m) : List Mov) = movesC a b cap x y l m := rfl
  rw [e20]
  generalize movesC a b cap x y l m = q at *
  simp (disch := omega) only [go_sem,d2,hsp]
end Go.Pv
namespace Go.Pv
def Cfg.c (c : Cfg) : List PV := [.int .i64 c.a,.int .i64 c.b,.lst 0 (ints c.toA),.lst 0 (ints c.toB)]
def cfgs (l : List Cfg) : List (List PV) := l.map Cfg.c
@[go_sem] theorem cfgs_length (l : List Cfg) : (cfgs l).length = l.length := List.length_map _
theorem cfgs_get (l : List Cfg) (i : Nat) : (cfgs l)[i]? = l[i]?.map Cfg.c := by simp [cfgs]
theorem cfgs_snoc (l : List Cfg) (c : Cfg) : cfgs l ++ [[.int .i64 c.a,.int .i64 c.b,.lst 0 (ints c.toA),.lst 0 (ints c.toB)]] = cfgs (l ++ [c]) := by simp [cfgs,Cfg.c]
def sucC (a b : Auto) (cap : Int) (c : Cfg) : List Cfg := (movesC a b cap c.a c.b c.toA c.toB).map fun m => (afterC a b cap c.a c.b c.toA c.toB m).1
structure Runs29 (a b : Auto) (cap : Int) (p : Cfg → Prop) : Prop where
 st : p ⟨a.start,b.start,[],[]⟩
 nx : ∀ c,p c → ∀ x ∈ sucC a b cap c,p x
 ok : ∀ c,p c → c.ok
 so : ∀ c,p c → (movesC a b cap c.a c.b c.toA c.toB).Pairwise (fun x y => Mov.lt x y = true)
def cfgStart (a b : Auto) : Cfg := ⟨a.start,b.start,[],[]⟩
end Go.Pv
namespace Go.Pv
def txt (l : List UInt8) : ByteArray := ⟨l.toArray⟩
def itoaS (n : Int) : ByteArray := txt (encN n)
theorem itoa_all : (List.range 100).map (fun n : Nat => callBy A (exec A PrA 60) 194 [.int .i64 (n : Int)]) = (List.range 100).map (fun n : Nat => some [.str (itoaS (n : Int))]) := by kernel_rfl
theorem r194 (n : Int) (h : smallI n = true) : res A PrA 194 [.int .i64 n] = some [.str (itoaS n)] := by
 simp only [smallI,Bool.and_eq_true,decide_eq_true_eq] at h
 have := congrArg (fun l => l[n.toNat]?) itoa_all
 simp only [List.getElem?_map] at this
 rw [List.getElem?_range (by omega)] at this
 simp only [Option.map_some,Option.some.injEq] at this
 rw [show ((n.toNat : Nat) : Int) = n by omega] at this
 exact res_some.2 ⟨60,this⟩
theorem bcat (a b : List UInt8) : txt a ++ txt b = txt (a ++ b) := by
 apply ByteArray.ext
 simp [txt]
theorem bsize (a : List UInt8) : (txt a).size = a.length := by simp [ByteArray.size,txt]
theorem addT (a b : List UInt8) (h : a.length + b.length ≤ 1000000) : binV .add (.pv (.str (txt a))) (.pv (.str (txt b))) = some (.pv (.str (txt (a ++ b)))) := by
 simp only [binV,strBin,bsize]
 rw [if_pos (by omega),bcat]
 rfl
theorem txt32 : (⟨#[32]⟩ : ByteArray) = txt [32] := rfl
theorem txt59 : (⟨#[59]⟩ : ByteArray) = txt [59] := rfl
theorem txt0 : (⟨#[]⟩ : ByteArray) = txt [] := rfl
theorem encN_len (n : Int) : (encN n).length ≤ 2 := by unfold encN; split <;> simp
theorem spN_len (l : List Int) : (l.flatMap spN).length ≤ 3 * l.length := by
 induction l with
 | nil => simp
 | cons x l ih =>
  have := encN_len x
  simp only [List.flatMap_cons,List.length_append,List.length_cons,spN]
  omega
theorem spN_snoc {l : List Int} {k : Nat} {x : Int} (h : l[k]? = some x) : (l.take (k + 1)).flatMap spN = (l.take k).flatMap spN ++ spN x := by
 rw [List.take_add_one,h,List.flatMap_append]
 simp
set_option maxHeartbeats 4000000 in
theorem r251 (t u : Nat) (a b : Int) (l m : List Int) (h : Cfg.ok ⟨a,b,l,m⟩) : res A PrA 251 [.agg [.int .i64 a,.int .i64 b,.lst t (ints l),.lst u (ints m)]] = some [.str (keyBS a b l m)] := by
 refine res_of a251 rfl rfl ?_
 simp only [F251]; try delta sS tT zZ nN gG bB pZ
 obtain ⟨h1,h2,h3,h4,h5,h6⟩ := h
 simp only at h1 h2 h3 h4 h5 h6
 have ha := r194 a h1
 have hb := r194 b h2
 have la := encN_len a
 have lb := encN_len b
 have e32 : ([32] : List UInt8).length = 1 := rfl
 have hl63 : l.length ≤ 2 ^ 63 - 1 := by omega
 have hm63 : m.length ≤ 2 ^ 63 - 1 := by omega
 simp (disch := first | omega | (simp only [List.length_append,List.length_cons,List.length_nil]; omega)) only [go_sem,ha,hb,txt32,txt59,txt0,itoaS,addT]
 refine W.upto l.length (fun k => ⟨[(1,.ptr 1 0),(3,.pv (.str (txt (encN a ++ [32] ++ encN b ++ (l.take k).flatMap spN)))),(17,.pv (.lst t (ints l))),(18,.pv (.int .i64 l.length)),(19,.pv (.int .i64 k))],⟨[(1,[.pv (.int .i64 a),.pv (.int .i64 b),.pv (.lst t (ints l)),.pv (.lst u (ints m))])],[],[]⟩⟩) (fun _ => True) (by simp) trivial fun k hk _ => ?_
 simp (disch := omega) only [go_sem]
 refine Br.ofP (fun c => ?_) (fun c => ?_)
 ·have hx := List.getElem?_eq_getElem (l := l) (i := k) (by omega)
  generalize l[k]'(by omega) = x at hx
  have hx1 := r194 x (List.all_eq_true.1 h3 x (List.mem_of_getElem? hx))
  have hs := spN_snoc hx
  have lk := spN_len (l.take k)
  have lx := encN_len x
  have lt : (l.take k).length ≤ l.length := by rw [List.length_take]; omega
  simp (disch := first | omega | (simp only [List.length_append,List.length_cons,List.length_nil]; omega)) only [go_sem,hx,hx1,itoaS,addT]
  refine .of (by omega) ?_ trivial
  rw [hs]
  simp [spN]
 obtain rfl : k = l.length := by omega
 clear hk c
 rw [List.take_length]
 have lk := spN_len l
 simp (disch := first | omega | (simp only [List.length_append,List.length_cons,List.length_nil]; omega)) only [go_sem,addT]
 refine W.upto m.length (fun k => ⟨[(3,.pv (.str (txt (encN a ++ [32] ++ encN b ++ l.flatMap spN ++ [59] ++ (m.take k).flatMap spN)))),(32,.pv (.lst u (ints m))),(33,.pv (.int .i64 m.length)),(34,.pv (.int .i64 k))],⟨[],[],[]⟩⟩) (fun _ => True) (by simp) trivial fun k hk _ => ?_
 simp (disch := omega) only [go_sem]
 refine Br.ofP (fun c => ?_) (fun c => ?_)
 ·have hx := List.getElem?_eq_getElem (l := m) (i := k) (by omega)
  generalize m[k]'(by omega) = x at hx
  have hx1 := r194 x (List.all_eq_true.1 h4 x (List.mem_of_getElem? hx))
  have hs := spN_snoc hx
  have lk2 := spN_len (m.take k)
  have lx := encN_len x
  have lt : (m.take k).length ≤ m.length := by rw [List.length_take]; omega
  simp (disch := first | omega | (simp only [List.length_append,List.length_cons,List.length_nil]; omega)) only [go_sem,hx,hx1,itoaS,addT]
  refine .of (by omega) ?_ trivial
  rw [hs]
  simp [spN]
 obtain rfl : k = m.length := by omega
 rw [List.take_length]
 simp (disch := omega) only [go_sem]
 simp [keyBS,keyB,txt,spN]
end Go.Pv
namespace Go.Pv
structure Nod (α μ : Type) where
 c : α
 bef : Int
 by' : Option μ
 path : List μ
section
variable {α μ : Type} [DecidableEq α]
def addD (out : List (Nod α μ)) (x : Nod α μ) : List (Nod α μ) := if x.c ∈ out.map Nod.c then out else out ++ [x]
def addDs (lim : Nat) : List (Nod α μ) → List (Nod α μ) → Option (List (Nod α μ))
 | out,[] => some out
 | out,x :: l => if lim < (addD out x).length then none else addDs lim (addD out x) l
def sucD (mv : α → List (μ × α)) (i : Nat) (x : Nod α μ) : List (Nod α μ) := (mv x.c).map fun y => ⟨y.2,(i : Int),some y.1,x.path ++ [y.1]⟩
def nodL (mv : α → List (μ × α)) (lim : Nat) : Nat → List (Nod α μ) → Nat → Option (List (Nod α μ))
 | 0,_,_ => none
 | n + 1,out,i => match out[i]? with
  | none => some out
  | some x => match addDs lim out (sucD mv i x) with
   | none => none
   | some out' => nodL mv lim n out' (i + 1)
def sucOf (mv : α → List (μ × α)) (c : α) : List α := (mv c).map (·.2)
def nod0 (c : α) : Nod α μ := ⟨c,-1,none,[]⟩
theorem addD_map (out : List (Nod α μ)) (x : Nod α μ) : (addD out x).map Nod.c = addU (out.map Nod.c) x.c := by
 unfold addD addU
 split <;> simp
theorem addD_pre {out : List (Nod α μ)} {x : Nod α μ} : out <+: addD out x := by
 unfold addD
 split
 ·exact List.prefix_refl _
 ·exact List.prefix_append _ _
theorem addD_len (out : List (Nod α μ)) (x : Nod α μ) : (addD out x).length = (addU (out.map Nod.c) x.c).length := by rw [← addD_map,List.length_map]
theorem addDs_map {lim : Nat} : ∀ (l out : List (Nod α μ)),(addDs lim out l).map (List.map Nod.c) = addUs lim (out.map Nod.c) (l.map Nod.c)
 | [],out => rfl
 | x :: l,out => by
  unfold addDs
  simp only [List.map_cons,addUs]
  rw [addD_len,← addD_map]
  split
  ·rfl
  ·exact addDs_map l _
omit [DecidableEq α] in
theorem sucD_map (mv : α → List (μ × α)) (i : Nat) (x : Nod α μ) : (sucD mv i x).map Nod.c = sucOf mv x.c := by simp [sucD,sucOf]
theorem nodL_map (mv : α → List (μ × α)) {lim : Nat} : ∀ (n : Nat) (out : List (Nod α μ)) (i : Nat),(nodL mv lim n out i).map (List.map Nod.c) = bfsL (sucOf mv) lim n (out.map Nod.c) i
 | 0,_,_ => rfl
 | n + 1,out,i => by
  unfold nodL bfsL
  rw [List.getElem?_map]
  cases hi : out[i]? with
  | none => rfl
  | some x =>
   simp only [Option.map_some]
   have := addDs_map (lim := lim) (sucD mv i x) out
   rw [sucD_map] at this
   cases ha : addDs lim out (sucD mv i x) with
   | none =>
    rw [ha] at this
    rw [← this]
    rfl
   | some o2 =>
    rw [ha] at this
    rw [← this]
    exact nodL_map mv n o2 (i + 1)
theorem nodL_some {mv : α → List (μ × α)} {lim n : Nat} {s : α} {o : List α} (h : bfsL (sucOf mv) lim n [s] 0 = some o) : ∃ out,nodL mv lim n [nod0 s] 0 = some out ∧ out.map Nod.c = o := by
 have := nodL_map mv (lim := lim) n [nod0 s] 0
 rw [show ([nod0 s] : List (Nod α μ)).map Nod.c = [s] from rfl,h] at this
 cases hn : nodL mv lim n [nod0 s] 0 with
 | none => rw [hn] at this; cases this
 | some out => rw [hn] at this; exact ⟨out,rfl,by injection this⟩
structure Fnd (mv : α → List (μ × α)) (s : α) (out : List (Nod α μ)) (i : Nat) : Prop where
 nd : (out.map Nod.c).Nodup
 first : out[0]? = some (nod0 s)
 way : ∀ (j : Nat) (x : Nod α μ),out[j]? = some x → 0 < j → ∃ (k : Nat) (y : Nod α μ) (m : μ),k < j ∧ k ≤ i ∧ out[k]? = some y ∧ (m,x.c) ∈ mv y.c ∧ x = ⟨x.c,(k : Int),some m,y.path ++ [m]⟩
 mono : ∀ (j k : Nat) (x y : Nod α μ),j ≤ k → out[j]? = some x → out[k]? = some y → x.path.length ≤ y.path.length
 near : ∀ (j : Nat) (x y : Nod α μ),out[i]? = some x → out[j]? = some y → y.path.length ≤ x.path.length + 1
 dn : ∀ (j : Nat) (x : Nod α μ),j < i → out[j]? = some x → ∀ c ∈ sucOf mv x.c,∃ (k : Nat) (y : Nod α μ),out[k]? = some y ∧ y.c = c ∧ y.path.length ≤ x.path.length + 1
omit [DecidableEq α] in
theorem fnd0 (mv : α → List (μ × α)) (s : α) : Fnd mv s [nod0 s] 0 where
 nd := by simp
 first := rfl
 way := fun j x hx hj => by
  obtain ⟨j,rfl⟩ : ∃ k,j = k + 1 := ⟨j - 1,by omega⟩
  simp at hx
 mono := fun j k x y _ hx hy => by
  have h1 : j = 0 := by have := (List.getElem?_eq_some_iff.1 hx).1; simpa using this
  have h2 : k = 0 := by have := (List.getElem?_eq_some_iff.1 hy).1; simpa using this
  subst h1; subst h2
  rw [hx] at hy
  cases hy
  exact Nat.le_refl _
 near := fun j x y hx hy => by
  have h2 : j = 0 := by have := (List.getElem?_eq_some_iff.1 hy).1; simpa using this
  subst h2
  rw [hx] at hy
  cases hy
  omega
 dn := fun j x hj => by omega
theorem get_pre {β : Type} {l l' : List β} (h : l <+: l') {i : Nat} {x : β} (hx : l[i]? = some x) : l'[i]? = some x := by
 obtain ⟨r,rfl⟩ := h
 rw [List.getElem?_append_left (List.getElem?_eq_some_iff.1 hx).1]
 exact hx
theorem mem_get {β : Type} {l : List β} {x : β} (h : x ∈ l) : ∃ i : Nat,l[i]? = some x := by
 obtain ⟨i,hi⟩ := List.mem_iff_getElem?.1 h
 exact ⟨i,hi⟩
theorem Fnd.adds {mv : α → List (μ × α)} {s : α} {i lim : Nat} {x : Nod α μ} : ∀ (l out out' : List (Nod α μ)),(∀ y ∈ l,∃ m,(m,y.c) ∈ mv x.c ∧ y = ⟨y.c,(i : Int),some m,x.path ++ [m]⟩) → Fnd mv s out i → out[i]? = some x → addDs lim out l = some out' →
  Fnd mv s out' i ∧ out <+: out' ∧ (∀ y ∈ l,∃ (k : Nat) (z : Nod α μ),out'[k]? = some z ∧ z.c = y.c ∧ z.path.length ≤ x.path.length + 1)
 | [],out,out',_,hf,hx,ha => by
  cases ha
  exact ⟨hf,List.prefix_refl _,fun y hy => by cases hy⟩
 | y :: l,out,out',hl,hf,hx,ha => by
  unfold addDs at ha
  split at ha
  ·cases ha
  ·have hx' : (addD out y)[i]? = some x := get_pre addD_pre hx
   obtain ⟨m,hm,hy⟩ := hl y (List.mem_cons_self ..)
   have hyl : y.path.length = x.path.length + 1 := by rw [hy]; simp
   have hf' : Fnd mv s (addD out y) i := by
    unfold addD
    split
    ·exact hf
    ·rename_i hn
     have old : ∀ {j z},(out ++ [y])[j]? = some z → (out[j]? = some z) ∨ (j = out.length ∧ z = y) := fun {j z} hz => by
      rcases Nat.lt_or_ge j out.length with hj | hj
      ·rw [List.getElem?_append_left hj] at hz
       exact .inl hz
      ·rw [List.getElem?_append_right hj] at hz
       have : j - out.length = 0 := by have := (List.getElem?_eq_some_iff.1 hz).1; simpa using this
       rw [this] at hz
       cases hz
       exact .inr ⟨by omega,rfl⟩
     have ext : ∀ {j z},out[j]? = some z → (out ++ [y])[j]? = some z := fun hz => get_pre (List.prefix_append _ _) hz
     have hil : i < out.length := (List.getElem?_eq_some_iff.1 hx).1
     refine ⟨?_,ext hf.first,fun j z hz hj => ?_,fun j k a b hjk ha hb => ?_,fun j a b ha hb => ?_,fun j a hj ha c hc => ?_⟩
     ·rw [List.map_append,List.nodup_append]
      exact ⟨hf.nd,by simp,fun a ha b hb => by
       rw [List.map_singleton,List.mem_singleton] at hb
       rw [hb]
       exact fun e => hn (e ▸ ha)⟩
     ·rcases old hz with hz | ⟨rfl,rfl⟩
      ·obtain ⟨k,w,m',h1,h2,h3,h4,h5⟩ := hf.way j z hz hj
       exact ⟨k,w,m',h1,h2,ext h3,h4,h5⟩
      ·exact ⟨i,x,m,hil,Nat.le_refl _,ext hx,hm,hy⟩
     ·rcases old hb with hb' | ⟨hk,hbe⟩
      ·rcases old ha with ha' | ⟨hj',_⟩
       ·exact hf.mono j k a b hjk ha' hb'
       ·have := (List.getElem?_eq_some_iff.1 hb').1; omega
      ·rcases old ha with ha' | ⟨_,hae⟩
       ·rw [hbe]
        have := hf.near j x a hx ha'
        omega
       ·rw [hbe,hae]
        exact Nat.le_refl _
     ·rcases old ha with ha' | ⟨h1,_⟩
      ·rcases old hb with hb' | ⟨_,hbe⟩
       ·exact hf.near j a b ha' hb'
       ·rw [hx] at ha'
        cases ha'
        rw [hbe]
        omega
      ·omega
     ·rcases old ha with ha' | ⟨h1,_⟩
      ·obtain ⟨k,w,h1,h2,h3⟩ := hf.dn j a hj ha' c hc
       exact ⟨k,w,ext h1,h2,h3⟩
      ·omega
   obtain ⟨g1,g2,g3⟩ := Fnd.adds l _ _ (fun z hz => hl z (List.mem_cons_of_mem _ hz)) hf' hx' ha
   refine ⟨g1,addD_pre.trans g2,fun z hz => ?_⟩
   rcases List.mem_cons.1 hz with rfl | hz
   ·have hin : z.c ∈ (addD out z).map Nod.c := by
     unfold addD
     split
     ·rename_i h; exact h
     ·simp
    obtain ⟨k,hk⟩ := mem_get hin
    rw [List.getElem?_map] at hk
    obtain ⟨w,hw,hwc⟩ := Option.map_eq_some_iff.1 hk
    exact ⟨k,w,get_pre g2 hw,hwc,hf'.near k x w hx' hw⟩
   ·exact g3 z hz
theorem Fnd.next {mv : α → List (μ × α)} {s : α} {i lim : Nat} {x : Nod α μ} {out out' : List (Nod α μ)} (hf : Fnd mv s out i) (hx : out[i]? = some x) (ha : addDs lim out (sucD mv i x) = some out') : Fnd mv s out' (i + 1) ∧ out <+: out' := by
 obtain ⟨g1,g2,g3⟩ := Fnd.adds (mv := mv) (s := s) (x := x) _ _ _ (fun y hy => by
  obtain ⟨p,hp,rfl⟩ := List.mem_map.1 hy
  exact ⟨p.1,hp,rfl⟩) hf hx ha
 have hx' := get_pre g2 hx
 refine ⟨⟨g1.nd,g1.first,fun j z hz hj => ?_,g1.mono,fun j a b ha hb => ?_,fun j a hj haj c hc => ?_⟩,g2⟩
 ·obtain ⟨k,w,m',h1,h2,h3⟩ := g1.way j z hz hj
  exact ⟨k,w,m',h1,by omega,h3⟩
 ·have h1 := g1.mono i (i + 1) x a (by omega) hx' ha
  have h2 := g1.near j x b hx' hb
  omega
 ·rcases Nat.lt_or_ge j i with hji | hji
  ·exact g1.dn j a hji haj c hc
  ·obtain rfl : j = i := by omega
   rw [hx'] at haj
   cases haj
   obtain ⟨p,hp,rfl⟩ := List.mem_map.1 hc
   exact g3 ⟨p.2,(j : Int),some p.1,x.path ++ [p.1]⟩ (List.mem_map.2 ⟨p,hp,rfl⟩)
theorem nodL_fnd {mv : α → List (μ × α)} {s : α} {lim : Nat} : ∀ {n : Nat} {out out' : List (Nod α μ)} {i : Nat},Fnd mv s out i → nodL mv lim n out i = some out' → Fnd mv s out' out'.length ∧ out <+: out'
 | 0,_,_,_,_,h => by cases h
 | n + 1,out,out',i,hf,h => by
  unfold nodL at h
  split at h
  ·rename_i hi
   cases h
   have hle : out.length ≤ i := List.getElem?_eq_none_iff.1 hi
   refine ⟨⟨hf.nd,hf.first,fun j z hz hj => ?_,hf.mono,fun j a b ha hb => ?_,fun j a hj ha => hf.dn j a (by omega) ha⟩,List.prefix_refl _⟩
   ·obtain ⟨k,w,m',h1,h2,h3,h4⟩ := hf.way j z hz hj
    have := (List.getElem?_eq_some_iff.1 h3).1
    exact ⟨k,w,m',h1,by omega,h3,h4⟩
   ·have := (List.getElem?_eq_some_iff.1 ha).1; omega
  ·rename_i x hx
   split at h
   ·cases h
   ·rename_i o2 ha
    obtain ⟨h1,h2⟩ := hf.next hx ha
    obtain ⟨h3,h4⟩ := nodL_fnd h1 h
    exact ⟨h3,h2.trans h4⟩
theorem nodL_end {mv : α → List (μ × α)} {s : α} {lim n : Nat} {out : List (Nod α μ)} (h : nodL mv lim n [nod0 s] 0 = some out) : Fnd mv s out out.length := (nodL_fnd (fnd0 mv s) h).1
inductive Stp (mv : α → List (μ × α)) : α → List μ → α → Prop
 | nil (c : α) : Stp mv c [] c
 | snoc {c d e : α} {l : List μ} {m : μ} : Stp mv c l d → (m,e) ∈ mv d → Stp mv c (l ++ [m]) e
omit [DecidableEq α] in
theorem Fnd.stp {mv : α → List (μ × α)} {s : α} {out : List (Nod α μ)} {i : Nat} (hf : Fnd mv s out i) : ∀ (n j : Nat) (x : Nod α μ),j ≤ n → out[j]? = some x → Stp mv s x.path x.c
 | n,j,x,hj,hx => by
  rcases Nat.eq_zero_or_pos j with h0 | h0
  ·subst h0
   rw [hf.first] at hx
   cases hx
   exact .nil _
  ·obtain ⟨k,y,m,h1,h2,h3,h4,h5⟩ := hf.way j x hx h0
   have : Stp mv s y.path y.c := match n with
    | 0 => by omega
    | n + 1 => Fnd.stp hf n k y (by omega) h3
   rw [h5]
   exact this.snoc h4
omit [DecidableEq α] in
theorem Fnd.least {mv : α → List (μ × α)} {s : α} {out : List (Nod α μ)} (hf : Fnd mv s out out.length) {l : List μ} {c : α} (h : Stp mv s l c) : ∃ (k : Nat) (y : Nod α μ),out[k]? = some y ∧ y.c = c ∧ y.path.length ≤ l.length := by
 induction h with
 | nil => exact ⟨0,_,hf.first,rfl,Nat.zero_le _⟩
 | snoc _ hm ih =>
  obtain ⟨k,y,h1,h2,h3⟩ := ih
  obtain ⟨k',y',g1,g2,g3⟩ := hf.dn k y (List.getElem?_eq_some_iff.1 h1).1 h1 _ (List.mem_map.2 ⟨_,by rw [h2]; exact hm,rfl⟩)
  exact ⟨k',y',g1,g2,by simp; omega⟩
end
end Go.Pv
