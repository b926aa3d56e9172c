/-
  What the functions of the law give.
-/
import Derived.Test.YtcgkhjdkachckaaC1
set_option linter.unusedSimpArgs false
set_option linter.unusedVariables false
/-
  Classes of states: the program's and the reference's.
-/
namespace Go.Pv

theorem leastC_spec (es : List Edge) (c : List Int) (i : Nat) : (leastC es c i = i ∨ simB es c (leastC es c i) i = true) ∧ leastC es c i ≤ i ∧ ∀ k, k < leastC es c i → simB es c k i = false := by
  unfold leastC
  cases h : (List.range i).find? fun k => simB es c k i with
  | none =>
    rw [List.find?_eq_none] at h
    exact ⟨.inl rfl, Nat.le_refl _, fun k hk => by simpa using h k (List.mem_range.2 hk)⟩
  | some l =>
    rw [List.find?_eq_some_iff_getElem] at h
    obtain ⟨h1, j, hj, h2, h3⟩ := h
    simp only [List.getElem_range] at h2 h3
    simp only [List.length_range] at hj
    subst h2
    exact ⟨.inr (by simpa using h1), by simp; omega, fun k hk => by simpa using h3 k hk⟩

theorem movesL_mem {es : List Edge} {s : Int} {c : List Int} {m : Mv} : m ∈ movesL es s c ↔ ∃ t, (⟨s, m.send, m.label, t⟩ : Edge) ∈ es ∧ m.cls = c.getD t.toNat 0 := by
  unfold movesL
  rw [List.mem_map]
  constructor
  · rintro ⟨e, he, rfl⟩
    obtain ⟨h1, h2⟩ := List.mem_filter.1 he
    simp only [beq_iff_eq] at h2
    subst h2
    exact ⟨e.to, h1, rfl⟩
  · rintro ⟨t, h1, h2⟩
    refine ⟨_, List.mem_filter.2 ⟨h1, by simp⟩, ?_⟩
    cases m
    simp_all
def Mv.lt (a b : Mv) : Bool := if a.send ≠ b.send then b.send else decide (a.label < b.label)
theorem movesL_pw {es : List Edge} (h : es.Pairwise (fun x y => Edge.lt x y = true)) (s : Int) (c : List Int) : (movesL es s c).Pairwise (fun x y => Mv.lt x y = true) := by
  unfold movesL
  rw [List.pairwise_map]
  refine List.Pairwise.imp_of_mem (fun {x y} hx hy hxy => ?_) (h.filter _)
  have hx' := (List.mem_filter.1 hx).2
  have hy' := (List.mem_filter.1 hy).2
  simp only [beq_iff_eq] at hx' hy'
  unfold Edge.lt at hxy
  rw [hx', hy'] at hxy
  simpa [Mv.lt] using hxy
theorem movesL_eq {es : List Edge} (h : es.Pairwise (fun x y => Edge.lt x y = true)) {p q : Int} {c : List Int} : movesL es p c = movesL es q c ↔ ∀ d x, (nextE p d x es).map (fun t => c.getD t.toNat 0) = (nextE q d x es).map (fun t => c.getD t.toNat 0) := by
  have ha : es.Pairwise (apt Edge.lt) := h.imp .inl
  have key : ∀ {p q : Int}, movesL es p c = movesL es q c → ∀ d x t, nextE p d x es = some t → ∃ u, nextE q d x es = some u ∧ c.getD u.toNat 0 = c.getD t.toNat 0 := fun {p q} he d x t ht => by
    have hm : (⟨d, x, c.getD t.toNat 0⟩ : Mv) ∈ movesL es p c := movesL_mem.2 ⟨t, (nextE_some ha).1 ht, rfl⟩
    rw [he] at hm
    obtain ⟨u, h1, h2⟩ := movesL_mem.1 hm
    exact ⟨u, (nextE_some ha).2 h1, h2.symm⟩
  constructor
  · intro he d x
    cases hp : nextE p d x es with
    | none =>
      cases hq : nextE q d x es with
      | none => rfl
      | some u =>
        obtain ⟨t, h1, _⟩ := key he.symm d x u hq
        rw [hp] at h1
        cases h1
    | some t =>
      obtain ⟨u, h1, h2⟩ := key he d x t hp
      rw [h1]
      simp only [Option.map_some, h2]
  · intro hh
    refine pw_ext (r := fun x y => Mv.lt x y = true) (fun x => by simp [Mv.lt]) (fun x y z h1 h2 => ?_) (movesL_pw h p c) (movesL_pw h q c) fun m => ?_
    · unfold Mv.lt at *
      by_cases b1 : x.send = y.send <;> by_cases b2 : y.send = z.send <;> simp_all <;> (try omega)
    · have half : ∀ {p q : Int}, (∀ d x, (nextE p d x es).map (fun t => c.getD t.toNat 0) = (nextE q d x es).map (fun t => c.getD t.toNat 0)) → m ∈ movesL es p c → m ∈ movesL es q c := fun {p q} hh hm => by
        obtain ⟨t, h1, h2⟩ := movesL_mem.1 hm
        have h3 := hh m.send m.label
        rw [(nextE_some ha).2 h1] at h3
        cases hq : nextE q m.send m.label es with
        | none => rw [hq] at h3; cases h3
        | some u =>
          rw [hq] at h3
          simp only [Option.map_some, Option.some.injEq] at h3
          exact movesL_mem.2 ⟨u, (nextE_some ha).1 hq, h2.trans h3⟩
      exact ⟨half hh, half fun d x => (hh d x).symm⟩

/-- The least one to which something is related. -/
structure Lst (R : Nat → Nat → Prop) (p l : Nat) : Prop where
  rel : R l p
  min : ∀ k, k < l → ¬ R k p
theorem Lst.uniq {R S : Nat → Nat → Prop} {p l m : Nat} (h : Lst R p l) (h2 : Lst S p m) (hl : R l p → S l p) (hm : S m p → R m p) : l = m := by
  rcases Nat.lt_trichotomy l m with h3 | h3 | h3
  · exact (h2.min l h3 (hl h.rel)).elim
  · exact h3
  · exact (h.min m h3 (hm h2.rel)).elim

theorem cls_spec {a : Auto} (ha : a.Good) : ∀ j,
    (∀ p q : Nat, p < a.states.toNat → q < a.states.toNat → ((cls a.states.toNat a.edges j).getD p 0 = (cls a.states.toNat a.edges j).getD q 0 ↔ Ev a.edges a.edges j p q)) ∧
    (∀ p : Nat, p < a.states.toNat → leastC a.edges (cls a.states.toNat a.edges j) p ≤ p ∧ Lst (fun k i => Ev a.edges a.edges (j + 1) k i) p (leastC a.edges (cls a.states.toNat a.edges j) p)) := by
  have second : ∀ j, (∀ p q : Nat, p < a.states.toNat → q < a.states.toNat → ((cls a.states.toNat a.edges j).getD p 0 = (cls a.states.toNat a.edges j).getD q 0 ↔ Ev a.edges a.edges j p q)) →
      ∀ p : Nat, p < a.states.toNat → leastC a.edges (cls a.states.toNat a.edges j) p ≤ p ∧ Lst (fun k i => Ev a.edges a.edges (j + 1) k i) p (leastC a.edges (cls a.states.toNat a.edges j) p) := by
    intro j hj p hp
    have hsim : ∀ k i : Nat, k < a.states.toNat → i < a.states.toNat → (simB a.edges (cls a.states.toNat a.edges j) k i = true ↔ Ev a.edges a.edges (j + 1) k i) := fun k i hk hi => by
      unfold simB
      rw [Bool.and_eq_true, decide_eq_true_eq, decide_eq_true_eq, hj k i hk hi, movesL_eq ha.asc]
      have hcl : ∀ {t u : Int}, a.inr t → a.inr u → ((cls a.states.toNat a.edges j).getD t.toNat 0 = (cls a.states.toNat a.edges j).getD u.toNat 0 ↔ Ev a.edges a.edges j t u) := fun {t u} ht hu => by
        unfold Auto.inr at ht hu
        have := hj t.toNat u.toNat (by omega) (by omega)
        rw [show ((t.toNat : Nat) : Int) = t by omega, show ((u.toNat : Nat) : Int) = u by omega] at this
        exact this
      constructor
      · rintro ⟨_, h2⟩ d x
        have h3 := h2 d x
        cases e1 : nextE k d x a.edges <;> cases e2 : nextE i d x a.edges <;> rw [e1, e2] at h3 <;> first | trivial | cases h3 | skip
        simp only [Option.map_some, Option.some.injEq] at h3
        exact (hcl (ha.next_in e1) (ha.next_in e2)).1 h3
      · intro h
        refine ⟨h.down, fun d x => ?_⟩
        have h3 := h d x
        cases e1 : nextE k d x a.edges <;> cases e2 : nextE i d x a.edges <;> rw [e1, e2] at h3 <;> first | rfl | (exact h3.elim) | skip
        simp only [Option.map_some, Option.some.injEq]
        exact (hcl (ha.next_in e1) (ha.next_in e2)).2 h3
    obtain ⟨h1, h2, h3⟩ := leastC_spec a.edges (cls a.states.toNat a.edges j) p
    refine ⟨h2, ?_, fun k hk hE => ?_⟩
    · rcases h1 with h1 | h1
      · rw [h1]
        exact Ev.refl _ _ _
      · exact (hsim _ p (by omega) hp).1 h1
    · have := h3 k hk
      rw [(hsim k p (by omega) hp).2 hE] at this
      cases this
  intro j
  induction j with
  | zero =>
    have h0 : ∀ p q : Nat, p < a.states.toNat → q < a.states.toNat → ((cls a.states.toNat a.edges 0).getD p 0 = (cls a.states.toNat a.edges 0).getD q 0 ↔ Ev a.edges a.edges 0 p q) := fun p q hp hq => by
      simp [cls, Ev, hp, hq]
    exact ⟨h0, second 0 h0⟩
  | succ j ih =>
    have hget : ∀ p : Nat, p < a.states.toNat → (cls a.states.toNat a.edges (j + 1)).getD p 0 = (leastC a.edges (cls a.states.toNat a.edges j) p : Int) := fun p hp => by
      show (stepC _ _ _).getD p 0 = _
      unfold stepC
      simp [hp]
    have h0 : ∀ p q : Nat, p < a.states.toNat → q < a.states.toNat → ((cls a.states.toNat a.edges (j + 1)).getD p 0 = (cls a.states.toNat a.edges (j + 1)).getD q 0 ↔ Ev a.edges a.edges (j + 1) p q) := fun p q hp hq => by
      rw [hget p hp, hget q hq]
      obtain ⟨hp1, hp2⟩ := ih.2 p hp
      obtain ⟨hq1, hq2⟩ := ih.2 q hq
      constructor
      · intro he
        have he' : leastC a.edges (cls a.states.toNat a.edges j) p = leastC a.edges (cls a.states.toNat a.edges j) q := by omega
        have h1 := hp2.rel
        rw [he'] at h1
        exact Ev.trans (Ev.symm h1) hq2.rel
      · intro hE
        have h1 : ¬ leastC a.edges (cls a.states.toNat a.edges j) p < leastC a.edges (cls a.states.toNat a.edges j) q := fun hlt => hq2.min _ hlt (Ev.trans hp2.rel hE)
        have h2 : ¬ leastC a.edges (cls a.states.toNat a.edges j) q < leastC a.edges (cls a.states.toNat a.edges j) p := fun hlt => hp2.min _ hlt (Ev.trans hq2.rel (Ev.symm hE))
        omega
    exact ⟨h0, second (j + 1) h0⟩
theorem cls_get (n : Nat) (es : List Edge) (j : Nat) {p : Nat} (hp : p < n) : (cls n es (j + 1))[p]? = some (leastC es (cls n es j) p : Int) := by
  show (stepC _ _ _)[p]? = _
  unfold stepC
  simp [hp]
theorem least_exists {P : Nat → Prop} : ∀ {n : Nat}, P n → ∃ m, P m ∧ ∀ k, k < m → ¬ P k := by
  intro n
  induction n using Nat.strongRecOn with
  | _ n ih =>
    intro h
    by_cases hk : ∃ k, k < n ∧ P k
    · obtain ⟨k, h1, h2⟩ := hk
      exact ih k h1 h2
    · exact ⟨n, h, fun k h1 h2 => hk ⟨k, h1, h2⟩⟩
/-- The classes come to rest. -/
theorem cls_rest {a : Auto} (ha : a.Good) : ∃ J, cls a.states.toNat a.edges (J + 1) = cls a.states.toNat a.edges J ∧ ∀ j, j < J → cls a.states.toNat a.edges (j + 1) ≠ cls a.states.toNat a.edges j := by
  refine least_exists (P := fun J => cls a.states.toNat a.edges (J + 1) = cls a.states.toNat a.edges J) (n := a.states.toNat * a.states.toNat + 1) ?_
  apply List.ext_getElem?
  intro p
  rcases Nat.lt_or_ge p a.states.toNat with hp | hp
  · rw [cls_get _ _ _ hp, cls_get _ _ _ hp]
    have h1 := ((cls_spec ha (a.states.toNat * a.states.toNat + 1)).2 p hp)
    have h2 := ((cls_spec ha (a.states.toNat * a.states.toNat)).2 p hp)
    congr 2
    refine h1.2.uniq h2.2 (fun h => h.down) fun h => ?_
    refine Ev.stable ha ha ?_ ?_ h.down _
    · unfold Auto.inr; omega
    · unfold Auto.inr; omega
  · rw [List.getElem?_eq_none (by rw [cls_len]; exact hp), List.getElem?_eq_none (by rw [cls_len]; exact hp)]

/-- The least state from which the reference's table tells none apart. -/
def leastR (D : List (List Int)) (n : Nat) (p : Nat) : Nat := ((List.range n).find? fun (q : Nat) => decide (ent D p q = 0)).getD 0
def Auto.classes (a : Auto) : List Int := (List.range a.states.toNat).map fun p => (leastR (differ a a) a.states.toNat p : Int)
theorem classes_len (a : Auto) : a.classes.length = a.states.toNat := by simp [Auto.classes]
theorem leastR_spec {a : Auto} (ha : a.Good) {p : Nat} (hp : p < a.states.toNat) : leastR (differ a a) a.states.toNat p ≤ p ∧ Lst (fun k i => ∀ j, Ev a.edges a.edges j k i) p (leastR (differ a a) a.states.toNat p) ∧ ent (differ a a) p (leastR (differ a a) a.states.toNat p : Nat) = 0 ∧ ∀ k, k < leastR (differ a a) a.states.toNat p → ent (differ a a) p k ≠ 0 := by
  have hz : ∀ q : Nat, q < a.states.toNat → (ent (differ a a) p q = 0 ↔ ∀ j, Ev a.edges a.edges j q p) := fun q hq => by
    rw [differ_zero ha ha (by unfold Auto.inr; omega) (by unfold Auto.inr; omega)]
    exact ⟨fun h j => (h j).symm, fun h j => (h j).symm⟩
  unfold leastR
  cases h : (List.range a.states.toNat).find? fun (q : Nat) => decide (ent (differ a a) p q = 0) with
  | none =>
    rw [List.find?_eq_none] at h
    have := h p (List.mem_range.2 hp)
    exact (this (by simpa using (hz p hp).2 fun j => Ev.refl _ j _)).elim
  | some l =>
    rw [List.find?_eq_some_iff_getElem] at h
    obtain ⟨h1, j, hj, h2, h3⟩ := h
    simp only [List.getElem_range] at h2 h3
    simp only [List.length_range] at hj
    subst h2
    simp only [Option.getD_some]
    have h1' : ent (differ a a) p j = 0 := by simpa using h1
    have h3' : ∀ k, k < j → ent (differ a a) p k ≠ 0 := fun k hk => by simpa using h3 k hk
    refine ⟨?_, ⟨(hz j hj).1 h1', fun k hk hE => h3' k hk ((hz k (by omega)).2 hE)⟩, h1', h3'⟩
    rcases Nat.lt_or_ge p j with h4 | h4
    · exact (h3' p h4 ((hz p hp).2 fun j => Ev.refl _ j _)).elim
    · exact h4
/-- Both find the same classes. -/
theorem cls_classes {a : Auto} (ha : a.Good) {J : Nat} (hJ : cls a.states.toNat a.edges (J + 1) = cls a.states.toNat a.edges J) : cls a.states.toNat a.edges J = a.classes := by
  rw [← hJ]
  apply List.ext_getElem?
  intro p
  rcases Nat.lt_or_ge p a.states.toNat with hp | hp
  · rw [cls_get _ _ _ hp]
    unfold Auto.classes
    rw [List.getElem?_map, List.getElem?_range hp]
    simp only [Option.map_some]
    congr 2
    obtain ⟨h1, h2⟩ := (cls_spec ha J).2 p hp
    obtain ⟨g1, g2, _⟩ := leastR_spec ha hp
    refine h2.uniq g2 (fun h => ?_) fun h => h _
    refine Ev.fix ha ha (j := J) (fun s t hs ht hE => ?_) (by unfold Auto.inr; omega) (by unfold Auto.inr; omega) h.down
    unfold Auto.inr at hs ht
    have e1 := (cls_spec ha J).1 s.toNat t.toNat (by omega) (by omega)
    have e2 := (cls_spec ha (J + 1)).1 s.toNat t.toNat (by omega) (by omega)
    rw [show ((s.toNat : Nat) : Int) = s by omega, show ((t.toNat : Nat) : Int) = t by omega] at e1 e2
    rw [hJ] at e2
    exact e2.1 (e1.2 hE)
  · rw [List.getElem?_eq_none (by rw [cls_len]; exact hp), List.getElem?_eq_none (by rw [classes_len]; exact hp)]

end Go.Pv

/-
  Classes and minimized automata.
-/
namespace Go.Pv

set_option maxHeartbeats 2000000 in
/-- Classes, of the reference. -/
@[go_sem] theorem r11 (t : Nat) (a : Auto) (hl : a.edges.length ≤ 2000000000) : res A PrA 11 [.agg [.int .i64 a.states, .int .i64 a.start, .lst t (a.edges.map Edge.c)]] = some (if a.err = 0 then [.lst 0 (ints a.classes), .int .i64 0] else [.lst 0 [], .int .i64 a.err]) := by
  refine res_of a11 rfl rfl ?_
  simp only [F11]
  simp (disch := omega) only [go_sem]
  refine Br.ofP (fun h1 => ?_) (fun h1 => ?_) <;> simp (disch := omega) only [go_sem, h1]
  have hg := Auto.good_iff.1 h1
  have hmx := hg.mx
  have h31 := r31 t t a a hg hg
  have hM := (difM_ent hg hg (a.states.toNat * a.states.toNat)).1
  have hD : differ a a = difM a.edges a.edges a.states.toNat a.states.toNat (a.states.toNat * a.states.toNat) := rfl
  rw [← hD] at hM
  simp (disch := omega) only [go_sem, h31]
  refine W.upto a.states.toNat (fun p => ⟨[(1, .ptr 1 0), (5, .pv (.lst 0 (lls (differ a a)))), (6, grV 0 (ints (a.classes.take p))), (7, .pv (.int .i64 p))], ⟨[(1, [.pv (.int .i64 a.states), .pv (.int .i64 a.start), .pv (.lst t (a.edges.map Edge.c))])], grA 1 (ints (a.classes.take p)), []⟩⟩) (fun _ => True) rfl trivial fun p hp _ => ?_
  have htl : (a.classes.take p).length = p := by rw [List.length_take, classes_len]; omega
  simp (disch := omega) only [go_sem]
  refine Br.ofP (fun h => ?_) (fun h => ?_)
  · have hpn : p < a.states.toNat := by omega
    obtain ⟨e1, e2, e3, e4⟩ := leastR_spec hg hpn
    have hcg : a.classes[p]? = some (leastR (differ a a) a.states.toNat p : Int) := by
      unfold Auto.classes
      rw [List.getElem?_map, List.getElem?_range hpn]
      rfl
    have htk : a.classes.take (p + 1) = a.classes.take p ++ [(leastR (differ a a) a.states.toNat p : Int)] := by rw [List.take_add_one, hcg]; rfl
    simp (disch := omega) only [go_sem]
    refine W.upto (leastR (differ a a) a.states.toNat p) (fun q => ⟨[(1, .ptr 1 0), (5, .pv (.lst 0 (lls (differ a a)))), (6, grV 0 (ints (a.classes.take p))), (7, .pv (.int .i64 p)), (8, .pv (.int .i64 q))], ⟨[(1, [.pv (.int .i64 a.states), .pv (.int .i64 a.start), .pv (.lst t (a.edges.map Edge.c))])], grA 1 (ints (a.classes.take p)), []⟩⟩) (fun _ => True) rfl trivial fun q hq _ => ?_
    obtain ⟨l, f1, f2, f3⟩ := hM.get (p := (p : Int)) (q := (q : Int)) (by omega) (by omega)
    rw [Int.toNat_natCast] at f1 f3
    simp (disch := omega) only [go_sem, f1, f3]
    refine Br.ofP (fun g => ?_) (fun g => ?_)
    · have hql : q = leastR (differ a a) a.states.toNat p := by
        rcases Nat.lt_or_ge q (leastR (differ a a) a.states.toNat p) with h' | h'
        · exact (e4 q h' g).elim
        · omega
      simp (disch := omega) only [go_sem]
      refine .of (by omega) ?_ trivial
      show _ = St.mk _ _
      rw [htk, hql]
      rfl
    · have hql : q < leastR (differ a a) a.states.toNat p := by
        rcases Nat.lt_or_ge q (leastR (differ a a) a.states.toNat p) with h' | h'
        · exact h'
        · have : q = leastR (differ a a) a.states.toNat p := by omega
          rw [this] at g
          exact (g e3).elim
      simp (disch := omega) only [go_sem]
      exact .of hql rfl trivial
  · obtain rfl : p = a.states.toNat := by omega
    simp (disch := omega) only [go_sem]
    rw [if_pos h1, List.take_of_length_le (by rw [classes_len]; exact Nat.le_refl _)]

/-- Classes. -/
@[go_sem] theorem r10 (t : Nat) (a : Auto) (hl : a.edges.length ≤ 2000000000) : res A PrA 10 [.agg [.int .i64 a.states, .int .i64 a.start, .lst t (a.edges.map Edge.c)]] = some (if a.err = 0 then [.lst 0 (ints a.classes), .int .i64 0] else [.lst 0 [], .int .i64 a.err]) := by
  refine res_of a10 rfl rfl ?_
  simp only [F10]
  simp (disch := omega) only [go_sem]
  refine Br.ofP (fun h1 => ?_) (fun h1 => ?_) <;> simp (disch := omega) only [go_sem, h1]
  have hg := Auto.good_iff.1 h1
  have hmx := hg.mx
  have hst := hg.st
  obtain ⟨J, hJ, hb⟩ := cls_rest hg
  have hto : ∀ e ∈ a.edges, 0 ≤ e.to ∧ e.to < (a.states.toNat : Int) := fun e he => by have := fits_iff.1 (hg.fit e he); omega
  have h30 := r30 t a.states.toNat J a.start a.edges (by omega) hl hto hJ hb
  rw [cls_classes hg hJ, show ((a.states.toNat : Nat) : Int) = a.states by omega] at h30
  simp (disch := omega) only [go_sem, h30]
  rw [if_pos h1]

/-- The automaton of the classes. -/
def Auto.cl (a : Auto) (v : Int) : Int := a.classes.getD v.toNat 0
def Auto.merged (a : Auto) : Auto := ⟨a.states, a.cl a.start, (a.edges.filter fun e => a.cl e.fr == e.fr).map fun e => ⟨e.fr, e.send, e.label, a.cl e.to⟩⟩
def Auto.mini (a : Auto) : Auto := a.merged.trim
theorem Auto.Good.cl_in {a : Auto} (h : a.Good) {v : Int} (hv : a.inr v) : a.classes[v.toNat]? = some (a.cl v) ∧ a.inr (a.cl v) ∧ a.cl v ≤ v := by
  unfold Auto.inr at hv
  have hvn : v.toNat < a.states.toNat := by omega
  obtain ⟨e1, _⟩ := leastR_spec h hvn
  have hcg : a.classes[v.toNat]? = some (leastR (differ a a) a.states.toNat v.toNat : Int) := by
    unfold Auto.classes
    rw [List.getElem?_map, List.getElem?_range hvn]
    rfl
  have hc : a.cl v = (leastR (differ a a) a.states.toNat v.toNat : Int) := by
    unfold Auto.cl
    rw [List.getD_eq_getElem?_getD, hcg]
    rfl
  unfold Auto.inr
  exact ⟨by rw [hcg, hc], by omega, by omega⟩
theorem Auto.Good.merged {a : Auto} (h : a.Good) : a.merged.Good where
  st := (h.cl_in h.st).2.1
  mx := h.mx
  len := by
    show ((a.edges.filter _).map _).length ≤ 100
    rw [List.length_map]
    have := List.length_filter_le (fun e : Edge => a.cl e.fr == e.fr) a.edges
    have := h.len
    omega
  fit x hx := by
    obtain ⟨e, he, rfl⟩ := List.mem_map.1 hx
    have hf := fits_iff.1 (h.fit e (List.mem_filter.1 he).1)
    have := (h.cl_in (v := e.to) ⟨hf.2.2.1, hf.2.2.2.1⟩).2.1
    rw [fits_iff]
    exact ⟨hf.1, hf.2.1, this.1, this.2, hf.2.2.2.2⟩
  asc := by
    show ((a.edges.filter _).map _).Pairwise _
    rw [List.pairwise_map]
    exact (h.asc.filter _).imp fun {x y} hxy => hxy

end Go.Pv

/-
  Minimized automata; the law of classes.
-/
namespace Go.Pv

theorem merged_fold (a : Auto) : a.edges.foldl (fun o e => if a.cl e.fr = e.fr then o ++ [(⟨e.fr, e.send, e.label, a.cl e.to⟩ : Edge)] else o) [] = a.merged.edges := by
  have h := fold_filter (fun e : Edge => a.cl e.fr == e.fr) (fun e => (⟨e.fr, e.send, e.label, a.cl e.to⟩ : Edge)) a.edges []
  rw [List.nil_append] at h
  rw [← show _ = a.merged.edges from h]
  congr 1
  funext o e
  by_cases hc : a.cl e.fr = e.fr
  · simp [hc]
  · simp [hc]

set_option maxHeartbeats 4000000 in
/-- Minimize. -/
@[go_sem] theorem r12 (t : Nat) (a : Auto) (hl : a.edges.length ≤ 2000000000) : res A PrA 12 [.agg [.int .i64 a.states, .int .i64 a.start, .lst t (a.edges.map Edge.c)]] = some (if a.err = 0 then [.agg [.int .i64 a.mini.states, .int .i64 0, .lst 0 (edgs a.mini.edges)], .int .i64 0] else [.agg [.int .i64 0, .int .i64 0, .lst 0 []], .int .i64 a.err]) := by
  refine res_of a12 rfl rfl ?_
  simp only [F12]
  by_cases h1 : a.err = 0
  case neg => simp (disch := omega) only [go_sem, h1]
  have hg := Auto.good_iff.1 h1
  have hst := hg.st
  have hmx := hg.mx
  obtain ⟨c1, c2, c3⟩ := hg.cl_in hg.st
  have hcl := classes_len a
  simp (disch := omega) only [go_sem, h1, idxR_int, c1]
  refine W.fold a.edges (fun o e => if a.cl e.fr = e.fr then o ++ [(⟨e.fr, e.send, e.label, a.cl e.to⟩ : Edge)] else o) [] (fun k o => ⟨[(2, .ptr 2 0), (4, .pv (.lst 0 (ints a.classes))), (6, .ptr 6 0), (27, .pv (.lst t (a.edges.map Edge.c))), (28, .pv (.int .i64 a.edges.length)), (29, .pv (.int .i64 k))], ⟨[(2, [.pv (.int .i64 0), .pv (.int .i64 0), .tl []]), (6, [.pv (.int .i64 a.states), .pv (.int .i64 (a.cl a.start)), grV 0 (edgs o)])], grA 4 (edgs o), []⟩⟩) (fun k o => o.length ≤ k) rfl (Nat.le_refl _) (fun k e o he hk _ hi => ?_) (fun o ho hi => ?_)
  · have hf := fits_iff.1 (hg.fit e (List.mem_of_getElem? he))
    obtain ⟨d1, d2, d3⟩ := hg.cl_in (v := e.fr) ⟨hf.1, hf.2.1⟩
    obtain ⟨e1, e2, e3⟩ := hg.cl_in (v := e.to) ⟨hf.2.2.1, hf.2.2.2.1⟩
    simp (disch := omega) only [go_sem, he]
    refine Br.ofP (fun h => ?_) (fun h => (h (by omega)).elim)
    simp (disch := omega) only [go_sem, he, idxR_int, d1]
    refine Br.ofP (fun f => ?_) (fun f => ?_) <;> simp (disch := omega) only [go_sem, f, idxR_int, e1]
    · refine foldK.of ?_ (by rw [if_pos f]; simp; omega)
      show _ = St.mk _ _
      rw [if_pos f]
      rfl
    · refine foldK.of ?_ (by rw [if_neg f]; omega)
      show _ = St.mk _ _
      rw [if_neg f]
      rfl
  · rw [merged_fold] at ho
    subst ho
    have hm := hg.merged
    have hme := Auto.good_iff.2 hm
    have hml := hm.len
    have hmm : (⟨a.states, a.cl a.start, a.merged.edges⟩ : Auto) = a.merged := rfl
    simp (disch := omega) only [go_sem, hmm, hme]
    rw [if_pos h1]
    rfl
set_option maxHeartbeats 4000000 in
/-- Minimize, of the reference. -/
@[go_sem] theorem r13 (t : Nat) (a : Auto) (hl : a.edges.length ≤ 2000000000) : res A PrA 13 [.agg [.int .i64 a.states, .int .i64 a.start, .lst t (a.edges.map Edge.c)]] = some (if a.err = 0 then [.agg [.int .i64 a.mini.states, .int .i64 0, .lst 0 (edgs a.mini.edges)], .int .i64 0] else [.agg [.int .i64 0, .int .i64 0, .lst 0 []], .int .i64 a.err]) := by
  refine res_of a13 rfl rfl ?_
  simp only [F13]
  by_cases h1 : a.err = 0
  case neg => simp (disch := omega) only [go_sem, h1]
  have hg := Auto.good_iff.1 h1
  have hst := hg.st
  have hmx := hg.mx
  obtain ⟨c1, c2, c3⟩ := hg.cl_in hg.st
  have hcl := classes_len a
  simp (disch := omega) only [go_sem, h1, idxR_int, c1]
  refine W.fold a.edges (fun o e => if a.cl e.fr = e.fr then o ++ [(⟨e.fr, e.send, e.label, a.cl e.to⟩ : Edge)] else o) [] (fun k o => ⟨[(1, .ptr 1 0), (2, .ptr 2 0), (4, .pv (.lst 0 (ints a.classes))), (6, .ptr 6 0), (7, .pv (.int .i64 k))], ⟨[(1, [.pv (.int .i64 a.states), .pv (.int .i64 a.start), .pv (.lst t (a.edges.map Edge.c))]), (2, [.pv (.int .i64 0), .pv (.int .i64 0), .tl []]), (6, [.pv (.int .i64 a.states), .pv (.int .i64 (a.cl a.start)), grV 0 (edgs o)])], grA 4 (edgs o), []⟩⟩) (fun k o => o.length ≤ k) rfl (Nat.le_refl _) (fun k e o he hk _ hi => ?_) (fun o ho hi => ?_)
  · have hf := fits_iff.1 (hg.fit e (List.mem_of_getElem? he))
    obtain ⟨d1, d2, d3⟩ := hg.cl_in (v := e.fr) ⟨hf.1, hf.2.1⟩
    obtain ⟨e1, e2, e3⟩ := hg.cl_in (v := e.to) ⟨hf.2.2.1, hf.2.2.2.1⟩
    simp (disch := omega) only [go_sem, he]
    refine Br.ofP (fun h => ?_) (fun h => (h (by omega)).elim)
    simp (disch := omega) only [go_sem, he, idxR_int, d1]
    refine Br.ofP (fun f => ?_) (fun f => ?_) <;> simp (disch := omega) only [go_sem, f, idxR_int, e1]
    · refine foldK.of ?_ (by rw [if_pos f]; simp; omega)
      show _ = St.mk _ _
      rw [if_pos f]
      rfl
    · refine foldK.of ?_ (by rw [if_neg f]; omega)
      show _ = St.mk _ _
      rw [if_neg f]
      rfl
  · rw [merged_fold] at ho
    subst ho
    have hm := hg.merged
    have hme := Auto.good_iff.2 hm
    have hml := hm.len
    have hs2 : sortB Edge.lt (kept a.merged.order a.merged.edges) = a.mini.edges := sortB_isort Edge.lt_irr Edge.lt_tr (kept_apt hm.apt)
    have hmm : (⟨a.states, a.cl a.start, a.merged.edges⟩ : Auto) = a.merged := rfl
    simp (disch := omega) only [go_sem, hmm, hme, hs2]
    rw [if_pos h1]
    rfl

end Go.Pv

/-
  The law of classes.
-/
namespace Go.Pv

theorem r14n : res A PrA 14 [.lst 0 [], .lst 0 []] = some [.bool true] := by
  have h := r14 0 0 [] [] (by simp) (by simp)
  rw [decide_eq_true rfl] at h
  exact h
theorem r15n' : res A PrA 15 [.agg [.int .i64 0, .int .i64 0, .lst 0 []], .agg [.int .i64 0, .int .i64 0, .lst 0 []]] = some [.bool true] := by
  have h := r15e 0 0 0 0 0 0 [] [] (by simp) (by simp)
  rw [decide_eq_true rfl] at h
  exact h
set_option maxHeartbeats 1000000 in
/-- MinimalClasses. -/
theorem r0 (a : Auto) (hl : a.edges.length ≤ 2 ^ 63 - 1) : res A PrA 0 [.agg [.int .i64 a.states, .int .i64 a.start, .lst 0 (a.edges.map Edge.c)]] = some [.bool true] := by
  refine res_of a0 rfl rfl ?_
  simp only [F0]
  simp (disch := omega) only [go_sem, r8, r9_one]
  refine Br.ofP (fun h1 => ?_) (fun h1 => ?_) <;> simp (disch := omega) only [go_sem, r8]
  by_cases he : a.err = 0
  · have hg := Auto.good_iff.1 he
    have hmx := hg.mx
    have hcl := classes_len a
    have hml := hg.merged.trim.len
    have hml' : a.mini.edges.length ≤ 100 := hml
    simp (disch := omega) only [go_sem, he]
  · simp (disch := omega) only [go_sem, he, r14n, r15n']

end Go.Pv

