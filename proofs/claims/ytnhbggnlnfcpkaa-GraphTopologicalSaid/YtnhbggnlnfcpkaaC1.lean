/-
  What the functions of the law give.
-/
import Derived.Test.YtnhbggnlnfcpkaaTab
set_option linter.unusedSimpArgs false
set_option linter.unusedVariables false
/-
  Plain laws: ascending lists; breadth-first searches.
-/
namespace Go.Pv

/-- Ascending lists with the same members are the same. -/
theorem pw_ext {α : Type} {r : α → α → Prop} (irr : ∀ x, ¬ r x x) (tr : ∀ x y z, r x y → r y z → r x z) : ∀ {l m : List α}, l.Pairwise r → m.Pairwise r → (∀ x, x ∈ l ↔ x ∈ m) → l = m
  | [], [], _, _, _ => rfl
  | [], y :: m, _, _, h => absurd ((h y).2 (by simp)) (by simp)
  | x :: l, [], _, _, h => absurd ((h x).1 (by simp)) (by simp)
  | x :: l, y :: m, hl, hm, h => by
    rw [List.pairwise_cons] at hl hm
    have e : x = y := by
      rcases List.mem_cons.1 ((h x).1 (by simp)) with e | hx
      · exact e
      · rcases List.mem_cons.1 ((h y).2 (by simp)) with e | hy
        · exact e.symm
        · exact (irr x (tr x y x (hl.1 y hy) (hm.1 x hx))).elim
    subst e
    congr 1
    refine pw_ext irr tr hl.2 hm.2 fun z => ⟨fun hz => ?_, fun hz => ?_⟩
    · rcases List.mem_cons.1 ((h z).1 (List.mem_cons_of_mem _ hz)) with rfl | hz'
      · exact (irr z (hl.1 z hz)).elim
      · exact hz'
    · rcases List.mem_cons.1 ((h z).2 (List.mem_cons_of_mem _ hz)) with rfl | hz'
      · exact (irr z (hm.1 z hz)).elim
      · exact hz'

theorem asc_ext {l m : List Int} (hl : l.Pairwise (· < ·)) (hm : m.Pairwise (· < ·)) (h : ∀ x, x ∈ l ↔ x ∈ m) : l = m :=
  pw_ext (r := (· < ·)) (fun x => Int.lt_irrefl x) (fun _ _ _ => Int.lt_trans) hl hm h

/-- Numbers from 0 on, each once: no more than there are. -/
theorem nodup_bound {l : List Int} {n : Nat} (hn : l.Nodup) (h : ∀ x ∈ l, 0 ≤ x ∧ x < n) : l.length ≤ n := by
  have := List.Nodup.length_le_of_subset (l₂ := (List.range n).map Int.ofNat) hn (fun x hx => by
    have := h x hx
    rw [List.mem_map]
    exact ⟨x.toNat, List.mem_range.2 (by omega), by simp; omega⟩)
  simpa using this

section
variable {α : Type} [DecidableEq α]

/-- One more, unless it is there. -/
def addN (o : List α) (x : α) : List α := if x ∈ o then o else o ++ [x]
theorem addN_mem {o : List α} {x y : α} : y ∈ addN o x ↔ y ∈ o ∨ y = x := by
  unfold addN
  split
  · rename_i h
    exact ⟨.inl, fun h' => h'.elim id (fun e => e ▸ h)⟩
  · simp
theorem addN_nodup {o : List α} {x : α} (h : o.Nodup) : (addN o x).Nodup := by
  unfold addN
  split
  · exact h
  · rename_i hx
    rw [List.nodup_append]
    exact ⟨h, by simp, fun a ha b hb => by
      rw [List.mem_singleton] at hb
      subst hb
      exact fun e => hx (e ▸ ha)⟩
theorem addN_pre (o : List α) (x : α) : o <+: addN o x := by
  unfold addN
  split
  · exact List.prefix_refl o
  · exact List.prefix_append o [x]
def addL (o : List α) (l : List α) : List α := l.foldl addN o
theorem addL_cons (o : List α) (x : α) (l : List α) : addL o (x :: l) = addL (addN o x) l := rfl
theorem addL_snoc (o : List α) (l : List α) (x : α) : addL o (l ++ [x]) = addN (addL o l) x := by simp [addL, List.foldl_append]
theorem addL_mem : ∀ {l o : List α} {y : α}, y ∈ addL o l ↔ y ∈ o ∨ y ∈ l
  | [], o, y => by simp [addL]
  | x :: l, o, y => by
    rw [addL_cons, addL_mem, addN_mem]
    simp [or_assoc]
theorem addL_nodup : ∀ {l o : List α}, o.Nodup → (addL o l).Nodup
  | [], _, h => h
  | x :: l, o, h => by
    rw [addL_cons]
    exact addL_nodup (addN_nodup h)
theorem addL_pre : ∀ (o l : List α), o <+: addL o l
  | o, [] => List.prefix_refl o
  | o, x :: l => by
    rw [addL_cons]
    exact (addN_pre o x).trans (addL_pre _ l)

/-- A breadth-first search, for so many rounds. -/
def bfs (nx : α → List α) : Nat → Nat → List α → List α
  | 0, _, o => o
  | n + 1, i, o => match o[i]? with
    | none => o
    | some v => bfs nx n (i + 1) (addL o (nx v))

theorem bfs_step {nx : α → List α} {n i : Nat} {o : List α} {v : α} (h : o[i]? = some v) : bfs nx (n + 1) i o = bfs nx n (i + 1) (addL o (nx v)) := by
  simp only [bfs, h]
theorem bfs_end {nx : α → List α} : ∀ {n i : Nat} {o : List α}, o.length ≤ i → bfs nx n i o = o
  | 0, _, _, _ => rfl
  | n + 1, i, o, h => by simp only [bfs, List.getElem?_eq_none h]

theorem bfs_pre {nx : α → List α} : ∀ (n i : Nat) (o : List α), o <+: bfs nx n i o
  | 0, _, o => List.prefix_refl o
  | n + 1, i, o => by
    unfold bfs
    split
    · exact List.prefix_refl o
    · exact (addL_pre o _).trans (bfs_pre n _ _)
theorem bfs_nodup {nx : α → List α} : ∀ (n i : Nat) {o : List α}, o.Nodup → (bfs nx n i o).Nodup
  | 0, _, _, h => h
  | n + 1, i, o, h => by
    unfold bfs
    split
    · exact h
    · exact bfs_nodup n _ (addL_nodup h)

/-- What is reached from something. -/
inductive Rch (nx : α → List α) (s : α) : α → Prop
  | refl : Rch nx s s
  | step {v x : α} : Rch nx s v → x ∈ nx v → Rch nx s x
omit [DecidableEq α] in
theorem Rch.trans {nx : α → List α} {s v x : α} (h : Rch nx s v) (h2 : Rch nx v x) : Rch nx s x := by
  induction h2 with
  | refl => exact h
  | step _ hx ih => exact .step ih hx
omit [DecidableEq α] in
theorem Rch.head {nx : α → List α} {s v x : α} (h : v ∈ nx s) (h2 : Rch nx v x) : Rch nx s x := Rch.trans (.step .refl h) h2

theorem bfs_all {nx : α → List α} {P : α → Prop} (hP : ∀ v, P v → ∀ x ∈ nx v, P x) : ∀ (n i : Nat) {o : List α}, (∀ v ∈ o, P v) → ∀ v ∈ bfs nx n i o, P v
  | 0, _, _, h => h
  | n + 1, i, o, h => by
    unfold bfs
    split
    · exact h
    · rename_i v hv
      refine bfs_all hP n _ fun x hx => ?_
      rcases addL_mem.1 hx with hx | hx
      · exact h x hx
      · exact hP v (h v (List.mem_of_getElem? hv)) x hx

/-- It ends closed, if there are rounds enough. -/
theorem bfs_done {nx : α → List α} {N : Nat} {P : α → Prop} (hP : ∀ v, P v → ∀ x ∈ nx v, P x) (hN : ∀ o : List α, o.Nodup → (∀ v ∈ o, P v) → o.length ≤ N) : ∀ (n i : Nat) {o : List α}, N ≤ n + i → o.Nodup → (∀ v ∈ o, P v) →
    (∀ j v, j < i → o[j]? = some v → ∀ x ∈ nx v, x ∈ o) → ∀ v ∈ bfs nx n i o, ∀ x ∈ nx v, x ∈ bfs nx n i o
  | 0, i, o, hn, hd, ho, hc => by
    intro v hv x hx
    obtain ⟨j, hj, rfl⟩ := List.getElem_of_mem hv
    have := hN o hd ho
    have hlt : j < o.length := hj
    exact hc j o[j] (by omega) (by simp) x hx
  | n + 1, i, o, hn, hd, ho, hc => by
    unfold bfs
    split
    · rename_i hnone
      intro v hv x hx
      obtain ⟨j, hj, rfl⟩ := List.getElem_of_mem hv
      have := List.getElem?_eq_none_iff.1 hnone
      exact hc j o[j] (by omega) (by simp) x hx
    · rename_i v hv
      refine bfs_done hP hN n (i + 1) (by omega) (addL_nodup hd) (fun x hx => ?_) (fun j w hj hw x hx => ?_)
      · rcases addL_mem.1 hx with hx | hx
        · exact ho x hx
        · exact hP v (ho v (List.mem_of_getElem? hv)) x hx
      · rw [addL_mem]
        have hi : i < o.length := (List.getElem?_eq_some_iff.1 hv).1
        obtain ⟨t, ht⟩ := addL_pre o (nx v)
        rw [← ht, List.getElem?_append_left (by omega)] at hw
        rcases Nat.lt_or_ge j i with h | h
        · exact .inl (hc j w h hw x hx)
        · obtain rfl : j = i := by omega
          rw [hv] at hw
          cases hw
          exact .inr hx

/-- Exactly what is reached is found. -/
theorem bfs_rch {nx : α → List α} {N : Nat} {P : α → Prop} {s : α} (hP : ∀ v, P v → ∀ x ∈ nx v, P x) (hN : ∀ o : List α, o.Nodup → (∀ v ∈ o, P v) → o.length ≤ N) (hs : P s) {v : α} : v ∈ bfs nx N 0 [s] ↔ Rch nx s v := by
  constructor
  · exact bfs_all (P := Rch nx s) (fun v hv x hx => .step hv hx) N 0 (by simp; exact .refl) v
  · have hc := bfs_done hP hN N 0 (o := [s]) (by omega) (by simp) (by simpa using hs) (fun j v hj => absurd hj (Nat.not_lt_zero _))
    have hp : s ∈ bfs nx N 0 [s] := (bfs_pre N 0 [s]).subset (by simp)
    intro h
    induction h with
    | refl => exact hp
    | step _ hx ih => exact hc _ ih _ hx

section
variable {β : Type} [DecidableEq β]
theorem addN_map {g : α → β} {o : List α} {x : α} (hg : ∀ y ∈ o, g y = g x → y = x) : addN (o.map g) (g x) = (addN o x).map g := by
  unfold addN
  by_cases h : x ∈ o
  · rw [if_pos h, if_pos (List.mem_map_of_mem h)]
  · rw [if_neg h, if_neg (fun hm => by
      obtain ⟨y, hy, e⟩ := List.mem_map.1 hm
      exact h (hg y hy e ▸ hy)), List.map_append]
    rfl
theorem addL_map {g : α → β} {P : α → Prop} (hg : ∀ x y, P x → P y → g x = g y → x = y) : ∀ (l : List α) {o : List α}, (∀ v ∈ o, P v) → (∀ v ∈ l, P v) → addL (o.map g) (l.map g) = (addL o l).map g
  | [], _, _, _ => rfl
  | x :: l, o, ho, hl => by
    rw [List.map_cons, addL_cons, addL_cons, addN_map (fun y hy e => hg y x (ho y hy) (hl x (by simp)) e)]
    refine addL_map hg l (fun v hv => ?_) (fun v hv => hl v (by simp [hv]))
    rcases addN_mem.1 hv with h | h
    · exact ho v h
    · exact h ▸ hl x (by simp)
/-- The same search under other names. -/
theorem bfs_map {g : α → β} {P : α → Prop} {nx : α → List α} {nx' : β → List β} (hg : ∀ x y, P x → P y → g x = g y → x = y) (hP : ∀ v, P v → ∀ x ∈ nx v, P x) (hx : ∀ v, P v → nx' (g v) = (nx v).map g) :
    ∀ (n i : Nat) {o : List α}, (∀ v ∈ o, P v) → bfs nx' n i (o.map g) = (bfs nx n i o).map g
  | 0, _, _, _ => rfl
  | n + 1, i, o, ho => by
    simp only [bfs, List.getElem?_map]
    cases h : o[i]? with
    | none => rfl
    | some v =>
      have hv := ho v (List.mem_of_getElem? h)
      simp only [Option.map_some]
      rw [hx v hv, addL_map hg (nx v) ho (hP v hv)]
      refine bfs_map hg hP hx n (i + 1) fun x hx' => ?_
      rcases addL_mem.1 hx' with h' | h'
      · exact ho x h'
      · exact hP v hv x h'
end
end

/-- More rounds than needed change nothing. -/
theorem bfs_more {α : Type} [DecidableEq α] {nx : α → List α} {N : Nat} {P : α → Prop} (hP : ∀ v, P v → ∀ x ∈ nx v, P x) (hN : ∀ o : List α, o.Nodup → (∀ v ∈ o, P v) → o.length ≤ N) : ∀ (n m i : Nat) {o : List α}, N ≤ n + i → N ≤ m + i → o.Nodup → (∀ v ∈ o, P v) → bfs nx n i o = bfs nx m i o
  | 0, m, i, o, h1, _, hd, ho => by
    have := hN o hd ho
    rw [bfs_end (by omega), bfs_end (by omega)]
  | n + 1, 0, i, o, _, h2, hd, ho => by
    have := hN o hd ho
    rw [bfs_end (by omega), bfs_end (by omega)]
  | n + 1, m + 1, i, o, h1, h2, hd, ho => by
    simp only [bfs]
    cases h : o[i]? with
    | none => rfl
    | some v =>
      have hv := ho v (List.mem_of_getElem? h)
      refine bfs_more hP hN n m (i + 1) (by omega) (by omega) (addL_nodup hd) fun x hx => ?_
      rcases addL_mem.1 hx with h' | h'
      · exact ho x h'
      · exact hP v hv x h'

end Go.Pv

/-
  Plain laws: sorts, insertion from the end.
-/
namespace Go.Pv

section
variable {α : Type} [Inhabited α]

/-- Any two are apart. -/
def apt (lt : α → α → Bool) (x y : α) : Prop := lt x y = true ∨ lt y x = true
omit [Inhabited α] in
theorem apt.symm {lt : α → α → Bool} {x y : α} (h : apt lt x y) : apt lt y x := h.elim .inr .inl

/-- The place to which one moves down from the end. -/
def bub (lt : α → α → Bool) (x : α) (l : List α) : Nat → Nat
  | 0 => 0
  | p + 1 => if lt x (l.getD p default) = true then bub lt x l p else p + 1
def putA (x : α) (l : List α) (p : Nat) : List α := l.take p ++ x :: l.drop p
def insB (lt : α → α → Bool) (x : α) (l : List α) : List α := putA x l (bub lt x l l.length)
theorem bub_le (lt : α → α → Bool) (x : α) (l : List α) : ∀ q, bub lt x l q ≤ q
  | 0 => Nat.le_refl _
  | q + 1 => by
    have := bub_le lt x l q
    unfold bub
    split <;> omega
omit [Inhabited α] in
theorem putA_len (x : α) (l : List α) (p : Nat) (h : p ≤ l.length) : (putA x l p).length = l.length + 1 := by simp [putA]; omega
theorem insB_len (lt : α → α → Bool) (x : α) (l : List α) : (insB lt x l).length = l.length + 1 := putA_len x l _ (bub_le lt x l _)
omit [Inhabited α] in
theorem putA_at (x : α) (l : List α) (p : Nat) (h : p ≤ l.length) : (putA x l p)[p]? = some x := by
  unfold putA
  rw [List.getElem?_append_right (by simp; omega)]
  simp [Nat.min_eq_left h]
theorem putA_below (x : α) (l : List α) (p : Nat) (h : p < l.length) : (putA x l (p + 1))[p]? = some (l.getD p default) := by
  unfold putA
  rw [List.getElem?_append_left (by simp; omega), List.getElem?_take, if_pos (by omega)]
  simp [h]
theorem putA_down (x : α) (l : List α) (p : Nat) (h : p < l.length) : ((putA x l (p + 1)).set (p + 1) (l.getD p default)).set p x = putA x l p := by
  apply List.ext_getElem?
  intro i
  have h1 := putA_len x l (p + 1) (by omega)
  by_cases ip : i = p
  · subst ip
    rw [putA_at x l i (by omega), List.getElem?_set_self (by simp [h1]; omega)]
  · rw [List.getElem?_set_ne (Ne.symm ip)]
    by_cases iq : i = p + 1
    · subst iq
      rw [List.getElem?_set_self (by rw [h1]; omega)]
      unfold putA
      rw [List.getElem?_append_right (by simp; omega)]
      simp [Nat.min_eq_left (Nat.le_of_lt h), h]
    · rw [List.getElem?_set_ne (Ne.symm iq)]
      unfold putA
      rcases Nat.lt_or_ge i p with hi | hi
      · rw [List.getElem?_append_left (by simp; omega), List.getElem?_append_left (by simp; omega), List.getElem?_take, List.getElem?_take, if_pos (by omega), if_pos hi]
      · rw [List.getElem?_append_right (by simp; omega), List.getElem?_append_right (by simp; omega)]
        obtain ⟨q, rfl⟩ : ∃ q, i = p + 2 + q := ⟨i - (p + 2), by omega⟩
        simp only [List.length_take, Nat.min_eq_left (Nat.le_of_lt h), Nat.min_eq_left (Nat.succ_le_of_lt h)]
        rw [show p + 2 + q - (p + 1) = q + 1 by omega, show p + 2 + q - p = q + 2 by omega]
        simp only [List.getElem?_cons_succ, List.getElem?_drop]
        congr 1
        omega

omit [Inhabited α] in
theorem putA_perm (x : α) (l : List α) (p : Nat) : (putA x l p).Perm (x :: l) := by
  unfold putA
  refine (List.perm_middle).trans ?_
  rw [List.take_append_drop]
theorem insB_perm (lt : α → α → Bool) (x : α) (l : List α) : (insB lt x l).Perm (x :: l) := putA_perm x l _

theorem bub_above (lt : α → α → Bool) (x : α) (l : List α) : ∀ q j, bub lt x l q ≤ j → j < q → lt x (l.getD j default) = true
  | 0, j, _, h => absurd h (Nat.not_lt_zero _)
  | q + 1, j, h1, h2 => by
    unfold bub at h1
    split at h1
    · rename_i h
      rcases Nat.lt_or_ge j q with h3 | h3
      · exact bub_above lt x l q j h1 h3
      · obtain rfl : j = q := by omega
        exact h
    · omega
theorem bub_stop (lt : α → α → Bool) (x : α) (l : List α) : ∀ q p, bub lt x l q = p + 1 → lt x (l.getD p default) = false
  | 0, p, h => by simp [bub] at h
  | q + 1, p, h => by
    unfold bub at h
    split at h
    · exact bub_stop lt x l q p h
    · rename_i hn
      obtain rfl : p = q := by omega
      simpa using hn

theorem insB_sorted {lt : α → α → Bool} (tr : ∀ x y z, lt x y = true → lt y z = true → lt x z = true) {x : α} {l : List α} (hl : l.Pairwise (fun a b => lt a b = true)) (hx : ∀ y ∈ l, apt lt x y) : (insB lt x l).Pairwise (fun a b => lt a b = true) := by
  have hle := bub_le lt x l l.length
  have hup : ∀ y ∈ l.drop (bub lt x l l.length), lt x y = true := fun y hy => by
    obtain ⟨j, hj, rfl⟩ := List.getElem_of_mem hy
    rw [List.length_drop] at hj
    have := bub_above lt x l l.length (bub lt x l l.length + j) (by omega) (by omega)
    rw [List.getElem_drop]
    simpa [show bub lt x l l.length + j < l.length by omega] using this
  have hlo : ∀ y ∈ l.take (bub lt x l l.length), lt y x = true := fun y hy => by
    obtain ⟨j, hj, rfl⟩ := List.getElem_of_mem hy
    rw [List.length_take] at hj
    obtain ⟨p, hp⟩ : ∃ p, bub lt x l l.length = p + 1 := ⟨bub lt x l l.length - 1, by omega⟩
    have hst := bub_stop lt x l _ _ hp
    have hpl : p < l.length := by omega
    have e1 : l.getD p default = l[p] := by simp [hpl]
    rw [e1] at hst
    have h1 : lt l[p] x = true := (hx l[p] (List.getElem_mem _)).resolve_left (by simp [hst])
    rw [List.getElem_take]
    rcases Nat.lt_or_ge j p with h | h
    · exact tr _ _ _ (List.pairwise_iff_getElem.1 hl j p (by omega) hpl h) h1
    · obtain rfl : j = p := by omega
      exact h1
  unfold insB putA
  rw [List.pairwise_append, List.pairwise_cons]
  refine ⟨hl.sublist (List.take_sublist _ _), ⟨hup, hl.sublist (List.drop_sublist _ _)⟩, fun a ha b hb => ?_⟩
  rcases List.mem_cons.1 hb with rfl | hb
  · exact hlo a ha
  · exact tr _ _ _ (hlo a ha) (hup b hb)

/-- A sort by insertion from the end. -/
def sortB (lt : α → α → Bool) (l : List α) : List α := l.foldl (fun o x => insB lt x o) []
theorem foldB_perm (lt : α → α → Bool) : ∀ (l o : List α), (l.foldl (fun o x => insB lt x o) o).Perm (o ++ l)
  | [], o => by simp
  | x :: l, o => by
    rw [List.foldl_cons]
    refine (foldB_perm lt l _).trans ?_
    refine ((insB_perm lt x o).append_right l).trans ?_
    exact (List.perm_middle (a := x) (l₁ := o) (l₂ := l)).symm
theorem sortB_perm (lt : α → α → Bool) (l : List α) : (sortB lt l).Perm l := foldB_perm lt l []
theorem foldB_sorted {lt : α → α → Bool} (tr : ∀ x y z, lt x y = true → lt y z = true → lt x z = true) : ∀ {l o : List α}, o.Pairwise (fun a b => lt a b = true) → l.Pairwise (apt lt) → (∀ x ∈ l, ∀ y ∈ o, apt lt x y) → (l.foldl (fun o x => insB lt x o) o).Pairwise (fun a b => lt a b = true)
  | [], _, h, _, _ => h
  | x :: l, o, h, hl, hx => by
    rw [List.pairwise_cons] at hl
    rw [List.foldl_cons]
    refine foldB_sorted tr (insB_sorted tr h (hx x (by simp))) hl.2 fun z hz y hy => ?_
    rcases List.mem_cons.1 ((insB_perm lt x o).subset hy) with rfl | hy
    · exact (hl.1 z hz).symm
    · exact hx z (by simp [hz]) y hy
theorem sortB_sorted {lt : α → α → Bool} (tr : ∀ x y z, lt x y = true → lt y z = true → lt x z = true) {l : List α} (hl : l.Pairwise (apt lt)) : (sortB lt l).Pairwise (fun a b => lt a b = true) := foldB_sorted tr List.Pairwise.nil hl (fun _ _ _ h => absurd h (by simp))

omit [Inhabited α] in
theorem ins_pw {lt : α → α → Bool} (tr : ∀ x y z, lt x y = true → lt y z = true → lt x z = true) {x : α} : ∀ {l : List α}, l.Pairwise (fun a b => lt a b = true) → (∀ y ∈ l, apt lt x y) → (ins lt x l).Pairwise (fun a b => lt a b = true)
  | [], _, _ => List.pairwise_singleton _ _
  | y :: r, h, hx => by
    obtain ⟨h1, h2⟩ := List.pairwise_cons.1 h
    unfold ins
    split
    · rename_i hc
      refine List.pairwise_cons.2 ⟨fun z hz => ?_, ins_pw tr h2 (fun z hz => hx z (by simp [hz]))⟩
      rcases List.mem_cons.1 ((ins_perm lt x r).subset hz) with rfl | hz
      · exact hc
      · exact h1 z hz
    · rename_i hc
      have hxy : lt x y = true := (hx y (by simp)).resolve_right (by simpa using hc)
      refine List.pairwise_cons.2 ⟨fun z hz => ?_, h⟩
      rcases List.mem_cons.1 hz with rfl | hz
      · exact hxy
      · exact tr _ _ _ hxy (h1 z hz)
omit [Inhabited α] in
theorem isort_pw {lt : α → α → Bool} (tr : ∀ x y z, lt x y = true → lt y z = true → lt x z = true) : ∀ {l : List α}, l.Pairwise (apt lt) → (isort lt l).Pairwise (fun a b => lt a b = true)
  | [], _ => List.Pairwise.nil
  | x :: l, h => by
    obtain ⟨h1, h2⟩ := List.pairwise_cons.1 h
    exact ins_pw tr (isort_pw tr h2) fun y hy => h1 y ((isort_perm lt l).subset hy)
omit [Inhabited α] in
theorem rising_of {lt : α → α → Bool} : ∀ {l : List α}, l.Pairwise (fun a b => lt a b = true) → rising lt l = true
  | [], _ => rfl
  | [_], _ => rfl
  | x :: y :: r, h => by
    obtain ⟨h1, h2⟩ := List.pairwise_cons.1 h
    simp only [rising, Bool.and_eq_true]
    exact ⟨h1 y (by simp), rising_of h2⟩
omit [Inhabited α] in
theorem pw_uniq {lt : α → α → Bool} (irr : ∀ x, lt x x = false) (tr : ∀ x y z, lt x y = true → lt y z = true → lt x z = true) {l m : List α} (hl : l.Pairwise (fun a b => lt a b = true)) (hm : m.Pairwise (fun a b => lt a b = true)) (h : ∀ x, x ∈ l ↔ x ∈ m) : l = m :=
  pw_ext (r := fun a b => lt a b = true) (fun x => by simp [irr x]) tr hl hm h
theorem sortB_isort {lt : α → α → Bool} (irr : ∀ x, lt x x = false) (tr : ∀ x y z, lt x y = true → lt y z = true → lt x z = true) {l : List α} (hl : l.Pairwise (apt lt)) : sortB lt l = isort lt l :=
  pw_uniq irr tr (sortB_sorted tr hl) (isort_pw tr hl) fun _ => ((sortB_perm lt l).trans (isort_perm lt l).symm).mem_iff
end

end Go.Pv

/-
  Contracts: comparisons of the library, the order of edges.
-/
namespace Go.Pv

theorem r66 {Pr : Prims} (x : Int) : res A Pr 66 [.int .i64 x] = some [.bool false] := by
  refine res_of a66 rfl rfl ?_
  simp only [F66]
  simp (disch := omega) only [go_sem]

theorem r60 {Pr : Prims} (hp : Pr 66 = none) (x y : Int) : res A Pr 60 [.int .i64 x, .int .i64 y] = some [.int .i64 (cmpI x y)] := by
  refine res_of a60 rfl rfl ?_
  simp only [F60]
  simp (disch := omega) only [go_sem, CW_CN (by kernel_rfl) hp tk66, r66]
  unfold cmpI
  refine Br.ofP (fun h => ?_) (fun h => ?_) <;> simp (disch := omega) only [go_sem, h]
  refine Br.ofP (fun h2 => ?_) (fun h2 => ?_) <;> simp (disch := omega) only [go_sem, h, h2]

/-- The first that is not zero. -/
def orI : List Int → Int
  | [] => 0
  | x :: r => if x ≠ 0 then x else orI r

/-- The list from a place on. -/
theorem drop_at {α : Type} {l : List α} {k : Nat} {x : α} (h : l[k]? = some x) : l.drop k = x :: l.drop (k + 1) := by
  obtain ⟨h1, h2⟩ := List.getElem?_eq_some_iff.1 h
  rw [List.drop_eq_getElem_cons h1, h2]
theorem get_at {α : Type} {l : List α} {k : Nat} (h : k < l.length) : ∃ x, l[k]? = some x := ⟨_, List.getElem?_eq_getElem h⟩
theorem drop_end {α : Type} {l : List α} {k : Nat} (h : ¬ (k : Int) < l.length) : l.drop k = [] := List.drop_eq_nil_of_le (by omega)

end Go.Pv

/-
  Contracts: errors of automata.
-/
namespace Go.Pv

theorem Auto.err_ok {a : Auto} (h1 : a.states ≤ 12) (h2 : a.edges.length ≤ 100) (h3 : 0 ≤ a.start ∧ a.start < a.states) : a.err = if chk a.states none a.edges = true then 0 else 1 := by
  unfold Auto.err
  rw [if_neg (by omega), if_pos h3]
theorem Auto.err_start {a : Auto} (h1 : a.states ≤ 12) (h2 : a.edges.length ≤ 100) (h3 : ¬ (0 ≤ a.start ∧ a.start < a.states)) : a.err = 1 := by
  unfold Auto.err
  rw [if_neg (by omega), if_neg h3]
theorem Auto.err_large {a : Auto} (h : 12 < a.states ∨ 100 < a.edges.length) : a.err = 3 := by
  unfold Auto.err
  rw [if_pos h]
theorem chk_no {n : Int} {p : Option Edge} {e : Edge} {r : List Edge} (h : e.fits n = false) : chk n p (e :: r) = false := by simp [chk, h]

theorem fits_of {e : Edge} {n : Int} : e.fits n = (((decide (0 ≤ e.fr) && decide (e.fr < n)) && (decide (0 ≤ e.to) && decide (e.to < n))) && (decide (1 ≤ e.label) && decide (e.label ≤ 1000))) := by
  simp [Edge.fits, Bool.and_assoc]

end Go.Pv

/-
  Next states.
-/
namespace Go.Pv

/-- The next state of the first edge that fits. -/
def nextE (s : Int) (d : Bool) (x : Int) : List Edge → Option Int
  | [] => none
  | e :: r => if e.fr = s ∧ e.send = d ∧ e.label = x then some e.to else nextE s d x r

end Go.Pv

/-
  Lists that grow by appending.
-/
namespace Go.Pv
variable {A : Nat → Option AFunc} {Pr : Prims}

/-- A list that a call has built by appending; its array, if there is one, is the n-th. -/
def grV (n : Nat) : List (List PV) → V
  | [] => .tl []
  | _ :: r => .own n r.length 0 (r.length + 1)
def grA (k : Nat) : List (List PV) → List Arr
  | [] => []
  | x :: r => [⟨r.length, k, .inl (x :: r)⟩]
def grT (n k : Nat) (rows : List (List PV)) (r : List PV) : Tn :=
  match rows with
  | [] => { push := [⟨0, k, .inl [r]⟩], base := n }
  | x :: q => { ar := some (n, ⟨q.length + 1, k, .inl (x :: q ++ [r])⟩) }

theorem grow (bx : List (Nat × List V)) (mp : List (List (PV × PV))) (pre : List Arr) (k : Nat) (rows : List (List PV)) (r : List PV) (hr : r.length = k) (hm : rows.length + 1 ≤ 2147483648) :
    appendV ⟨bx, pre ++ grA k rows, mp⟩ k (grV pre.length rows) (.tl [r]) = some (grV pre.length (rows ++ [r]), grT pre.length k rows r) := by
  cases rows with
  | nil => simp [appendV, grV, grA, grT, srcRows, rowsFit, rowsLen, hr, catRows, mostRows]
  | cons x q =>
    have h1 : ownArr ⟨bx, pre ++ grA k (x :: q), mp⟩ pre.length q.length = some ⟨q.length, k, .inl (x :: q)⟩ := by simp [ownArr, grA]
    have h2 : (⟨q.length, k, .inl (x :: q)⟩ : Arr).size = q.length + 1 := rfl
    have h3 : ((x :: q).drop 0).take (q.length + 1) = x :: q := by simp
    simp only [List.length_cons] at hm
    simp [appendV, grV, grT, srcRows, rowsFit, rowsLen, hr, h1, h2, catRows, cutRows, mostRows]
    omega

theorem grT_apply (bx : List (Nat × List V)) (mp : List (List (PV × PV))) (pre : List Arr) (k : Nat) (rows : List (List PV)) (r : List PV) :
    (grT pre.length k rows r).apply ⟨bx, pre ++ grA k rows, mp⟩ = ⟨bx, pre ++ grA k (rows ++ [r]), mp⟩ := by
  cases rows with
  | nil => simp [grT, Tn.apply, grA]
  | cons x q => simp [grT, Tn.apply, grA]

@[go_sem] theorem grow0 (bx : List (Nat × List V)) (mp : List (List (PV × PV))) (k : Nat) (rows : List (List PV)) (r : List PV) (hr : r.length = k) (hm : rows.length + 1 ≤ 2147483648) :
    appendV ⟨bx, grA k rows, mp⟩ k (grV 0 rows) (.tl [r]) = some (grV 0 (rows ++ [r]), grT 0 k rows r) := grow bx mp [] k rows r hr hm
@[go_sem] theorem grow1 (bx : List (Nat × List V)) (mp : List (List (PV × PV))) (a : Arr) (k : Nat) (rows : List (List PV)) (r : List PV) (hr : r.length = k) (hm : rows.length + 1 ≤ 2147483648) :
    appendV ⟨bx, a :: grA k rows, mp⟩ k (grV 1 rows) (.tl [r]) = some (grV 1 (rows ++ [r]), grT 1 k rows r) := grow bx mp [a] k rows r hr hm
@[go_sem] theorem grow2 (bx : List (Nat × List V)) (mp : List (List (PV × PV))) (a b : Arr) (k : Nat) (rows : List (List PV)) (r : List PV) (hr : r.length = k) (hm : rows.length + 1 ≤ 2147483648) :
    appendV ⟨bx, a :: b :: grA k rows, mp⟩ k (grV 2 rows) (.tl [r]) = some (grV 2 (rows ++ [r]), grT 2 k rows r) := grow bx mp [a, b] k rows r hr hm
@[go_sem] theorem grT_apply0 (bx : List (Nat × List V)) (mp : List (List (PV × PV))) (k : Nat) (rows : List (List PV)) (r : List PV) :
    (grT 0 k rows r).apply ⟨bx, grA k rows, mp⟩ = ⟨bx, grA k (rows ++ [r]), mp⟩ := grT_apply bx mp [] k rows r
@[go_sem] theorem grT_apply1 (bx : List (Nat × List V)) (mp : List (List (PV × PV))) (a : Arr) (k : Nat) (rows : List (List PV)) (r : List PV) :
    (grT 1 k rows r).apply ⟨bx, a :: grA k rows, mp⟩ = ⟨bx, a :: grA k (rows ++ [r]), mp⟩ := grT_apply bx mp [a] k rows r
@[go_sem] theorem grT_apply2 (bx : List (Nat × List V)) (mp : List (List (PV × PV))) (a b : Arr) (k : Nat) (rows : List (List PV)) (r : List PV) :
    (grT 2 k rows r).apply ⟨bx, a :: b :: grA k rows, mp⟩ = ⟨bx, a :: b :: grA k (rows ++ [r]), mp⟩ := grT_apply bx mp [a, b] k rows r

@[go_sem] theorem lenV_gr (h : Heap) (n : Nat) (rows : List (List PV)) : lenV h 0 (grV n rows) = some (rows.length, {}) := by cases rows <;> rfl
@[go_sem] theorem cells_gr (n : Nat) (rows : List (List PV)) : V.cells (grV n rows) = [grV n rows] := by cases rows <;> rfl
@[go_sem] theorem calm_gr (n : Nat) (rows : List (List PV)) : V.calm (grV n rows) = true := by cases rows <;> rfl
@[go_sem] theorem sized_gr (n : Nat) (rows : List (List PV)) : V.sized (grV n rows) = true := by cases rows <;> rfl
@[go_sem] theorem scrub_gr (kb : List Nat) (n : Nat) (rows : List (List PV)) : scrub kb (grV n rows) = grV n rows := by cases rows <;> rfl
@[go_sem] theorem okc_gr (kb : List Nat) (n : Nat) (rows : List (List PV)) : okc kb (grV n rows) = true := by cases rows <;> rfl
@[go_sem] theorem purec_gr (n : Nat) (rows : List (List PV)) : V.purec (grV n rows) = none := by cases rows <;> rfl

theorem own_gr (bx : List (Nat × List V)) (mp : List (List (PV × PV))) (pre post : List Arr) (k : Nat) (x : List PV) (q : List (List PV)) : ownArr ⟨bx, pre ++ (grA k (x :: q) ++ post), mp⟩ pre.length q.length = some ⟨q.length, k, .inl (x :: q)⟩ := by simp [ownArr, grA]
theorem keepc_gr (bx : List (Nat × List V)) (mp : List (List (PV × PV))) (pre : List Arr) (k d : Nat) (rows : List (List PV)) : keepc ⟨bx, pre ++ grA k rows, mp⟩ (d + 1) (grV pre.length rows) = some (.lst 0 rows) := by
  cases rows with
  | nil => rfl
  | cons x q =>
    have := own_gr bx mp pre [] k x q
    rw [List.append_nil] at this
    simp [grV, keepc_own, this, keepRows, cutRows]
@[go_sem] theorem keepc_gr0 (bx : List (Nat × List V)) (mp : List (List (PV × PV))) (k : Nat) (rows : List (List PV)) : keepc ⟨bx, grA k rows, mp⟩ 4 (grV 0 rows) = some (.lst 0 rows) := keepc_gr bx mp [] k 3 rows
@[go_sem] theorem keepc_gr1 (bx : List (Nat × List V)) (mp : List (List (PV × PV))) (a : Arr) (k : Nat) (rows : List (List PV)) : keepc ⟨bx, a :: grA k rows, mp⟩ 4 (grV 1 rows) = some (.lst 0 rows) := keepc_gr bx mp [a] k 3 rows
@[go_sem] theorem keepc_gr2 (bx : List (Nat × List V)) (mp : List (List (PV × PV))) (a b : Arr) (k : Nat) (rows : List (List PV)) : keepc ⟨bx, a :: b :: grA k rows, mp⟩ 4 (grV 2 rows) = some (.lst 0 rows) := keepc_gr bx mp [a, b] k 3 rows
@[go_sem] theorem keep_gr (h : Heap) (n : Nat) (rows : List (List PV)) : keep h false (grV n rows) = keepc h 4 (grV n rows) := by cases rows <;> rfl

/-- With which tag such a list is lent. -/
def grG : List (List PV) → Nat
  | [] => 0
  | _ => 1
theorem lendc_gr (bx : List (Nat × List V)) (mp : List (List (PV × PV))) (pre : List Arr) (k d : Nat) (rows : List (List PV)) : lendc ⟨bx, pre ++ grA k rows, mp⟩ (d + 1) (grV pre.length rows) = some (.lst (grG rows) rows) := by
  cases rows with
  | nil => rfl
  | cons x q =>
    have := own_gr bx mp pre [] k x q
    rw [List.append_nil] at this
    simp [grV, lendc, this, cutRows, grG]
@[go_sem] theorem lendc_gr0 (bx : List (Nat × List V)) (mp : List (List (PV × PV))) (k : Nat) (rows : List (List PV)) : lendc ⟨bx, grA k rows, mp⟩ 4 (grV 0 rows) = some (.lst (grG rows) rows) := lendc_gr bx mp [] k 3 rows
@[go_sem] theorem lendc_gr1 (bx : List (Nat × List V)) (mp : List (List (PV × PV))) (a : Arr) (k : Nat) (rows : List (List PV)) : lendc ⟨bx, a :: grA k rows, mp⟩ 4 (grV 1 rows) = some (.lst (grG rows) rows) := lendc_gr bx mp [a] k 3 rows
@[go_sem] theorem lendc_gr2 (bx : List (Nat × List V)) (mp : List (List (PV × PV))) (a b : Arr) (k : Nat) (rows : List (List PV)) : lendc ⟨bx, a :: b :: grA k rows, mp⟩ 4 (grV 2 rows) = some (.lst (grG rows) rows) := lendc_gr bx mp [a, b] k 3 rows
@[go_sem] theorem lend_gr (h : Heap) (n : Nat) (rows : List (List PV)) : lend h (grV n rows) = lendc h 4 (grV n rows) := by cases rows <;> rfl
/-- One that is not empty. -/
theorem grV_own {i n : Nat} {rows : List (List PV)} (h : rows.length = n + 1) : grV i rows = .own i n 0 (n + 1) := by
  match rows, h with
  | x :: q, h =>
    simp at h
    simp [grV, h]
theorem grA_own {k n : Nat} {rows : List (List PV)} (h : rows.length = n + 1) : grA k rows = [⟨n, k, .inl rows⟩] := by
  match rows, h with
  | x :: q, h =>
    simp at h
    simp [grA, h]

-- parts of an array of the call's own
def chkR {α : Type} (i : Int) (len : Nat) (v : α) : Option α := if 0 ≤ i ∧ i ≤ len then some v else none
@[go_sem] theorem chkR_ok {α : Type} {i : Int} {len : Nat} {v : α} (h0 : 0 ≤ i) (h1 : i ≤ (len : Int)) : chkR i len v = some v := if_pos ⟨h0, h1⟩
@[go_sem] theorem sl_from (g : Opd → V) (h : Heap) (k id ver off len : Nat) (lo : Opd) :
    sliceV g h k (.own id ver off len) (some lo) none none = (ownArr h id ver).bind fun a => (intOf (g lo)).bind fun i => if a.k = k then chkR i len (.own id ver (off + i.toNat) (len - i.toNat), { ra := some id }) else none := by
  cases ho : ownArr h id ver with
  | none => simp [sliceV, ho]
  | some a =>
    cases hi : intOf (g lo) with
    | none => simp [sliceV, ho, bounds, bound, hi]
    | some i => by_cases hk : a.k = k <;> by_cases h0 : 0 ≤ i ∧ i ≤ len <;> simp [sliceV, ho, bounds, bound, hi, hk, h0, chkR]
@[go_sem] theorem sl_to (g : Opd → V) (h : Heap) (k id ver off len : Nat) (hi : Opd) :
    sliceV g h k (.own id ver off len) none (some hi) none = (ownArr h id ver).bind fun a => (intOf (g hi)).bind fun i => if a.k = k then chkR i len (.own id ver off i.toNat, { ra := some id }) else none := by
  cases ho : ownArr h id ver with
  | none => simp [sliceV, ho]
  | some a =>
    cases hj : intOf (g hi) with
    | none => simp [sliceV, ho, bounds, bound, hj]
    | some i => by_cases hk : a.k = k <;> by_cases h0 : 0 ≤ i ∧ i ≤ len <;> simp [sliceV, ho, bounds, bound, hj, hk, h0, chkR]

end Go.Pv

/-
  Lists of numbers and of edges that grow by appending.
-/
namespace Go.Pv

@[go_sem] theorem ints_nil : ints [] = [] := rfl
@[go_sem] theorem ints_snoc (l : List Int) (x : Int) : ints l ++ [[.int .i64 x]] = ints (l ++ [x]) := by simp [ints]
/-- Edges, each a row. -/
def edgs (l : List Edge) : List (List PV) := l.map Edge.c
@[go_sem] theorem edgs_length (l : List Edge) : (edgs l).length = l.length := by simp [edgs]
@[go_sem] theorem edgs_nil : edgs [] = [] := rfl
theorem edgs_map (l : List Edge) : l.map Edge.c = edgs l := rfl
@[go_sem] theorem edgs_get (l : List Edge) (i : Nat) : (edgs l)[i]? = l[i]?.map Edge.c := by simp [edgs]
theorem edgs_snoc (l : List Edge) (e : Edge) : edgs l ++ [e.c] = edgs (l ++ [e]) := by simp [edgs]
@[go_sem] theorem grow0i (bx : List (Nat × List V)) (mp : List (List (PV × PV))) (l : List Int) (x : Int) (hm : l.length + 1 ≤ 2147483648) :
    appendV ⟨bx, grA 1 (ints l), mp⟩ 1 (grV 0 (ints l)) (.tl [[.int .i64 x]]) = some (grV 0 (ints (l ++ [x])), grT 0 1 (ints l) [.int .i64 x]) := by
  rw [grow0 bx mp  1 (ints l) [.int .i64 x] rfl (by rw [ints_length]; exact hm), ints_snoc]
@[go_sem] theorem grow0e (bx : List (Nat × List V)) (mp : List (List (PV × PV))) (l : List Edge) (f : Int) (s : Bool) (x t : Int) (hm : l.length + 1 ≤ 2147483648) :
    appendV ⟨bx, grA 4 (edgs l), mp⟩ 4 (grV 0 (edgs l)) (.tl [[.int .i64 f, .bool s, .int .i64 x, .int .i64 t]]) = some (grV 0 (edgs (l ++ [⟨f, s, x, t⟩])), grT 0 4 (edgs l) (Edge.c ⟨f, s, x, t⟩)) := by
  rw [← edgs_snoc]
  exact grow0 bx mp  4 (edgs l) (Edge.c ⟨f, s, x, t⟩) rfl (by rw [edgs_length]; exact hm)
@[go_sem] theorem grow1i (bx : List (Nat × List V)) (mp : List (List (PV × PV))) (a : Arr) (l : List Int) (x : Int) (hm : l.length + 1 ≤ 2147483648) :
    appendV ⟨bx, a :: grA 1 (ints l), mp⟩ 1 (grV 1 (ints l)) (.tl [[.int .i64 x]]) = some (grV 1 (ints (l ++ [x])), grT 1 1 (ints l) [.int .i64 x]) := by
  rw [grow1 bx mp a 1 (ints l) [.int .i64 x] rfl (by rw [ints_length]; exact hm), ints_snoc]
@[go_sem] theorem grow1e (bx : List (Nat × List V)) (mp : List (List (PV × PV))) (a : Arr) (l : List Edge) (f : Int) (s : Bool) (x t : Int) (hm : l.length + 1 ≤ 2147483648) :
    appendV ⟨bx, a :: grA 4 (edgs l), mp⟩ 4 (grV 1 (edgs l)) (.tl [[.int .i64 f, .bool s, .int .i64 x, .int .i64 t]]) = some (grV 1 (edgs (l ++ [⟨f, s, x, t⟩])), grT 1 4 (edgs l) (Edge.c ⟨f, s, x, t⟩)) := by
  rw [← edgs_snoc]
  exact grow1 bx mp a 4 (edgs l) (Edge.c ⟨f, s, x, t⟩) rfl (by rw [edgs_length]; exact hm)
@[go_sem] theorem grow2i (bx : List (Nat × List V)) (mp : List (List (PV × PV))) (a b : Arr) (l : List Int) (x : Int) (hm : l.length + 1 ≤ 2147483648) :
    appendV ⟨bx, a :: b :: grA 1 (ints l), mp⟩ 1 (grV 2 (ints l)) (.tl [[.int .i64 x]]) = some (grV 2 (ints (l ++ [x])), grT 2 1 (ints l) [.int .i64 x]) := by
  rw [grow2 bx mp a b 1 (ints l) [.int .i64 x] rfl (by rw [ints_length]; exact hm), ints_snoc]
@[go_sem] theorem grow2e (bx : List (Nat × List V)) (mp : List (List (PV × PV))) (a b : Arr) (l : List Edge) (f : Int) (s : Bool) (x t : Int) (hm : l.length + 1 ≤ 2147483648) :
    appendV ⟨bx, a :: b :: grA 4 (edgs l), mp⟩ 4 (grV 2 (edgs l)) (.tl [[.int .i64 f, .bool s, .int .i64 x, .int .i64 t]]) = some (grV 2 (edgs (l ++ [⟨f, s, x, t⟩])), grT 2 4 (edgs l) (Edge.c ⟨f, s, x, t⟩)) := by
  rw [← edgs_snoc]
  exact grow2 bx mp a b 4 (edgs l) (Edge.c ⟨f, s, x, t⟩) rfl (by rw [edgs_length]; exact hm)

/-- Truth values, each a row. -/
def bools (l : List Bool) : List (List PV) := l.map fun b => [.bool b]
@[go_sem] theorem bools_length (l : List Bool) : (bools l).length = l.length := by simp [bools]
@[go_sem] theorem bools_get (l : List Bool) (i : Nat) : (bools l)[i]? = l[i]?.map fun b => [.bool b] := by simp [bools]
theorem bools_set (l : List Bool) (i : Nat) (b : Bool) : (bools l).set i [.bool b] = bools (l.set i b) := by simp [bools, List.map_set]
@[go_sem] theorem bools_store {id row ver : Nat} {b : Bool} {l : List Bool} (h1 : row < l.length) : storeRow id row 0 [.pv (.bool b)] ⟨ver, 1, .inl (bools l)⟩ = some { ar := some (id, ⟨ver, 1, .inl (bools (l.set row b))⟩) } := by
  rw [storeRow_one (by rw [bools_length]; exact h1) rfl (.inr ⟨.bool l[row], by simp [bools, h1]⟩) rfl, bools_set]
@[go_sem] theorem bools_made (n : Nat) (b : Bool) : sameRows n [.pv (.bool b)] = .inl (bools (List.replicate n b)) := by
  simp [sameRows, mapO, V.purec, PV.perm, bools]

end Go.Pv

/-
  Ends.
-/
namespace Go.Pv


/-- No edge leaves the state. -/
def isEnd (s : Int) : List Edge → Bool
  | [] => true
  | e :: r => if e.fr = s then false else isEnd s r

/-- The ends below a number. -/
def endsTo (es : List Edge) : Nat → List Int
  | 0 => []
  | k + 1 => if isEnd k es then endsTo es k ++ [(k : Int)] else endsTo es k
theorem endsTo_len (es : List Edge) : ∀ k, (endsTo es k).length ≤ k
  | 0 => Nat.le_refl _
  | k + 1 => by
    have := endsTo_len es k
    unfold endsTo
    split <;> simp <;> omega
def Auto.ends (a : Auto) : List Int := if a.states ≤ 12 then endsTo a.edges a.states.toNat else []

/-- Which states an edge among the first ones leaves. -/
def busyTo (n : Nat) (es : List Edge) : Nat → List Bool
  | 0 => List.replicate n false
  | k + 1 => match es[k]? with
    | some e => if 0 ≤ e.fr ∧ e.fr < n then (busyTo n es k).set e.fr.toNat true else busyTo n es k
    | none => busyTo n es k
theorem busyTo_len (n : Nat) (es : List Edge) : ∀ k, (busyTo n es k).length = n
  | 0 => by simp [busyTo]
  | k + 1 => by
    have := busyTo_len n es k
    unfold busyTo
    split
    · split <;> simp [this]
    · exact this
theorem isEnd_snoc (s : Int) (e : Edge) : ∀ l : List Edge, isEnd s (l ++ [e]) = (isEnd s l && !decide (e.fr = s))
  | [] => by by_cases h : e.fr = s <;> simp [isEnd, h]
  | d :: l => by
    simp only [List.cons_append, isEnd]
    rw [isEnd_snoc s e l]
    split <;> simp
theorem busyTo_get (n : Nat) (es : List Edge) : ∀ k, k ≤ es.length → ∀ s, s < n → (busyTo n es k)[s]? = some (!isEnd s (es.take k))
  | 0, _, s, hs => by simp [busyTo, isEnd, hs]
  | k + 1, hk, s, hs => by
    have ih := busyTo_get n es k (by omega) s hs
    have hlen := busyTo_len n es k
    obtain ⟨e, he⟩ : ∃ e, es[k]? = some e := ⟨es[k], by simp⟩
    have ht : es.take (k + 1) = es.take k ++ [e] := by rw [List.take_add_one, he]; rfl
    rw [ht, isEnd_snoc]
    simp only [busyTo, he]
    by_cases h : e.fr = (s : Int)
    · rw [if_pos (by omega), h]
      simp [hlen, hs]
    · by_cases h2 : 0 ≤ e.fr ∧ e.fr < n
      · rw [if_pos h2, List.getElem?_set_ne (by omega), ih]
        simp [h]
      · rw [if_neg h2, ih]
        simp [h]

end Go.Pv

/-
  Places of numbers in lists; labels.
-/
namespace Go.Pv

/-- The first place of a number behind k places, or -1. -/
def atFrom (x : Int) : Nat → List Int → Int
  | _, [] => -1
  | k, y :: r => if y = x then k else atFrom x (k + 1) r
def atL (x : Int) (l : List Int) : Int := atFrom x 0 l

/-- The place to which a number moves down from the end. -/
def bubI (x : Int) (l : List Int) : Nat → Nat
  | 0 => 0
  | p + 1 => if x < l.getD p 0 then bubI x l p else p + 1
def putI (x : Int) (l : List Int) (p : Nat) : List Int := l.take p ++ x :: l.drop p
def insI (x : Int) (l : List Int) : List Int := putI x l (bubI x l l.length)
theorem putI_len (x : Int) (l : List Int) (p : Nat) (h : p ≤ l.length) : (putI x l p).length = l.length + 1 := by simp [putI]; omega

theorem putI_at (x : Int) (l : List Int) (p : Nat) (h : p ≤ l.length) : (putI x l p)[p]? = some x := by
  unfold putI
  rw [List.getElem?_append_right (by simp; omega)]
  simp [Nat.min_eq_left h]
theorem putI_below (x : Int) (l : List Int) (p : Nat) (h : p < l.length) : (putI x l (p + 1))[p]? = some (l.getD p 0) := by
  unfold putI
  rw [List.getElem?_append_left (by simp; omega), List.getElem?_take, if_pos (by omega)]
  simp [h]
theorem putI_down (x : Int) (l : List Int) (p : Nat) (h : p < l.length) : ((putI x l (p + 1)).set (p + 1) (l.getD p 0)).set p x = putI x l p := by
  apply List.ext_getElem?
  intro i
  have h1 := putI_len x l (p + 1) (by omega)
  have h2 := putI_len x l p (by omega)
  by_cases ip : i = p
  · subst ip
    rw [putI_at x l i (by omega), List.getElem?_set_self (by simp [h1]; omega)]
  · rw [List.getElem?_set_ne (Ne.symm ip)]
    by_cases iq : i = p + 1
    · subst iq
      rw [List.getElem?_set_self (by rw [h1]; omega)]
      unfold putI
      rw [List.getElem?_append_right (by simp; omega)]
      simp [Nat.min_eq_left (Nat.le_of_lt h), h]
    · rw [List.getElem?_set_ne (Ne.symm iq)]
      unfold putI
      rcases Nat.lt_or_ge i p with hi | hi
      · rw [List.getElem?_append_left (by simp; omega), List.getElem?_append_left (by simp; omega), List.getElem?_take, List.getElem?_take, if_pos (by omega), if_pos hi]
      · rw [List.getElem?_append_right (by simp; omega), List.getElem?_append_right (by simp; omega)]
        obtain ⟨q, rfl⟩ : ∃ q, i = p + 2 + q := ⟨i - (p + 2), by omega⟩
        simp only [List.length_take, Nat.min_eq_left (Nat.le_of_lt h), Nat.min_eq_left (Nat.succ_le_of_lt h)]
        rw [show p + 2 + q - (p + 1) = q + 1 by omega, show p + 2 + q - p = q + 2 by omega]
        simp only [List.getElem?_cons_succ, List.getElem?_drop]
        congr 1
        omega

/-- The labels with a direction among the first edges. -/
def labTo (d : Bool) (es : List Edge) : Nat → List Int
  | 0 => []
  | k + 1 => match es[k]? with
    | some e => if e.send ≠ d ∨ 0 ≤ atL e.label (labTo d es k) then labTo d es k else insI e.label (labTo d es k)
    | none => labTo d es k
theorem bubI_le (x : Int) (l : List Int) : ∀ q, bubI x l q ≤ q
  | 0 => Nat.le_refl _
  | q + 1 => by
    have := bubI_le x l q
    unfold bubI
    split <;> omega
theorem insI_len (x : Int) (l : List Int) : (insI x l).length = l.length + 1 := putI_len x l _ (bubI_le x l _)
theorem labTo_len (d : Bool) (es : List Edge) : ∀ k, (labTo d es k).length ≤ k
  | 0 => Nat.le_refl _
  | k + 1 => by
    have := labTo_len d es k
    unfold labTo
    split
    · split
      · omega
      · rw [insI_len]
        omega
    · omega

end Go.Pv

/-
  Labels.
-/
namespace Go.Pv

end Go.Pv

/-
  slices.Compact of numbers that the caller gives away.
-/
namespace Go.Pv

/-- No two neighbours alike. -/
def cmpct : List Int → List Int
  | [] => []
  | [x] => [x]
  | x :: y :: r => if x = y then cmpct (y :: r) else x :: cmpct (y :: r)

@[go_sem] theorem ownIds_one (a b c d : Nat) : distinct (ownIds [.own a b c d]) = true := rfl
@[go_sem] theorem fresh_ints (bx : List (Nat × List V)) (mp : List (List (PV × PV))) (ar : List Arr) (v n : Nat) (l : List Int) : keep ⟨bx, ⟨v, 1, .inl (ints l)⟩ :: ar, mp⟩ true (.own 0 v 0 n) = some (.fr 1 (ints (l.take n))) := by
  simp [keep, freshc, ownArr, ints]

@[go_sem] theorem clr_ints (bx : List (Nat × List V)) (mp : List (List (PV × PV))) (ar : List Arr) (v off len : Nat) (l : List Int) (h : off + len ≤ l.length) : clrV ⟨bx, ⟨v, 1, .inl (ints l)⟩ :: ar, mp⟩ 1 [.pv (.int .i64 0)] (.own 0 v off len) =
    some (.tup [], { ar := some (0, ⟨v, 1, .inl (ints (l.take off ++ List.replicate len 0 ++ l.drop (off + len)))⟩) }) := by
  simp [clrV, ownArr, mapO, V.purec, PV.perm, ints, h]

theorem r104_small (l : List Int) (h1 : l.length < 2) : res A PrA 104 [.fr 1 (ints l)] = some [.fr 1 (ints l)] := by
  refine res_of a104 rfl rfl ?_
  simp only [F104]
  have h2 : ((l.length : Nat) : Int) < 2 := by omega
  simp (disch := omega) only [go_sem, h2, List.take_length]

theorem cmpct_step (l : List Int) (x y : Int) (k : Nat) (hx : l[k]? = some x) (hy : l[k + 1]? = some y) : cmpct (l.take (k + 2)) = if x = y then cmpct (l.take (k + 1)) else cmpct (l.take (k + 1)) ++ [y] := by
  induction l generalizing k with
  | nil => simp at hx
  | cons z l ih =>
    cases k with
    | zero =>
      simp at hx hy
      subst hx
      match l, hy with
      | w :: r, hy =>
        simp at hy
        subst hy
        simp only [Nat.zero_add, List.take_succ_cons, List.take_zero, cmpct]
        split
        · rename_i hzw
          rw [hzw]
        · rfl
    | succ k =>
      simp at hx hy
      have := ih k hx hy
      match l, hx with
      | w :: r, hx =>
        simp only [List.take_succ_cons, cmpct] at this ⊢
        split
        · exact this
        · rw [this]
          split <;> simp

theorem set_put (c l : List Int) (v : Int) (h : c.length < l.length) : (c ++ l.drop c.length).set c.length v = (c ++ [v]) ++ l.drop (c ++ [v]).length := by
  rw [List.set_append_right _ _ (Nat.le_refl _), Nat.sub_self, List.append_assoc]
  have : (c ++ [v]).length = c.length + 1 := by simp
  rw [this, List.drop_eq_getElem_cons h]
  rfl

theorem r104_big (l : List Int) (h1 : 2 ≤ l.length) (h0 : l.length ≤ 2000000000) : res A PrA 104 [.fr 1 (ints l)] = some [.fr 1 (ints (cmpct l))] := by
  refine res_of a104 rfl rfl ?_
  simp only [F104]
  have h2 : ¬ ((l.length : Nat) : Int) < 2 := by omega
  simp (disch := omega) only [go_sem, h2]
  refine W.upto (l.length - 1) (fun j => ⟨[(0, .own 0 0 0 l.length), (3, .pv (.int .i64 (j + 1 : Nat)))], ⟨[], [⟨0, 1, .inl (ints l)⟩], []⟩⟩) (fun j => cmpct (l.take (j + 1)) = l.take (j + 1)) rfl ?_ fun j hj hi => ?_
  · match l, h1 with
    | x :: r, _ => rfl
  have e1 : ((j + 1 : Nat) : Int) - 1 = (j : Int) := by omega
  simp (disch := omega) only [go_sem]
  refine Br.ofP (fun h => ?_) (fun h => ?_)
  · obtain ⟨x, hx⟩ := get_at (l := l) (k := j) (by omega)
    obtain ⟨y, hy⟩ := get_at (l := l) (k := j + 1) (by omega)
    have hs := cmpct_step l x y j hx hy
    simp (disch := omega) only [go_sem, e1, hx, hy]
    refine Br.ofP (fun g => ?_) (fun g => ?_)
    case refine_2 =>
      simp (disch := omega) only [go_sem, g]
      refine .of (by omega) rfl ?_
      rw [hs, if_neg (fun hc => g hc.symm), hi, List.take_add_one (i := j + 1), hy]
      rfl
    simp (disch := omega) only [go_sem, g]
    have hc0 : cmpct (l.take (j + 2)) = l.take (j + 1) := by rw [hs, if_pos g.symm, hi]
    refine W.upto (l.length - (j + 2)) (fun i => ⟨[(0, .own 0 0 0 l.length), (3, .pv (.int .i64 (cmpct (l.take (j + 2 + i))).length)), (4, .own 0 0 (j + 1) (l.length - (j + 1))), (5, .pv (.int .i64 (i + 1 : Nat)))], ⟨[], [⟨0, 1, .inl (ints (cmpct (l.take (j + 2 + i)) ++ l.drop (cmpct (l.take (j + 2 + i))).length))⟩], []⟩⟩)
      (fun i => (cmpct (l.take (j + 2 + i))).length ≤ j + 1 + i) ?_ ?_ fun i hj2 hw => ?_
    · simp only [Nat.add_zero, hc0, List.length_take]
      rw [Nat.min_eq_left (by omega), List.take_append_drop]
      rfl
    · simp only [Nat.add_zero, hc0, List.length_take]
      omega
    have hkeep : ∀ q, (cmpct (l.take (j + 2 + i))).length ≤ q → (cmpct (l.take (j + 2 + i)) ++ l.drop (cmpct (l.take (j + 2 + i))).length)[q]? = l[q]? := fun q hq => by
      rw [List.getElem?_append_right hq, List.getElem?_drop]
      congr 1
      omega
    simp (disch := omega) only [go_sem]
    refine Br.ofP (fun f => ?_) (fun f => ?_)
    · obtain ⟨u, hu⟩ := get_at (l := l) (k := j + 1 + i) (by omega)
      obtain ⟨v, hv⟩ := get_at (l := l) (k := j + 1 + i + 1) (by omega)
      have hst := cmpct_step l u v (j + 1 + i) hu hv
      have k1 := (hkeep (j + 1 + i) hw).trans hu
      have k2 := (hkeep (j + 1 + i + 1) (by omega)).trans hv
      have e3 : ((i + 1 : Nat) : Int) - 1 = (i : Int) := by omega
      have e4 : j + 1 + (i + 1) = j + 1 + i + 1 := by omega
      have e5 : j + 1 + i + 2 = j + 2 + (i + 1) := by omega
      have e6 : j + 1 + i + 1 = j + 2 + i := by omega
      rw [e5, e6] at hst
      simp (disch := omega) only [go_sem, e3, e4, k1, k2]
      refine Br.ofP (fun g3 => ?_) (fun g3 => ?_)
      · simp (disch := omega) only [go_sem, g3]
        rw [if_pos g3.symm] at hst
        refine .of (by omega) ?_ ?_
        · show _ = St.mk _ _
          rw [hst]
          rfl
        · show (cmpct _).length ≤ _
          rw [hst]
          omega
      · have hln : (cmpct (l.take (j + 2 + i)) ++ l.drop (cmpct (l.take (j + 2 + i))).length).length = l.length := by simp; omega
        rw [if_neg (fun hc => g3 hc.symm)] at hst
        simp (disch := omega) only [go_sem, g3, e4, k2]
        refine .of (by omega) ?_ ?_
        · show _ = St.mk _ _
          rw [hst, set_put _ _ _ (by omega), List.length_append]
          rfl
        · show (cmpct _).length ≤ _
          rw [hst, List.length_append]
          simp
          omega
    · have hln : (cmpct (l.take (j + 2 + i)) ++ l.drop (cmpct (l.take (j + 2 + i))).length).length = l.length := by simp; omega
      have hall : cmpct (l.take (j + 2 + i)) = cmpct l := by rw [List.take_of_length_le (by omega)]
      rw [hall] at hln hw ⊢
      simp (disch := omega) only [go_sem]
      rw [List.append_assoc, List.take_append_of_le_length (by simp), List.take_take, Nat.min_self, List.take_append_of_le_length (Nat.le_refl _), List.take_length]
  · simp (disch := omega) only [go_sem]
    rw [List.take_of_length_le (by omega)] at hi
    rw [List.take_length, hi]

end Go.Pv

/-
  Appending to arrays that are given in full; two lists of numbers that grow side by side.
-/
namespace Go.Pv

def apI (id ver off len : Nat) (x : Int) (a : Arr) : Option (V × Tn) :=
  if off + len ≤ a.size ∧ a.k = 1 ∧ len + 1 ≤ mostRows then some (.own id (ver + 1) 0 (len + 1), { ar := some (id, ⟨ver + 1, 1, catRows (cutRows off len a.body) (.inl [[.int .i64 x]])⟩) }) else none
@[go_sem] theorem app_own (h : Heap) (id ver off len : Nat) (x : Int) : appendV h 1 (.own id ver off len) (.tl [[.int .i64 x]]) = (ownArr h id ver).bind (apI id ver off len x) := by
  cases ho : ownArr h id ver with
  | none => simp [appendV, srcRows, rowsFit, ho]
  | some a =>
    simp only [appendV, srcRows, rowsFit, ho, rowsLen, apI, List.all_cons, List.all_nil, List.length_cons, List.length_nil, Option.bind_some]
    by_cases h1 : off + len ≤ a.size <;> by_cases h2 : a.k = 1 <;> by_cases h3 : len + 1 ≤ mostRows <;> simp [h1, h2, h3]
@[go_sem] theorem apI_ok {id ver len : Nat} {x : Int} {l : List Int} (h1 : len = l.length) (h2 : l.length + 1 ≤ 2147483648) : apI id ver 0 len x ⟨ver, 1, .inl (ints l)⟩ = some (.own id (ver + 1) 0 (len + 1), { ar := some (id, ⟨ver + 1, 1, .inl (ints (l ++ [x]))⟩) }) := by
  subst h1
  unfold apI
  rw [if_pos ⟨by simp [Arr.size, ints], rfl, h2⟩]
  have : List.take l.length (List.map (fun x => [PV.int IntKind.i64 x]) l) = List.map (fun x => [PV.int IntKind.i64 x]) l := List.take_of_length_le (by simp)
  simp [catRows, cutRows, ints, this]
@[go_sem] theorem app_tl (h : Heap) (x : Int) : appendV h 1 (.tl []) (.tl [[.int .i64 x]]) = some (.own h.ar.length 0 0 1, { push := [⟨0, 1, .inl (ints [x])⟩], base := h.ar.length }) := by
  simp [appendV, srcRows, rowsFit, rowsLen, mostRows, catRows, ints]

end Go.Pv

/-
  Loops over lists: folds and searches.
-/
namespace Go.Pv
variable {A : Nat → Option AFunc} {Pr : Prims}

/-- What a round of a fold comes to. -/
def foldK {σ : Type} (S : Nat → σ → St) (I : Nat → σ → Prop) (k : Nat) (acc : σ) (Q : Ex → St → Prop) (_t : Tie (S, I, k, acc, Q) := .mk) : Ex → St → Prop
  | .normal, s => s = S k acc ∧ I k acc
  | .exit i, s => Q (.exit i) s
  | .ret, s => Q .ret s
@[congr] theorem foldK_congr {σ : Type} {S : Nat → σ → St} {I : Nat → σ → Prop} {k : Nat} {acc : σ} {Q : Ex → St → Prop} {e e' : Ex} {s s' : St} (he : e = e') (hs : s = s') : foldK S I k acc Q .mk e s = foldK S I k acc Q .mk e' s' := by rw [he, hs]
@[go_sem] theorem foldK_exit {σ : Type} (S : Nat → σ → St) (I : Nat → σ → Prop) (k : Nat) (acc : σ) (Q : Ex → St → Prop) (i : Nat) (s : St) : foldK S I k acc Q .mk (.exit i) s = Q (.exit i) s := rfl
@[go_sem] theorem foldK_ret {σ : Type} (S : Nat → σ → St) (I : Nat → σ → Prop) (k : Nat) (acc : σ) (Q : Ex → St → Prop) (s : St) : foldK S I k acc Q .mk .ret s = Q .ret s := rfl
theorem foldK.of {σ : Type} {S : Nat → σ → St} {I : Nat → σ → Prop} {k : Nat} {acc : σ} {Q : Ex → St → Prop} {s : St} (h : s = S k acc) (h2 : I k acc) : foldK S I k acc Q .mk .normal s := ⟨h, h2⟩

/-- The end of a loop: no more rounds. -/
def exitK (Q : Ex → St → Prop) (_t : Tie Q := .mk) : Ex → St → Prop
  | .normal, _ => False
  | .exit i, s => Q (.exit i) s
  | .ret, s => Q .ret s
@[congr] theorem exitK_congr {Q : Ex → St → Prop} {e e' : Ex} {s s' : St} (he : e = e') (hs : s = s') : exitK Q .mk e s = exitK Q .mk e' s' := by rw [he, hs]
@[go_sem] theorem exitK_exit (Q : Ex → St → Prop) (i : Nat) (s : St) : exitK Q .mk (.exit i) s = Q (.exit i) s := rfl
@[go_sem] theorem exitK_ret (Q : Ex → St → Prop) (s : St) : exitK Q .mk .ret s = Q .ret s := rfl

/-- A loop over a list that folds. -/
theorem W.fold {σ α : Type} {a : AC} {s : St} {Q : Ex → St → Prop} (l : List α) (f : σ → α → σ) (x0 : σ) (S : Nat → σ → St) (I : Nat → σ → Prop) (hs : s = S 0 x0) (h0 : I 0 x0)
    (hr : ∀ k x acc, l[k]? = some x → k < l.length → acc = (l.take k).foldl f x0 → I k acc → W A Pr a (S k acc) (foldK S I (k + 1) (f acc x) Q))
    (he : ∀ acc, acc = l.foldl f x0 → I l.length acc → W A Pr a (S l.length acc) (exitK Q)) : W A Pr (.loop a) s Q := by
  refine W.upto l.length (fun k => S k ((l.take k).foldl f x0)) (fun k => I k ((l.take k).foldl f x0)) (by simpa using hs) (by simpa using h0) fun k hk hi => ?_
  rcases Nat.lt_or_ge k l.length with h | h
  · obtain ⟨x, hx⟩ : ∃ x, l[k]? = some x := ⟨l[k], by simp [h]⟩
    obtain ⟨ex, s', h1, h2⟩ := hr k x _ hx h rfl hi
    have ht : (l.take (k + 1)).foldl f x0 = f ((l.take k).foldl f x0) x := by rw [List.take_add_one, hx]; simp [List.foldl_append]
    refine ⟨ex, s', h1, ?_⟩
    cases ex with
    | normal => exact .of h (by rw [ht]; exact h2.1) (by rw [ht]; exact h2.2)
    | exit i => exact h2
    | ret => exact h2
  · obtain rfl : k = l.length := by omega
    rw [List.take_length] at hi ⊢
    obtain ⟨ex, s', h1, h2⟩ := he _ rfl hi
    refine ⟨ex, s', h1, ?_⟩
    cases ex with
    | normal => exact h2.elim
    | exit i => exact h2
    | ret => exact h2

/-- A loop that counts, and folds. -/
theorem W.foldN {σ : Type} {a : AC} {s : St} {Q : Ex → St → Prop} (n : Nat) (f : σ → Nat → σ) (x0 : σ) (S : Nat → σ → St) (I : Nat → σ → Prop) (hs : s = S 0 x0) (h0 : I 0 x0)
    (hr : ∀ k acc, k < n → acc = (List.range k).foldl f x0 → I k acc → W A Pr a (S k acc) (foldK S I (k + 1) (f acc k) Q))
    (he : ∀ acc, acc = (List.range n).foldl f x0 → I n acc → W A Pr a (S n acc) (exitK Q)) : W A Pr (.loop a) s Q := by
  refine W.fold (List.range n) f x0 S I hs h0 (fun k x acc hx hk ha hi => ?_) (fun acc ha hi => ?_)
  · rw [List.length_range] at hk
    rw [List.getElem?_range hk] at hx
    cases hx
    refine hr k acc hk ?_ hi
    rw [ha, List.take_range, Nat.min_eq_left (by omega)]
  · rw [List.length_range] at hi ⊢
    exact he acc ha hi

/-- What a round of a search comes to. -/
def findK (S : Nat → St) (k : Nat) (p : Bool) (Q : Ex → St → Prop) (_t : Tie (S, k, p, Q) := .mk) : Ex → St → Prop
  | .normal, s => p = false ∧ s = S k
  | .exit i, s => Q (.exit i) s
  | .ret, s => Q .ret s
@[congr] theorem findK_congr {S : Nat → St} {k : Nat} {p : Bool} {Q : Ex → St → Prop} {e e' : Ex} {s s' : St} (he : e = e') (hs : s = s') : findK S k p Q .mk e s = findK S k p Q .mk e' s' := by rw [he, hs]
@[go_sem] theorem findK_exit (S : Nat → St) (k : Nat) (p : Bool) (Q : Ex → St → Prop) (i : Nat) (s : St) : findK S k p Q .mk (.exit i) s = Q (.exit i) s := rfl
@[go_sem] theorem findK_ret (S : Nat → St) (k : Nat) (p : Bool) (Q : Ex → St → Prop) (s : St) : findK S k p Q .mk .ret s = Q .ret s := rfl
theorem findK.of {S : Nat → St} {k : Nat} {p : Bool} {Q : Ex → St → Prop} {s : St} (h : p = false) (h2 : s = S k) : findK S k p Q .mk .normal s := ⟨h, h2⟩

/-- Where a search stands. -/
structure Found {α : Type} (l : List α) (p : α → Bool) (k : Nat) (x : α) : Prop where
  any : l.any p = true
  all : l.all (fun y => !p y) = false
  find : l.find? p = some x
  idx : l.findIdx? p = some k
structure Nowhere {α : Type} (l : List α) (p : α → Bool) : Prop where
  any : l.any p = false
  all : l.all (fun y => !p y) = true
  find : l.find? p = none
  idx : l.findIdx? p = none

theorem found_of {α : Type} {l : List α} {p : α → Bool} {k : Nat} {x : α} (hb : ∀ j, j < k → ∀ y, l[j]? = some y → p y = false) (hx : l[k]? = some x) (hp : p x = true) : Found l p k x := by
  obtain ⟨hk, rfl⟩ := List.getElem?_eq_some_iff.1 hx
  have hi : l.findIdx? p = some k := by
    rw [List.findIdx?_eq_some_iff_getElem]
    exact ⟨hk, hp, fun j hj => by simpa using hb j hj _ (by rw [List.getElem?_eq_getElem (by omega)])⟩
  refine ⟨List.any_eq_true.2 ⟨_, List.getElem_mem hk, hp⟩, ?_, ?_, hi⟩
  · rw [List.all_eq_false]
    exact ⟨_, List.getElem_mem hk, by simp [hp]⟩
  · rw [List.find?_eq_some_iff_getElem]
    exact ⟨hp, k, hk, rfl, fun j hj => by simpa using hb j hj _ (by rw [List.getElem?_eq_getElem (by omega)])⟩

theorem nowhere_of {α : Type} {l : List α} {p : α → Bool} (hb : ∀ j, j < l.length → ∀ y, l[j]? = some y → p y = false) : Nowhere l p := by
  have hm : ∀ x ∈ l, p x = false := fun x hx => by
    obtain ⟨j, hj, rfl⟩ := List.getElem_of_mem hx
    exact hb j hj _ (by rw [List.getElem?_eq_getElem])
  exact ⟨by rw [List.any_eq_false]; intro x hx; simp [hm x hx], by rw [List.all_eq_true]; intro x hx; simp [hm x hx], by rw [List.find?_eq_none]; intro x hx; simp [hm x hx], by rw [List.findIdx?_eq_none_iff]; exact hm⟩

/-- A loop over a list that searches. -/
theorem W.find {α : Type} {a : AC} {s : St} {Q : Ex → St → Prop} (l : List α) (p : α → Bool) (S : Nat → St) (hs : s = S 0)
    (hr : ∀ k x, l[k]? = some x → k < l.length → (p x = true → Found l p k x) → W A Pr a (S k) (findK S (k + 1) (p x) Q))
    (he : Nowhere l p → W A Pr a (S l.length) (exitK Q)) : W A Pr (.loop a) s Q := by
  refine W.upto l.length S (fun k => ∀ j, j < k → ∀ y, l[j]? = some y → p y = false) hs (fun j hj => absurd hj (Nat.not_lt_zero _)) fun k hk hi => ?_
  rcases Nat.lt_or_ge k l.length with h | h
  · obtain ⟨x, hx⟩ : ∃ x, l[k]? = some x := ⟨l[k], by simp [h]⟩
    obtain ⟨ex, s', h1, h2⟩ := hr k x hx h (fun hp => found_of hi hx hp)
    refine ⟨ex, s', h1, ?_⟩
    cases ex with
    | normal =>
      refine .of h h2.2 fun j hj y hy => ?_
      rcases Nat.lt_or_ge j k with g | g
      · exact hi j g y hy
      · obtain rfl : j = k := by omega
        rw [hx] at hy
        cases hy
        exact h2.1
    | exit i => exact h2
    | ret => exact h2
  · obtain rfl : k = l.length := by omega
    obtain ⟨ex, s', h1, h2⟩ := he (nowhere_of hi)
    refine ⟨ex, s', h1, ?_⟩
    cases ex with
    | normal => exact h2.elim
    | exit i => exact h2
    | ret => exact h2

/-- One round, and the loop again. -/
def againK (A : Nat → Option AFunc) (Pr : Prims) (a : AC) (Q : Ex → St → Prop) (_t : Tie (a, Q) := .mk) : Ex → St → Prop
  | .normal, s => W A Pr (.loop a) s Q
  | .exit i, s => Q (.exit i) s
  | .ret, s => Q .ret s
@[congr] theorem againK_congr {a : AC} {Q : Ex → St → Prop} {e e' : Ex} {s s' : St} (he : e = e') (hs : s = s') : againK A Pr a Q .mk e s = againK A Pr a Q .mk e' s' := by rw [he, hs]
@[go_sem] theorem againK_normal (a : AC) (Q : Ex → St → Prop) (s : St) : againK A Pr a Q .mk .normal s = W A Pr (.loop a) s Q := rfl
@[go_sem] theorem againK_exit (a : AC) (Q : Ex → St → Prop) (i : Nat) (s : St) : againK A Pr a Q .mk (.exit i) s = Q (.exit i) s := rfl
@[go_sem] theorem againK_ret (a : AC) (Q : Ex → St → Prop) (s : St) : againK A Pr a Q .mk .ret s = Q .ret s := rfl
theorem W.once {a : AC} {s : St} {Q : Ex → St → Prop} (h : W A Pr a s (againK A Pr a Q)) : W A Pr (.loop a) s Q := by
  obtain ⟨ex, s', h1, h2⟩ := h
  cases ex with
  | normal =>
    obtain ⟨e2, s2, h3, h4⟩ := h2
    exact ⟨e2, s2, Runs.loop_step h1 h3, h4⟩
  | exit i => exact ⟨_, _, Runs.loop_out h1 (by simp), h2⟩
  | ret => exact ⟨_, _, Runs.loop_out h1 (by simp), h2⟩

end Go.Pv

/-
  Labels, as the program finds them.
-/
namespace Go.Pv

/-- Two lists that grow, by which came first. -/
inductive Two where
  | e
  | a (x : Int) (l : List Int)
  | b (x : Int) (l : List Int)
  | ab (x : Int) (l : List Int) (y : Int) (r : List Int)
  | ba (x : Int) (l : List Int) (y : Int) (r : List Int)

def ow (i : Nat) (l : List Int) : V := .own i l.length 0 (l.length + 1)
def ao (x : Int) (l : List Int) : Arr := ⟨l.length, 1, .inl (ints (x :: l))⟩
def Two.v0 : Two → V
  | .e | .b _ _ => .tl []
  | .a _ l | .ab _ l _ _ => ow 0 l
  | .ba _ l _ _ => ow 1 l
def Two.v1 : Two → V
  | .e | .a _ _ => .tl []
  | .b _ l | .ba _ _ _ l => ow 0 l
  | .ab _ _ _ r => ow 1 r
def Two.ar : Two → List Arr
  | .e => []
  | .a x l | .b x l => [ao x l]
  | .ab x l y r => [ao x l, ao y r]
  | .ba x l y r => [ao y r, ao x l]
def Two.l0 : Two → List Int
  | .e | .b _ _ => []
  | .a x l | .ab x l _ _ | .ba x l _ _ => x :: l
def Two.l1 : Two → List Int
  | .e | .a _ _ => []
  | .b x l | .ab _ _ x l | .ba _ _ x l => x :: l
def Two.put (s : Bool) (z : Int) : Two → Two
  | .e => if s then .b z [] else .a z []
  | .a x l => if s then .ab x l z [] else .a x (l ++ [z])
  | .b x l => if s then .b x (l ++ [z]) else .ba z [] x l
  | .ab x l y r => if s then .ab x l y (r ++ [z]) else .ab x (l ++ [z]) y r
  | .ba x l y r => if s then .ba x l y (r ++ [z]) else .ba x (l ++ [z]) y r

theorem Two.put_l0 (s : Bool) (z : Int) (t : Two) : (t.put s z).l0 = if s then t.l0 else t.l0 ++ [z] := by
  cases t <;> cases s <;> rfl
theorem Two.put_l1 (s : Bool) (z : Int) (t : Two) : (t.put s z).l1 = if s then t.l1 ++ [z] else t.l1 := by
  cases t <;> cases s <;> rfl
def twoTo (es : List Edge) : Nat → Two
  | 0 => .e
  | k + 1 => match es[k]? with
    | some e => (twoTo es k).put e.send e.label
    | none => twoTo es k
def Two.len (t : Two) : Nat := t.l0.length + t.l1.length
theorem twoTo_len (es : List Edge) : ∀ k, (twoTo es k).len ≤ k
  | 0 => Nat.le_refl _
  | k + 1 => by
    have := twoTo_len es k
    unfold twoTo
    split
    · unfold Two.len at *
      rw [Two.put_l0, Two.put_l1]
      split <;> simp <;> omega
    · omega

def sortI1 (id ver off len : Nat) (a : Arr) : Option (V × Tn) :=
  if len = 0 then some (.tup [], { ra := some id }) else (match a.body with
        | .inl rows => if a.k = 1 ∧ off + len ≤ rows.length ∧ len ≤ mostRows then (match mapO intDec ((rows.drop off).take len) with
          | some l => some (.tup [], { ar := some (id, ⟨ver, 1, .inl (rows.take off ++ (isort ltI l).map (fun x => [.int .i64 x]) ++ rows.drop (off + len))⟩) })
          | none => none) else none
        | .inr _ => none)
@[go_sem] theorem sortIP_tl (h : Heap) : sortIP [.tl []] h = some (.tup [], {}) := rfl
@[go_sem] theorem sortIP_own (h : Heap) (id ver off len : Nat) : sortIP [.own id ver off len] h = (ownArr h id ver).bind (sortI1 id ver off len) := by
  simp only [sortIP]
  cases ownArr h id ver <;> rfl
theorem ints_dec (l : List Int) : mapO intDec (ints l) = some l := by
  induction l with
  | nil => rfl
  | cons x l ih =>
    show mapO intDec ([.int .i64 x] :: ints l) = _
    simp only [mapO, intDec, ih]
@[go_sem] theorem sortI1_ints {id ver n : Nat} {l : List Int} (hn : n = l.length) (h0 : n ≠ 0) (hm : n ≤ 2147483648) : sortI1 id ver 0 n ⟨ver, 1, .inl (ints l)⟩ = some (.tup [], { ar := some (id, ⟨ver, 1, .inl (ints (isort ltI l))⟩) }) := by
  subst hn
  have e1 : (ints l).length = l.length := ints_length l
  simp [sortI1, h0, e1, mostRows, hm, ints_dec, List.take_of_length_le (Nat.le_of_eq e1), List.drop_eq_nil_of_le (Nat.le_of_eq e1)]
  rfl
@[go_sem] theorem lendAll_tl (h : Heap) : lendAll h true [.tl []] = some ([.lst 0 []], none) := rfl
def lendA (id ver len : Nat) (a : Arr) : Option (List PV × Option (Nat × Arr)) :=
  if a.size = len ∧ a.k ≠ 0 then (match a.body with
      | .inl rows => some ([.fr a.k rows], some (id, ⟨ver + 1, 0, .inl []⟩))
      | .inr _ => none) else none
@[go_sem] theorem lendAll_own (h : Heap) (id ver len : Nat) : lendAll h true [.own id ver 0 len] = (ownArr h id ver).bind (lendA id ver len) := by
  simp only [lendAll, lendTake]
  cases ownArr h id ver with
  | none => rfl
  | some a =>
    simp only [Option.bind_some, if_true, lendA]
    by_cases hc : a.size = len ∧ a.k ≠ 0
    · cases hb : a.body <;> simp [hc, mapO]
    · simp [hc]
@[go_sem] theorem lendA_ints {id ver v len : Nat} {l : List Int} (hn : len = l.length) : lendA id ver len ⟨v, 1, .inl (ints l)⟩ = some ([.fr 1 (ints l)], some (id, ⟨ver + 1, 0, .inl []⟩)) := by
  subst hn
  simp [lendA, Arr.size, ints_length]

theorem cmpct_small : ∀ {l : List Int}, l.length < 2 → cmpct l = l
  | [], _ => rfl
  | [_], _ => rfl
  | _ :: _ :: _, h => by simp at h; omega
@[go_sem] theorem r104 (l : List Int) (h0 : l.length ≤ 2000000000) : res A PrA 104 [.fr 1 (ints l)] = some [.fr 1 (ints (cmpct l))] := by
  rcases Nat.lt_or_ge l.length 2 with h | h
  · rw [r104_small l h, cmpct_small h]
  · exact r104_big l h h0
@[go_sem] theorem r104_nil : res A PrA 104 [.lst 0 []] = some [.lst 0 []] := by
  refine res_of a104 rfl rfl ?_
  simp only [F104]
  have h2 : (((0 : Nat) : Nat) : Int) < 2 := by omega
  simp (disch := omega) only [go_sem, h2]
  rfl
@[go_sem] theorem isort_len (l : List Int) : (isort ltI l).length = l.length := (isort_perm ltI l).length_eq

theorem two_l0 (es : List Edge) : ∀ k, k ≤ es.length → (twoTo es k).l0 = ((es.take k).filter fun e => e.send == false).map (·.label) ∧ (twoTo es k).l1 = ((es.take k).filter fun e => e.send == true).map (·.label)
  | 0, _ => ⟨rfl, rfl⟩
  | k + 1, hk => by
    obtain ⟨h1, h2⟩ := two_l0 es k (by omega)
    obtain ⟨e, he⟩ : ∃ e, es[k]? = some e := ⟨es[k], by simp⟩
    have hb : twoTo es (k + 1) = (twoTo es k).put e.send e.label := by simp only [twoTo, he]
    rw [hb, Two.put_l0, Two.put_l1, h1, h2, List.take_add_one, he]
    cases hs : e.send <;> simp [hs]

end Go.Pv

/-
  Plain laws: labels of automata.
-/
namespace Go.Pv

/-- The labels with a direction, in the order of edges. -/
def labs (d : Bool) (es : List Edge) : List Int := (es.filter fun e => e.send == d).map (·.label)
theorem labs_mem {d : Bool} {es : List Edge} {x : Int} : x ∈ labs d es ↔ ∃ e ∈ es, e.send = d ∧ e.label = x := by
  simp [labs, and_assoc]

theorem cmpct_mem : ∀ {l : List Int} {x : Int}, x ∈ cmpct l ↔ x ∈ l
  | [], _ => by simp [cmpct]
  | [y], _ => by simp [cmpct]
  | y :: z :: r, x => by
    have ih := cmpct_mem (l := z :: r) (x := x)
    unfold cmpct
    split
    · rename_i h
      subst h
      rw [ih]
      simp
    · simp only [List.mem_cons] at ih ⊢
      rw [ih]
theorem cmpct_asc : ∀ {l : List Int}, l.Pairwise (· ≤ ·) → (cmpct l).Pairwise (· < ·)
  | [], _ => List.Pairwise.nil
  | [y], _ => List.pairwise_singleton _ _
  | y :: z :: r, h => by
    obtain ⟨h1, h2⟩ := List.pairwise_cons.1 h
    have ih := cmpct_asc h2
    unfold cmpct
    split
    · exact ih
    · rename_i hn
      refine List.pairwise_cons.2 ⟨fun x hx => ?_, ih⟩
      have hx' := cmpct_mem.1 hx
      have hz := h1 z (by simp)
      rcases List.mem_cons.1 hx' with rfl | hx'
      · omega
      · have := (List.pairwise_cons.1 h2).1 x hx'
        omega
theorem cmpct_len : ∀ l : List Int, (cmpct l).length ≤ l.length
  | [] => Nat.le_refl _
  | [_] => Nat.le_refl _
  | x :: y :: r => by
    have := cmpct_len (y :: r)
    unfold cmpct
    split <;> simp at * <;> omega
/-- Numbers, ascending, each once. -/
def uniqs (l : List Int) : List Int := cmpct (isort ltI l)
theorem uniqs_asc (l : List Int) : (uniqs l).Pairwise (· < ·) := cmpct_asc (isort_sorted l)
theorem uniqs_len (l : List Int) : (uniqs l).length ≤ l.length := by
  have := cmpct_len (isort ltI l)
  rw [isort_len] at this
  exact this
theorem labs_len (d : Bool) (es : List Edge) : (labs d es).length ≤ es.length := by
  unfold labs
  rw [List.length_map]
  exact List.length_filter_le _ _
theorem uniqs_mem {l : List Int} {x : Int} : x ∈ uniqs l ↔ x ∈ l := by
  unfold uniqs
  rw [cmpct_mem, (isort_perm ltI l).mem_iff]
theorem uniqs_eq {l m : List Int} (h : ∀ x, x ∈ l ↔ x ∈ m) : uniqs l = uniqs m := asc_ext (uniqs_asc l) (uniqs_asc m) fun x => by rw [uniqs_mem, uniqs_mem, h]
theorem uniqs_of {l m : List Int} (hm : m.Pairwise (· < ·)) (h : ∀ x, x ∈ l ↔ x ∈ m) : uniqs l = m := asc_ext (uniqs_asc l) hm fun x => by rw [uniqs_mem, h]

theorem atFrom_neg {x : Int} : ∀ {l : List Int} {k : Nat}, atFrom x k l < 0 ↔ x ∉ l
  | [], k => by simp [atFrom]
  | y :: r, k => by
    unfold atFrom
    split
    · rename_i h
      subst h
      simp
    · rename_i h
      rw [atFrom_neg]
      simp only [List.mem_cons, not_or]
      exact ⟨fun h2 => ⟨fun e => h e.symm, h2⟩, fun h2 => h2.2⟩
theorem atL_neg {x : Int} {l : List Int} : atL x l < 0 ↔ x ∉ l := atFrom_neg
theorem atL_pos {x : Int} {l : List Int} : 0 ≤ atL x l ↔ x ∈ l := by
  rw [← Int.not_lt, atL_neg]
  simp

theorem bubI_bub (x : Int) (l : List Int) : ∀ q, bubI x l q = bub ltI x l q
  | 0 => rfl
  | q + 1 => by
    simp only [bubI, bub, bubI_bub x l q, ltI, decide_eq_true_eq]
    rfl
theorem insI_insB (x : Int) (l : List Int) : insI x l = insB ltI x l := by
  unfold insI insB
  rw [bubI_bub]
  rfl
theorem ltI_pw {l : List Int} : l.Pairwise (fun a b => ltI a b = true) ↔ l.Pairwise (· < ·) := by
  simp [ltI]

theorem labTo_spec (d : Bool) (es : List Edge) : ∀ k, k ≤ es.length → (labTo d es k).Pairwise (· < ·) ∧ ∀ x, x ∈ labTo d es k ↔ x ∈ labs d (es.take k)
  | 0, _ => ⟨List.Pairwise.nil, fun x => by simp [labTo, labs]⟩
  | k + 1, hk => by
    obtain ⟨h1, h2⟩ := labTo_spec d es k (by omega)
    obtain ⟨e, he⟩ : ∃ e, es[k]? = some e := ⟨es[k], by simp⟩
    have ht : labs d (es.take (k + 1)) = labs d (es.take k) ++ (if e.send = d then [e.label] else []) := by
      rw [List.take_add_one, he]
      unfold labs
      simp only [List.filter_append, List.map_append, Option.toList_some]
      by_cases h : e.send = d <;> simp [h]
    rw [ht]
    simp only [labTo, he]
    by_cases hd : e.send = d
    · by_cases ha : 0 ≤ atL e.label (labTo d es k)
      · rw [if_pos (.inr ha)]
        refine ⟨h1, fun x => ?_⟩
        rw [h2, if_pos hd, List.mem_append, List.mem_singleton]
        refine ⟨.inl, fun h => h.elim id fun hx => ?_⟩
        subst hx
        exact (h2 _).1 (atL_pos.1 ha)
      · rw [if_neg (by simp [hd, ha]), insI_insB]
        have hn : e.label ∉ labTo d es k := fun h => ha (atL_pos.2 h)
        refine ⟨?_, fun x => ?_⟩
        · rw [← ltI_pw]
          refine insB_sorted (fun x y z => by simp only [ltI, decide_eq_true_eq]; omega) (ltI_pw.2 h1) fun y hy => ?_
          have : e.label ≠ y := fun h => hn (h ▸ hy)
          simp only [apt, ltI, decide_eq_true_eq]
          omega
        · rw [(insB_perm ltI e.label _).mem_iff, List.mem_cons, h2, if_pos hd, List.mem_append, List.mem_singleton]
          exact ⟨fun h => h.elim .inr .inl, fun h => h.elim .inr .inl⟩
    · rw [if_pos (.inl hd), if_neg hd, List.append_nil]
      exact ⟨h1, h2⟩
/-- The reference's labels. -/
theorem labTo_uniqs (d : Bool) (es : List Edge) : labTo d es es.length = uniqs (labs d es) := by
  obtain ⟨h1, h2⟩ := labTo_spec d es es.length (Nat.le_refl _)
  rw [List.take_length] at h2
  exact (uniqs_of h1 fun x => (h2 x).symm).symm

end Go.Pv

/-
  Plain laws: valid automata, their duals, what can be reached, trimmed automata.
-/
namespace Go.Pv

/-- An automaton without an error. -/
structure Auto.Good (a : Auto) : Prop where
  st : 0 ≤ a.start ∧ a.start < a.states
  mx : a.states ≤ 12
  len : a.edges.length ≤ 100
  fit : ∀ e ∈ a.edges, e.fits a.states = true
  asc : a.edges.Pairwise (fun x y => Edge.lt x y = true)

theorem Edge.lt_irr (x : Edge) : Edge.lt x x = false := by simp [Edge.lt]
theorem Edge.lt_tr (x y z : Edge) (h1 : Edge.lt x y = true) (h2 : Edge.lt y z = true) : Edge.lt x z = true := by
  unfold Edge.lt at *
  by_cases a1 : x.fr = y.fr <;> by_cases a2 : y.fr = z.fr <;> by_cases b1 : x.send = y.send <;> by_cases b2 : y.send = z.send <;> simp_all <;> (try omega)
  all_goals (try (have : ¬ x.fr = z.fr := by omega); simp_all; omega)
theorem Edge.apt_iff {x y : Edge} : apt Edge.lt x y ↔ ¬ (x.fr = y.fr ∧ x.send = y.send ∧ x.label = y.label) := by
  unfold apt Edge.lt
  by_cases a1 : x.fr = y.fr
  · cases h1 : x.send <;> cases h2 : y.send <;> simp [a1] <;> omega
  · have : ¬ y.fr = x.fr := fun h => a1 h.symm
    simp [a1, this]
    omega

theorem chk_asc {n : Int} : ∀ {p : Option Edge} {l : List Edge}, chk n p l = true → l.Pairwise (fun x y => Edge.lt x y = true) ∧ ∀ q, p = some q → ∀ e ∈ l, Edge.lt q e = true
  | _, [], _ => ⟨List.Pairwise.nil, fun _ _ e he => absurd he (by simp)⟩
  | p, x :: r, h => by
    simp only [chk, Bool.and_eq_true] at h
    obtain ⟨h1, h2⟩ := chk_asc h.2
    refine ⟨List.pairwise_cons.2 ⟨h2 x rfl, h1⟩, fun q hq e he => ?_⟩
    subst hq
    have hx : Edge.lt q x = true := h.1.2
    rcases List.mem_cons.1 he with rfl | he
    · exact hx
    · exact Edge.lt_tr _ _ _ hx (h2 x rfl e he)
theorem chk_of {n : Int} : ∀ {p : Option Edge} {l : List Edge}, l.Pairwise (fun x y => Edge.lt x y = true) → (∀ e ∈ l, e.fits n = true) → (∀ q, p = some q → ∀ e ∈ l, Edge.lt q e = true) → chk n p l = true
  | _, [], _, _, _ => rfl
  | p, x :: r, h1, h2, h3 => by
    obtain ⟨g1, g2⟩ := List.pairwise_cons.1 h1
    simp only [chk, Bool.and_eq_true]
    refine ⟨⟨h2 x (by simp), ?_⟩, chk_of g2 (fun e he => h2 e (by simp [he])) fun q hq e he => ?_⟩
    · cases p with
      | none => rfl
      | some q => exact h3 q rfl x (by simp)
    · cases hq
      exact g1 e he
theorem Auto.good_iff {a : Auto} : a.err = 0 ↔ a.Good := by
  unfold Auto.err
  constructor
  · intro h
    split at h
    · cases h
    · split at h
      · split at h
        · rename_i h1 h2 h3
          exact ⟨h2, by omega, by omega, chk_fits h3, (chk_asc h3).1⟩
        · cases h
      · cases h
  · intro h
    have := h.mx; have := h.len
    rw [if_neg (by omega), if_pos h.st, if_pos (chk_of h.asc h.fit (fun q hq => by cases hq))]

-- next states
theorem nextE_some {s : Int} {d : Bool} {x t : Int} : ∀ {es : List Edge}, es.Pairwise (apt Edge.lt) → (nextE s d x es = some t ↔ ⟨s, d, x, t⟩ ∈ es)
  | [], _ => by simp [nextE]
  | e :: r, h => by
    obtain ⟨h1, h2⟩ := List.pairwise_cons.1 h
    unfold nextE
    split
    · rename_i hc
      constructor
      · intro h
        cases h
        obtain ⟨rfl, rfl, rfl⟩ := hc
        exact List.mem_cons_self ..
      · intro hm
        rcases List.mem_cons.1 hm with hm | hm
        · rw [← hm]
        · exact (Edge.apt_iff.1 (h1 _ hm) hc).elim
    · rename_i hc
      rw [nextE_some h2, List.mem_cons]
      refine ⟨.inr, fun h => h.elim (fun h => ?_) id⟩
      rw [← h] at hc
      exact (hc ⟨rfl, rfl, rfl⟩).elim
theorem Auto.Good.apt {a : Auto} (h : a.Good) : a.edges.Pairwise (apt Edge.lt) := h.asc.imp .inl

-- duals
def Edge.flip (e : Edge) : Edge := ⟨e.fr, !e.send, e.label, e.to⟩
theorem Edge.flip_flip (e : Edge) : e.flip.flip = e := by simp [Edge.flip]
def dualE (es : List Edge) : List Edge := isort Edge.lt (es.map Edge.flip)
def Auto.dual (a : Auto) : Auto := ⟨a.states, a.start, dualE a.edges⟩
theorem flip_apt {es : List Edge} (h : es.Pairwise (apt Edge.lt)) : (es.map Edge.flip).Pairwise (apt Edge.lt) := by
  rw [List.pairwise_map]
  refine h.imp fun {x y} hxy => ?_
  rw [Edge.apt_iff] at hxy ⊢
  simpa [Edge.flip] using hxy
theorem dualE_mem {es : List Edge} {e : Edge} : e ∈ dualE es ↔ e.flip ∈ es := by
  unfold dualE
  rw [(isort_perm _ _).mem_iff, List.mem_map]
  constructor
  · rintro ⟨x, hx, rfl⟩
    rwa [Edge.flip_flip]
  · exact fun h => ⟨_, h, Edge.flip_flip e⟩
theorem dual_sorted {es : List Edge} (h : es.Pairwise (apt Edge.lt)) : (dualE es).Pairwise (fun x y => Edge.lt x y = true) := isort_pw Edge.lt_tr (flip_apt h)
theorem dualE_len (es : List Edge) : (dualE es).length = es.length := by simp [dualE, (isort_perm _ _).length_eq]
theorem Auto.Good.dual {a : Auto} (h : a.Good) : a.dual.Good where
  st := h.st
  mx := h.mx
  len := by show (dualE a.edges).length ≤ 100; rw [dualE_len]; exact h.len
  fit e he := by
    have := h.fit e.flip (dualE_mem.1 he)
    exact this
  asc := dual_sorted h.apt
theorem Auto.Good.dual_dual {a : Auto} (h : a.Good) : a.dual.dual = a := by
  have : dualE (dualE a.edges) = a.edges := pw_uniq Edge.lt_irr Edge.lt_tr h.dual.dual.asc h.asc fun e => by
    rw [dualE_mem, dualE_mem, Edge.flip_flip]
  show (⟨a.states, a.start, dualE (dualE a.edges)⟩ : Auto) = a
  rw [this]
theorem dual_labs {es : List Edge} {d : Bool} : uniqs (labs d (dualE es)) = uniqs (labs (!d) es) := by
  refine uniqs_eq fun x => ?_
  rw [labs_mem, labs_mem]
  constructor
  · rintro ⟨e, he, rfl, rfl⟩
    exact ⟨_, dualE_mem.1 he, rfl, rfl⟩
  · rintro ⟨e, he, h1, h2⟩
    exact ⟨e.flip, dualE_mem.2 (by rwa [Edge.flip_flip]), by simp [Edge.flip, h1], h2⟩

-- what can be reached
def outs (es : List Edge) (v : Int) : List Int := (es.filter fun e => e.fr == v).map (·.to)
theorem outs_mem {es : List Edge} {v x : Int} : x ∈ outs es v ↔ ∃ e ∈ es, e.fr = v ∧ e.to = x := by simp [outs, and_assoc]
/-- The states that can be reached from one, breadth-first. -/
def Auto.from (a : Auto) (s : Int) : List Int := bfs (outs a.edges) a.states.toNat 0 [s]
def Auto.order (a : Auto) : List Int := a.from a.start
def Auto.inr (a : Auto) (v : Int) : Prop := 0 ≤ v ∧ v < a.states
theorem Auto.Good.outs_in {a : Auto} (h : a.Good) : ∀ v, a.inr v → ∀ x ∈ outs a.edges v, a.inr x := by
  intro v _ x hx
  obtain ⟨e, he, _, rfl⟩ := outs_mem.1 hx
  have := fits_iff.1 (h.fit e he)
  exact ⟨this.2.2.1, this.2.2.2.1⟩
theorem Auto.bound {a : Auto} : ∀ o : List Int, o.Nodup → (∀ v ∈ o, a.inr v) → o.length ≤ a.states.toNat := fun o hd ho => nodup_bound hd fun x hx => by
  have := ho x hx
  unfold Auto.inr at this
  omega
theorem Auto.Good.from_mem {a : Auto} (h : a.Good) {s v : Int} (hs : a.inr s) : v ∈ a.from s ↔ Rch (outs a.edges) s v := bfs_rch h.outs_in a.bound hs
theorem Auto.from_nodup (a : Auto) (s : Int) : (a.from s).Nodup := bfs_nodup _ _ (by simp)
theorem Auto.Good.from_in {a : Auto} (h : a.Good) {s : Int} (hs : a.inr s) : ∀ v ∈ a.from s, a.inr v := bfs_all h.outs_in _ _ (by simpa using hs)
theorem Auto.Good.from_len {a : Auto} (h : a.Good) {s : Int} (hs : a.inr s) : (a.from s).length ≤ a.states.toNat := a.bound _ (a.from_nodup s) (h.from_in hs)
theorem Auto.Good.order_in {a : Auto} (h : a.Good) : ∀ v ∈ a.order, a.inr v := h.from_in h.st
theorem Auto.Good.order_closed {a : Auto} (h : a.Good) {e : Edge} (he : e ∈ a.edges) (hf : e.fr ∈ a.order) : e.to ∈ a.order := (h.from_mem h.st).2 (.step ((h.from_mem h.st).1 hf) (outs_mem.2 ⟨e, he, rfl, rfl⟩))
theorem Auto.order_head (a : Auto) : ∃ r, a.order = a.start :: r := by
  obtain ⟨t, ht⟩ := bfs_pre (nx := outs a.edges) a.states.toNat 0 [a.start]
  exact ⟨t, ht.symm⟩

-- places in a list
theorem atFrom_get {x : Int} : ∀ {l : List Int} {k : Nat}, x ∈ l → ∃ j, atFrom x k l = ((k + j : Nat) : Int) ∧ l[j]? = some x
  | [], _, h => absurd h (by simp)
  | y :: r, k, h => by
    unfold atFrom
    split
    · rename_i hy
      exact ⟨0, rfl, by simp [hy]⟩
    · rename_i hy
      rcases List.mem_cons.1 h with rfl | h
      · exact (hy rfl).elim
      · obtain ⟨j, h1, h2⟩ := atFrom_get (k := k + 1) h
        exact ⟨j + 1, by rw [h1]; omega, by simpa using h2⟩
theorem atL_get {x : Int} {l : List Int} (h : x ∈ l) : ∃ j : Nat, atL x l = (j : Int) ∧ l[j]? = some x := by
  obtain ⟨j, h1, h2⟩ := atFrom_get (k := 0) h
  exact ⟨j, by unfold atL; rw [h1, Nat.zero_add], h2⟩
theorem atL_of {x : Int} {l : List Int} {j : Nat} (hd : l.Nodup) (h : l[j]? = some x) : atL x l = j := by
  obtain ⟨i, h1, h2⟩ := atL_get (List.mem_of_getElem? h)
  rw [h1]
  obtain ⟨g1, g2⟩ := List.getElem?_eq_some_iff.1 h
  obtain ⟨f1, f2⟩ := List.getElem?_eq_some_iff.1 h2
  have := (List.pairwise_iff_getElem.1 hd)
  rcases Nat.lt_trichotomy i j with hl | rfl | hl
  · exact (this i j f1 g1 hl (f2.trans g2.symm)).elim
  · rfl
  · exact (this j i g1 f1 hl (g2.trans f2.symm)).elim
theorem atL_inj {x y : Int} {l : List Int} (hx : x ∈ l) (hy : y ∈ l) (h : atL x l = atL y l) : x = y := by
  obtain ⟨i, h1, h2⟩ := atL_get hx
  obtain ⟨j, g1, g2⟩ := atL_get hy
  rw [h1, g1] at h
  have : i = j := by omega
  subst this
  rw [h2] at g2
  exact Option.some.inj g2
theorem atL_range {x : Int} {l : List Int} (hx : x ∈ l) : 0 ≤ atL x l ∧ atL x l < l.length := by
  obtain ⟨i, h1, h2⟩ := atL_get hx
  have := (List.getElem?_eq_some_iff.1 h2).1
  omega
def iota (n : Nat) : List Int := (List.range n).map Int.ofNat
theorem iota_get {n k : Nat} (h : k < n) : (iota n)[k]? = some (k : Int) := by simp [iota, h]
theorem iota_nodup (n : Nat) : (iota n).Nodup := List.Pairwise.map _ (fun _ _ h e => h (Int.ofNat.inj e)) List.nodup_range
theorem iota_at {n : Nat} {x : Int} (h : 0 ≤ x ∧ x < n) : atL x (iota n) = x := by
  have := atL_of (iota_nodup n) (iota_get (n := n) (k := x.toNat) (by omega))
  rw [show ((x.toNat : Nat) : Int) = x by omega] at this
  exact this
theorem iota_mem {n : Nat} {x : Int} : x ∈ iota n ↔ 0 ≤ x ∧ x < n := by
  unfold iota
  rw [List.mem_map]
  constructor
  · rintro ⟨k, hk, rfl⟩
    have := List.mem_range.1 hk
    simp
    omega
  · intro h
    exact ⟨x.toNat, List.mem_range.2 (by omega), by simp; omega⟩
theorem map_atL {l : List Int} (hd : l.Nodup) : l.map (atL · l) = iota l.length := by
  apply List.ext_getElem?
  intro i
  rw [List.getElem?_map]
  rcases Nat.lt_or_ge i l.length with h | h
  · rw [List.getElem?_eq_getElem h, iota_get h]
    simp only [Option.map_some]
    rw [atL_of hd (List.getElem?_eq_getElem h)]
  · rw [List.getElem?_eq_none h, List.getElem?_eq_none (by simp [iota, h])]
    rfl

-- trimmed automata
def Edge.ren (o : List Int) (e : Edge) : Edge := ⟨atL e.fr o, e.send, e.label, atL e.to o⟩
def kept (o : List Int) (es : List Edge) : List Edge := (es.filter fun e => decide (e.fr ∈ o)).map (Edge.ren o)
def Auto.trim (a : Auto) : Auto := ⟨a.order.length, 0, isort Edge.lt (kept a.order a.edges)⟩
theorem kept_mem {o : List Int} {es : List Edge} {x : Edge} : x ∈ kept o es ↔ ∃ e ∈ es, e.fr ∈ o ∧ e.ren o = x := by simp [kept, and_assoc]
theorem kept_apt {o : List Int} {es : List Edge} (h : es.Pairwise (apt Edge.lt)) : (kept o es).Pairwise (apt Edge.lt) := by
  unfold kept
  rw [List.pairwise_map]
  have h2 := h.filter (fun e => decide (e.fr ∈ o))
  refine List.Pairwise.imp_of_mem (fun {x y} hx hy hxy => ?_) h2
  have hx' := (List.mem_filter.1 hx).2
  have hy' := (List.mem_filter.1 hy).2
  simp only [decide_eq_true_eq] at hx' hy'
  rw [Edge.apt_iff] at hxy ⊢
  exact fun ⟨e1, e2, e3⟩ => hxy ⟨atL_inj hx' hy' e1, e2, e3⟩
theorem Auto.trim_mem {a : Auto} {x : Edge} : x ∈ a.trim.edges ↔ ∃ e ∈ a.edges, e.fr ∈ a.order ∧ e.ren a.order = x := by
  show x ∈ isort _ _ ↔ _
  rw [(isort_perm _ _).mem_iff, kept_mem]
theorem Auto.Good.trim {a : Auto} (h : a.Good) : a.trim.Good where
  st := by
    obtain ⟨r, hr⟩ := a.order_head
    show (0 : Int) ≤ 0 ∧ (0 : Int) < (a.order.length : Int)
    rw [hr]
    simp
  mx := by
    have := h.from_len h.st
    have := h.mx
    show (a.order.length : Int) ≤ 12
    unfold Auto.order
    omega
  len := by
    show (isort _ (kept _ _)).length ≤ 100
    rw [(isort_perm _ _).length_eq]
    have := List.length_filter_le (fun e : Edge => decide (e.fr ∈ a.order)) a.edges
    have := h.len
    simp only [kept, List.length_map]
    omega
  fit x hx := by
    obtain ⟨e, he, hf, rfl⟩ := Auto.trim_mem.1 hx
    have := fits_iff.1 (h.fit e he)
    have h1 := atL_range hf
    have h2 := atL_range (h.order_closed he hf)
    rw [fits_iff]
    show 0 ≤ atL e.fr a.order ∧ atL e.fr a.order < (a.order.length : Int) ∧ 0 ≤ atL e.to a.order ∧ atL e.to a.order < (a.order.length : Int) ∧ _
    exact ⟨h1.1, h1.2, h2.1, h2.2, this.2.2.2.2⟩
  asc := isort_pw Edge.lt_tr (kept_apt h.apt)

theorem Auto.Good.trim_outs {a : Auto} (h : a.Good) {v : Int} (hv : v ∈ a.order) : outs a.trim.edges (atL v a.order) = (outs a.edges v).map (atL · a.order) := by
  have key : (a.trim.edges.filter fun e => e.fr == atL v a.order) = (a.edges.filter fun e => e.fr == v).map (Edge.ren a.order) := by
    refine pw_uniq Edge.lt_irr Edge.lt_tr (h.trim.asc.filter _) ?_ fun x => ?_
    · rw [List.pairwise_map]
      refine List.Pairwise.imp_of_mem (fun {x y} hx hy hxy => ?_) (h.asc.filter _)
      have hx' := (List.mem_filter.1 hx).2
      have hy' := (List.mem_filter.1 hy).2
      simp only [beq_iff_eq] at hx' hy'
      unfold Edge.lt at hxy ⊢
      simp only [Edge.ren, hx', hy', ne_eq, not_true_eq_false, if_false] at hxy ⊢
      exact hxy
    · rw [List.mem_filter, Auto.trim_mem, List.mem_map]
      simp only [beq_iff_eq]
      constructor
      · rintro ⟨⟨e, he, hf, rfl⟩, hx⟩
        exact ⟨e, List.mem_filter.2 ⟨he, by simpa using atL_inj hf hv hx⟩, rfl⟩
      · rintro ⟨e, he, rfl⟩
        obtain ⟨he, hf⟩ := List.mem_filter.1 he
        simp only [beq_iff_eq] at hf
        exact ⟨⟨e, he, hf ▸ hv, rfl⟩, by simp [Edge.ren, hf]⟩
  unfold outs
  rw [key, List.map_map, List.map_map]
  rfl
theorem Auto.Good.trim_from {a : Auto} (h : a.Good) {s : Int} (hs : s ∈ a.order) : a.trim.from (atL s a.order) = (a.from s).map (atL · a.order) := by
  have hcl : ∀ v, v ∈ a.order → ∀ x ∈ outs a.edges v, x ∈ a.order := fun v hv x hx => by
    obtain ⟨e, he, rfl, rfl⟩ := outs_mem.1 hx
    exact h.order_closed he hv
  have hm := bfs_map (g := (atL · a.order)) (P := fun v => v ∈ a.order) (nx := outs a.edges) (nx' := outs a.trim.edges) (fun x y hx hy e => atL_inj hx hy e) hcl (fun v hv => h.trim_outs hv) a.order.length 0 (o := [s]) (by simpa using hs)
  show bfs (outs a.trim.edges) ((a.order.length : Int)).toNat 0 [atL s a.order] = _
  rw [Int.toNat_natCast]
  refine hm.trans ?_
  congr 1
  refine bfs_more (N := a.order.length) hcl (fun o hd ho => List.Nodup.length_le_of_subset hd ho) _ _ 0 (by omega) ?_ (by simp) (by simpa using hs)
  have := h.from_len h.st
  unfold Auto.order
  omega
theorem Auto.start_mem (a : Auto) : a.start ∈ a.order := by
  obtain ⟨r, hr⟩ := a.order_head
  rw [hr]
  simp
theorem Auto.Good.trim_order {a : Auto} (h : a.Good) : a.trim.order = iota a.order.length := by
  obtain ⟨r, hr⟩ := a.order_head
  have h0 : atL a.start a.order = 0 := by
    rw [hr]
    simp [atL, atFrom]
  have := h.trim_from a.start_mem
  rw [h0] at this
  show a.trim.from 0 = _
  rw [this]
  exact map_atL (a.from_nodup a.start)
theorem Auto.Good.trim_trim {a : Auto} (h : a.Good) : a.trim.trim = a.trim := by
  have ho := h.trim_order
  have hl : (iota a.order.length).length = a.order.length := by simp [iota]
  have hg := h.trim
  have he : a.trim.trim.edges = a.trim.edges := by
    refine pw_uniq Edge.lt_irr Edge.lt_tr hg.trim.asc hg.asc fun x => ?_
    rw [Auto.trim_mem, ho]
    have hr : ∀ e ∈ a.trim.edges, e.ren (iota a.order.length) = e := fun e he => by
      have := fits_iff.1 (hg.fit e he)
      have hs : a.trim.states = (a.order.length : Int) := rfl
      rw [hs] at this
      simp only [Edge.ren, iota_at ⟨this.1, this.2.1⟩, iota_at ⟨this.2.2.1, this.2.2.2.1⟩]
    constructor
    · rintro ⟨e, he, hf, rfl⟩
      rwa [hr e he]
    · intro hx
      have := fits_iff.1 (hg.fit x hx)
      exact ⟨x, hx, iota_mem.2 ⟨this.1, this.2.1⟩, hr x hx⟩
  show (⟨(a.trim.order.length : Int), 0, a.trim.trim.edges⟩ : Auto) = ⟨(a.order.length : Int), 0, a.trim.edges⟩
  rw [he, ho, hl]

-- runs
theorem Auto.Good.trim_next {a : Auto} (h : a.Good) {s : Int} (hs : s ∈ a.order) (d : Bool) (x : Int) : nextE (atL s a.order) d x a.trim.edges = (nextE s d x a.edges).map (atL · a.order) := by
  apply Option.ext
  intro t
  rw [nextE_some h.trim.apt, Auto.trim_mem, Option.map_eq_some_iff]
  constructor
  · rintro ⟨e, he, hf, hr⟩
    obtain ⟨f, d', x', t'⟩ := e
    simp only [Edge.ren, Edge.mk.injEq] at hr
    obtain ⟨h1, rfl, rfl, rfl⟩ := hr
    have := atL_inj hf hs h1
    subst this
    exact ⟨t', (nextE_some h.apt).2 he, rfl⟩
  · rintro ⟨t', hn, rfl⟩
    exact ⟨_, (nextE_some h.apt).1 hn, hs, rfl⟩
/-- Actions performed: the last state, and how many. -/
def runE (es : List Edge) : Int → List (Bool × Int) → Int × Nat
  | s, [] => (s, 0)
  | s, (d, x) :: r => match nextE s d x es with
    | none => (s, 0)
    | some t => ((runE es t r).1, (runE es t r).2 + 1)
theorem Auto.Good.trim_run {a : Auto} (h : a.Good) : ∀ {s : Int} (_ : s ∈ a.order) (l : List (Bool × Int)), runE a.trim.edges (atL s a.order) l = (atL (runE a.edges s l).1 a.order, (runE a.edges s l).2)
  | _, _, [] => rfl
  | s, hs, (d, x) :: r => by
    simp only [runE, h.trim_next hs]
    cases hn : nextE s d x a.edges with
    | none => rfl
    | some t =>
      have ht : t ∈ a.order := h.order_closed (e := ⟨s, d, x, t⟩) ((nextE_some h.apt).1 hn) hs
      simp only [Option.map_some]
      rw [h.trim_run ht r]

-- ends that can be reached
theorem isEnd_iff {s : Int} : ∀ {es : List Edge}, isEnd s es = true ↔ ∀ e ∈ es, e.fr ≠ s
  | [] => by simp [isEnd]
  | e :: r => by
    unfold isEnd
    split
    · rename_i h
      simp [h]
    · rename_i h
      rw [isEnd_iff]
      simp [h]
theorem all_cong {α : Type} {p q : α → Bool} : ∀ {l : List α}, (∀ x ∈ l, p x = q x) → l.all p = l.all q
  | [], _ => rfl
  | x :: l, h => by rw [List.all_cons, List.all_cons, h x (by simp), all_cong fun y hy => h y (by simp [hy])]
theorem any_cong {α : Type} {p q : α → Bool} : ∀ {l : List α}, (∀ x ∈ l, p x = q x) → l.any p = l.any q
  | [], _ => rfl
  | x :: l, h => by rw [List.any_cons, List.any_cons, h x (by simp), any_cong fun y hy => h y (by simp [hy])]
def Auto.proper (a : Auto) : Bool := a.order.all fun v => (a.from v).any fun w => isEnd w a.edges
theorem Auto.Good.trim_proper {a : Auto} (h : a.Good) : a.trim.proper = a.proper := by
  have hf : ∀ v ∈ a.order, ∀ w ∈ a.from v, w ∈ a.order := fun v hv w hw => (h.from_mem h.st).2 (((h.from_mem h.st).1 hv).trans ((h.from_mem (h.order_in v hv)).1 hw))
  have he : ∀ w ∈ a.order, isEnd (atL w a.order) a.trim.edges = isEnd w a.edges := fun w hw => by
    rw [Bool.eq_iff_iff, isEnd_iff, isEnd_iff]
    constructor
    · intro hn e he hx
      exact hn _ (Auto.trim_mem.2 ⟨e, he, hx ▸ hw, rfl⟩) (by simp [Edge.ren, hx])
    · intro hn x hx hr
      obtain ⟨e, he, hf, rfl⟩ := Auto.trim_mem.1 hx
      exact hn e he (atL_inj hf hw hr)
  have hi : a.trim.order = a.order.map (atL · a.order) := h.trim_order.trans (map_atL (a.from_nodup a.start)).symm
  unfold Auto.proper
  rw [hi, List.all_map]
  refine all_cong fun v hv => ?_
  simp only [Function.comp_apply]
  rw [h.trim_from hv, List.any_map]
  refine any_cong fun w hw => ?_
  simp only [Function.comp_apply]
  rw [he w (hf v hv w hw)]

end Go.Pv

/-
  Contracts: numbers of lists of actions.
-/
namespace Go.Pv

end Go.Pv

/-
  The law of the errors of automata.
-/
namespace Go.Pv

end Go.Pv

