/-
  What the functions of the law give.
-/
import Derived.Test.YtnhbggnlnfcpkaaTab
set_option linter.unusedSimpArgs false
set_option linter.unusedVariables false
/-
  Plain laws: ascending lists; breadth-first searches.
-/
namespace Go.Pv

theorem pw_ext {α : Type} {r : α → α → Prop} (irr : ∀ x, ¬ r x x) (tr : ∀ x y z, r x y → r y z → r x z) : ∀ {l m : List α}, l.Pairwise r → m.Pairwise r → (∀ x, x ∈ l ↔ x ∈ m) → l = m
  | [], [], _, _, _ => rfl
  | [], y :: m, _, _, h => absurd ((h y).2 (by simp)) (by simp)
  | x :: l, [], _, _, h => absurd ((h x).1 (by simp)) (by simp)
  | x :: l, y :: m, hl, hm, h => by
    rw [List.pairwise_cons] at hl hm
    have e : x = y := by
      rcases List.mem_cons.1 ((h x).1 (by simp)) with e | hx
      · exact e
      · rcases List.mem_cons.1 ((h y).2 (by simp)) with e | hy
        · exact e.symm
        · exact (irr x (tr x y x (hl.1 y hy) (hm.1 x hx))).elim
    subst e
    congr 1
    refine pw_ext irr tr hl.2 hm.2 fun z => ⟨fun hz => ?_, fun hz => ?_⟩
    · rcases List.mem_cons.1 ((h z).1 (List.mem_cons_of_mem _ hz)) with rfl | hz'
      · exact (irr z (hl.1 z hz)).elim
      · exact hz'
    · rcases List.mem_cons.1 ((h z).2 (List.mem_cons_of_mem _ hz)) with rfl | hz'
      · exact (irr z (hm.1 z hz)).elim
      · exact hz'

theorem asc_ext {l m : List Int} (hl : l.Pairwise (· < ·)) (hm : m.Pairwise (· < ·)) (h : ∀ x, x ∈ l ↔ x ∈ m) : l = m :=
  pw_ext (r := (· < ·)) (fun x => Int.lt_irrefl x) (fun _ _ _ => Int.lt_trans) hl hm h

theorem nodup_bound {l : List Int} {n : Nat} (hn : l.Nodup) (h : ∀ x ∈ l, 0 ≤ x ∧ x < n) : l.length ≤ n := by
  have := List.Nodup.length_le_of_subset (l₂ := (List.range n).map Int.ofNat) hn (fun x hx => by
    have := h x hx
    rw [List.mem_map]
    exact ⟨x.toNat, List.mem_range.2 (by omega), by simp; omega⟩)
  simpa using this

section
variable {α : Type} [DecidableEq α]

def addN (o : List α) (x : α) : List α := if x ∈ o then o else o ++ [x]
def addL (o : List α) (l : List α) : List α := l.foldl addN o
def bfs (nx : α → List α) : Nat → Nat → List α → List α
  | 0, _, o => o
  | n + 1, i, o => match o[i]? with
    | none => o
    | some v => bfs nx n (i + 1) (addL o (nx v))

inductive Rch (nx : α → List α) (s : α) : α → Prop
  | refl : Rch nx s s
  | step {v x : α} : Rch nx s v → x ∈ nx v → Rch nx s x
omit [DecidableEq α] in
theorem Rch.trans {nx : α → List α} {s v x : α} (h : Rch nx s v) (h2 : Rch nx v x) : Rch nx s x := by
  induction h2 with
  | refl => exact h
  | step _ hx ih => exact .step ih hx
omit [DecidableEq α] in
theorem Rch.head {nx : α → List α} {s v x : α} (h : v ∈ nx s) (h2 : Rch nx v x) : Rch nx s x := Rch.trans (.step .refl h) h2

section
variable {β : Type} [DecidableEq β]
end
end

end Go.Pv

/-
  Plain laws: sorts, insertion from the end.
-/
namespace Go.Pv

section
variable {α : Type} [Inhabited α]

def apt (lt : α → α → Bool) (x y : α) : Prop := lt x y = true ∨ lt y x = true
omit [Inhabited α] in
theorem apt.symm {lt : α → α → Bool} {x y : α} (h : apt lt x y) : apt lt y x := h.elim .inr .inl

def bub (lt : α → α → Bool) (x : α) (l : List α) : Nat → Nat
  | 0 => 0
  | p + 1 => if lt x (l.getD p default) = true then bub lt x l p else p + 1
def putA (x : α) (l : List α) (p : Nat) : List α := l.take p ++ x :: l.drop p
def insB (lt : α → α → Bool) (x : α) (l : List α) : List α := putA x l (bub lt x l l.length)
theorem bub_le (lt : α → α → Bool) (x : α) (l : List α) : ∀ q, bub lt x l q ≤ q
  | 0 => Nat.le_refl _
  | q + 1 => by
    have := bub_le lt x l q
    unfold bub
    split <;> omega
omit [Inhabited α] in
theorem putA_perm (x : α) (l : List α) (p : Nat) : (putA x l p).Perm (x :: l) := by
  unfold putA
  refine (List.perm_middle).trans ?_
  rw [List.take_append_drop]
theorem insB_perm (lt : α → α → Bool) (x : α) (l : List α) : (insB lt x l).Perm (x :: l) := putA_perm x l _

theorem bub_above (lt : α → α → Bool) (x : α) (l : List α) : ∀ q j, bub lt x l q ≤ j → j < q → lt x (l.getD j default) = true
  | 0, j, _, h => absurd h (Nat.not_lt_zero _)
  | q + 1, j, h1, h2 => by
    unfold bub at h1
    split at h1
    · rename_i h
      rcases Nat.lt_or_ge j q with h3 | h3
      · exact bub_above lt x l q j h1 h3
      · obtain rfl : j = q := by omega
        exact h
    · omega
theorem bub_stop (lt : α → α → Bool) (x : α) (l : List α) : ∀ q p, bub lt x l q = p + 1 → lt x (l.getD p default) = false
  | 0, p, h => by simp [bub] at h
  | q + 1, p, h => by
    unfold bub at h
    split at h
    · exact bub_stop lt x l q p h
    · rename_i hn
      obtain rfl : p = q := by omega
      simpa using hn

theorem insB_sorted {lt : α → α → Bool} (tr : ∀ x y z, lt x y = true → lt y z = true → lt x z = true) {x : α} {l : List α} (hl : l.Pairwise (fun a b => lt a b = true)) (hx : ∀ y ∈ l, apt lt x y) : (insB lt x l).Pairwise (fun a b => lt a b = true) := by
  have hle := bub_le lt x l l.length
  have hup : ∀ y ∈ l.drop (bub lt x l l.length), lt x y = true := fun y hy => by
    obtain ⟨j, hj, rfl⟩ := List.getElem_of_mem hy
    rw [List.length_drop] at hj
    have := bub_above lt x l l.length (bub lt x l l.length + j) (by omega) (by omega)
    rw [List.getElem_drop]
    simpa [show bub lt x l l.length + j < l.length by omega] using this
  have hlo : ∀ y ∈ l.take (bub lt x l l.length), lt y x = true := fun y hy => by
    obtain ⟨j, hj, rfl⟩ := List.getElem_of_mem hy
    rw [List.length_take] at hj
    obtain ⟨p, hp⟩ : ∃ p, bub lt x l l.length = p + 1 := ⟨bub lt x l l.length - 1, by omega⟩
    have hst := bub_stop lt x l _ _ hp
    have hpl : p < l.length := by omega
    have e1 : l.getD p default = l[p] := by simp [hpl]
    rw [e1] at hst
    have h1 : lt l[p] x = true := (hx l[p] (List.getElem_mem _)).resolve_left (by simp [hst])
    rw [List.getElem_take]
    rcases Nat.lt_or_ge j p with h | h
    · exact tr _ _ _ (List.pairwise_iff_getElem.1 hl j p (by omega) hpl h) h1
    · obtain rfl : j = p := by omega
      exact h1
  unfold insB putA
  rw [List.pairwise_append, List.pairwise_cons]
  refine ⟨hl.sublist (List.take_sublist _ _), ⟨hup, hl.sublist (List.drop_sublist _ _)⟩, fun a ha b hb => ?_⟩
  rcases List.mem_cons.1 hb with rfl | hb
  · exact hlo a ha
  · exact tr _ _ _ (hlo a ha) (hup b hb)

def sortB (lt : α → α → Bool) (l : List α) : List α := l.foldl (fun o x => insB lt x o) []
theorem foldB_perm (lt : α → α → Bool) : ∀ (l o : List α), (l.foldl (fun o x => insB lt x o) o).Perm (o ++ l)
  | [], o => by simp
  | x :: l, o => by
    rw [List.foldl_cons]
    refine (foldB_perm lt l _).trans ?_
    refine ((insB_perm lt x o).append_right l).trans ?_
    exact (List.perm_middle (a := x) (l₁ := o) (l₂ := l)).symm
theorem sortB_perm (lt : α → α → Bool) (l : List α) : (sortB lt l).Perm l := foldB_perm lt l []
theorem foldB_sorted {lt : α → α → Bool} (tr : ∀ x y z, lt x y = true → lt y z = true → lt x z = true) : ∀ {l o : List α}, o.Pairwise (fun a b => lt a b = true) → l.Pairwise (apt lt) → (∀ x ∈ l, ∀ y ∈ o, apt lt x y) → (l.foldl (fun o x => insB lt x o) o).Pairwise (fun a b => lt a b = true)
  | [], _, h, _, _ => h
  | x :: l, o, h, hl, hx => by
    rw [List.pairwise_cons] at hl
    rw [List.foldl_cons]
    refine foldB_sorted tr (insB_sorted tr h (hx x (by simp))) hl.2 fun z hz y hy => ?_
    rcases List.mem_cons.1 ((insB_perm lt x o).subset hy) with rfl | hy
    · exact (hl.1 z hz).symm
    · exact hx z (by simp [hz]) y hy
theorem sortB_sorted {lt : α → α → Bool} (tr : ∀ x y z, lt x y = true → lt y z = true → lt x z = true) {l : List α} (hl : l.Pairwise (apt lt)) : (sortB lt l).Pairwise (fun a b => lt a b = true) := foldB_sorted tr List.Pairwise.nil hl (fun _ _ _ h => absurd h (by simp))

omit [Inhabited α] in
theorem ins_pw {lt : α → α → Bool} (tr : ∀ x y z, lt x y = true → lt y z = true → lt x z = true) {x : α} : ∀ {l : List α}, l.Pairwise (fun a b => lt a b = true) → (∀ y ∈ l, apt lt x y) → (ins lt x l).Pairwise (fun a b => lt a b = true)
  | [], _, _ => List.pairwise_singleton _ _
  | y :: r, h, hx => by
    obtain ⟨h1, h2⟩ := List.pairwise_cons.1 h
    unfold ins
    split
    · rename_i hc
      refine List.pairwise_cons.2 ⟨fun z hz => ?_, ins_pw tr h2 (fun z hz => hx z (by simp [hz]))⟩
      rcases List.mem_cons.1 ((ins_perm lt x r).subset hz) with rfl | hz
      · exact hc
      · exact h1 z hz
    · rename_i hc
      have hxy : lt x y = true := (hx y (by simp)).resolve_right (by simpa using hc)
      refine List.pairwise_cons.2 ⟨fun z hz => ?_, h⟩
      rcases List.mem_cons.1 hz with rfl | hz
      · exact hxy
      · exact tr _ _ _ hxy (h1 z hz)
omit [Inhabited α] in
theorem isort_pw {lt : α → α → Bool} (tr : ∀ x y z, lt x y = true → lt y z = true → lt x z = true) : ∀ {l : List α}, l.Pairwise (apt lt) → (isort lt l).Pairwise (fun a b => lt a b = true)
  | [], _ => List.Pairwise.nil
  | x :: l, h => by
    obtain ⟨h1, h2⟩ := List.pairwise_cons.1 h
    exact ins_pw tr (isort_pw tr h2) fun y hy => h1 y ((isort_perm lt l).subset hy)
omit [Inhabited α] in
theorem pw_uniq {lt : α → α → Bool} (irr : ∀ x, lt x x = false) (tr : ∀ x y z, lt x y = true → lt y z = true → lt x z = true) {l m : List α} (hl : l.Pairwise (fun a b => lt a b = true)) (hm : m.Pairwise (fun a b => lt a b = true)) (h : ∀ x, x ∈ l ↔ x ∈ m) : l = m :=
  pw_ext (r := fun a b => lt a b = true) (fun x => by simp [irr x]) tr hl hm h
end

end Go.Pv

/-
  Contracts: comparisons of the library, the order of edges.
-/
namespace Go.Pv

theorem r66 {Pr : Prims} (x : Int) : res A Pr 66 [.int .i64 x] = some [.bool false] := by
  refine res_of a66 rfl rfl ?_
  simp only [F66]
  simp (disch := omega) only [go_sem]

theorem r60 {Pr : Prims} (hp : Pr 66 = none) (x y : Int) : res A Pr 60 [.int .i64 x, .int .i64 y] = some [.int .i64 (cmpI x y)] := by
  refine res_of a60 rfl rfl ?_
  simp only [F60]
  simp (disch := omega) only [go_sem, CW_CN (by kernel_rfl) hp tk66, r66]
  unfold cmpI
  refine Br.ofP (fun h => ?_) (fun h => ?_) <;> simp (disch := omega) only [go_sem, h]
  refine Br.ofP (fun h2 => ?_) (fun h2 => ?_) <;> simp (disch := omega) only [go_sem, h, h2]

theorem drop_at {α : Type} {l : List α} {k : Nat} {x : α} (h : l[k]? = some x) : l.drop k = x :: l.drop (k + 1) := by
  obtain ⟨h1, h2⟩ := List.getElem?_eq_some_iff.1 h
  rw [List.drop_eq_getElem_cons h1, h2]
theorem get_at {α : Type} {l : List α} {k : Nat} (h : k < l.length) : ∃ x, l[k]? = some x := ⟨_, List.getElem?_eq_getElem h⟩
theorem drop_end {α : Type} {l : List α} {k : Nat} (h : ¬ (k : Int) < l.length) : l.drop k = [] := List.drop_eq_nil_of_le (by omega)

end Go.Pv

/-
  Contracts: errors of automata.
-/
namespace Go.Pv

end Go.Pv

/-
  Next states.
-/
namespace Go.Pv

def nextE (s : Int) (d : Bool) (x : Int) : List Edge → Option Int
  | [] => none
  | e :: r => if e.fr = s ∧ e.send = d ∧ e.label = x then some e.to else nextE s d x r

end Go.Pv

/-
  Lists that grow by appending.
-/
namespace Go.Pv
variable {A : Nat → Option AFunc} {Pr : Prims}

def grV (n : Nat) : List (List PV) → V
  | [] => .tl []
  | _ :: r => .own n r.length 0 (r.length + 1)
def grA (k : Nat) : List (List PV) → List Arr
  | [] => []
  | x :: r => [⟨r.length, k, .inl (x :: r)⟩]
def grT (n k : Nat) (rows : List (List PV)) (r : List PV) : Tn :=
  match rows with
  | [] => { push := [⟨0, k, .inl [r]⟩], base := n }
  | x :: q => { ar := some (n, ⟨q.length + 1, k, .inl (x :: q ++ [r])⟩) }

theorem grow (bx : List (Nat × List V)) (mp : List (List (PV × PV))) (pre : List Arr) (k : Nat) (rows : List (List PV)) (r : List PV) (hr : r.length = k) (hm : rows.length + 1 ≤ 2147483648) :
    appendV ⟨bx, pre ++ grA k rows, mp⟩ k (grV pre.length rows) (.tl [r]) = some (grV pre.length (rows ++ [r]), grT pre.length k rows r) := by
  cases rows with
  | nil => simp [appendV, grV, grA, grT, srcRows, rowsFit, rowsLen, hr, catRows, mostRows]
  | cons x q =>
    have h1 : ownArr ⟨bx, pre ++ grA k (x :: q), mp⟩ pre.length q.length = some ⟨q.length, k, .inl (x :: q)⟩ := by simp [ownArr, grA]
    have h2 : (⟨q.length, k, .inl (x :: q)⟩ : Arr).size = q.length + 1 := rfl
    have h3 : ((x :: q).drop 0).take (q.length + 1) = x :: q := by simp
    simp only [List.length_cons] at hm
    simp [appendV, grV, grT, srcRows, rowsFit, rowsLen, hr, h1, h2, catRows, cutRows, mostRows]
    omega

theorem grT_apply (bx : List (Nat × List V)) (mp : List (List (PV × PV))) (pre : List Arr) (k : Nat) (rows : List (List PV)) (r : List PV) :
    (grT pre.length k rows r).apply ⟨bx, pre ++ grA k rows, mp⟩ = ⟨bx, pre ++ grA k (rows ++ [r]), mp⟩ := by
  cases rows with
  | nil => simp [grT, Tn.apply, grA]
  | cons x q => simp [grT, Tn.apply, grA]

@[go_sem] theorem grow0 (bx : List (Nat × List V)) (mp : List (List (PV × PV))) (k : Nat) (rows : List (List PV)) (r : List PV) (hr : r.length = k) (hm : rows.length + 1 ≤ 2147483648) :
    appendV ⟨bx, grA k rows, mp⟩ k (grV 0 rows) (.tl [r]) = some (grV 0 (rows ++ [r]), grT 0 k rows r) := grow bx mp [] k rows r hr hm
@[go_sem] theorem grow1 (bx : List (Nat × List V)) (mp : List (List (PV × PV))) (a : Arr) (k : Nat) (rows : List (List PV)) (r : List PV) (hr : r.length = k) (hm : rows.length + 1 ≤ 2147483648) :
    appendV ⟨bx, a :: grA k rows, mp⟩ k (grV 1 rows) (.tl [r]) = some (grV 1 (rows ++ [r]), grT 1 k rows r) := grow bx mp [a] k rows r hr hm
@[go_sem] theorem grow2 (bx : List (Nat × List V)) (mp : List (List (PV × PV))) (a b : Arr) (k : Nat) (rows : List (List PV)) (r : List PV) (hr : r.length = k) (hm : rows.length + 1 ≤ 2147483648) :
    appendV ⟨bx, a :: b :: grA k rows, mp⟩ k (grV 2 rows) (.tl [r]) = some (grV 2 (rows ++ [r]), grT 2 k rows r) := grow bx mp [a, b] k rows r hr hm
@[go_sem] theorem grT_apply0 (bx : List (Nat × List V)) (mp : List (List (PV × PV))) (k : Nat) (rows : List (List PV)) (r : List PV) :
    (grT 0 k rows r).apply ⟨bx, grA k rows, mp⟩ = ⟨bx, grA k (rows ++ [r]), mp⟩ := grT_apply bx mp [] k rows r
@[go_sem] theorem grT_apply1 (bx : List (Nat × List V)) (mp : List (List (PV × PV))) (a : Arr) (k : Nat) (rows : List (List PV)) (r : List PV) :
    (grT 1 k rows r).apply ⟨bx, a :: grA k rows, mp⟩ = ⟨bx, a :: grA k (rows ++ [r]), mp⟩ := grT_apply bx mp [a] k rows r
@[go_sem] theorem grT_apply2 (bx : List (Nat × List V)) (mp : List (List (PV × PV))) (a b : Arr) (k : Nat) (rows : List (List PV)) (r : List PV) :
    (grT 2 k rows r).apply ⟨bx, a :: b :: grA k rows, mp⟩ = ⟨bx, a :: b :: grA k (rows ++ [r]), mp⟩ := grT_apply bx mp [a, b] k rows r

@[go_sem] theorem lenV_gr (h : Heap) (n : Nat) (rows : List (List PV)) : lenV h 0 (grV n rows) = some (rows.length, {}) := by cases rows <;> rfl
@[go_sem] theorem cells_gr (n : Nat) (rows : List (List PV)) : V.cells (grV n rows) = [grV n rows] := by cases rows <;> rfl
@[go_sem] theorem calm_gr (n : Nat) (rows : List (List PV)) : V.calm (grV n rows) = true := by cases rows <;> rfl
@[go_sem] theorem sized_gr (n : Nat) (rows : List (List PV)) : V.sized (grV n rows) = true := by cases rows <;> rfl
@[go_sem] theorem scrub_gr (kb : List Nat) (n : Nat) (rows : List (List PV)) : scrub kb (grV n rows) = grV n rows := by cases rows <;> rfl
@[go_sem] theorem okc_gr (kb : List Nat) (n : Nat) (rows : List (List PV)) : okc kb (grV n rows) = true := by cases rows <;> rfl
@[go_sem] theorem purec_gr (n : Nat) (rows : List (List PV)) : V.purec (grV n rows) = none := by cases rows <;> rfl

theorem own_gr (bx : List (Nat × List V)) (mp : List (List (PV × PV))) (pre post : List Arr) (k : Nat) (x : List PV) (q : List (List PV)) : ownArr ⟨bx, pre ++ (grA k (x :: q) ++ post), mp⟩ pre.length q.length = some ⟨q.length, k, .inl (x :: q)⟩ := by simp [ownArr, grA]
theorem keepc_gr (bx : List (Nat × List V)) (mp : List (List (PV × PV))) (pre : List Arr) (k d : Nat) (rows : List (List PV)) : keepc ⟨bx, pre ++ grA k rows, mp⟩ (d + 1) (grV pre.length rows) = some (.lst 0 rows) := by
  cases rows with
  | nil => rfl
  | cons x q =>
    have := own_gr bx mp pre [] k x q
    rw [List.append_nil] at this
    simp [grV, keepc_own, this, keepRows, cutRows]
@[go_sem] theorem keepc_gr0 (bx : List (Nat × List V)) (mp : List (List (PV × PV))) (k : Nat) (rows : List (List PV)) : keepc ⟨bx, grA k rows, mp⟩ 4 (grV 0 rows) = some (.lst 0 rows) := keepc_gr bx mp [] k 3 rows
@[go_sem] theorem keepc_gr1 (bx : List (Nat × List V)) (mp : List (List (PV × PV))) (a : Arr) (k : Nat) (rows : List (List PV)) : keepc ⟨bx, a :: grA k rows, mp⟩ 4 (grV 1 rows) = some (.lst 0 rows) := keepc_gr bx mp [a] k 3 rows
@[go_sem] theorem keepc_gr2 (bx : List (Nat × List V)) (mp : List (List (PV × PV))) (a b : Arr) (k : Nat) (rows : List (List PV)) : keepc ⟨bx, a :: b :: grA k rows, mp⟩ 4 (grV 2 rows) = some (.lst 0 rows) := keepc_gr bx mp [a, b] k 3 rows
@[go_sem] theorem keep_gr (h : Heap) (n : Nat) (rows : List (List PV)) : keep h false (grV n rows) = keepc h 4 (grV n rows) := by cases rows <;> rfl

def grG : List (List PV) → Nat
  | [] => 0
  | _ => 1
theorem lendc_gr (bx : List (Nat × List V)) (mp : List (List (PV × PV))) (pre : List Arr) (k d : Nat) (rows : List (List PV)) : lendc ⟨bx, pre ++ grA k rows, mp⟩ (d + 1) (grV pre.length rows) = some (.lst (grG rows) rows) := by
  cases rows with
  | nil => rfl
  | cons x q =>
    have := own_gr bx mp pre [] k x q
    rw [List.append_nil] at this
    simp [grV, lendc, this, cutRows, grG]
@[go_sem] theorem lendc_gr0 (bx : List (Nat × List V)) (mp : List (List (PV × PV))) (k : Nat) (rows : List (List PV)) : lendc ⟨bx, grA k rows, mp⟩ 4 (grV 0 rows) = some (.lst (grG rows) rows) := lendc_gr bx mp [] k 3 rows
@[go_sem] theorem lendc_gr1 (bx : List (Nat × List V)) (mp : List (List (PV × PV))) (a : Arr) (k : Nat) (rows : List (List PV)) : lendc ⟨bx, a :: grA k rows, mp⟩ 4 (grV 1 rows) = some (.lst (grG rows) rows) := lendc_gr bx mp [a] k 3 rows
@[go_sem] theorem lendc_gr2 (bx : List (Nat × List V)) (mp : List (List (PV × PV))) (a b : Arr) (k : Nat) (rows : List (List PV)) : lendc ⟨bx, a :: b :: grA k rows, mp⟩ 4 (grV 2 rows) = some (.lst (grG rows) rows) := lendc_gr bx mp [a, b] k 3 rows
@[go_sem] theorem lend_gr (h : Heap) (n : Nat) (rows : List (List PV)) : lend h (grV n rows) = lendc h 4 (grV n rows) := by cases rows <;> rfl
theorem grV_own {i n : Nat} {rows : List (List PV)} (h : rows.length = n + 1) : grV i rows = .own i n 0 (n + 1) := by
  match rows, h with
  | x :: q, h =>
    simp at h
    simp [grV, h]
theorem grA_own {k n : Nat} {rows : List (List PV)} (h : rows.length = n + 1) : grA k rows = [⟨n, k, .inl rows⟩] := by
  match rows, h with
  | x :: q, h =>
    simp at h
    simp [grA, h]

def chkR {α : Type} (i : Int) (len : Nat) (v : α) : Option α := if 0 ≤ i ∧ i ≤ len then some v else none
@[go_sem] theorem chkR_ok {α : Type} {i : Int} {len : Nat} {v : α} (h0 : 0 ≤ i) (h1 : i ≤ (len : Int)) : chkR i len v = some v := if_pos ⟨h0, h1⟩
@[go_sem] theorem sl_from (g : Opd → V) (h : Heap) (k id ver off len : Nat) (lo : Opd) :
    sliceV g h k (.own id ver off len) (some lo) none none = (ownArr h id ver).bind fun a => (intOf (g lo)).bind fun i => if a.k = k then chkR i len (.own id ver (off + i.toNat) (len - i.toNat), { ra := some id }) else none := by
  cases ho : ownArr h id ver with
  | none => simp [sliceV, ho]
  | some a =>
    cases hi : intOf (g lo) with
    | none => simp [sliceV, ho, bounds, bound, hi]
    | some i => by_cases hk : a.k = k <;> by_cases h0 : 0 ≤ i ∧ i ≤ len <;> simp [sliceV, ho, bounds, bound, hi, hk, h0, chkR]
@[go_sem] theorem sl_to (g : Opd → V) (h : Heap) (k id ver off len : Nat) (hi : Opd) :
    sliceV g h k (.own id ver off len) none (some hi) none = (ownArr h id ver).bind fun a => (intOf (g hi)).bind fun i => if a.k = k then chkR i len (.own id ver off i.toNat, { ra := some id }) else none := by
  cases ho : ownArr h id ver with
  | none => simp [sliceV, ho]
  | some a =>
    cases hj : intOf (g hi) with
    | none => simp [sliceV, ho, bounds, bound, hj]
    | some i => by_cases hk : a.k = k <;> by_cases h0 : 0 ≤ i ∧ i ≤ len <;> simp [sliceV, ho, bounds, bound, hj, hk, h0, chkR]

end Go.Pv

/-
  Lists of numbers and of edges that grow by appending.
-/
namespace Go.Pv

@[go_sem] theorem ints_nil : ints [] = [] := rfl
@[go_sem] theorem ints_snoc (l : List Int) (x : Int) : ints l ++ [[.int .i64 x]] = ints (l ++ [x]) := by simp [ints]
def edgs (l : List Edge) : List (List PV) := l.map Edge.c
@[go_sem] theorem edgs_length (l : List Edge) : (edgs l).length = l.length := by simp [edgs]
@[go_sem] theorem edgs_nil : edgs [] = [] := rfl
@[go_sem] theorem edgs_get (l : List Edge) (i : Nat) : (edgs l)[i]? = l[i]?.map Edge.c := by simp [edgs]
theorem edgs_snoc (l : List Edge) (e : Edge) : edgs l ++ [e.c] = edgs (l ++ [e]) := by simp [edgs]
@[go_sem] theorem grow0i (bx : List (Nat × List V)) (mp : List (List (PV × PV))) (l : List Int) (x : Int) (hm : l.length + 1 ≤ 2147483648) :
    appendV ⟨bx, grA 1 (ints l), mp⟩ 1 (grV 0 (ints l)) (.tl [[.int .i64 x]]) = some (grV 0 (ints (l ++ [x])), grT 0 1 (ints l) [.int .i64 x]) := by
  rw [grow0 bx mp  1 (ints l) [.int .i64 x] rfl (by rw [ints_length]; exact hm), ints_snoc]
@[go_sem] theorem grow0e (bx : List (Nat × List V)) (mp : List (List (PV × PV))) (l : List Edge) (f : Int) (s : Bool) (x t : Int) (hm : l.length + 1 ≤ 2147483648) :
    appendV ⟨bx, grA 4 (edgs l), mp⟩ 4 (grV 0 (edgs l)) (.tl [[.int .i64 f, .bool s, .int .i64 x, .int .i64 t]]) = some (grV 0 (edgs (l ++ [⟨f, s, x, t⟩])), grT 0 4 (edgs l) (Edge.c ⟨f, s, x, t⟩)) := by
  rw [← edgs_snoc]
  exact grow0 bx mp  4 (edgs l) (Edge.c ⟨f, s, x, t⟩) rfl (by rw [edgs_length]; exact hm)
@[go_sem] theorem grow1i (bx : List (Nat × List V)) (mp : List (List (PV × PV))) (a : Arr) (l : List Int) (x : Int) (hm : l.length + 1 ≤ 2147483648) :
    appendV ⟨bx, a :: grA 1 (ints l), mp⟩ 1 (grV 1 (ints l)) (.tl [[.int .i64 x]]) = some (grV 1 (ints (l ++ [x])), grT 1 1 (ints l) [.int .i64 x]) := by
  rw [grow1 bx mp a 1 (ints l) [.int .i64 x] rfl (by rw [ints_length]; exact hm), ints_snoc]
@[go_sem] theorem grow1e (bx : List (Nat × List V)) (mp : List (List (PV × PV))) (a : Arr) (l : List Edge) (f : Int) (s : Bool) (x t : Int) (hm : l.length + 1 ≤ 2147483648) :
    appendV ⟨bx, a :: grA 4 (edgs l), mp⟩ 4 (grV 1 (edgs l)) (.tl [[.int .i64 f, .bool s, .int .i64 x, .int .i64 t]]) = some (grV 1 (edgs (l ++ [⟨f, s, x, t⟩])), grT 1 4 (edgs l) (Edge.c ⟨f, s, x, t⟩)) := by
  rw [← edgs_snoc]
  exact grow1 bx mp a 4 (edgs l) (Edge.c ⟨f, s, x, t⟩) rfl (by rw [edgs_length]; exact hm)
@[go_sem] theorem grow2i (bx : List (Nat × List V)) (mp : List (List (PV × PV))) (a b : Arr) (l : List Int) (x : Int) (hm : l.length + 1 ≤ 2147483648) :
    appendV ⟨bx, a :: b :: grA 1 (ints l), mp⟩ 1 (grV 2 (ints l)) (.tl [[.int .i64 x]]) = some (grV 2 (ints (l ++ [x])), grT 2 1 (ints l) [.int .i64 x]) := by
  rw [grow2 bx mp a b 1 (ints l) [.int .i64 x] rfl (by rw [ints_length]; exact hm), ints_snoc]
@[go_sem] theorem grow2e (bx : List (Nat × List V)) (mp : List (List (PV × PV))) (a b : Arr) (l : List Edge) (f : Int) (s : Bool) (x t : Int) (hm : l.length + 1 ≤ 2147483648) :
    appendV ⟨bx, a :: b :: grA 4 (edgs l), mp⟩ 4 (grV 2 (edgs l)) (.tl [[.int .i64 f, .bool s, .int .i64 x, .int .i64 t]]) = some (grV 2 (edgs (l ++ [⟨f, s, x, t⟩])), grT 2 4 (edgs l) (Edge.c ⟨f, s, x, t⟩)) := by
  rw [← edgs_snoc]
  exact grow2 bx mp a b 4 (edgs l) (Edge.c ⟨f, s, x, t⟩) rfl (by rw [edgs_length]; exact hm)

def bools (l : List Bool) : List (List PV) := l.map fun b => [.bool b]
@[go_sem] theorem bools_length (l : List Bool) : (bools l).length = l.length := by simp [bools]
@[go_sem] theorem bools_get (l : List Bool) (i : Nat) : (bools l)[i]? = l[i]?.map fun b => [.bool b] := by simp [bools]
theorem bools_set (l : List Bool) (i : Nat) (b : Bool) : (bools l).set i [.bool b] = bools (l.set i b) := by simp [bools, List.map_set]
@[go_sem] theorem bools_store {id row ver : Nat} {b : Bool} {l : List Bool} (h1 : row < l.length) : storeRow id row 0 [.pv (.bool b)] ⟨ver, 1, .inl (bools l)⟩ = some { ar := some (id, ⟨ver, 1, .inl (bools (l.set row b))⟩) } := by
  rw [storeRow_one (by rw [bools_length]; exact h1) rfl (.inr ⟨.bool l[row], by simp [bools, h1]⟩) rfl, bools_set]
@[go_sem] theorem bools_made (n : Nat) (b : Bool) : sameRows n [.pv (.bool b)] = .inl (bools (List.replicate n b)) := by
  simp [sameRows, mapO, V.purec, PV.perm, bools]

end Go.Pv

/-
  Ends.
-/
namespace Go.Pv


def isEnd (s : Int) : List Edge → Bool
  | [] => true
  | e :: r => if e.fr = s then false else isEnd s r

def endsTo (es : List Edge) : Nat → List Int
  | 0 => []
  | k + 1 => if isEnd k es then endsTo es k ++ [(k : Int)] else endsTo es k
def Auto.ends (a : Auto) : List Int := if a.states ≤ 12 then endsTo a.edges a.states.toNat else []

end Go.Pv

/-
  Places of numbers in lists; labels.
-/
namespace Go.Pv

def atFrom (x : Int) : Nat → List Int → Int
  | _, [] => -1
  | k, y :: r => if y = x then k else atFrom x (k + 1) r
def atL (x : Int) (l : List Int) : Int := atFrom x 0 l

end Go.Pv

/-
  Labels.
-/
namespace Go.Pv

end Go.Pv

/-
  slices.Compact of numbers that the caller gives away.
-/
namespace Go.Pv

def cmpct : List Int → List Int
  | [] => []
  | [x] => [x]
  | x :: y :: r => if x = y then cmpct (y :: r) else x :: cmpct (y :: r)

@[go_sem] theorem ownIds_one (a b c d : Nat) : distinct (ownIds [.own a b c d]) = true := rfl
@[go_sem] theorem fresh_ints (bx : List (Nat × List V)) (mp : List (List (PV × PV))) (ar : List Arr) (v n : Nat) (l : List Int) : keep ⟨bx, ⟨v, 1, .inl (ints l)⟩ :: ar, mp⟩ true (.own 0 v 0 n) = some (.fr 1 (ints (l.take n))) := by
  simp [keep, freshc, ownArr, ints]

@[go_sem] theorem clr_ints (bx : List (Nat × List V)) (mp : List (List (PV × PV))) (ar : List Arr) (v off len : Nat) (l : List Int) (h : off + len ≤ l.length) : clrV ⟨bx, ⟨v, 1, .inl (ints l)⟩ :: ar, mp⟩ 1 [.pv (.int .i64 0)] (.own 0 v off len) =
    some (.tup [], { ar := some (0, ⟨v, 1, .inl (ints (l.take off ++ List.replicate len 0 ++ l.drop (off + len)))⟩) }) := by
  simp [clrV, ownArr, mapO, V.purec, PV.perm, ints, h]

theorem r104_small (l : List Int) (h1 : l.length < 2) : res A PrA 104 [.fr 1 (ints l)] = some [.fr 1 (ints l)] := by
  refine res_of a104 rfl rfl ?_
  simp only [F104]
  have h2 : ((l.length : Nat) : Int) < 2 := by omega
  simp (disch := omega) only [go_sem, h2, List.take_length]

theorem cmpct_step (l : List Int) (x y : Int) (k : Nat) (hx : l[k]? = some x) (hy : l[k + 1]? = some y) : cmpct (l.take (k + 2)) = if x = y then cmpct (l.take (k + 1)) else cmpct (l.take (k + 1)) ++ [y] := by
  induction l generalizing k with
  | nil => simp at hx
  | cons z l ih =>
    cases k with
    | zero =>
      simp at hx hy
      subst hx
      match l, hy with
      | w :: r, hy =>
        simp at hy
        subst hy
        simp only [Nat.zero_add, List.take_succ_cons, List.take_zero, cmpct]
        split
        · rename_i hzw
          rw [hzw]
        · rfl
    | succ k =>
      simp at hx hy
      have := ih k hx hy
      match l, hx with
      | w :: r, hx =>
        simp only [List.take_succ_cons, cmpct] at this ⊢
        split
        · exact this
        · rw [this]
          split <;> simp

theorem set_put (c l : List Int) (v : Int) (h : c.length < l.length) : (c ++ l.drop c.length).set c.length v = (c ++ [v]) ++ l.drop (c ++ [v]).length := by
  rw [List.set_append_right _ _ (Nat.le_refl _), Nat.sub_self, List.append_assoc]
  have : (c ++ [v]).length = c.length + 1 := by simp
  rw [this, List.drop_eq_getElem_cons h]
  rfl

theorem r104_big (l : List Int) (h1 : 2 ≤ l.length) (h0 : l.length ≤ 2000000000) : res A PrA 104 [.fr 1 (ints l)] = some [.fr 1 (ints (cmpct l))] := by
  refine res_of a104 rfl rfl ?_
  simp only [F104]
  have h2 : ¬ ((l.length : Nat) : Int) < 2 := by omega
  simp (disch := omega) only [go_sem, h2]
  refine W.upto (l.length - 1) (fun j => ⟨[(0, .own 0 0 0 l.length), (3, .pv (.int .i64 (j + 1 : Nat)))], ⟨[], [⟨0, 1, .inl (ints l)⟩], []⟩⟩) (fun j => cmpct (l.take (j + 1)) = l.take (j + 1)) rfl ?_ fun j hj hi => ?_
  · match l, h1 with
    | x :: r, _ => rfl
  have e1 : ((j + 1 : Nat) : Int) - 1 = (j : Int) := by omega
  simp (disch := omega) only [go_sem]
  refine Br.ofP (fun h => ?_) (fun h => ?_)
  · obtain ⟨x, hx⟩ := get_at (l := l) (k := j) (by omega)
    obtain ⟨y, hy⟩ := get_at (l := l) (k := j + 1) (by omega)
    have hs := cmpct_step l x y j hx hy
    simp (disch := omega) only [go_sem, e1, hx, hy]
    refine Br.ofP (fun g => ?_) (fun g => ?_)
    case refine_2 =>
      simp (disch := omega) only [go_sem, g]
      refine .of (by omega) rfl ?_
      rw [hs, if_neg (fun hc => g hc.symm), hi, List.take_add_one (i := j + 1), hy]
      rfl
    simp (disch := omega) only [go_sem, g]
    have hc0 : cmpct (l.take (j + 2)) = l.take (j + 1) := by rw [hs, if_pos g.symm, hi]
    refine W.upto (l.length - (j + 2)) (fun i => ⟨[(0, .own 0 0 0 l.length), (3, .pv (.int .i64 (cmpct (l.take (j + 2 + i))).length)), (4, .own 0 0 (j + 1) (l.length - (j + 1))), (5, .pv (.int .i64 (i + 1 : Nat)))], ⟨[], [⟨0, 1, .inl (ints (cmpct (l.take (j + 2 + i)) ++ l.drop (cmpct (l.take (j + 2 + i))).length))⟩], []⟩⟩)
      (fun i => (cmpct (l.take (j + 2 + i))).length ≤ j + 1 + i) ?_ ?_ fun i hj2 hw => ?_
    · simp only [Nat.add_zero, hc0, List.length_take]
      rw [Nat.min_eq_left (by omega), List.take_append_drop]
      rfl
    · simp only [Nat.add_zero, hc0, List.length_take]
      omega
    have hkeep : ∀ q, (cmpct (l.take (j + 2 + i))).length ≤ q → (cmpct (l.take (j + 2 + i)) ++ l.drop (cmpct (l.take (j + 2 + i))).length)[q]? = l[q]? := fun q hq => by
      rw [List.getElem?_append_right hq, List.getElem?_drop]
      congr 1
      omega
    simp (disch := omega) only [go_sem]
    refine Br.ofP (fun f => ?_) (fun f => ?_)
    · obtain ⟨u, hu⟩ := get_at (l := l) (k := j + 1 + i) (by omega)
      obtain ⟨v, hv⟩ := get_at (l := l) (k := j + 1 + i + 1) (by omega)
      have hst := cmpct_step l u v (j + 1 + i) hu hv
      have k1 := (hkeep (j + 1 + i) hw).trans hu
      have k2 := (hkeep (j + 1 + i + 1) (by omega)).trans hv
      have e3 : ((i + 1 : Nat) : Int) - 1 = (i : Int) := by omega
      have e4 : j + 1 + (i + 1) = j + 1 + i + 1 := by omega
      have e5 : j + 1 + i + 2 = j + 2 + (i + 1) := by omega
      have e6 : j + 1 + i + 1 = j + 2 + i := by omega
      rw [e5, e6] at hst
      simp (disch := omega) only [go_sem, e3, e4, k1, k2]
      refine Br.ofP (fun g3 => ?_) (fun g3 => ?_)
      · simp (disch := omega) only [go_sem, g3]
        rw [if_pos g3.symm] at hst
        refine .of (by omega) ?_ ?_
        · show _ = St.mk _ _
          rw [hst]
          rfl
        · show (cmpct _).length ≤ _
          rw [hst]
          omega
      · have hln : (cmpct (l.take (j + 2 + i)) ++ l.drop (cmpct (l.take (j + 2 + i))).length).length = l.length := by simp; omega
        rw [if_neg (fun hc => g3 hc.symm)] at hst
        simp (disch := omega) only [go_sem, g3, e4, k2]
        refine .of (by omega) ?_ ?_
        · show _ = St.mk _ _
          rw [hst, set_put _ _ _ (by omega), List.length_append]
          rfl
        · show (cmpct _).length ≤ _
          rw [hst, List.length_append]
          simp
          omega
    · have hln : (cmpct (l.take (j + 2 + i)) ++ l.drop (cmpct (l.take (j + 2 + i))).length).length = l.length := by simp; omega
      have hall : cmpct (l.take (j + 2 + i)) = cmpct l := by rw [List.take_of_length_le (by omega)]
      rw [hall] at hln hw ⊢
      simp (disch := omega) only [go_sem]
      rw [List.append_assoc, List.take_append_of_le_length (by simp), List.take_take, Nat.min_self, List.take_append_of_le_length (Nat.le_refl _), List.take_length]
  · simp (disch := omega) only [go_sem]
    rw [List.take_of_length_le (by omega)] at hi
    rw [List.take_length, hi]

end Go.Pv

/-
  Appending to arrays that are given in full; two lists of numbers that grow side by side.
-/
namespace Go.Pv

def apI (id ver off len : Nat) (x : Int) (a : Arr) : Option (V × Tn) :=
  if off + len ≤ a.size ∧ a.k = 1 ∧ len + 1 ≤ mostRows then some (.own id (ver + 1) 0 (len + 1), { ar := some (id, ⟨ver + 1, 1, catRows (cutRows off len a.body) (.inl [[.int .i64 x]])⟩) }) else none
@[go_sem] theorem app_own (h : Heap) (id ver off len : Nat) (x : Int) : appendV h 1 (.own id ver off len) (.tl [[.int .i64 x]]) = (ownArr h id ver).bind (apI id ver off len x) := by
  cases ho : ownArr h id ver with
  | none => simp [appendV, srcRows, rowsFit, ho]
  | some a =>
    simp only [appendV, srcRows, rowsFit, ho, rowsLen, apI, List.all_cons, List.all_nil, List.length_cons, List.length_nil, Option.bind_some]
    by_cases h1 : off + len ≤ a.size <;> by_cases h2 : a.k = 1 <;> by_cases h3 : len + 1 ≤ mostRows <;> simp [h1, h2, h3]
@[go_sem] theorem apI_ok {id ver len : Nat} {x : Int} {l : List Int} (h1 : len = l.length) (h2 : l.length + 1 ≤ 2147483648) : apI id ver 0 len x ⟨ver, 1, .inl (ints l)⟩ = some (.own id (ver + 1) 0 (len + 1), { ar := some (id, ⟨ver + 1, 1, .inl (ints (l ++ [x]))⟩) }) := by
  subst h1
  unfold apI
  rw [if_pos ⟨by simp [Arr.size, ints], rfl, h2⟩]
  have : List.take l.length (List.map (fun x => [PV.int IntKind.i64 x]) l) = List.map (fun x => [PV.int IntKind.i64 x]) l := List.take_of_length_le (by simp)
  simp [catRows, cutRows, ints, this]
@[go_sem] theorem app_tl (h : Heap) (x : Int) : appendV h 1 (.tl []) (.tl [[.int .i64 x]]) = some (.own h.ar.length 0 0 1, { push := [⟨0, 1, .inl (ints [x])⟩], base := h.ar.length }) := by
  simp [appendV, srcRows, rowsFit, rowsLen, mostRows, catRows, ints]

end Go.Pv

/-
  Loops over lists: folds and searches.
-/
namespace Go.Pv
variable {A : Nat → Option AFunc} {Pr : Prims}

def foldK {σ : Type} (S : Nat → σ → St) (I : Nat → σ → Prop) (k : Nat) (acc : σ) (Q : Ex → St → Prop) (_t : Tie (S, I, k, acc, Q) := .mk) : Ex → St → Prop
  | .normal, s => s = S k acc ∧ I k acc
  | .exit i, s => Q (.exit i) s
  | .ret, s => Q .ret s
@[congr] theorem foldK_congr {σ : Type} {S : Nat → σ → St} {I : Nat → σ → Prop} {k : Nat} {acc : σ} {Q : Ex → St → Prop} {e e' : Ex} {s s' : St} (he : e = e') (hs : s = s') : foldK S I k acc Q .mk e s = foldK S I k acc Q .mk e' s' := by rw [he, hs]
@[go_sem] theorem foldK_exit {σ : Type} (S : Nat → σ → St) (I : Nat → σ → Prop) (k : Nat) (acc : σ) (Q : Ex → St → Prop) (i : Nat) (s : St) : foldK S I k acc Q .mk (.exit i) s = Q (.exit i) s := rfl
@[go_sem] theorem foldK_ret {σ : Type} (S : Nat → σ → St) (I : Nat → σ → Prop) (k : Nat) (acc : σ) (Q : Ex → St → Prop) (s : St) : foldK S I k acc Q .mk .ret s = Q .ret s := rfl
theorem foldK.of {σ : Type} {S : Nat → σ → St} {I : Nat → σ → Prop} {k : Nat} {acc : σ} {Q : Ex → St → Prop} {s : St} (h : s = S k acc) (h2 : I k acc) : foldK S I k acc Q .mk .normal s := ⟨h, h2⟩

def exitK (Q : Ex → St → Prop) (_t : Tie Q := .mk) : Ex → St → Prop
  | .normal, _ => False
  | .exit i, s => Q (.exit i) s
  | .ret, s => Q .ret s
@[congr] theorem exitK_congr {Q : Ex → St → Prop} {e e' : Ex} {s s' : St} (he : e = e') (hs : s = s') : exitK Q .mk e s = exitK Q .mk e' s' := by rw [he, hs]
@[go_sem] theorem exitK_exit (Q : Ex → St → Prop) (i : Nat) (s : St) : exitK Q .mk (.exit i) s = Q (.exit i) s := rfl
@[go_sem] theorem exitK_ret (Q : Ex → St → Prop) (s : St) : exitK Q .mk .ret s = Q .ret s := rfl

theorem W.fold {σ α : Type} {a : AC} {s : St} {Q : Ex → St → Prop} (l : List α) (f : σ → α → σ) (x0 : σ) (S : Nat → σ → St) (I : Nat → σ → Prop) (hs : s = S 0 x0) (h0 : I 0 x0)
    (hr : ∀ k x acc, l[k]? = some x → k < l.length → acc = (l.take k).foldl f x0 → I k acc → W A Pr a (S k acc) (foldK S I (k + 1) (f acc x) Q))
    (he : ∀ acc, acc = l.foldl f x0 → I l.length acc → W A Pr a (S l.length acc) (exitK Q)) : W A Pr (.loop a) s Q := by
  refine W.upto l.length (fun k => S k ((l.take k).foldl f x0)) (fun k => I k ((l.take k).foldl f x0)) (by simpa using hs) (by simpa using h0) fun k hk hi => ?_
  rcases Nat.lt_or_ge k l.length with h | h
  · obtain ⟨x, hx⟩ : ∃ x, l[k]? = some x := ⟨l[k], by simp [h]⟩
    obtain ⟨ex, s', h1, h2⟩ := hr k x _ hx h rfl hi
    have ht : (l.take (k + 1)).foldl f x0 = f ((l.take k).foldl f x0) x := by rw [List.take_add_one, hx]; simp [List.foldl_append]
    refine ⟨ex, s', h1, ?_⟩
    cases ex with
    | normal => exact .of h (by rw [ht]; exact h2.1) (by rw [ht]; exact h2.2)
    | exit i => exact h2
    | ret => exact h2
  · obtain rfl : k = l.length := by omega
    rw [List.take_length] at hi ⊢
    obtain ⟨ex, s', h1, h2⟩ := he _ rfl hi
    refine ⟨ex, s', h1, ?_⟩
    cases ex with
    | normal => exact h2.elim
    | exit i => exact h2
    | ret => exact h2

def findK (S : Nat → St) (k : Nat) (p : Bool) (Q : Ex → St → Prop) (_t : Tie (S, k, p, Q) := .mk) : Ex → St → Prop
  | .normal, s => p = false ∧ s = S k
  | .exit i, s => Q (.exit i) s
  | .ret, s => Q .ret s
@[congr] theorem findK_congr {S : Nat → St} {k : Nat} {p : Bool} {Q : Ex → St → Prop} {e e' : Ex} {s s' : St} (he : e = e') (hs : s = s') : findK S k p Q .mk e s = findK S k p Q .mk e' s' := by rw [he, hs]
@[go_sem] theorem findK_exit (S : Nat → St) (k : Nat) (p : Bool) (Q : Ex → St → Prop) (i : Nat) (s : St) : findK S k p Q .mk (.exit i) s = Q (.exit i) s := rfl
@[go_sem] theorem findK_ret (S : Nat → St) (k : Nat) (p : Bool) (Q : Ex → St → Prop) (s : St) : findK S k p Q .mk .ret s = Q .ret s := rfl
theorem findK.of {S : Nat → St} {k : Nat} {p : Bool} {Q : Ex → St → Prop} {s : St} (h : p = false) (h2 : s = S k) : findK S k p Q .mk .normal s := ⟨h, h2⟩

structure Found {α : Type} (l : List α) (p : α → Bool) (k : Nat) (x : α) : Prop where
  any : l.any p = true
  all : l.all (fun y => !p y) = false
  find : l.find? p = some x
  idx : l.findIdx? p = some k
structure Nowhere {α : Type} (l : List α) (p : α → Bool) : Prop where
  any : l.any p = false
  all : l.all (fun y => !p y) = true
  find : l.find? p = none
  idx : l.findIdx? p = none

theorem found_of {α : Type} {l : List α} {p : α → Bool} {k : Nat} {x : α} (hb : ∀ j, j < k → ∀ y, l[j]? = some y → p y = false) (hx : l[k]? = some x) (hp : p x = true) : Found l p k x := by
  obtain ⟨hk, rfl⟩ := List.getElem?_eq_some_iff.1 hx
  have hi : l.findIdx? p = some k := by
    rw [List.findIdx?_eq_some_iff_getElem]
    exact ⟨hk, hp, fun j hj => by simpa using hb j hj _ (by rw [List.getElem?_eq_getElem (by omega)])⟩
  refine ⟨List.any_eq_true.2 ⟨_, List.getElem_mem hk, hp⟩, ?_, ?_, hi⟩
  · rw [List.all_eq_false]
    exact ⟨_, List.getElem_mem hk, by simp [hp]⟩
  · rw [List.find?_eq_some_iff_getElem]
    exact ⟨hp, k, hk, rfl, fun j hj => by simpa using hb j hj _ (by rw [List.getElem?_eq_getElem (by omega)])⟩

theorem nowhere_of {α : Type} {l : List α} {p : α → Bool} (hb : ∀ j, j < l.length → ∀ y, l[j]? = some y → p y = false) : Nowhere l p := by
  have hm : ∀ x ∈ l, p x = false := fun x hx => by
    obtain ⟨j, hj, rfl⟩ := List.getElem_of_mem hx
    exact hb j hj _ (by rw [List.getElem?_eq_getElem])
  exact ⟨by rw [List.any_eq_false]; intro x hx; simp [hm x hx], by rw [List.all_eq_true]; intro x hx; simp [hm x hx], by rw [List.find?_eq_none]; intro x hx; simp [hm x hx], by rw [List.findIdx?_eq_none_iff]; exact hm⟩

theorem W.find {α : Type} {a : AC} {s : St} {Q : Ex → St → Prop} (l : List α) (p : α → Bool) (S : Nat → St) (hs : s = S 0)
    (hr : ∀ k x, l[k]? = some x → k < l.length → (p x = true → Found l p k x) → W A Pr a (S k) (findK S (k + 1) (p x) Q))
    (he : Nowhere l p → W A Pr a (S l.length) (exitK Q)) : W A Pr (.loop a) s Q := by
  refine W.upto l.length S (fun k => ∀ j, j < k → ∀ y, l[j]? = some y → p y = false) hs (fun j hj => absurd hj (Nat.not_lt_zero _)) fun k hk hi => ?_
  rcases Nat.lt_or_ge k l.length with h | h
  · obtain ⟨x, hx⟩ : ∃ x, l[k]? = some x := ⟨l[k], by simp [h]⟩
    obtain ⟨ex, s', h1, h2⟩ := hr k x hx h (fun hp => found_of hi hx hp)
    refine ⟨ex, s', h1, ?_⟩
    cases ex with
    | normal =>
      refine .of h h2.2 fun j hj y hy => ?_
      rcases Nat.lt_or_ge j k with g | g
      · exact hi j g y hy
      · obtain rfl : j = k := by omega
        rw [hx] at hy
        cases hy
        exact h2.1
    | exit i => exact h2
    | ret => exact h2
  · obtain rfl : k = l.length := by omega
    obtain ⟨ex, s', h1, h2⟩ := he (nowhere_of hi)
    refine ⟨ex, s', h1, ?_⟩
    cases ex with
    | normal => exact h2.elim
    | exit i => exact h2
    | ret => exact h2

def againK (A : Nat → Option AFunc) (Pr : Prims) (a : AC) (Q : Ex → St → Prop) (_t : Tie (a, Q) := .mk) : Ex → St → Prop
  | .normal, s => W A Pr (.loop a) s Q
  | .exit i, s => Q (.exit i) s
  | .ret, s => Q .ret s
@[congr] theorem againK_congr {a : AC} {Q : Ex → St → Prop} {e e' : Ex} {s s' : St} (he : e = e') (hs : s = s') : againK A Pr a Q .mk e s = againK A Pr a Q .mk e' s' := by rw [he, hs]
@[go_sem] theorem againK_normal (a : AC) (Q : Ex → St → Prop) (s : St) : againK A Pr a Q .mk .normal s = W A Pr (.loop a) s Q := rfl
@[go_sem] theorem againK_exit (a : AC) (Q : Ex → St → Prop) (i : Nat) (s : St) : againK A Pr a Q .mk (.exit i) s = Q (.exit i) s := rfl
@[go_sem] theorem againK_ret (a : AC) (Q : Ex → St → Prop) (s : St) : againK A Pr a Q .mk .ret s = Q .ret s := rfl
theorem W.once {a : AC} {s : St} {Q : Ex → St → Prop} (h : W A Pr a s (againK A Pr a Q)) : W A Pr (.loop a) s Q := by
  obtain ⟨ex, s', h1, h2⟩ := h
  cases ex with
  | normal =>
    obtain ⟨e2, s2, h3, h4⟩ := h2
    exact ⟨e2, s2, Runs.loop_step h1 h3, h4⟩
  | exit i => exact ⟨_, _, Runs.loop_out h1 (by simp), h2⟩
  | ret => exact ⟨_, _, Runs.loop_out h1 (by simp), h2⟩

end Go.Pv

/-
  Labels, as the program finds them.
-/
namespace Go.Pv

inductive Two where
  | e
  | a (x : Int) (l : List Int)
  | b (x : Int) (l : List Int)
  | ab (x : Int) (l : List Int) (y : Int) (r : List Int)
  | ba (x : Int) (l : List Int) (y : Int) (r : List Int)

def ow (i : Nat) (l : List Int) : V := .own i l.length 0 (l.length + 1)
def ao (x : Int) (l : List Int) : Arr := ⟨l.length, 1, .inl (ints (x :: l))⟩
def Two.v0 : Two → V
  | .e | .b _ _ => .tl []
  | .a _ l | .ab _ l _ _ => ow 0 l
  | .ba _ l _ _ => ow 1 l
def Two.v1 : Two → V
  | .e | .a _ _ => .tl []
  | .b _ l | .ba _ _ _ l => ow 0 l
  | .ab _ _ _ r => ow 1 r
def Two.ar : Two → List Arr
  | .e => []
  | .a x l | .b x l => [ao x l]
  | .ab x l y r => [ao x l, ao y r]
  | .ba x l y r => [ao y r, ao x l]
def Two.l0 : Two → List Int
  | .e | .b _ _ => []
  | .a x l | .ab x l _ _ | .ba x l _ _ => x :: l
def Two.l1 : Two → List Int
  | .e | .a _ _ => []
  | .b x l | .ab _ _ x l | .ba _ _ x l => x :: l
def Two.put (s : Bool) (z : Int) : Two → Two
  | .e => if s then .b z [] else .a z []
  | .a x l => if s then .ab x l z [] else .a x (l ++ [z])
  | .b x l => if s then .b x (l ++ [z]) else .ba z [] x l
  | .ab x l y r => if s then .ab x l y (r ++ [z]) else .ab x (l ++ [z]) y r
  | .ba x l y r => if s then .ba x l y (r ++ [z]) else .ba x (l ++ [z]) y r

def Two.len (t : Two) : Nat := t.l0.length + t.l1.length
def sortI1 (id ver off len : Nat) (a : Arr) : Option (V × Tn) :=
  if len = 0 then some (.tup [], { ra := some id }) else (match a.body with
        | .inl rows => if a.k = 1 ∧ off + len ≤ rows.length ∧ len ≤ mostRows then (match mapO intDec ((rows.drop off).take len) with
          | some l => some (.tup [], { ar := some (id, ⟨ver, 1, .inl (rows.take off ++ (isort ltI l).map (fun x => [.int .i64 x]) ++ rows.drop (off + len))⟩) })
          | none => none) else none
        | .inr _ => none)
@[go_sem] theorem sortIP_tl (h : Heap) : sortIP [.tl []] h = some (.tup [], {}) := rfl
@[go_sem] theorem sortIP_own (h : Heap) (id ver off len : Nat) : sortIP [.own id ver off len] h = (ownArr h id ver).bind (sortI1 id ver off len) := by
  simp only [sortIP]
  cases ownArr h id ver <;> rfl
theorem ints_dec (l : List Int) : mapO intDec (ints l) = some l := by
  induction l with
  | nil => rfl
  | cons x l ih =>
    show mapO intDec ([.int .i64 x] :: ints l) = _
    simp only [mapO, intDec, ih]
@[go_sem] theorem sortI1_ints {id ver n : Nat} {l : List Int} (hn : n = l.length) (h0 : n ≠ 0) (hm : n ≤ 2147483648) : sortI1 id ver 0 n ⟨ver, 1, .inl (ints l)⟩ = some (.tup [], { ar := some (id, ⟨ver, 1, .inl (ints (isort ltI l))⟩) }) := by
  subst hn
  have e1 : (ints l).length = l.length := ints_length l
  simp [sortI1, h0, e1, mostRows, hm, ints_dec, List.take_of_length_le (Nat.le_of_eq e1), List.drop_eq_nil_of_le (Nat.le_of_eq e1)]
  rfl
@[go_sem] theorem lendAll_tl (h : Heap) : lendAll h true [.tl []] = some ([.lst 0 []], none) := rfl
def lendA (id ver len : Nat) (a : Arr) : Option (List PV × Option (Nat × Arr)) :=
  if a.size = len ∧ a.k ≠ 0 then (match a.body with
      | .inl rows => some ([.fr a.k rows], some (id, ⟨ver + 1, 0, .inl []⟩))
      | .inr _ => none) else none
@[go_sem] theorem lendAll_own (h : Heap) (id ver len : Nat) : lendAll h true [.own id ver 0 len] = (ownArr h id ver).bind (lendA id ver len) := by
  simp only [lendAll, lendTake]
  cases ownArr h id ver with
  | none => rfl
  | some a =>
    simp only [Option.bind_some, if_true, lendA]
    by_cases hc : a.size = len ∧ a.k ≠ 0
    · cases hb : a.body <;> simp [hc, mapO]
    · simp [hc]
@[go_sem] theorem lendA_ints {id ver v len : Nat} {l : List Int} (hn : len = l.length) : lendA id ver len ⟨v, 1, .inl (ints l)⟩ = some ([.fr 1 (ints l)], some (id, ⟨ver + 1, 0, .inl []⟩)) := by
  subst hn
  simp [lendA, Arr.size, ints_length]

theorem cmpct_small : ∀ {l : List Int}, l.length < 2 → cmpct l = l
  | [], _ => rfl
  | [_], _ => rfl
  | _ :: _ :: _, h => by simp at h; omega
@[go_sem] theorem r104 (l : List Int) (h0 : l.length ≤ 2000000000) : res A PrA 104 [.fr 1 (ints l)] = some [.fr 1 (ints (cmpct l))] := by
  rcases Nat.lt_or_ge l.length 2 with h | h
  · rw [r104_small l h, cmpct_small h]
  · exact r104_big l h h0
@[go_sem] theorem r104_nil : res A PrA 104 [.lst 0 []] = some [.lst 0 []] := by
  refine res_of a104 rfl rfl ?_
  simp only [F104]
  have h2 : (((0 : Nat) : Nat) : Int) < 2 := by omega
  simp (disch := omega) only [go_sem, h2]
  rfl
@[go_sem] theorem isort_len (l : List Int) : (isort ltI l).length = l.length := (isort_perm ltI l).length_eq

end Go.Pv

/-
  Plain laws: labels of automata.
-/
namespace Go.Pv

theorem cmpct_mem : ∀ {l : List Int} {x : Int}, x ∈ cmpct l ↔ x ∈ l
  | [], _ => by simp [cmpct]
  | [y], _ => by simp [cmpct]
  | y :: z :: r, x => by
    have ih := cmpct_mem (l := z :: r) (x := x)
    unfold cmpct
    split
    · rename_i h
      subst h
      rw [ih]
      simp
    · simp only [List.mem_cons] at ih ⊢
      rw [ih]
theorem cmpct_asc : ∀ {l : List Int}, l.Pairwise (· ≤ ·) → (cmpct l).Pairwise (· < ·)
  | [], _ => List.Pairwise.nil
  | [y], _ => List.pairwise_singleton _ _
  | y :: z :: r, h => by
    obtain ⟨h1, h2⟩ := List.pairwise_cons.1 h
    have ih := cmpct_asc h2
    unfold cmpct
    split
    · exact ih
    · rename_i hn
      refine List.pairwise_cons.2 ⟨fun x hx => ?_, ih⟩
      have hx' := cmpct_mem.1 hx
      have hz := h1 z (by simp)
      rcases List.mem_cons.1 hx' with rfl | hx'
      · omega
      · have := (List.pairwise_cons.1 h2).1 x hx'
        omega
theorem cmpct_len : ∀ l : List Int, (cmpct l).length ≤ l.length
  | [] => Nat.le_refl _
  | [_] => Nat.le_refl _
  | x :: y :: r => by
    have := cmpct_len (y :: r)
    unfold cmpct
    split <;> simp at * <;> omega
def uniqs (l : List Int) : List Int := cmpct (isort ltI l)
theorem uniqs_asc (l : List Int) : (uniqs l).Pairwise (· < ·) := cmpct_asc (isort_sorted l)
theorem uniqs_len (l : List Int) : (uniqs l).length ≤ l.length := by
  have := cmpct_len (isort ltI l)
  rw [isort_len] at this
  exact this
theorem uniqs_mem {l : List Int} {x : Int} : x ∈ uniqs l ↔ x ∈ l := by
  unfold uniqs
  rw [cmpct_mem, (isort_perm ltI l).mem_iff]
theorem atFrom_neg {x : Int} : ∀ {l : List Int} {k : Nat}, atFrom x k l < 0 ↔ x ∉ l
  | [], k => by simp [atFrom]
  | y :: r, k => by
    unfold atFrom
    split
    · rename_i h
      subst h
      simp
    · rename_i h
      rw [atFrom_neg]
      simp only [List.mem_cons, not_or]
      exact ⟨fun h2 => ⟨fun e => h e.symm, h2⟩, fun h2 => h2.2⟩
theorem atL_neg {x : Int} {l : List Int} : atL x l < 0 ↔ x ∉ l := atFrom_neg
end Go.Pv

/-
  Plain laws: valid automata, their duals, what can be reached, trimmed automata.
-/
namespace Go.Pv

structure Auto.Good (a : Auto) : Prop where
  st : 0 ≤ a.start ∧ a.start < a.states
  mx : a.states ≤ 12
  len : a.edges.length ≤ 100
  fit : ∀ e ∈ a.edges, e.fits a.states = true
  asc : a.edges.Pairwise (fun x y => Edge.lt x y = true)

theorem Edge.lt_tr (x y z : Edge) (h1 : Edge.lt x y = true) (h2 : Edge.lt y z = true) : Edge.lt x z = true := by
  unfold Edge.lt at *
  by_cases a1 : x.fr = y.fr <;> by_cases a2 : y.fr = z.fr <;> by_cases b1 : x.send = y.send <;> by_cases b2 : y.send = z.send <;> simp_all <;> (try omega)
  all_goals (try (have : ¬ x.fr = z.fr := by omega); simp_all; omega)
theorem Edge.apt_iff {x y : Edge} : apt Edge.lt x y ↔ ¬ (x.fr = y.fr ∧ x.send = y.send ∧ x.label = y.label) := by
  unfold apt Edge.lt
  by_cases a1 : x.fr = y.fr
  · cases h1 : x.send <;> cases h2 : y.send <;> simp [a1] <;> omega
  · have : ¬ y.fr = x.fr := fun h => a1 h.symm
    simp [a1, this]
    omega

theorem Auto.Good.apt {a : Auto} (h : a.Good) : a.edges.Pairwise (apt Edge.lt) := h.asc.imp .inl

def outs (es : List Edge) (v : Int) : List Int := (es.filter fun e => e.fr == v).map (·.to)
def Auto.from (a : Auto) (s : Int) : List Int := bfs (outs a.edges) a.states.toNat 0 [s]
def Auto.order (a : Auto) : List Int := a.from a.start
def Auto.inr (a : Auto) (v : Int) : Prop := 0 ≤ v ∧ v < a.states
theorem Auto.bound {a : Auto} : ∀ o : List Int, o.Nodup → (∀ v ∈ o, a.inr v) → o.length ≤ a.states.toNat := fun o hd ho => nodup_bound hd fun x hx => by
  have := ho x hx
  unfold Auto.inr at this
  omega
theorem atFrom_get {x : Int} : ∀ {l : List Int} {k : Nat}, x ∈ l → ∃ j, atFrom x k l = ((k + j : Nat) : Int) ∧ l[j]? = some x
  | [], _, h => absurd h (by simp)
  | y :: r, k, h => by
    unfold atFrom
    split
    · rename_i hy
      exact ⟨0, rfl, by simp [hy]⟩
    · rename_i hy
      rcases List.mem_cons.1 h with rfl | h
      · exact (hy rfl).elim
      · obtain ⟨j, h1, h2⟩ := atFrom_get (k := k + 1) h
        exact ⟨j + 1, by rw [h1]; omega, by simpa using h2⟩
theorem atL_get {x : Int} {l : List Int} (h : x ∈ l) : ∃ j : Nat, atL x l = (j : Int) ∧ l[j]? = some x := by
  obtain ⟨j, h1, h2⟩ := atFrom_get (k := 0) h
  exact ⟨j, by unfold atL; rw [h1, Nat.zero_add], h2⟩
theorem atL_of {x : Int} {l : List Int} {j : Nat} (hd : l.Nodup) (h : l[j]? = some x) : atL x l = j := by
  obtain ⟨i, h1, h2⟩ := atL_get (List.mem_of_getElem? h)
  rw [h1]
  obtain ⟨g1, g2⟩ := List.getElem?_eq_some_iff.1 h
  obtain ⟨f1, f2⟩ := List.getElem?_eq_some_iff.1 h2
  have := (List.pairwise_iff_getElem.1 hd)
  rcases Nat.lt_trichotomy i j with hl | rfl | hl
  · exact (this i j f1 g1 hl (f2.trans g2.symm)).elim
  · rfl
  · exact (this j i g1 f1 hl (g2.trans f2.symm)).elim
def Auto.proper (a : Auto) : Bool := a.order.all fun v => (a.from v).any fun w => isEnd w a.edges
end Go.Pv

/-
  Plain laws: strongly connected components, by Tarjan's search.
-/
namespace Go.Pv

structure Fin where
  num : List Int
  low : List Int
  stk : List Int
  on : List Bool
  cnt : Int
  cs : List (List Int)
def at0 (l : List Int) (v : Int) : Int := l.getD v.toNat 0
def Fin.push (s : Fin) (v : Int) : Fin := { s with num := s.num.set v.toNat (s.cnt + 1), low := s.low.set v.toNat (s.cnt + 1), stk := s.stk ++ [v], on := s.on.set v.toNat true, cnt := s.cnt + 1 }
def Fin.lower (s : Fin) (v x : Int) : Fin := { s with low := s.low.set v.toNat (min (at0 s.low v) x) }
def Fin.pop (s : Fin) (v : Int) : Fin := { s with stk := s.stk.take (atL v s.stk).toNat, on := (s.stk.drop (atL v s.stk).toNat).foldl (fun o w => o.set w.toNat false) s.on, cs := s.cs ++ [isort ltI (s.stk.drop (atL v s.stk).toNat)] }
def Fin.fin (s : Fin) (v : Int) : Fin := if at0 s.low v < at0 s.num v then s else s.pop v
def Fin.see (rec : Int → Fin → Fin) (v : Int) (s : Fin) (w : Int) : Fin :=
  if at0 s.num w = 0 then (rec w s).lower v (at0 (rec w s).low w) else if s.on.getD w.toNat false = true then s.lower v (at0 s.num w) else s
def visit (nx : Int → List Int) : Nat → Int → Fin → Fin
  | 0, _, s => s
  | k + 1, v, s => ((nx v).foldl (Fin.see (visit nx k) v) (s.push v)).fin v

theorem at0_set {l : List Int} {v w y : Int} (hv : 0 ≤ v) (hw : 0 ≤ w) (hl : v < l.length) : at0 (l.set v.toNat y) w = if w = v then y else at0 l w := by
  unfold at0
  by_cases e : w = v
  · subst e
    have : w.toNat < l.length := by omega
    simp [this]
  · rw [if_neg e]
    have : v.toNat ≠ w.toNat := by omega
    simp only [List.getD_eq_getElem?_getD, List.getElem?_set_ne this]
theorem onB_set {l : List Bool} {v w : Int} {y : Bool} (hv : 0 ≤ v) (hw : 0 ≤ w) (hl : v < l.length) : (l.set v.toNat y).getD w.toNat false = if w = v then y else l.getD w.toNat false := by
  by_cases e : w = v
  · subst e
    have : w.toNat < l.length := by omega
    simp [this]
  · rw [if_neg e]
    have : v.toNat ≠ w.toNat := by omega
    simp only [List.getD_eq_getElem?_getD, List.getElem?_set_ne this]
theorem clear_on : ∀ (C : List Int) (o : List Bool), (∀ x ∈ C, 0 ≤ x ∧ x < (o.length : Int)) → (C.foldl (fun o w => o.set w.toNat false) o).length = o.length ∧ ∀ w : Int, 0 ≤ w → (C.foldl (fun o w => o.set w.toNat false) o).getD w.toNat false = (if w ∈ C then false else o.getD w.toNat false)
  | [], o, _ => ⟨rfl, fun w _ => by simp⟩
  | x :: C, o, h => by
    have hx := h x (by simp)
    obtain ⟨h1, h2⟩ := clear_on C (o.set x.toNat false) (fun y hy => by rw [List.length_set]; exact h y (by simp [hy]))
    refine ⟨by rw [List.foldl_cons, h1, List.length_set], fun w hw => ?_⟩
    rw [List.foldl_cons, h2 w hw, onB_set hx.1 hw hx.2]
    by_cases e : w = x
    · simp [e]
    · simp [e]

section
variable (n : Nat) (nx : Int → List Int)
structure TInv (G : List Int) (s : Fin) : Prop where
  ln : s.num.length = n
  ll : s.low.length = n
  lo : s.on.length = n
  c0 : 0 ≤ s.cnt
  rng : ∀ w : Int, 0 ≤ w → w < n → 0 ≤ at0 s.num w ∧ at0 s.num w ≤ s.cnt
  stv : ∀ w ∈ s.stk, (0 ≤ w ∧ w < n) ∧ at0 s.num w ≠ 0
  asc : s.stk.Pairwise fun x y => at0 s.num x < at0 s.num y
  on : ∀ w : Int, 0 ≤ w → w < n → (s.on.getD w.toNat false = true ↔ w ∈ s.stk)
  gs : ∀ g ∈ G, g ∈ s.stk
  blk : ∀ w : Int, 0 ≤ w → w < n → at0 s.num w ≠ 0 → w ∉ G → ∀ x ∈ nx w, at0 s.num x ≠ 0
  don : ∀ w : Int, 0 ≤ w → w < n → at0 s.num w ≠ 0 → w ∉ s.stk → ∀ x ∈ nx w, at0 s.num x ≠ 0 ∧ x ∉ s.stk
  r1 : ∀ g ∈ G, ∀ w ∈ s.stk, at0 s.num g ≤ at0 s.num w → Rch nx g w
  r2 : ∀ w ∈ s.stk, ∃ g ∈ G, at0 s.num g ≤ at0 s.num w ∧ Rch nx w g
  cs : ∀ C ∈ s.cs, C ≠ [] ∧ C.Pairwise (· < ·) ∧ ∀ v ∈ C, ((0 ≤ v ∧ v < n) ∧ at0 s.num v ≠ 0 ∧ v ∉ s.stk) ∧ ∀ z : Int, z ∈ C ↔ (Rch nx v z ∧ Rch nx z v)
  cov : ∀ w : Int, 0 ≤ w → w < n → at0 s.num w ≠ 0 → w ∉ s.stk → ∃ C ∈ s.cs, w ∈ C
  dis : s.cs.Pairwise fun C D => ∀ x ∈ C, x ∉ D
structure TExt (s t : Fin) (seg : List Int) : Prop where
  num : ∀ w : Int, 0 ≤ w → w < n → at0 s.num w ≠ 0 → at0 t.num w = at0 s.num w
  low : ∀ w : Int, 0 ≤ w → w < n → at0 s.num w ≠ 0 → at0 t.low w = at0 s.low w
  cnt : s.cnt ≤ t.cnt
  stk : t.stk = s.stk ++ seg
  seg : ∀ w ∈ seg, (0 ≤ w ∧ w < n) ∧ at0 s.num w = 0 ∧ s.cnt < at0 t.num w
structure TLow (v : Int) (s t : Fin) (seg : List Int) : Prop where
  le : at0 t.low v ≤ at0 t.num v
  gone : v ∉ t.stk → at0 t.low v = at0 t.num v
  at_ : v ∈ t.stk → ∃ y ∈ t.stk, at0 t.num y = at0 t.low v ∧ Rch nx v y
  cross : ∀ x ∈ seg, ∀ y ∈ s.stk, y ∈ nx x → at0 t.low v ≤ at0 s.num y
def unv (s : Fin) : Nat := (List.range n).countP fun (v : Nat) => decide (at0 s.num v = 0)
end
variable {n : Nat} {nx : Int → List Int}
theorem countP_less {α : Type} {p q : α → Bool} {x : α} : ∀ {l : List α}, x ∈ l → (∀ y ∈ l, p y = true → q y = true) → q x = true → p x = false → l.countP p < l.countP q
  | [], h, _, _, _ => by cases h
  | y :: l, h, hm, hq, hp => by
    have hle : l.countP p ≤ l.countP q := List.countP_mono_left fun z hz => hm z (by simp [hz])
    rw [List.countP_cons, List.countP_cons]
    rcases List.mem_cons.1 h with rfl | h
    · simp only [hq, hp, if_true]
      simp
      omega
    · have := countP_less h (fun z hz => hm z (by simp [hz])) hq hp
      have h2 := hm y (by simp)
      cases e : p y with
      | false => simp; omega
      | true => simp [h2 e]; omega
theorem unv_lt {s t : Fin} {v : Int} (h : ∀ w : Int, 0 ≤ w → w < n → at0 s.num w ≠ 0 → at0 t.num w ≠ 0) (h0 : 0 ≤ v) (h1 : v < n) (hv : at0 s.num v = 0) (ht : at0 t.num v ≠ 0) : unv n t < unv n s := by
  refine countP_less (x := v.toNat) (List.mem_range.2 (by omega)) (fun v hv ht => ?_) ?_ ?_
  · have hv := List.mem_range.1 hv
    simp only [decide_eq_true_eq] at ht ⊢
    rcases Classical.em (at0 s.num v = 0) with q | q
    · exact q
    · exact absurd ht (h v (by omega) (by omega) q)
  · rw [Int.toNat_of_nonneg h0]
    simp [hv]
  · rw [Int.toNat_of_nonneg h0]
    simp [ht]

theorem TInv.lower {G : List Int} {s : Fin} (h : TInv n nx G s) (v x : Int) : TInv n nx G (s.lower v x) :=
  { h with ll := by show (s.low.set _ _).length = n; rw [List.length_set, h.ll] }
theorem TInv.num_push {G : List Int} {s : Fin} (h : TInv n nx G s) {v w : Int} (hv : 0 ≤ v ∧ v < n) (hw : 0 ≤ w) : at0 (s.push v).num w = if w = v then s.cnt + 1 else at0 s.num w := at0_set hv.1 hw (by rw [h.ln]; exact hv.2)
theorem TInv.push {G : List Int} {s : Fin} (h : TInv n nx G s) {v : Int} (hv : 0 ≤ v ∧ v < n) (hu : at0 s.num v = 0) (hr : ∀ g ∈ G, Rch nx g v) (hn : ∀ w x, x ∈ nx w → 0 ≤ x ∧ x < (n : Int)) : TInv n nx (G ++ [v]) (s.push v) := by
  have hp : ∀ w, 0 ≤ w → at0 (s.push v).num w = if w = v then s.cnt + 1 else at0 s.num w := fun w hw => h.num_push hv hw
  have hp' : ∀ w, 0 ≤ w → w ≠ v → at0 (s.push v).num w = at0 s.num w := fun w hw e => by rw [hp w hw, if_neg e]
  have hpv : at0 (s.push v).num v = s.cnt + 1 := by rw [hp v hv.1, if_pos rfl]
  have hc := h.c0
  have hne : ∀ w ∈ s.stk, w ≠ v := fun w hw e => (h.stv w hw).2 (by rw [e]; exact hu)
  have hst : ∀ w ∈ s.stk, at0 (s.push v).num w = at0 s.num w := fun w hw => hp' w (h.stv w hw).1.1 (hne w hw)
  have hsk : (s.push v).stk = s.stk ++ [v] := rfl
  have hnz : ∀ w, 0 ≤ w → at0 s.num w ≠ 0 → at0 (s.push v).num w ≠ 0 := fun w hw q => by
    rw [hp w hw]
    split
    · omega
    · exact q
  have hmem : ∀ w, w ∈ (s.push v).stk ↔ w ∈ s.stk ∨ w = v := fun w => by rw [hsk]; simp
  refine ⟨by show (s.num.set _ _).length = n; rw [List.length_set, h.ln], by show (s.low.set _ _).length = n; rw [List.length_set, h.ll], by show (s.on.set _ _).length = n; rw [List.length_set, h.lo], by show 0 ≤ s.cnt + 1; omega, fun w h0 h1 => ?_, fun w hw => ?_, ?_, fun w h0 h1 => ?_, fun g hg => ?_, fun w h0 h1 hz hG x hx => ?_, fun w h0 h1 hz hs x hx => ?_, fun g hg w hw hle => ?_, fun w hw => ?_, fun C hC => ?_, fun w h0 h1 hz hs => ?_, h.dis⟩
  · rw [hp w h0]
    have := h.rng w h0 h1
    show _ ∧ _ ≤ s.cnt + 1
    split <;> omega
  · rcases (hmem w).1 hw with hw | rfl
    · exact ⟨(h.stv w hw).1, hnz w (h.stv w hw).1.1 (h.stv w hw).2⟩
    · exact ⟨hv, by rw [hpv]; omega⟩
  · rw [hsk, List.pairwise_append]
    refine ⟨?_, List.pairwise_singleton _ _, fun x hx y hy => ?_⟩
    · exact h.asc.imp_of_mem fun {a b} ha hb hab => by rw [hst a ha, hst b hb]; exact hab
    · rw [List.mem_singleton.1 hy, hpv, hst x hx]
      have := h.rng x (h.stv x hx).1.1 (h.stv x hx).1.2
      omega
  · rw [hmem]
    show ((s.on.set v.toNat true).getD w.toNat false = true) ↔ _
    rw [onB_set hv.1 h0 (by rw [h.lo]; exact hv.2)]
    by_cases e : w = v
    · simp [e]
    · rw [if_neg e, h.on w h0 h1]
      simp [e]
  · rw [hmem]
    rcases List.mem_append.1 hg with hg | hg
    · exact .inl (h.gs g hg)
    · exact .inr (List.mem_singleton.1 hg)
  · have hwv : w ≠ v := fun e => hG (by simp [e])
    rw [hp' w h0 hwv] at hz
    exact hnz x (hn w x hx).1 (h.blk w h0 h1 hz (fun q => hG (by simp [q])) x hx)
  · rw [hmem] at hs ⊢
    have hwv : w ≠ v := fun e => hs (.inr e)
    rw [hp' w h0 hwv] at hz
    obtain ⟨a1, a2⟩ := h.don w h0 h1 hz (fun q => hs (.inl q)) x hx
    exact ⟨hnz x (hn w x hx).1 a1, fun q => q.elim a2 (fun e => a1 (by rw [e]; exact hu))⟩
  · rcases (hmem w).1 hw with hw | rfl
    · rcases List.mem_append.1 hg with hg | hg
      · rw [hst w hw, hst g (h.gs g hg)] at hle
        exact h.r1 g hg w hw hle
      · rw [List.mem_singleton.1 hg, hpv, hst w hw] at hle
        have := h.rng w (h.stv w hw).1.1 (h.stv w hw).1.2
        omega
    · rcases List.mem_append.1 hg with hg | hg
      · exact hr g hg
      · rw [List.mem_singleton.1 hg]
        exact .refl
  · rcases (hmem w).1 hw with hw | rfl
    · obtain ⟨g, g1, g2, g3⟩ := h.r2 w hw
      exact ⟨g, by simp [g1], by rw [hst w hw, hst g (h.gs g g1)]; exact g2, g3⟩
    · exact ⟨w, by simp, Int.le_refl _, .refl⟩
  · obtain ⟨c1, c2, c3⟩ := h.cs C hC
    refine ⟨c1, c2, fun x hx => ?_⟩
    obtain ⟨⟨d1, d2, d3⟩, d4⟩ := c3 x hx
    exact ⟨⟨d1, hnz x d1.1 d2, fun q => ((hmem x).1 q).elim d3 (fun e => d2 (by rw [e]; exact hu))⟩, d4⟩
  · rw [hmem] at hs
    have hwv : w ≠ v := fun e => hs (.inr e)
    rw [hp' w h0 hwv] at hz
    exact h.cov w h0 h1 hz (fun q => hs (.inl q))

structure TLoop (n : Nat) (nx : Int → List Int) (G : List Int) (u : Int) (s0 s : Fin) (seg dn : List Int) : Prop where
  inv : TInv n nx (G ++ [u]) s
  ext : TExt n s0 s (u :: seg)
  nu : at0 s.num u = s0.cnt + 1
  segs : ∀ w ∈ seg, s0.cnt + 1 < at0 s.num w
  le : at0 s.low u ≤ at0 s.num u
  at_ : ∃ y ∈ s.stk, at0 s.num y = at0 s.low u ∧ Rch nx u y
  cross : ∀ x ∈ seg, ∀ y ∈ s0.stk, y ∈ nx x → at0 s.low u ≤ at0 s0.num y
  proc : ∀ w ∈ dn, (0 ≤ w ∧ w < n) ∧ at0 s.num w ≠ 0 ∧ (w ∈ s0.stk → at0 s.low u ≤ at0 s0.num w)
def TVisit (n : Nat) (nx : Int → List Int) (G : List Int) (u : Int) (s t : Fin) : Prop := ∃ seg, TInv n nx G t ∧ TExt n s t seg ∧ TLow nx u s t seg ∧ s.cnt < at0 t.num u

theorem TExt.mono {s t : Fin} {seg : List Int} (h : TExt n s t seg) {w : Int} (h0 : 0 ≤ w) (h1 : w < n) (hz : at0 s.num w ≠ 0) : at0 t.num w ≠ 0 := by rw [h.num w h0 h1 hz]; exact hz
theorem low_lower {s : Fin} {v w x : Int} (hv : 0 ≤ v) (hw : 0 ≤ w) (hl : v < s.low.length) : at0 (s.lower v x).low w = if w = v then min (at0 s.low v) x else at0 s.low w := at0_set hv hw hl
theorem TLoop.start {G : List Int} {u : Int} {s0 : Fin} (h : TInv n nx G s0) (hu : 0 ≤ u ∧ u < n) (hz : at0 s0.num u = 0) (hr : ∀ g ∈ G, Rch nx g u) (hn : ∀ w x, x ∈ nx w → 0 ≤ x ∧ x < (n : Int)) : TLoop n nx G u s0 (s0.push u) [] [] := by
  have hc := h.c0
  have hpu : at0 (s0.push u).num u = s0.cnt + 1 := by rw [h.num_push hu hu.1, if_pos rfl]
  have hlu : at0 (s0.push u).low u = s0.cnt + 1 := by
    show at0 (s0.low.set _ _) u = _
    rw [at0_set hu.1 hu.1 (by rw [h.ll]; exact hu.2), if_pos rfl]
  refine ⟨h.push hu hz hr hn, ⟨fun w h0 h1 q => ?_, fun w h0 h1 q => ?_, by show s0.cnt ≤ s0.cnt + 1; omega, rfl, fun w hw => ?_⟩, hpu, fun w hw => (by cases hw), by rw [hpu, hlu]; omega, ⟨u, by show u ∈ s0.stk ++ [u]; simp, by rw [hpu, hlu], .refl⟩, fun x hx => (by cases hx), fun w hw => (by cases hw)⟩
  · rw [h.num_push hu h0, if_neg (fun e => q (by rw [e]; exact hz))]
  · show at0 (s0.low.set _ _) w = _
    rw [at0_set hu.1 h0 (by rw [h.ll]; exact hu.2), if_neg (fun e => q (by rw [e]; exact hz))]
  · rw [List.mem_singleton.1 hw]
    exact ⟨hu, hz, by rw [hpu]; omega⟩
theorem TLoop.see {G : List Int} {u : Int} {s0 s : Fin} {seg dn : List Int} (h0 : TInv n nx G s0) (h : TLoop n nx G u s0 s seg dn) (hu : 0 ≤ u ∧ u < n) (_hr : ∀ g ∈ G, Rch nx g u) {w : Int} (hw : w ∈ nx u) (hwr : 0 ≤ w ∧ w < n) {rec : Int → Fin → Fin}
    (hrec : at0 s.num w = 0 → TVisit n nx (G ++ [u]) w s (rec w s)) : ∃ seg', TLoop n nx G u s0 (s.see rec u w) (seg ++ seg') (dn ++ [w]) := by
  have hus : at0 s.num u ≠ 0 := by rw [h.nu]; have := h0.c0; omega
  have hmem : ∀ y, y ∈ s0.stk → y ∈ s.stk := fun y hy => by rw [h.ext.stk]; simp [hy]
  have hsr : ∀ y ∈ s0.stk, (0 ≤ y ∧ y < n) ∧ at0 s0.num y ≠ 0 := h0.stv
  have hunc : at0 s.num u ≤ s.cnt := (h.inv.rng u hu.1 hu.2).2
  unfold Fin.see
  by_cases hz : at0 s.num w = 0
  · rw [if_pos hz]
    obtain ⟨seg', t1, t2, t3, t4⟩ := hrec hz
    generalize rec w s = t at *
    have hll := t1.ll
    have hlu : at0 t.low u = at0 s.low u := t2.low u hu.1 hu.2 hus
    have hnu : at0 t.num u = at0 s.num u := t2.num u hu.1 hu.2 hus
    have hlow : ∀ x, 0 ≤ x → at0 (t.lower u (at0 t.low w)).low x = if x = u then min (at0 t.low u) (at0 t.low w) else at0 t.low x := fun x hx => low_lower hu.1 hx (by rw [hll]; exact hu.2)
    have hlowu : at0 (t.lower u (at0 t.low w)).low u = min (at0 s.low u) (at0 t.low w) := by rw [hlow u hu.1, if_pos rfl, hlu]
    have hnum : (t.lower u (at0 t.low w)).num = t.num := rfl
    have hstk : (t.lower u (at0 t.low w)).stk = t.stk := rfl
    have hs0 : ∀ x : Int, 0 ≤ x → x < n → at0 s0.num x ≠ 0 → at0 t.num x = at0 s0.num x := fun x x0 x1 q => by rw [t2.num x x0 x1 (h.ext.mono x0 x1 q), h.ext.num x x0 x1 q]
    have hsg : ∀ x ∈ seg, at0 t.num x = at0 s.num x := fun x hx => by
      have := h.ext.seg x (by simp [hx])
      exact t2.num x this.1.1 this.1.2 (by have := h0.c0; omega)
    refine ⟨seg', t1.lower _ _, ⟨fun x x0 x1 q => hs0 x x0 x1 q, fun x x0 x1 q => ?_, by show s0.cnt ≤ t.cnt; have := h.ext.cnt; have := t2.cnt; omega, by rw [hstk, t2.stk, h.ext.stk]; simp, fun x hx => ?_⟩, by rw [hnum, hnu, h.nu], fun x hx => ?_, ?_, ?_, fun x hx y hy he => ?_, fun x hx => ?_⟩
    · have hxu : x ≠ u := fun e => q (by rw [e]; exact (h.ext.seg u (by simp)).2.1)
      rw [hlow x x0, if_neg hxu, t2.low x x0 x1 (h.ext.mono x0 x1 q), h.ext.low x x0 x1 q]
    · have hx : x ∈ u :: seg ∨ x ∈ seg' := by simpa [or_assoc] using hx
      rcases hx with hx | hx
      · have := h.ext.seg x hx
        refine ⟨this.1, this.2.1, ?_⟩
        rw [hnum, t2.num x this.1.1 this.1.2 (by have := h0.c0; omega)]
        exact this.2.2
      · have := t2.seg x hx
        refine ⟨this.1, ?_, ?_⟩
        · rcases Classical.em (at0 s0.num x = 0) with q | q
          · exact q
          · exact absurd this.2.1 (h.ext.mono this.1.1 this.1.2 q)
        · rw [hnum]
          have := h.ext.cnt
          omega
    · rw [hnum]
      rcases List.mem_append.1 hx with hx | hx
      · rw [hsg x hx]
        exact h.segs x hx
      · have := (t2.seg x hx).2.2
        have := h.nu
        omega
    · rw [hnum, hlowu, hnu]
      have := h.le
      omega
    · rw [hlowu, hnum, hstk]
      by_cases hm : at0 s.low u ≤ at0 t.low w
      · obtain ⟨y, y1, y2, y3⟩ := h.at_
        refine ⟨y, by rw [t2.stk]; simp [y1], ?_, y3⟩
        have := h.inv.stv y y1
        rw [t2.num y this.1.1 this.1.2 this.2, y2]
        omega
      · rcases Classical.em (w ∈ t.stk) with q | q
        · obtain ⟨y, y1, y2, y3⟩ := t3.at_ q
          exact ⟨y, y1, by omega, .head hw y3⟩
        · have := t3.gone q
          have h5 := h.le
          omega
    · rw [hlowu]
      rcases List.mem_append.1 hx with hx | hx
      · have := h.cross x hx y hy he
        omega
      · have := t3.cross x hx y (hmem y hy) he
        have h7 := hsr y hy
        rw [h.ext.num y h7.1.1 h7.1.2 h7.2] at this
        omega
    · rw [hnum, hlowu]
      rcases List.mem_append.1 hx with hx | hx
      · obtain ⟨p1, p2, p3⟩ := h.proc x hx
        refine ⟨p1, by rw [t2.num x p1.1 p1.2 p2]; exact p2, fun q => ?_⟩
        have := p3 q
        omega
      · rw [List.mem_singleton.1 hx]
        have hcs := h.inv.c0
        refine ⟨hwr, by omega, fun q => ?_⟩
        have h7 := hsr w q
        exact absurd hz (h.ext.mono h7.1.1 h7.1.2 h7.2)
  · rw [if_neg hz]
    have hll := h.inv.ll
    by_cases hon : s.on.getD w.toNat false = true
    · rw [if_pos hon]
      have hws := (h.inv.on w hwr.1 hwr.2).1 hon
      have hlow : ∀ x, 0 ≤ x → at0 (s.lower u (at0 s.num w)).low x = if x = u then min (at0 s.low u) (at0 s.num w) else at0 s.low x := fun x hx => low_lower hu.1 hx (by rw [hll]; exact hu.2)
      have hlowu : at0 (s.lower u (at0 s.num w)).low u = min (at0 s.low u) (at0 s.num w) := by rw [hlow u hu.1, if_pos rfl]
      have hnum : (s.lower u (at0 s.num w)).num = s.num := rfl
      have hstk : (s.lower u (at0 s.num w)).stk = s.stk := rfl
      refine ⟨[], h.inv.lower _ _, ⟨h.ext.num, fun x x0 x1 q => ?_, h.ext.cnt, by rw [hstk, h.ext.stk]; simp, fun x hx => h.ext.seg x (by simpa using hx)⟩, h.nu, fun x hx => h.segs x (by simpa using hx), ?_, ?_, fun x hx y hy he => ?_, fun x hx => ?_⟩
      · have hxu : x ≠ u := fun e => q (by rw [e]; exact (h.ext.seg u (by simp)).2.1)
        rw [hlow x x0, if_neg hxu, h.ext.low x x0 x1 q]
      · rw [hnum, hlowu]
        have := h.le
        omega
      · rw [hlowu, hnum, hstk]
        by_cases hm : at0 s.low u ≤ at0 s.num w
        · obtain ⟨y, y1, y2, y3⟩ := h.at_
          exact ⟨y, y1, by omega, y3⟩
        · exact ⟨w, hws, by omega, .head hw .refl⟩
      · rw [hlowu]
        have := h.cross x (by simpa using hx) y hy he
        omega
      · rw [hnum, hlowu]
        rcases List.mem_append.1 hx with hx | hx
        · obtain ⟨p1, p2, p3⟩ := h.proc x hx
          refine ⟨p1, p2, fun q => ?_⟩
          have := p3 q
          omega
        · rw [List.mem_singleton.1 hx]
          refine ⟨hwr, hz, fun q => ?_⟩
          have h7 := hsr w q
          rw [h.ext.num w h7.1.1 h7.1.2 h7.2]
          omega
    · rw [if_neg hon]
      refine ⟨[], h.inv, by simpa using h.ext, h.nu, fun x hx => h.segs x (by simpa using hx), h.le, h.at_, fun x hx => h.cross x (by simpa using hx), fun x hx => ?_⟩
      rcases List.mem_append.1 hx with hx | hx
      · exact h.proc x hx
      · rw [List.mem_singleton.1 hx]
        exact ⟨hwr, hz, fun q => absurd ((h.inv.on w hwr.1 hwr.2).2 (hmem w q)) hon⟩

theorem isort_asc2 {o : List Int} (hd : o.Nodup) : (isort ltI o).Pairwise (· < ·) := by
  have h1 := isort_sorted o
  have h2 := (isort_perm ltI o).nodup_iff.2 hd
  rw [List.nodup_iff_pairwise_ne] at h2
  exact (h1.and h2).imp fun h => by omega
theorem TLoop.fin {G : List Int} {u : Int} {s0 s : Fin} {seg : List Int} (h0 : TInv n nx G s0) (h : TLoop n nx G u s0 s seg (nx u)) (hu : 0 ≤ u ∧ u < n) (hz : at0 s0.num u = 0) (hn : ∀ w x, x ∈ nx w → 0 ≤ x ∧ x < (n : Int)) : TVisit n nx G u s0 (s.fin u) := by
  have hc := h0.c0
  have huG : u ∉ G := fun q => (h0.stv u (h0.gs u q)).2 hz
  have hsr : ∀ y ∈ s0.stk, (0 ≤ y ∧ y < n) ∧ at0 s0.num y ≠ 0 := h0.stv
  have hsn : ∀ y ∈ s0.stk, at0 s.num y = at0 s0.num y := fun y hy => h.ext.num y (hsr y hy).1.1 (hsr y hy).1.2 (hsr y hy).2
  have hsle : ∀ y ∈ s0.stk, at0 s0.num y ≤ s0.cnt := fun y hy => (h0.rng y (hsr y hy).1.1 (hsr y hy).1.2).2
  have hstk := h.ext.stk
  have hu0 : u ∉ s0.stk := fun q => (hsr u q).2 hz
  have hus : u ∈ s.stk := by rw [hstk]; simp
  have huz : at0 s.num u ≠ 0 := by rw [h.nu]; omega
  have hsegG : ∀ x ∈ seg, x ∉ G ++ [u] := fun x hx q => by
    rcases List.mem_append.1 q with q | q
    · exact (h0.stv x (h0.gs x q)).2 (h.ext.seg x (by simp [hx])).2.1
    · have := h.segs x hx
      rw [List.mem_singleton.1 q, h.nu] at this
      omega
  unfold Fin.fin
  by_cases hlt : at0 s.low u < at0 s.num u
  · rw [if_pos hlt]
    refine ⟨u :: seg, { h.inv with gs := fun g hg => h.inv.gs g (by simp [hg]), blk := fun w w0 w1 q hG x hx => ?_, r1 := fun g hg => h.inv.r1 g (by simp [hg]), r2 := fun w hw => ?_ }, h.ext, ⟨h.le, fun q => absurd hus q, fun _ => h.at_, fun x hx y hy he => ?_⟩, by rw [h.nu]; omega⟩
    · by_cases e : w = u
      · rw [e] at hx
        exact (h.proc x hx).2.1
      · exact h.inv.blk w w0 w1 q (fun q => hG (by simpa [e] using q)) x hx
    · obtain ⟨g, g1, g2, g3⟩ := h.inv.r2 w hw
      rcases List.mem_append.1 g1 with g1 | g1
      · exact ⟨g, g1, g2, g3⟩
      · rw [List.mem_singleton.1 g1] at g2 g3
        obtain ⟨y, y1, y2, y3⟩ := h.at_
        obtain ⟨g', k1, k2, k3⟩ := h.inv.r2 y y1
        rcases List.mem_append.1 k1 with k1 | k1
        · exact ⟨g', k1, by omega, g3.trans (y3.trans k3)⟩
        · rw [List.mem_singleton.1 k1] at k2
          omega
    · rcases List.mem_cons.1 hx with rfl | hx
      · exact (h.proc y he).2.2 hy
      · exact h.cross x hx y hy he
  · rw [if_neg hlt]
    have heq : at0 s.low u = at0 s.num u := by have := h.le; omega
    have hnd : s.stk.Nodup := by
      rw [List.nodup_iff_pairwise_ne]
      exact h.inv.asc.imp fun {a b} hab e => by rw [e] at hab; omega
    have hi : (atL u s.stk).toNat = s0.stk.length := by
      rw [atL_of (j := s0.stk.length) hnd (by rw [hstk]; simp)]
      omega
    have htk : s.stk.take s0.stk.length = s0.stk := by rw [hstk, List.take_left']; rfl
    have hdr : s.stk.drop s0.stk.length = u :: seg := by rw [hstk, List.drop_left']; rfl
    have hps : (s.pop u).stk = s0.stk := by show s.stk.take _ = _; rw [hi, htk]
    have hpc : (s.pop u).cs = s.cs ++ [isort ltI (u :: seg)] := by show s.cs ++ [isort ltI (s.stk.drop _)] = _; rw [hi, hdr]
    have hpo : (s.pop u).on = (u :: seg).foldl (fun o w => o.set w.toNat false) s.on := by show (s.stk.drop _).foldl _ _ = _; rw [hi, hdr]
    have hpn : (s.pop u).num = s.num := rfl
    have hpl : (s.pop u).low = s.low := rfl
    have hes := h.ext.seg
    generalize hC : u :: seg = C at *
    have hmem : ∀ y, y ∈ s.stk ↔ y ∈ s0.stk ∨ y ∈ C := fun y => by rw [hstk]; simp
    have hCnd : C.Nodup := by
      rw [hstk, List.nodup_append] at hnd
      exact hnd.2.1
    have hCs : ∀ x ∈ C, x ∉ s0.stk := fun x hx q => (hsr x q).2 (hes x hx).2.1
    have hCr : ∀ x ∈ C, (0 ≤ x ∧ x < n) ∧ at0 s.num x ≠ 0 := fun x hx => h.inv.stv x ((hmem x).2 (.inr hx))
    have huC : u ∈ C := by rw [← hC]; simp
    have hCu : ∀ x ∈ C, x = u ∨ x ∈ seg := fun x hx => by rw [← hC] at hx; simpa using hx
    have ha : ∀ x ∈ C, Rch nx u x := fun x hx => h.inv.r1 u (by simp) x ((hmem x).2 (.inr hx)) (by
      have := (hes x hx).2.2
      rw [h.nu]
      omega)
    have hb : ∀ x ∈ C, Rch nx x u := fun x hx => by
      obtain ⟨g, g1, _, g3⟩ := h.inv.r2 x ((hmem x).2 (.inr hx))
      rcases List.mem_append.1 g1 with g1 | g1
      · have g0 := h0.gs g g1
        refine g3.trans (h.inv.r1 g (by simp [g1]) u hus ?_)
        rw [hsn g g0, h.nu]
        have := hsle g g0
        omega
      · rw [List.mem_singleton.1 g1] at g3
        exact g3
    have hc1 : ∀ x ∈ C, ∀ y ∈ nx x, at0 s.num y ≠ 0 ∧ (y ∈ C ∨ y ∉ s.stk) := fun x hx y hy => by
      have hy0 : at0 s.num y ≠ 0 := by
        rcases hCu x hx with rfl | hx'
        · exact (h.proc y hy).2.1
        · exact h.inv.blk x (hCr x hx).1.1 (hCr x hx).1.2 (hCr x hx).2 (hsegG x hx') y hy
      refine ⟨hy0, ?_⟩
      rcases Classical.em (y ∈ s.stk) with q | q
      · rcases (hmem y).1 q with q | q
        · have hle : at0 s.low u ≤ at0 s0.num y := by
            rcases hCu x hx with rfl | hx'
            · exact (h.proc y hy).2.2 q
            · exact h.cross x hx' y q hy
          have := hsle y q
          have := h.nu
          omega
        · exact .inl q
      · exact .inr q
    have hdn : ∀ {x z : Int}, Rch nx x z → ((0 ≤ x ∧ x < n) ∧ at0 s.num x ≠ 0 ∧ x ∉ s.stk) → ((0 ≤ z ∧ z < n) ∧ at0 s.num z ≠ 0 ∧ z ∉ s.stk) := fun {x z} hr hx => by
      induction hr with
      | refl => exact hx
      | step _ he ih =>
        obtain ⟨i1, i2, i3⟩ := ih
        exact ⟨hn _ _ he, h.inv.don _ i1.1 i1.2 i2 i3 _ he⟩
    have hcl : ∀ {x z : Int}, Rch nx x z → x ∈ C → z ∈ C ∨ ((0 ≤ z ∧ z < n) ∧ at0 s.num z ≠ 0 ∧ z ∉ s.stk) := fun {x z} hr hx => by
      induction hr with
      | refl => exact .inl hx
      | step _ he ih =>
        rcases ih with ih | ⟨i1, i2, i3⟩
        · obtain ⟨e1, e2⟩ := hc1 _ ih _ he
          rcases e2 with e2 | e2
          · exact .inl e2
          · exact .inr ⟨hn _ _ he, e1, e2⟩
        · exact .inr ⟨hn _ _ he, h.inv.don _ i1.1 i1.2 i2 i3 _ he⟩
    have hscc : ∀ v ∈ C, ∀ z : Int, z ∈ C ↔ (Rch nx v z ∧ Rch nx z v) := fun v hv z => by
      constructor
      · exact fun hz => ⟨(hb v hv).trans (ha z hz), (hb z hz).trans (ha v hv)⟩
      · rintro ⟨r1, r2⟩
        rcases hcl r1 hv with q | q
        · exact q
        · have := (hdn r2 q).2.2
          exact absurd ((hmem v).2 (.inr hv)) this
    have hsm : ∀ z, z ∈ isort ltI C ↔ z ∈ C := fun z => (isort_perm ltI C).mem_iff
    obtain ⟨o1, o2⟩ := clear_on C s.on (fun x hx => by rw [h.inv.lo]; exact (hCr x hx).1)
    refine ⟨[], ⟨h.inv.ln, h.inv.ll, by rw [hpo, o1, h.inv.lo], h.inv.c0, h.inv.rng, fun w hw => ?_, ?_, fun w w0 w1 => ?_, fun g hg => by rw [hps]; exact h0.gs g hg, fun w w0 w1 q hG x hx => ?_, fun w w0 w1 q hs x hx => ?_, fun g hg w hw hle => ?_, fun w hw => ?_, fun D hD => ?_, fun w w0 w1 q hs => ?_, ?_⟩, ⟨h.ext.num, h.ext.low, h.ext.cnt, by rw [hps]; simp, fun w hw => (by cases hw)⟩, ⟨h.le, fun _ => heq, fun q => absurd (by rw [hps] at q; exact q) hu0, fun x hx => (by cases hx)⟩, by rw [hpn, h.nu]; omega⟩
    · rw [hps] at hw
      exact h.inv.stv w ((hmem w).2 (.inl hw))
    · rw [hps, hpn]
      have := h.inv.asc
      rw [hstk, List.pairwise_append] at this
      exact this.1
    · rw [hpo, o2 w w0, hps]
      by_cases e : w ∈ C
      · rw [if_pos e]
        exact ⟨fun q => (by cases q), fun q => absurd q (hCs w e)⟩
      · rw [if_neg e, h.inv.on w w0 w1, hmem]
        exact ⟨fun q => q.elim id (fun q => absurd q e), .inl⟩
    · rw [hpn] at q ⊢
      by_cases e : w = u
      · rw [e] at hx
        exact (h.proc x hx).2.1
      · exact h.inv.blk w w0 w1 q (fun q => hG (by simpa [e] using q)) x hx
    · rw [hpn] at q ⊢
      rw [hps] at hs ⊢
      by_cases e : w ∈ C
      · obtain ⟨e1, e2⟩ := hc1 w e x hx
        exact ⟨e1, fun q2 => e2.elim (fun q3 => hCs x q3 q2) (fun q3 => q3 ((hmem x).2 (.inl q2)))⟩
      · obtain ⟨e1, e2⟩ := h.inv.don w w0 w1 q (fun q2 => ((hmem w).1 q2).elim hs e) x hx
        exact ⟨e1, fun q2 => e2 ((hmem x).2 (.inl q2))⟩
    · rw [hps] at hw
      exact h.inv.r1 g (by simp [hg]) w ((hmem w).2 (.inl hw)) hle
    · rw [hps] at hw
      obtain ⟨g, g1, g2, g3⟩ := h0.r2 w hw
      exact ⟨g, g1, by rw [hpn, hsn g (h0.gs g g1), hsn w hw]; exact g2, g3⟩
    · rw [hpc] at hD
      rcases List.mem_append.1 hD with hD | hD
      · obtain ⟨c1, c2, c3⟩ := h.inv.cs D hD
        refine ⟨c1, c2, fun x hx => ?_⟩
        obtain ⟨⟨d1, d2, d3⟩, d4⟩ := c3 x hx
        exact ⟨⟨d1, d2, by rw [hps]; exact fun q => d3 ((hmem x).2 (.inl q))⟩, d4⟩
      · rw [List.mem_singleton.1 hD]
        refine ⟨fun q => ?_, isort_asc2 hCnd, fun x hx => ?_⟩
        · have := (hsm u).2 huC
          rw [q] at this
          cases this
        · have hx := (hsm x).1 hx
          exact ⟨⟨(hCr x hx).1, (hCr x hx).2, by rw [hps]; exact hCs x hx⟩, fun z => by rw [hsm]; exact hscc x hx z⟩
    · rw [hpn] at q
      rw [hps] at hs
      rw [hpc]
      by_cases e : w ∈ C
      · exact ⟨isort ltI C, by simp, (hsm w).2 e⟩
      · obtain ⟨D, d1, d2⟩ := h.inv.cov w w0 w1 q (fun q2 => ((hmem w).1 q2).elim hs e)
        exact ⟨D, by simp [d1], d2⟩
    · rw [hpc, List.pairwise_append]
      refine ⟨h.inv.dis, List.pairwise_singleton _ _, fun D hD E hE x hx => ?_⟩
      rw [List.mem_singleton.1 hE, hsm]
      have := ((h.inv.cs D hD).2.2 x hx).1.2.2
      exact fun q => this ((hmem x).2 (.inr q))
theorem visit_ok (hn : ∀ w x, x ∈ nx w → 0 ≤ x ∧ x < (n : Int)) : ∀ (k : Nat) (u : Int) (s0 : Fin) (G : List Int), unv n s0 ≤ k → TInv n nx G s0 → 0 ≤ u ∧ u < n → at0 s0.num u = 0 → (∀ g ∈ G, Rch nx g u) → TVisit n nx G u s0 (visit nx k u s0)
  | 0, u, s0, G, hk, h0, hu, hz, _ => by
    have := unv_lt (n := n) (s := s0) (t := s0.push u) (v := u) (fun w w0 w1 q => by rw [h0.num_push hu w0]; have := h0.c0; split <;> omega) hu.1 hu.2 hz (by rw [h0.num_push hu hu.1, if_pos rfl]; have := h0.c0; omega)
    omega
  | k + 1, u, s0, G, hk, h0, hu, hz, hr => by
    have key : ∀ (todo dn : List Int) (s : Fin) (seg : List Int), dn ++ todo = nx u → TLoop n nx G u s0 s seg dn → ∃ seg', TLoop n nx G u s0 (todo.foldl (Fin.see (visit nx k) u) s) seg' (nx u) := by
      intro todo
      induction todo with
      | nil =>
        intro dn s seg e h
        rw [List.append_nil] at e
        exact ⟨seg, by rw [← e]; exact h⟩
      | cons w todo ih =>
        intro dn s seg e h
        have hw : w ∈ nx u := by rw [← e]; simp
        have hus : at0 s.num u ≠ 0 := by rw [h.nu]; have := h0.c0; omega
        have hlt := unv_lt (n := n) (s := s0) (t := s) (v := u) (fun w w0 w1 q => h.ext.mono w0 w1 q) hu.1 hu.2 hz hus
        obtain ⟨seg', h'⟩ := h.see h0 hu hr hw (hn u w hw) (rec := visit nx k) (fun hzw => visit_ok hn k w s (G ++ [u]) (by omega) h.inv (hn u w hw) hzw (fun g hg => by
          rcases List.mem_append.1 hg with hg | hg
          · exact .step (hr g hg) hw
          · rw [List.mem_singleton.1 hg]
            exact .head hw .refl))
        exact ih (dn ++ [w]) _ _ (by rw [List.append_assoc]; exact e) h'
    obtain ⟨seg, h⟩ := key (nx u) [] _ [] rfl (TLoop.start h0 hu hz hr hn)
    exact h.fin h0 hu hz hn
end Go.Pv

/-
  Plain laws: levels.
-/
namespace Go.Pv

def lvIn (d : Int) (s : List Int × List Int) (x : Int) : List Int × List Int := if s.1.getD x.toNat (-1) < 0 then (s.1.set x.toNat d, s.2 ++ [x]) else s
def lvRun (nx : Int → List Int) : Nat → Nat → List Int × List Int → List Int × List Int
  | 0, _, s => s
  | n + 1, i, s => match s.2[i]? with
    | none => s
    | some v => lvRun nx n (i + 1) ((nx v).foldl (lvIn (s.1.getD v.toNat (-1) + 1)) s)
structure LvOk (n : Nat) (s : List Int × List Int) : Prop where
  len : s.1.length = n
  nd : s.2.Nodup
  mem : ∀ x, x ∈ s.2 ↔ 0 ≤ x ∧ x < n ∧ 0 ≤ s.1.getD x.toNat (-1)
  top : ∀ v : Nat, s.1.getD v (-1) ≤ s.2.length
theorem getD_set' {l : List Int} {i j : Nat} {x y : Int} (hi : i < l.length) : (l.set i x).getD j y = if i = j then x else l.getD j y := by
  simp only [List.getD_eq_getElem?_getD, List.getElem?_set]
  by_cases h : i = j
  · subst h
    simp [hi]
  · simp [h]
theorem LvOk.start (n : Nat) : LvOk n (List.replicate n (-1), []) where
  len := by simp
  nd := by simp
  mem x := by
    simp only [List.not_mem_nil, false_iff, List.getD_eq_getElem?_getD, List.getElem?_replicate]
    intro ⟨_, _, h⟩
    split at h <;> simp at h
  top v := by
    simp only [List.getD_eq_getElem?_getD, List.getElem?_replicate]
    split <;> simp
theorem LvOk.step {n : Nat} {s : List Int × List Int} (h : LvOk n s) {x d : Int} (hx : 0 ≤ x ∧ x < n) (hd : 0 ≤ d ∧ d ≤ s.2.length + 1) : LvOk n (lvIn d s x) := by
  unfold lvIn
  split
  · rename_i hc
    have hxl : x.toNat < s.1.length := by rw [h.len]; omega
    have hxn : x ∉ s.2 := fun hm => by
      have := (h.mem x).1 hm
      omega
    refine ⟨by simpa using h.len, ?_, fun y => ?_, fun v => ?_⟩
    · rw [List.nodup_append]
      exact ⟨h.nd, by simp, fun a ha b hb => by
        rw [List.mem_singleton] at hb
        subst hb
        exact fun e => hxn (e ▸ ha)⟩
    · rw [List.mem_append, List.mem_singleton, h.mem, getD_set' hxl]
      by_cases e : y = x
      · subst e
        simp
        omega
      · simp only [e, or_false]
        by_cases hy : 0 ≤ y
        · rw [if_neg (by omega)]
        · exact ⟨fun h' => absurd h'.1 hy, fun h' => absurd h'.1 hy⟩
    · dsimp only
      rw [getD_set' hxl]
      have := h.top v
      rw [List.length_append]
      simp only [List.length_cons, List.length_nil]
      split <;> omega
  · exact h
theorem LvOk.bound {n : Nat} {s : List Int × List Int} (h : LvOk n s) : s.2.length ≤ n := nodup_bound h.nd fun x hx => by
  have := (h.mem x).1 hx
  omega
theorem lvIn_add {n : Nat} {s : List Int × List Int} (h : LvOk n s) {x d : Int} (hx : 0 ≤ x ∧ x < n) : (lvIn d s x).2 = addN s.2 x := by
  unfold lvIn addN
  by_cases hc : s.1.getD x.toNat (-1) < 0
  · rw [if_pos hc, if_neg (fun hm => by have := (h.mem x).1 hm; omega)]
  · rw [if_neg hc, if_pos ((h.mem x).2 ⟨hx.1, hx.2, by omega⟩)]
theorem lvIn_len {d : Int} {s : List Int × List Int} {x : Int} : s.2.length ≤ (lvIn d s x).2.length := by
  unfold lvIn
  split <;> simp
theorem lv_fold {n : Nat} {d : Int} : ∀ {l : List Int} {s : List Int × List Int}, LvOk n s → (∀ x ∈ l, 0 ≤ x ∧ x < n) → 0 ≤ d ∧ d ≤ s.2.length + 1 → LvOk n (l.foldl (lvIn d) s) ∧ (l.foldl (lvIn d) s).2 = addL s.2 l
  | [], s, h, _, _ => ⟨h, rfl⟩
  | x :: l, s, h, hl, hd => by
    have h1 := h.step (hl x (by simp)) hd
    have hlen := lvIn_len (d := d) (s := s) (x := x)
    obtain ⟨g1, g2⟩ := lv_fold (d := d) (l := l) h1 (fun y hy => hl y (List.mem_cons_of_mem _ hy)) ⟨hd.1, by omega⟩
    exact ⟨g1, by rw [List.foldl_cons, g2, lvIn_add h (hl x (by simp))]; rfl⟩
theorem lvRun_bfs {nx : Int → List Int} {n : Nat} (hn : ∀ v x, x ∈ nx v → 0 ≤ x ∧ x < n) : ∀ (m i : Nat) {s : List Int × List Int}, LvOk n s → LvOk n (lvRun nx m i s) ∧ (lvRun nx m i s).2 = bfs nx m i s.2
  | 0, _, s, h => ⟨h, rfl⟩
  | m + 1, i, s, h => by
    unfold lvRun bfs
    cases hv : s.2[i]? with
    | none => exact ⟨h, rfl⟩
    | some v =>
      have hm := (h.mem v).1 (List.mem_of_getElem? hv)
      have ht := h.top v.toNat
      obtain ⟨g1, g2⟩ := lv_fold (d := s.1.getD v.toNat (-1) + 1) h (fun x hx => hn v x hx) ⟨by omega, by omega⟩
      obtain ⟨f1, f2⟩ := lvRun_bfs hn m (i + 1) g1
      exact ⟨f1, by dsimp only; rw [f2, g2]⟩
def levels (nx : Int → List Int) (n : Nat) (fr : List Int) : List Int := (lvRun nx n 0 (fr.foldl (lvIn 0) (List.replicate n (-1), []))).1
theorem levels_len {nx : Int → List Int} {n : Nat} {fr : List Int} (hn : ∀ v x, x ∈ nx v → 0 ≤ x ∧ x < n) (hf : ∀ x ∈ fr, 0 ≤ x ∧ x < n) : (levels nx n fr).length = n := by
  obtain ⟨g1, _⟩ := lv_fold (d := 0) (LvOk.start n) hf ⟨by omega, by omega⟩
  exact (lvRun_bfs hn n 0 g1).1.len

end Go.Pv

