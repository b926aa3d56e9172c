/-
  What the functions of the law give.
-/
import Derived.Test.YthajonmopakbpaaTab
set_option linter.unusedSimpArgs false
set_option linter.unusedVariables false
/-
  Contracts: comparisons of the library, the order of edges.
-/
namespace Go.Pv

theorem r66 {Pr : Prims} (x : Int) : res A Pr 66 [.int .i64 x] = some [.bool false] := by
  refine res_of a66 rfl rfl ?_
  simp only [F66]
  simp (disch := omega) only [go_sem]

theorem r60 {Pr : Prims} (hp : Pr 66 = none) (x y : Int) : res A Pr 60 [.int .i64 x, .int .i64 y] = some [.int .i64 (cmpI x y)] := by
  refine res_of a60 rfl rfl ?_
  simp only [F60]
  simp (disch := omega) only [go_sem, CW_CN hp tk66, r66]
  unfold cmpI
  refine Br.ofP (fun h => ?_) (fun h => ?_) <;> simp (disch := omega) only [go_sem, h]
  refine Br.ofP (fun h2 => ?_) (fun h2 => ?_) <;> simp (disch := omega) only [go_sem, h, h2]

theorem r58 {Pr : Prims} (a : Edge) : res A Pr 58 [.agg a.c] = some [.int .i64 a.side] := by
  refine res_of a58 rfl rfl ?_
  simp only [F58]
  simp (disch := omega) only [go_sem]
  unfold Edge.side
  refine Br.of (fun h => ?_) (fun h => ?_) <;> simp (disch := omega) only [go_sem, h]

/-- The first that is not zero. -/
def orI : List Int → Int
  | [] => 0
  | x :: r => if x ≠ 0 then x else orI r

/-- The list from a place on. -/
theorem drop_at {α : Type} {l : List α} {k : Nat} {x : α} (h : l[k]? = some x) : l.drop k = x :: l.drop (k + 1) := by
  obtain ⟨h1, h2⟩ := List.getElem?_eq_some_iff.1 h
  rw [List.drop_eq_getElem_cons h1, h2]
theorem get_at {α : Type} {l : List α} {k : Nat} (h : k < l.length) : ∃ x, l[k]? = some x := ⟨_, List.getElem?_eq_getElem h⟩
theorem drop_end {α : Type} {l : List α} {k : Nat} (h : ¬ (k : Int) < l.length) : l.drop k = [] := List.drop_eq_nil_of_le (by omega)

theorem r59 {Pr : Prims} (t : Nat) (l : List Int) (hl : l.length < 1000) : res A Pr 59 [.lst t (ints l)] = some [.int .i64 (orI l)] := by
  refine res_of a59 rfl rfl ?_
  simp only [F59]
  simp (disch := omega) only [go_sem]
  refine W.upto l.length (fun k => ⟨[(3, .pv (.int .i64 0)), (6, .pv (.lst t (ints l))), (7, .pv (.int .i64 l.length)), (8, .pv (.int .i64 k))], ⟨[], [], []⟩⟩) (fun k => orI l = orI (l.drop k)) rfl rfl fun k hk hi => ?_
  simp (disch := omega) only [go_sem]
  refine Br.ofP (fun h => ?_) (fun h => ?_)
  · obtain ⟨x, hx⟩ := get_at (l := l) (k := k) (by omega)
    rw [drop_at hx, orI] at hi
    simp (disch := omega) only [go_sem, hx]
    refine Br.ofP (fun h1 => ?_) (fun h1 => ?_) <;> simp (disch := omega) only [go_sem]
    · exact .of (by omega) rfl (by simpa [h1] using hi)
    · simp [hi, h1]
  · simp (disch := omega) only [go_sem]
    simp [hi, drop_end h, orI]

theorem r47 {Pr : Prims} (h66 : Pr 66 = none) (h60 : Pr 60 = none) (h59 : Pr 59 = none) (h58 : Pr 58 = none) (a b : Edge) : res A Pr 47 [.agg a.c, .agg b.c] = some [.int .i64 (Edge.cmp a b)] := by
  refine res_of a47 rfl rfl ?_
  simp only [F47]
  have e59 := fun x y z => r59 (Pr := Pr) 0 [x, y, z] (by simp)
  simp only [ints, List.map_cons, List.map_nil] at e59
  have e58 := fun x => r58 (Pr := Pr) x
  simp only [Edge.c] at e58
  simp (disch := omega) only [go_sem, CW_CN h60 tk60, CW_CN h59 tk59, CW_CN h58 tk58, r60 h66, e58 a, e58 b, e59]
  by_cases h : cmpI a.label b.label = 0 <;> simp [orI, Edge.cmp, h]

end Go.Pv

/-
  Contracts: errors of automata.
-/
namespace Go.Pv

@[go_sem] theorem r44 (a b : Edge) : res A PrA 44 [.agg [.int .i64 a.fr, .bool a.send, .int .i64 a.label, .int .i64 a.to], .agg [.int .i64 b.fr, .bool b.send, .int .i64 b.label, .int .i64 b.to]] = some [.bool (Edge.lt a b)] := by
  refine res_of a44 rfl rfl ?_
  simp only [F44]
  simp (disch := omega) only [go_sem]
  unfold Edge.lt
  by_cases h : a.fr = b.fr <;> by_cases h2 : a.send = b.send <;> simp (disch := omega) only [go_sem, h, h2, ne_eq, not_true_eq_false, not_false_eq_true]

theorem Auto.err_ok {a : Auto} (h1 : a.states ≤ 12) (h2 : a.edges.length ≤ 100) (h3 : 0 ≤ a.start ∧ a.start < a.states) : a.err = if chk a.states none a.edges = true then 0 else 1 := by
  unfold Auto.err
  rw [if_neg (by omega), if_pos h3]
theorem Auto.err_start {a : Auto} (h1 : a.states ≤ 12) (h2 : a.edges.length ≤ 100) (h3 : ¬ (0 ≤ a.start ∧ a.start < a.states)) : a.err = 1 := by
  unfold Auto.err
  rw [if_neg (by omega), if_neg h3]
theorem Auto.err_large {a : Auto} (h : 12 < a.states ∨ 100 < a.edges.length) : a.err = 3 := by
  unfold Auto.err
  rw [if_pos h]
theorem chk_no {n : Int} {p : Option Edge} {e : Edge} {r : List Edge} (h : e.fits n = false) : chk n p (e :: r) = false := by simp [chk, h]

set_option maxHeartbeats 1000000 in
@[go_sem] theorem r26 (t : Nat) (a : Auto) (hl : a.edges.length ≤ 2 ^ 63 - 1) : res A PrA 26 [.agg [.int .i64 a.states, .int .i64 a.start, .lst t (a.edges.map Edge.c)]] = some [.int .i64 a.err] := by
  refine res_of a26 rfl rfl ?_
  simp only [F26]
  simp (disch := omega) only [go_sem]
  refine Br.ofP (fun h1 => ?_) (fun h1 => ?_) <;> simp (disch := omega) only [go_sem, h1]
  · rw [Auto.err_large (.inl h1)]
  refine Br.ofP (fun h2 => ?_) (fun h2 => ?_) <;> simp (disch := omega) only [go_sem, h2]
  · rw [Auto.err_large (.inr (by omega))]
  refine Br.ofP (fun h3 => ?_) (fun h3 => ?_) <;> simp (disch := omega) only [go_sem, h3]
  · rw [Auto.err_start (by omega) (by omega) (by omega)]
  refine Br.ofP (fun h4 => ?_) (fun h4 => ?_) <;> simp (disch := omega) only [go_sem, h4]
  · rw [Auto.err_start (by omega) (by omega) (by omega)]
  refine Br.ofP (fun h5 => ?_) (fun h5 => ?_) <;> simp (disch := omega) only [go_sem, h5]
  · rw [Auto.err_start (by omega) (by omega) (by omega)]
  rw [Auto.err_ok (by omega) (by omega) (by omega)]
  refine W.upto a.edges.length (fun k => ⟨[(1, .ptr 1 0), (3, .pv (.int .i64 k))], ⟨[(1, [.pv (.int .i64 a.states), .pv (.int .i64 a.start), .pv (.lst t (a.edges.map Edge.c))])], [], []⟩⟩) (fun k => chk a.states none a.edges = chk a.states (ahead1 a.edges k) (a.edges.drop k)) rfl rfl fun k hk hi => ?_
  simp (disch := omega) only [go_sem]
  refine Br.ofP (fun h => ?_) (fun h => ?_)
  · obtain ⟨e, he⟩ := get_at (l := a.edges) (k := k) (by omega)
    rw [drop_at he] at hi
    have bad : e.fits a.states = false → chk a.states none a.edges = false := fun hb => hi.trans (chk_no hb)
    simp (disch := omega) only [go_sem, he]
    refine Br.ofP (fun g1 => ?_) (fun g1 => ?_) <;> simp (disch := omega) only [go_sem, g1]
    · rw [bad (by simp [Edge.fits]; omega)]; rfl
    refine Br.ofP (fun g2 => ?_) (fun g2 => ?_) <;> simp (disch := omega) only [go_sem, g2]
    · rw [bad (by simp [Edge.fits]; omega)]; rfl
    refine Br.ofP (fun g3 => ?_) (fun g3 => ?_) <;> simp (disch := omega) only [go_sem, g3]
    · rw [bad (by simp [Edge.fits]; omega)]; rfl
    refine Br.ofP (fun g4 => ?_) (fun g4 => ?_) <;> simp (disch := omega) only [go_sem, g4]
    · rw [bad (by simp [Edge.fits]; omega)]; rfl
    refine Br.ofP (fun g5 => ?_) (fun g5 => ?_) <;> simp (disch := omega) only [go_sem, g5]
    · rw [bad (by simp [Edge.fits]; omega)]; rfl
    refine Br.ofP (fun g6 => ?_) (fun g6 => ?_) <;> simp (disch := omega) only [go_sem, g6]
    · rw [bad (by simp [Edge.fits]; omega)]; rfl
    have fit : e.fits a.states = true := by simp [Edge.fits]; omega
    refine Br.ofP (fun g7 => ?_) (fun g7 => ?_) <;> simp (disch := omega) only [go_sem, g7]
    · obtain ⟨j, rfl⟩ : ∃ j, k = j + 1 := ⟨k - 1, by omega⟩
      obtain ⟨d, hd⟩ := get_at (l := a.edges) (k := j) (by omega)
      have hj : ((j + 1 : Nat) : Int) - 1 = (j : Int) := by omega
      rw [ahead1_succ, hd] at hi
      simp (disch := omega) only [go_sem, hj, hd]
      refine Br.of (fun g8 => ?_) (fun g8 => ?_) <;> simp (disch := omega) only [go_sem]
      · exact .of (by omega) rfl (by rw [hi, ahead1_succ, he]; simp [chk, fit, g8])
      · rw [hi]; simp [chk, g8]
    · obtain rfl : k = 0 := by omega
      exact .of (by omega) rfl (by rw [hi, ahead1_succ, he]; simp [chk, fit, ahead1])
  · simp (disch := omega) only [go_sem]
    rw [hi, drop_end h]
    rfl

@[go_sem] theorem r47a (a b : Edge) : res A PrA 47 [.agg [.int .i64 a.fr, .bool a.send, .int .i64 a.label, .int .i64 a.to], .agg [.int .i64 b.fr, .bool b.send, .int .i64 b.label, .int .i64 b.to]] = some [.int .i64 (Edge.cmp a b)] :=
  r47 (by kernel_rfl) (by kernel_rfl) (by kernel_rfl) (by kernel_rfl) a b

@[go_sem] theorem r46 (n s : Int) (t : Nat) (cs : List PV) : res A PrA 46 [.int .i64 n, .ro t (.int .i64 s :: cs)] = some [.bool (decide (0 ≤ n) && decide (n < s))] := by
  refine res_of a46 rfl rfl ?_
  simp only [F46]
  simp (disch := omega) only [go_sem]
  refine Br.ofP (fun h1 => ?_) (fun h1 => ?_) <;> simp (disch := omega) only [go_sem, h1]

theorem fits_of {e : Edge} {n : Int} : e.fits n = (((decide (0 ≤ e.fr) && decide (e.fr < n)) && (decide (0 ≤ e.to) && decide (e.to < n))) && (decide (1 ≤ e.label) && decide (e.label ≤ 1000))) := by
  simp [Edge.fits, Bool.and_assoc]

set_option maxHeartbeats 2000000 in
@[go_sem] theorem r29 (t : Nat) (a : Auto) (hl : a.edges.length ≤ 2 ^ 63 - 1) : res A PrA 29 [.agg [.int .i64 a.states, .int .i64 a.start, .lst t (a.edges.map Edge.c)]] = some [.int .i64 a.err] := by
  refine res_of a29 rfl rfl ?_
  simp only [F29]
  simp (disch := omega) only [go_sem]
  refine Br.ofP (fun h1 => ?_) (fun h1 => ?_) <;> simp (disch := omega) only [go_sem, h1]
  · rw [Auto.err_large (.inl h1)]
  refine Br.ofP (fun h2 => ?_) (fun h2 => ?_) <;> simp (disch := omega) only [go_sem, h2]
  · rw [Auto.err_large (.inr (by omega))]
  refine Br.of (fun h3 => ?_) (fun h3 => ?_) <;> simp at h3 <;> simp (disch := omega) only [go_sem]
  case refine_2 => rw [Auto.err_start (by omega) (by omega) (by omega)]
  rw [Auto.err_ok (by omega) (by omega) (by omega)]
  refine W.upto a.edges.length (fun k => ⟨[(1, .ptr 1 0), (3, .func 46 [.ptr 1 0]), (22, .pv (.lst t (a.edges.map Edge.c))), (23, .pv (.int .i64 a.edges.length)), (24, .pv (.int .i64 k))], ⟨[(1, [.pv (.int .i64 a.states), .pv (.int .i64 a.start), .pv (.lst t (a.edges.map Edge.c))])], [], []⟩⟩) (fun k => chk a.states none a.edges = chk a.states (ahead1 a.edges k) (a.edges.drop k)) rfl rfl fun k hk hi => ?_
  simp (disch := omega) only [go_sem]
  refine Br.ofP (fun h => ?_) (fun h => ?_)
  · obtain ⟨e, he⟩ := get_at (l := a.edges) (k := k) (by omega)
    rw [drop_at he] at hi
    have bad : e.fits a.states = false → chk a.states none a.edges = false := fun hb => hi.trans (chk_no hb)
    rw [fits_of] at bad
    simp (disch := omega) only [go_sem, he]
    refine Br.of (fun g1 => ?_) (fun g1 => ?_) <;> simp (disch := omega) only [go_sem, g1]
    case refine_2 => rw [bad (by rw [g1]; rfl)]; rfl
    refine Br.of (fun g2 => ?_) (fun g2 => ?_) <;> simp (disch := omega) only [go_sem, g2]
    case refine_2 => rw [bad (by rw [g1, g2]; rfl)]; rfl
    refine Br.ofP (fun g3 => ?_) (fun g3 => ?_) <;> simp (disch := omega) only [go_sem, g3]
    · rw [bad (by simp; omega)]; rfl
    refine Br.ofP (fun g4 => ?_) (fun g4 => ?_) <;> simp (disch := omega) only [go_sem, g4]
    · rw [bad (by simp; omega)]; rfl
    have fit : e.fits a.states = true := by rw [fits_of, g1, g2]; simp; omega
    refine Br.ofP (fun g7 => ?_) (fun g7 => ?_) <;> simp (disch := omega) only [go_sem, g7]
    · obtain ⟨j, rfl⟩ : ∃ j, k = j + 1 := ⟨k - 1, by omega⟩
      obtain ⟨d, hd⟩ := get_at (l := a.edges) (k := j) (by omega)
      have hj : ((j + 1 : Nat) : Int) - 1 = (j : Int) := by omega
      rw [ahead1_succ, hd] at hi
      simp (disch := omega) only [go_sem, hj, hd, Edge.cmp_ge]
      refine Br.of (fun g8 => ?_) (fun g8 => ?_) <;> simp (disch := omega) only [go_sem]
      · exact .of (by omega) rfl (by rw [hi, ahead1_succ, he]; simp [chk, fit, g8])
      · rw [hi]; simp [chk, g8]
    · obtain rfl : k = 0 := by omega
      exact .of (by omega) rfl (by rw [hi, ahead1_succ, he]; simp [chk, fit, ahead1])
  · simp (disch := omega) only [go_sem]
    rw [hi, drop_end h]
    rfl

end Go.Pv

/-
  Lists that grow by appending.
-/
namespace Go.Pv
variable {A : Nat → Option AFunc} {Pr : Prims}

/-- A list that a call has built by appending; its array, if there is one, is the n-th. -/
def grV (n : Nat) : List (List PV) → V
  | [] => .tl []
  | _ :: r => .own n r.length 0 (r.length + 1)
def grA (k : Nat) : List (List PV) → List Arr
  | [] => []
  | x :: r => [⟨r.length, k, .inl (x :: r)⟩]
def grT (n k : Nat) (rows : List (List PV)) (r : List PV) : Tn :=
  match rows with
  | [] => { push := [⟨0, k, .inl [r]⟩], base := n }
  | x :: q => { ar := some (n, ⟨q.length + 1, k, .inl (x :: q ++ [r])⟩) }

theorem grow (bx : List (Nat × List V)) (mp : List (List (PV × PV))) (pre : List Arr) (k : Nat) (rows : List (List PV)) (r : List PV) (hr : r.length = k) (hm : rows.length + 1 ≤ 2147483648) :
    appendV ⟨bx, pre ++ grA k rows, mp⟩ k (grV pre.length rows) (.tl [r]) = some (grV pre.length (rows ++ [r]), grT pre.length k rows r) := by
  cases rows with
  | nil => simp [appendV, grV, grA, grT, srcRows, rowsFit, rowsLen, hr, catRows, mostRows]
  | cons x q =>
    have h1 : ownArr ⟨bx, pre ++ grA k (x :: q), mp⟩ pre.length q.length = some ⟨q.length, k, .inl (x :: q)⟩ := by simp [ownArr, grA]
    have h2 : (⟨q.length, k, .inl (x :: q)⟩ : Arr).size = q.length + 1 := rfl
    have h3 : ((x :: q).drop 0).take (q.length + 1) = x :: q := by simp
    simp only [List.length_cons] at hm
    simp [appendV, grV, grT, srcRows, rowsFit, rowsLen, hr, h1, h2, catRows, cutRows, mostRows]
    omega

theorem grT_apply (bx : List (Nat × List V)) (mp : List (List (PV × PV))) (pre : List Arr) (k : Nat) (rows : List (List PV)) (r : List PV) :
    (grT pre.length k rows r).apply ⟨bx, pre ++ grA k rows, mp⟩ = ⟨bx, pre ++ grA k (rows ++ [r]), mp⟩ := by
  cases rows with
  | nil => simp [grT, Tn.apply, grA]
  | cons x q => simp [grT, Tn.apply, grA]

@[go_sem] theorem grow0 (bx : List (Nat × List V)) (mp : List (List (PV × PV))) (k : Nat) (rows : List (List PV)) (r : List PV) (hr : r.length = k) (hm : rows.length + 1 ≤ 2147483648) :
    appendV ⟨bx, grA k rows, mp⟩ k (grV 0 rows) (.tl [r]) = some (grV 0 (rows ++ [r]), grT 0 k rows r) := grow bx mp [] k rows r hr hm
@[go_sem] theorem grow1 (bx : List (Nat × List V)) (mp : List (List (PV × PV))) (a : Arr) (k : Nat) (rows : List (List PV)) (r : List PV) (hr : r.length = k) (hm : rows.length + 1 ≤ 2147483648) :
    appendV ⟨bx, a :: grA k rows, mp⟩ k (grV 1 rows) (.tl [r]) = some (grV 1 (rows ++ [r]), grT 1 k rows r) := grow bx mp [a] k rows r hr hm
@[go_sem] theorem grow2 (bx : List (Nat × List V)) (mp : List (List (PV × PV))) (a b : Arr) (k : Nat) (rows : List (List PV)) (r : List PV) (hr : r.length = k) (hm : rows.length + 1 ≤ 2147483648) :
    appendV ⟨bx, a :: b :: grA k rows, mp⟩ k (grV 2 rows) (.tl [r]) = some (grV 2 (rows ++ [r]), grT 2 k rows r) := grow bx mp [a, b] k rows r hr hm
@[go_sem] theorem grT_apply0 (bx : List (Nat × List V)) (mp : List (List (PV × PV))) (k : Nat) (rows : List (List PV)) (r : List PV) :
    (grT 0 k rows r).apply ⟨bx, grA k rows, mp⟩ = ⟨bx, grA k (rows ++ [r]), mp⟩ := grT_apply bx mp [] k rows r
@[go_sem] theorem grT_apply1 (bx : List (Nat × List V)) (mp : List (List (PV × PV))) (a : Arr) (k : Nat) (rows : List (List PV)) (r : List PV) :
    (grT 1 k rows r).apply ⟨bx, a :: grA k rows, mp⟩ = ⟨bx, a :: grA k (rows ++ [r]), mp⟩ := grT_apply bx mp [a] k rows r
@[go_sem] theorem grT_apply2 (bx : List (Nat × List V)) (mp : List (List (PV × PV))) (a b : Arr) (k : Nat) (rows : List (List PV)) (r : List PV) :
    (grT 2 k rows r).apply ⟨bx, a :: b :: grA k rows, mp⟩ = ⟨bx, a :: b :: grA k (rows ++ [r]), mp⟩ := grT_apply bx mp [a, b] k rows r

@[go_sem] theorem lenV_gr (h : Heap) (n : Nat) (rows : List (List PV)) : lenV h 0 (grV n rows) = some (rows.length, {}) := by cases rows <;> rfl
@[go_sem] theorem cells_gr (n : Nat) (rows : List (List PV)) : V.cells (grV n rows) = [grV n rows] := by cases rows <;> rfl
@[go_sem] theorem calm_gr (n : Nat) (rows : List (List PV)) : V.calm (grV n rows) = true := by cases rows <;> rfl
@[go_sem] theorem sized_gr (n : Nat) (rows : List (List PV)) : V.sized (grV n rows) = true := by cases rows <;> rfl
@[go_sem] theorem scrub_gr (kb : List Nat) (n : Nat) (rows : List (List PV)) : scrub kb (grV n rows) = grV n rows := by cases rows <;> rfl
@[go_sem] theorem okc_gr (kb : List Nat) (n : Nat) (rows : List (List PV)) : okc kb (grV n rows) = true := by cases rows <;> rfl
@[go_sem] theorem purec_gr (n : Nat) (rows : List (List PV)) : V.purec (grV n rows) = none := by cases rows <;> rfl

theorem own_gr (bx : List (Nat × List V)) (mp : List (List (PV × PV))) (pre post : List Arr) (k : Nat) (x : List PV) (q : List (List PV)) : ownArr ⟨bx, pre ++ (grA k (x :: q) ++ post), mp⟩ pre.length q.length = some ⟨q.length, k, .inl (x :: q)⟩ := by simp [ownArr, grA]
theorem keepc_gr (bx : List (Nat × List V)) (mp : List (List (PV × PV))) (pre : List Arr) (k d : Nat) (rows : List (List PV)) : keepc ⟨bx, pre ++ grA k rows, mp⟩ (d + 1) (grV pre.length rows) = some (.lst 0 rows) := by
  cases rows with
  | nil => rfl
  | cons x q =>
    have := own_gr bx mp pre [] k x q
    rw [List.append_nil] at this
    simp [grV, keepc_own, this, keepRows, cutRows]
@[go_sem] theorem keepc_gr0 (bx : List (Nat × List V)) (mp : List (List (PV × PV))) (k : Nat) (rows : List (List PV)) : keepc ⟨bx, grA k rows, mp⟩ 4 (grV 0 rows) = some (.lst 0 rows) := keepc_gr bx mp [] k 3 rows
@[go_sem] theorem keepc_gr1 (bx : List (Nat × List V)) (mp : List (List (PV × PV))) (a : Arr) (k : Nat) (rows : List (List PV)) : keepc ⟨bx, a :: grA k rows, mp⟩ 4 (grV 1 rows) = some (.lst 0 rows) := keepc_gr bx mp [a] k 3 rows
@[go_sem] theorem keepc_gr2 (bx : List (Nat × List V)) (mp : List (List (PV × PV))) (a b : Arr) (k : Nat) (rows : List (List PV)) : keepc ⟨bx, a :: b :: grA k rows, mp⟩ 4 (grV 2 rows) = some (.lst 0 rows) := keepc_gr bx mp [a, b] k 3 rows
@[go_sem] theorem keep_gr (h : Heap) (n : Nat) (rows : List (List PV)) : keep h false (grV n rows) = keepc h 4 (grV n rows) := by cases rows <;> rfl

/-- With which tag such a list is lent. -/
def grG : List (List PV) → Nat
  | [] => 0
  | _ => 1
theorem lendc_gr (bx : List (Nat × List V)) (mp : List (List (PV × PV))) (pre : List Arr) (k d : Nat) (rows : List (List PV)) : lendc ⟨bx, pre ++ grA k rows, mp⟩ (d + 1) (grV pre.length rows) = some (.lst (grG rows) rows) := by
  cases rows with
  | nil => rfl
  | cons x q =>
    have := own_gr bx mp pre [] k x q
    rw [List.append_nil] at this
    simp [grV, lendc, this, cutRows, grG]
@[go_sem] theorem lendc_gr0 (bx : List (Nat × List V)) (mp : List (List (PV × PV))) (k : Nat) (rows : List (List PV)) : lendc ⟨bx, grA k rows, mp⟩ 4 (grV 0 rows) = some (.lst (grG rows) rows) := lendc_gr bx mp [] k 3 rows
@[go_sem] theorem lendc_gr1 (bx : List (Nat × List V)) (mp : List (List (PV × PV))) (a : Arr) (k : Nat) (rows : List (List PV)) : lendc ⟨bx, a :: grA k rows, mp⟩ 4 (grV 1 rows) = some (.lst (grG rows) rows) := lendc_gr bx mp [a] k 3 rows
@[go_sem] theorem lendc_gr2 (bx : List (Nat × List V)) (mp : List (List (PV × PV))) (a b : Arr) (k : Nat) (rows : List (List PV)) : lendc ⟨bx, a :: b :: grA k rows, mp⟩ 4 (grV 2 rows) = some (.lst (grG rows) rows) := lendc_gr bx mp [a, b] k 3 rows
@[go_sem] theorem lend_gr (h : Heap) (n : Nat) (rows : List (List PV)) : lend h (grV n rows) = lendc h 4 (grV n rows) := by cases rows <;> rfl
/-- One that is not empty. -/
theorem grV_own {i n : Nat} {rows : List (List PV)} (h : rows.length = n + 1) : grV i rows = .own i n 0 (n + 1) := by
  match rows, h with
  | x :: q, h =>
    simp at h
    simp [grV, h]
theorem grA_own {k n : Nat} {rows : List (List PV)} (h : rows.length = n + 1) : grA k rows = [⟨n, k, .inl rows⟩] := by
  match rows, h with
  | x :: q, h =>
    simp at h
    simp [grA, h]

-- parts of an array of the call's own
def chkR {α : Type} (i : Int) (len : Nat) (v : α) : Option α := if 0 ≤ i ∧ i ≤ len then some v else none
@[go_sem] theorem chkR_ok {α : Type} {i : Int} {len : Nat} {v : α} (h0 : 0 ≤ i) (h1 : i ≤ (len : Int)) : chkR i len v = some v := if_pos ⟨h0, h1⟩
@[go_sem] theorem sl_from (g : Opd → V) (h : Heap) (k id ver off len : Nat) (lo : Opd) :
    sliceV g h k (.own id ver off len) (some lo) none none = (ownArr h id ver).bind fun a => (intOf (g lo)).bind fun i => if a.k = k then chkR i len (.own id ver (off + i.toNat) (len - i.toNat), { ra := some id }) else none := by
  cases ho : ownArr h id ver with
  | none => simp [sliceV, ho]
  | some a =>
    cases hi : intOf (g lo) with
    | none => simp [sliceV, ho, bounds, bound, hi]
    | some i => by_cases hk : a.k = k <;> by_cases h0 : 0 ≤ i ∧ i ≤ len <;> simp [sliceV, ho, bounds, bound, hi, hk, h0, chkR]
@[go_sem] theorem sl_to (g : Opd → V) (h : Heap) (k id ver off len : Nat) (hi : Opd) :
    sliceV g h k (.own id ver off len) none (some hi) none = (ownArr h id ver).bind fun a => (intOf (g hi)).bind fun i => if a.k = k then chkR i len (.own id ver off i.toNat, { ra := some id }) else none := by
  cases ho : ownArr h id ver with
  | none => simp [sliceV, ho]
  | some a =>
    cases hj : intOf (g hi) with
    | none => simp [sliceV, ho, bounds, bound, hj]
    | some i => by_cases hk : a.k = k <;> by_cases h0 : 0 ≤ i ∧ i ≤ len <;> simp [sliceV, ho, bounds, bound, hj, hk, h0, chkR]

end Go.Pv

/-
  Lists of numbers and of edges that grow by appending.
-/
namespace Go.Pv

@[go_sem] theorem ints_nil : ints [] = [] := rfl
@[go_sem] theorem ints_snoc (l : List Int) (x : Int) : ints l ++ [[.int .i64 x]] = ints (l ++ [x]) := by simp [ints]
/-- Edges, each a row. -/
def edgs (l : List Edge) : List (List PV) := l.map Edge.c
@[go_sem] theorem edgs_length (l : List Edge) : (edgs l).length = l.length := by simp [edgs]
@[go_sem] theorem edgs_nil : edgs [] = [] := rfl
theorem edgs_map (l : List Edge) : l.map Edge.c = edgs l := rfl
@[go_sem] theorem edgs_get (l : List Edge) (i : Nat) : (edgs l)[i]? = l[i]?.map Edge.c := by simp [edgs]
theorem edgs_snoc (l : List Edge) (e : Edge) : edgs l ++ [e.c] = edgs (l ++ [e]) := by simp [edgs]
@[go_sem] theorem grow0i (bx : List (Nat × List V)) (mp : List (List (PV × PV))) (l : List Int) (x : Int) (hm : l.length + 1 ≤ 2147483648) :
    appendV ⟨bx, grA 1 (ints l), mp⟩ 1 (grV 0 (ints l)) (.tl [[.int .i64 x]]) = some (grV 0 (ints (l ++ [x])), grT 0 1 (ints l) [.int .i64 x]) := by
  rw [grow0 bx mp  1 (ints l) [.int .i64 x] rfl (by rw [ints_length]; exact hm), ints_snoc]
@[go_sem] theorem grow0e (bx : List (Nat × List V)) (mp : List (List (PV × PV))) (l : List Edge) (f : Int) (s : Bool) (x t : Int) (hm : l.length + 1 ≤ 2147483648) :
    appendV ⟨bx, grA 4 (edgs l), mp⟩ 4 (grV 0 (edgs l)) (.tl [[.int .i64 f, .bool s, .int .i64 x, .int .i64 t]]) = some (grV 0 (edgs (l ++ [⟨f, s, x, t⟩])), grT 0 4 (edgs l) (Edge.c ⟨f, s, x, t⟩)) := by
  rw [← edgs_snoc]
  exact grow0 bx mp  4 (edgs l) (Edge.c ⟨f, s, x, t⟩) rfl (by rw [edgs_length]; exact hm)
@[go_sem] theorem grow1i (bx : List (Nat × List V)) (mp : List (List (PV × PV))) (a : Arr) (l : List Int) (x : Int) (hm : l.length + 1 ≤ 2147483648) :
    appendV ⟨bx, a :: grA 1 (ints l), mp⟩ 1 (grV 1 (ints l)) (.tl [[.int .i64 x]]) = some (grV 1 (ints (l ++ [x])), grT 1 1 (ints l) [.int .i64 x]) := by
  rw [grow1 bx mp a 1 (ints l) [.int .i64 x] rfl (by rw [ints_length]; exact hm), ints_snoc]
@[go_sem] theorem grow1e (bx : List (Nat × List V)) (mp : List (List (PV × PV))) (a : Arr) (l : List Edge) (f : Int) (s : Bool) (x t : Int) (hm : l.length + 1 ≤ 2147483648) :
    appendV ⟨bx, a :: grA 4 (edgs l), mp⟩ 4 (grV 1 (edgs l)) (.tl [[.int .i64 f, .bool s, .int .i64 x, .int .i64 t]]) = some (grV 1 (edgs (l ++ [⟨f, s, x, t⟩])), grT 1 4 (edgs l) (Edge.c ⟨f, s, x, t⟩)) := by
  rw [← edgs_snoc]
  exact grow1 bx mp a 4 (edgs l) (Edge.c ⟨f, s, x, t⟩) rfl (by rw [edgs_length]; exact hm)
@[go_sem] theorem grow2i (bx : List (Nat × List V)) (mp : List (List (PV × PV))) (a b : Arr) (l : List Int) (x : Int) (hm : l.length + 1 ≤ 2147483648) :
    appendV ⟨bx, a :: b :: grA 1 (ints l), mp⟩ 1 (grV 2 (ints l)) (.tl [[.int .i64 x]]) = some (grV 2 (ints (l ++ [x])), grT 2 1 (ints l) [.int .i64 x]) := by
  rw [grow2 bx mp a b 1 (ints l) [.int .i64 x] rfl (by rw [ints_length]; exact hm), ints_snoc]
@[go_sem] theorem grow2e (bx : List (Nat × List V)) (mp : List (List (PV × PV))) (a b : Arr) (l : List Edge) (f : Int) (s : Bool) (x t : Int) (hm : l.length + 1 ≤ 2147483648) :
    appendV ⟨bx, a :: b :: grA 4 (edgs l), mp⟩ 4 (grV 2 (edgs l)) (.tl [[.int .i64 f, .bool s, .int .i64 x, .int .i64 t]]) = some (grV 2 (edgs (l ++ [⟨f, s, x, t⟩])), grT 2 4 (edgs l) (Edge.c ⟨f, s, x, t⟩)) := by
  rw [← edgs_snoc]
  exact grow2 bx mp a b 4 (edgs l) (Edge.c ⟨f, s, x, t⟩) rfl (by rw [edgs_length]; exact hm)

/-- Truth values, each a row. -/
def bools (l : List Bool) : List (List PV) := l.map fun b => [.bool b]
@[go_sem] theorem bools_length (l : List Bool) : (bools l).length = l.length := by simp [bools]
@[go_sem] theorem bools_get (l : List Bool) (i : Nat) : (bools l)[i]? = l[i]?.map fun b => [.bool b] := by simp [bools]
theorem bools_set (l : List Bool) (i : Nat) (b : Bool) : (bools l).set i [.bool b] = bools (l.set i b) := by simp [bools, List.map_set]
@[go_sem] theorem bools_store {id row ver : Nat} {b : Bool} {l : List Bool} (h1 : row < l.length) : storeRow id row 0 [.pv (.bool b)] ⟨ver, 1, .inl (bools l)⟩ = some { ar := some (id, ⟨ver, 1, .inl (bools (l.set row b))⟩) } := by
  rw [storeRow_one (by rw [bools_length]; exact h1) rfl (.inr ⟨.bool l[row], by simp [bools, h1]⟩) rfl, bools_set]
@[go_sem] theorem bools_made (n : Nat) (b : Bool) : sameRows n [.pv (.bool b)] = .inl (bools (List.replicate n b)) := by
  simp [sameRows, mapO, V.purec, PV.perm, bools]

end Go.Pv

/-
  The law of the errors of automata.
-/
namespace Go.Pv

theorem r91 : res A PrA 91 [] = some [.bool true] := res_some.2 ⟨4000, by kernel_rfl⟩

end Go.Pv

/-
  Next states.
-/
namespace Go.Pv

/-- The next state of the first edge that fits. -/
def nextE (s : Int) (d : Bool) (x : Int) : List Edge → Option Int
  | [] => none
  | e :: r => if e.fr = s ∧ e.send = d ∧ e.label = x then some e.to else nextE s d x r

@[go_sem] theorem r45 (t : Nat) (a : Auto) (s : Int) (d : Bool) (x : Int) (hl : a.edges.length ≤ 2 ^ 63 - 1) :
    res A PrA 45 [.agg [.int .i64 a.states, .int .i64 a.start, .lst t (a.edges.map Edge.c)], .int .i64 s, .bool d, .int .i64 x] = some [.int .i64 ((nextE s d x a.edges).getD 0), .bool (nextE s d x a.edges).isSome] := by
  refine res_of a45 rfl rfl ?_
  simp only [F45]
  simp (disch := omega) only [go_sem]
  refine W.upto a.edges.length (fun k => ⟨[(1, .pv (.int .i64 s)), (2, .pv (.bool d)), (3, .pv (.int .i64 x)), (13, .pv (.lst t (a.edges.map Edge.c))), (14, .pv (.int .i64 a.edges.length)), (15, .pv (.int .i64 k))], ⟨[], [], []⟩⟩) (fun k => nextE s d x a.edges = nextE s d x (a.edges.drop k)) rfl rfl fun k hk hi => ?_
  simp (disch := omega) only [go_sem]
  refine Br.ofP (fun h => ?_) (fun h => ?_)
  · obtain ⟨e, he⟩ := get_at (l := a.edges) (k := k) (by omega)
    rw [drop_at he] at hi
    have no : ¬ (e.fr = s ∧ e.send = d ∧ e.label = x) → nextE s d x a.edges = nextE s d x (a.edges.drop (k + 1)) := fun hn => hi.trans (by simp only [nextE, if_neg hn])
    have yes : (e.fr = s ∧ e.send = d ∧ e.label = x) → nextE s d x a.edges = some e.to := fun hn => hi.trans (by simp only [nextE, if_pos hn])
    simp (disch := omega) only [go_sem, he]
    refine Br.ofP (fun g1 => ?_) (fun g1 => ?_) <;> simp (disch := omega) only [go_sem, g1]
    · refine Br.ofP (fun g2 => ?_) (fun g2 => ?_) <;> simp (disch := omega) only [go_sem, g2]
      · refine Br.ofP (fun g3 => ?_) (fun g3 => ?_) <;> simp (disch := omega) only [go_sem, g3]
        · rw [yes ⟨g1, g2, g3⟩]
          rfl
        · exact .of (by omega) rfl (no (fun hn => g3 hn.2.2))
      · exact .of (by omega) rfl (no (fun hn => g2 hn.2.1))
    · exact .of (by omega) rfl (no (fun hn => g1 hn.1))
  · simp (disch := omega) only [go_sem]
    rw [hi, drop_end h]
    rfl

@[go_sem] theorem r39 (t : Nat) (a : Auto) (s : Int) (d : Bool) (x : Int) (hl : a.edges.length ≤ 2 ^ 63 - 1) :
    res A PrA 39 [.agg [.int .i64 a.states, .int .i64 a.start, .lst t (a.edges.map Edge.c)], .int .i64 s, .bool d, .int .i64 x] = some [.int .i64 ((nextE s d x a.edges).getD 0), .bool (nextE s d x a.edges).isSome] := by
  refine res_of a39 rfl rfl ?_
  simp only [F39]
  simp (disch := omega) only [go_sem]
  refine W.upto a.edges.length (fun k => ⟨[(1, .pv (.int .i64 s)), (2, .pv (.bool d)), (3, .pv (.int .i64 x)), (4, .ptr 4 0), (10, .pv (.int .i64 k))], ⟨[(4, [.pv (.int .i64 a.states), .pv (.int .i64 a.start), .pv (.lst t (a.edges.map Edge.c))])], [], []⟩⟩) (fun k => nextE s d x a.edges = nextE s d x (a.edges.drop k)) rfl rfl fun k hk hi => ?_
  simp (disch := omega) only [go_sem]
  refine Br.ofP (fun h => ?_) (fun h => ?_)
  · obtain ⟨e, he⟩ := get_at (l := a.edges) (k := k) (by omega)
    rw [drop_at he] at hi
    have no : ¬ (e.fr = s ∧ e.send = d ∧ e.label = x) → nextE s d x a.edges = nextE s d x (a.edges.drop (k + 1)) := fun hn => hi.trans (by simp only [nextE, if_neg hn])
    have yes : (e.fr = s ∧ e.send = d ∧ e.label = x) → nextE s d x a.edges = some e.to := fun hn => hi.trans (by simp only [nextE, if_pos hn])
    simp (disch := omega) only [go_sem, he]
    refine Br.ofP (fun g1 => ?_) (fun g1 => ?_) <;> simp (disch := omega) only [go_sem, g1]
    · refine Br.ofP (fun g2 => ?_) (fun g2 => ?_) <;> simp (disch := omega) only [go_sem, g2]
      · refine Br.ofP (fun g3 => ?_) (fun g3 => ?_) <;> simp (disch := omega) only [go_sem, g3]
        · rw [yes ⟨g1, g2, g3⟩]
          rfl
        · exact .of (by omega) rfl (no (fun hn => g3 hn.2.2))
      · exact .of (by omega) rfl (no (fun hn => g2 hn.2.1))
    · exact .of (by omega) rfl (no (fun hn => g1 hn.1))
  · simp (disch := omega) only [go_sem]
    rw [hi, drop_end h]
    rfl
end Go.Pv

/-
  Ends.
-/
namespace Go.Pv


/-- No edge leaves the state. -/
def isEnd (s : Int) : List Edge → Bool
  | [] => true
  | e :: r => if e.fr = s then false else isEnd s r

/-- The ends below a number. -/
def endsTo (es : List Edge) : Nat → List Int
  | 0 => []
  | k + 1 => if isEnd k es then endsTo es k ++ [(k : Int)] else endsTo es k
theorem endsTo_len (es : List Edge) : ∀ k, (endsTo es k).length ≤ k
  | 0 => Nat.le_refl _
  | k + 1 => by
    have := endsTo_len es k
    unfold endsTo
    split <;> simp <;> omega
def Auto.ends (a : Auto) : List Int := if a.states ≤ 12 then endsTo a.edges a.states.toNat else []

/-- Which states an edge among the first ones leaves. -/
def busyTo (n : Nat) (es : List Edge) : Nat → List Bool
  | 0 => List.replicate n false
  | k + 1 => match es[k]? with
    | some e => if 0 ≤ e.fr ∧ e.fr < n then (busyTo n es k).set e.fr.toNat true else busyTo n es k
    | none => busyTo n es k
theorem busyTo_len (n : Nat) (es : List Edge) : ∀ k, (busyTo n es k).length = n
  | 0 => by simp [busyTo]
  | k + 1 => by
    have := busyTo_len n es k
    unfold busyTo
    split
    · split <;> simp [this]
    · exact this
theorem isEnd_snoc (s : Int) (e : Edge) : ∀ l : List Edge, isEnd s (l ++ [e]) = (isEnd s l && !decide (e.fr = s))
  | [] => by by_cases h : e.fr = s <;> simp [isEnd, h]
  | d :: l => by
    simp only [List.cons_append, isEnd]
    rw [isEnd_snoc s e l]
    split <;> simp
theorem busyTo_get (n : Nat) (es : List Edge) : ∀ k, k ≤ es.length → ∀ s, s < n → (busyTo n es k)[s]? = some (!isEnd s (es.take k))
  | 0, _, s, hs => by simp [busyTo, isEnd, hs]
  | k + 1, hk, s, hs => by
    have ih := busyTo_get n es k (by omega) s hs
    have hlen := busyTo_len n es k
    obtain ⟨e, he⟩ : ∃ e, es[k]? = some e := ⟨es[k], by simp⟩
    have ht : es.take (k + 1) = es.take k ++ [e] := by rw [List.take_add_one, he]; rfl
    rw [ht, isEnd_snoc]
    simp only [busyTo, he]
    by_cases h : e.fr = (s : Int)
    · rw [if_pos (by omega), h]
      simp [List.getElem?_set, hlen, hs]
    · by_cases h2 : 0 ≤ e.fr ∧ e.fr < n
      · rw [if_pos h2, List.getElem?_set_ne (by omega), ih]
        simp [h]
      · rw [if_neg h2, ih]
        simp [h]

@[go_sem] theorem r95 (t : Nat) (a : Auto) (hl : a.edges.length ≤ 2 ^ 63 - 1) :
    res A PrA 95 [.agg [.int .i64 a.states, .int .i64 a.start, .lst t (a.edges.map Edge.c)]] = some [.lst 0 (ints a.ends)] := by
  refine res_of a95 rfl rfl ?_
  simp only [F95]
  simp (disch := omega) only [go_sem]
  refine Br.ofP (fun h1 => ?_) (fun h1 => ?_) <;> simp (disch := omega) only [go_sem, h1]
  · have : a.ends = [] := by
      unfold Auto.ends
      rw [if_pos (by omega), show a.states.toNat = 0 by omega]
      rfl
    rw [this]
    rfl
  refine Br.ofP (fun h2 => ?_) (fun h2 => ?_) <;> simp (disch := omega) only [go_sem, h2]
  · have : a.ends = [] := if_neg (by omega)
    rw [this]
    rfl
  have he : a.ends = endsTo a.edges a.states.toNat := if_pos (by omega)
  rw [he]
  refine W.upto a.edges.length (fun k => ⟨[(1, .ptr 1 0), (3, .own 0 0 0 a.states.toNat), (21, .pv (.lst t (a.edges.map Edge.c))), (22, .pv (.int .i64 a.edges.length)), (23, .pv (.int .i64 k))], ⟨[(1, [.pv (.int .i64 a.states), .pv (.int .i64 a.start), .pv (.lst t (a.edges.map Edge.c))])], [⟨0, 1, .inl (bools (busyTo a.states.toNat a.edges k))⟩], []⟩⟩) (fun _ => True) rfl trivial fun k hk hi => ?_
  have hbl := busyTo_len a.states.toNat a.edges k
  simp (disch := omega) only [go_sem]
  refine Br.ofP (fun h => ?_) (fun h => ?_)
  · obtain ⟨e, hke⟩ := get_at (l := a.edges) (k := k) (by omega)
    have hb : busyTo a.states.toNat a.edges (k + 1) = if 0 ≤ e.fr ∧ e.fr < a.states.toNat then (busyTo a.states.toNat a.edges k).set e.fr.toNat true else busyTo a.states.toNat a.edges k := by simp only [busyTo, hke]
    simp (disch := omega) only [go_sem, hke]
    refine Br.ofP (fun g1 => ?_) (fun g1 => ?_) <;> simp (disch := omega) only [go_sem, g1]
    · refine Br.ofP (fun g2 => ?_) (fun g2 => ?_) <;> simp (disch := omega) only [go_sem, g2]
      · refine .of (by omega) ?_ trivial
        show _ = St.mk _ _
        rw [hb, if_pos (by omega)]
        rfl
      · refine .of (by omega) ?_ trivial
        show _ = St.mk _ _
        rw [hb, if_neg (by omega)]
        rfl
    · refine .of (by omega) ?_ trivial
      show _ = St.mk _ _
      rw [hb, if_neg (by omega)]
      rfl
  obtain rfl : k = a.edges.length := by omega
  have hget := fun s hs => busyTo_get a.states.toNat a.edges a.edges.length (Nat.le_refl _) s hs
  simp only [List.take_length] at hget
  generalize busyTo a.states.toNat a.edges a.edges.length = bs at hbl hget
  simp (disch := omega) only [go_sem]
  refine W.upto a.states.toNat (fun k => ⟨[(6, grV 1 (ints (endsTo a.edges k))), (42, .own 0 0 0 a.states.toNat), (43, .pv (.int .i64 a.states.toNat)), (44, .pv (.int .i64 k))], ⟨[], ⟨0, 1, .inl (bools bs)⟩ :: grA 1 (ints (endsTo a.edges k)), []⟩⟩) (fun _ => True) rfl trivial fun k hk hi => ?_
  have hle := endsTo_len a.edges k
  simp (disch := omega) only [go_sem]
  refine Br.ofP (fun g => ?_) (fun g => ?_)
  · have hx := hget k (by omega)
    simp (disch := omega) only [go_sem, hx]
    refine Br.of (fun g2 => ?_) (fun g2 => ?_) <;> simp (disch := omega) only [go_sem]
    · refine .of (by omega) ?_ trivial
      simp only [endsTo, g2, if_true]
      rfl
    · refine .of (by omega) ?_ trivial
      simp only [endsTo, g2]
      rfl
  · obtain rfl : k = a.states.toNat := by omega
    simp (disch := omega) only [go_sem]

end Go.Pv

/-
  Places of numbers in lists; labels.
-/
namespace Go.Pv

/-- The first place of a number behind k places, or -1. -/
def atFrom (x : Int) : Nat → List Int → Int
  | _, [] => -1
  | k, y :: r => if y = x then k else atFrom x (k + 1) r
def atL (x : Int) (l : List Int) : Int := atFrom x 0 l

@[go_sem] theorem r53 (t : Nat) (l : List Int) (x : Int) (hl : l.length ≤ 2 ^ 63 - 1) : res A PrA 53 [.lst t (ints l), .int .i64 x] = some [.int .i64 (atL x l)] := by
  refine res_of a53 rfl rfl ?_
  simp only [F53]
  simp (disch := omega) only [go_sem]
  refine W.upto l.length (fun k => ⟨[(0, .pv (.lst t (ints l))), (1, .pv (.int .i64 x)), (5, .pv (.int .i64 k))], ⟨[], [], []⟩⟩) (fun k => atL x l = atFrom x k (l.drop k)) rfl rfl fun k hk hi => ?_
  simp (disch := omega) only [go_sem]
  refine Br.ofP (fun h => ?_) (fun h => ?_)
  · obtain ⟨y, hy⟩ := get_at (l := l) (k := k) (by omega)
    rw [drop_at hy] at hi
    simp (disch := omega) only [go_sem, hy]
    refine Br.ofP (fun g1 => ?_) (fun g1 => ?_) <;> simp (disch := omega) only [go_sem, g1]
    · rw [hi]
      simp only [atFrom, if_pos g1]
    · exact .of (by omega) rfl (hi.trans (by simp only [atFrom, if_neg g1]))
  · simp (disch := omega) only [go_sem]
    rw [hi, drop_end h]
    rfl

/-- The place to which a number moves down from the end. -/
def bubI (x : Int) (l : List Int) : Nat → Nat
  | 0 => 0
  | p + 1 => if x < l.getD p 0 then bubI x l p else p + 1
def putI (x : Int) (l : List Int) (p : Nat) : List Int := l.take p ++ x :: l.drop p
def insI (x : Int) (l : List Int) : List Int := putI x l (bubI x l l.length)
theorem putI_len (x : Int) (l : List Int) (p : Nat) (h : p ≤ l.length) : (putI x l p).length = l.length + 1 := by simp [putI]; omega

theorem putI_at (x : Int) (l : List Int) (p : Nat) (h : p ≤ l.length) : (putI x l p)[p]? = some x := by
  unfold putI
  rw [List.getElem?_append_right (by simp; omega)]
  simp [Nat.min_eq_left h]
theorem putI_below (x : Int) (l : List Int) (p : Nat) (h : p < l.length) : (putI x l (p + 1))[p]? = some (l.getD p 0) := by
  unfold putI
  rw [List.getElem?_append_left (by simp; omega), List.getElem?_take, if_pos (by omega)]
  simp [h]
theorem putI_down (x : Int) (l : List Int) (p : Nat) (h : p < l.length) : ((putI x l (p + 1)).set (p + 1) (l.getD p 0)).set p x = putI x l p := by
  apply List.ext_getElem?
  intro i
  have h1 := putI_len x l (p + 1) (by omega)
  have h2 := putI_len x l p (by omega)
  by_cases ip : i = p
  · subst ip
    rw [putI_at x l i (by omega), List.getElem?_set_self (by simp [h1]; omega)]
  · rw [List.getElem?_set_ne (Ne.symm ip)]
    by_cases iq : i = p + 1
    · subst iq
      rw [List.getElem?_set_self (by rw [h1]; omega)]
      unfold putI
      rw [List.getElem?_append_right (by simp; omega)]
      simp [Nat.min_eq_left (Nat.le_of_lt h), h]
    · rw [List.getElem?_set_ne (Ne.symm iq)]
      unfold putI
      rcases Nat.lt_or_ge i p with hi | hi
      · rw [List.getElem?_append_left (by simp; omega), List.getElem?_append_left (by simp; omega), List.getElem?_take, List.getElem?_take, if_pos (by omega), if_pos hi]
      · rw [List.getElem?_append_right (by simp; omega), List.getElem?_append_right (by simp; omega)]
        obtain ⟨q, rfl⟩ : ∃ q, i = p + 2 + q := ⟨i - (p + 2), by omega⟩
        simp only [List.length_take, Nat.min_eq_left (Nat.le_of_lt h), Nat.min_eq_left (Nat.succ_le_of_lt h)]
        rw [show p + 2 + q - (p + 1) = q + 1 by omega, show p + 2 + q - p = q + 2 by omega]
        simp only [List.getElem?_cons_succ, List.getElem?_drop]
        congr 1
        omega

/-- The labels with a direction among the first edges. -/
def labTo (d : Bool) (es : List Edge) : Nat → List Int
  | 0 => []
  | k + 1 => match es[k]? with
    | some e => if e.send ≠ d ∨ 0 ≤ atL e.label (labTo d es k) then labTo d es k else insI e.label (labTo d es k)
    | none => labTo d es k
theorem bubI_le (x : Int) (l : List Int) : ∀ q, bubI x l q ≤ q
  | 0 => Nat.le_refl _
  | q + 1 => by
    have := bubI_le x l q
    unfold bubI
    split <;> omega
theorem insI_len (x : Int) (l : List Int) : (insI x l).length = l.length + 1 := putI_len x l _ (bubI_le x l _)
theorem labTo_len (d : Bool) (es : List Edge) : ∀ k, (labTo d es k).length ≤ k
  | 0 => Nat.le_refl _
  | k + 1 => by
    have := labTo_len d es k
    unfold labTo
    split
    · split
      · omega
      · rw [insI_len]
        omega
    · omega

end Go.Pv

/-
  Labels.
-/
namespace Go.Pv

end Go.Pv

/-
  slices.Compact of numbers that the caller gives away.
-/
namespace Go.Pv

/-- No two neighbours alike. -/
def cmpct : List Int → List Int
  | [] => []
  | [x] => [x]
  | x :: y :: r => if x = y then cmpct (y :: r) else x :: cmpct (y :: r)

@[go_sem] theorem ownIds_one (a b c d : Nat) : distinct (ownIds [.own a b c d]) = true := rfl
@[go_sem] theorem fresh_ints (bx : List (Nat × List V)) (mp : List (List (PV × PV))) (ar : List Arr) (v n : Nat) (l : List Int) : keep ⟨bx, ⟨v, 1, .inl (ints l)⟩ :: ar, mp⟩ true (.own 0 v 0 n) = some (.fr 1 (ints (l.take n))) := by
  simp [keep, freshc, ownArr, ints]

@[go_sem] theorem clr_ints (bx : List (Nat × List V)) (mp : List (List (PV × PV))) (ar : List Arr) (v off len : Nat) (l : List Int) (h : off + len ≤ l.length) : clrV ⟨bx, ⟨v, 1, .inl (ints l)⟩ :: ar, mp⟩ 1 [.pv (.int .i64 0)] (.own 0 v off len) =
    some (.tup [], { ar := some (0, ⟨v, 1, .inl (ints (l.take off ++ List.replicate len 0 ++ l.drop (off + len)))⟩) }) := by
  simp [clrV, ownArr, mapO, V.purec, PV.perm, ints, h]

theorem r104_small (l : List Int) (h1 : l.length < 2) : res A PrA 104 [.fr 1 (ints l)] = some [.fr 1 (ints l)] := by
  refine res_of a104 rfl rfl ?_
  simp only [F104]
  have h2 : ((l.length : Nat) : Int) < 2 := by omega
  simp (disch := omega) only [go_sem, h2, List.take_length]

theorem cmpct_step (l : List Int) (x y : Int) (k : Nat) (hx : l[k]? = some x) (hy : l[k + 1]? = some y) : cmpct (l.take (k + 2)) = if x = y then cmpct (l.take (k + 1)) else cmpct (l.take (k + 1)) ++ [y] := by
  induction l generalizing k with
  | nil => simp at hx
  | cons z l ih =>
    cases k with
    | zero =>
      simp at hx hy
      subst hx
      match l, hy with
      | w :: r, hy =>
        simp at hy
        subst hy
        simp only [Nat.zero_add, List.take_succ_cons, List.take_zero, cmpct]
        split
        · rename_i hzw
          rw [hzw]
        · rfl
    | succ k =>
      simp at hx hy
      have := ih k hx hy
      match l, hx with
      | w :: r, hx =>
        simp only [List.take_succ_cons, cmpct] at this ⊢
        split
        · exact this
        · rw [this]
          split <;> simp

theorem set_put (c l : List Int) (v : Int) (h : c.length < l.length) : (c ++ l.drop c.length).set c.length v = (c ++ [v]) ++ l.drop (c ++ [v]).length := by
  rw [List.set_append_right _ _ (Nat.le_refl _), Nat.sub_self, List.append_assoc]
  have : (c ++ [v]).length = c.length + 1 := by simp
  rw [this, List.drop_eq_getElem_cons h]
  rfl

theorem r104_big (l : List Int) (h1 : 2 ≤ l.length) (h0 : l.length ≤ 2000000000) : res A PrA 104 [.fr 1 (ints l)] = some [.fr 1 (ints (cmpct l))] := by
  refine res_of a104 rfl rfl ?_
  simp only [F104]
  have h2 : ¬ ((l.length : Nat) : Int) < 2 := by omega
  simp (disch := omega) only [go_sem, h2]
  refine W.upto (l.length - 1) (fun j => ⟨[(0, .own 0 0 0 l.length), (3, .pv (.int .i64 (j + 1 : Nat)))], ⟨[], [⟨0, 1, .inl (ints l)⟩], []⟩⟩) (fun j => cmpct (l.take (j + 1)) = l.take (j + 1)) rfl ?_ fun j hj hi => ?_
  · match l, h1 with
    | x :: r, _ => rfl
  have e1 : ((j + 1 : Nat) : Int) - 1 = (j : Int) := by omega
  simp (disch := omega) only [go_sem, e1]
  refine Br.ofP (fun h => ?_) (fun h => ?_)
  · obtain ⟨x, hx⟩ := get_at (l := l) (k := j) (by omega)
    obtain ⟨y, hy⟩ := get_at (l := l) (k := j + 1) (by omega)
    have hs := cmpct_step l x y j hx hy
    simp (disch := omega) only [go_sem, e1, hx, hy]
    refine Br.ofP (fun g => ?_) (fun g => ?_)
    case refine_2 =>
      simp (disch := omega) only [go_sem, g]
      refine .of (by omega) rfl ?_
      rw [hs, if_neg (fun hc => g hc.symm), hi, List.take_add_one (i := j + 1), hy]
      rfl
    simp (disch := omega) only [go_sem, g]
    have hc0 : cmpct (l.take (j + 2)) = l.take (j + 1) := by rw [hs, if_pos g.symm, hi]
    refine W.upto (l.length - (j + 2)) (fun i => ⟨[(0, .own 0 0 0 l.length), (3, .pv (.int .i64 (cmpct (l.take (j + 2 + i))).length)), (4, .own 0 0 (j + 1) (l.length - (j + 1))), (5, .pv (.int .i64 (i + 1 : Nat)))], ⟨[], [⟨0, 1, .inl (ints (cmpct (l.take (j + 2 + i)) ++ l.drop (cmpct (l.take (j + 2 + i))).length))⟩], []⟩⟩)
      (fun i => (cmpct (l.take (j + 2 + i))).length ≤ j + 1 + i) ?_ ?_ fun i hj2 hw => ?_
    · simp only [Nat.add_zero, hc0, List.length_take]
      rw [Nat.min_eq_left (by omega), List.take_append_drop]
      rfl
    · simp only [Nat.add_zero, hc0, List.length_take]
      omega
    have hkeep : ∀ q, (cmpct (l.take (j + 2 + i))).length ≤ q → (cmpct (l.take (j + 2 + i)) ++ l.drop (cmpct (l.take (j + 2 + i))).length)[q]? = l[q]? := fun q hq => by
      rw [List.getElem?_append_right hq, List.getElem?_drop]
      congr 1
      omega
    simp (disch := omega) only [go_sem]
    refine Br.ofP (fun f => ?_) (fun f => ?_)
    · obtain ⟨u, hu⟩ := get_at (l := l) (k := j + 1 + i) (by omega)
      obtain ⟨v, hv⟩ := get_at (l := l) (k := j + 1 + i + 1) (by omega)
      have hst := cmpct_step l u v (j + 1 + i) hu hv
      have k1 := (hkeep (j + 1 + i) hw).trans hu
      have k2 := (hkeep (j + 1 + i + 1) (by omega)).trans hv
      have e3 : ((i + 1 : Nat) : Int) - 1 = (i : Int) := by omega
      have e4 : j + 1 + (i + 1) = j + 1 + i + 1 := by omega
      have e5 : j + 1 + i + 2 = j + 2 + (i + 1) := by omega
      have e6 : j + 1 + i + 1 = j + 2 + i := by omega
      rw [e5, e6] at hst
      simp (disch := omega) only [go_sem, e3, e4, k1, k2]
      refine Br.ofP (fun g3 => ?_) (fun g3 => ?_)
      · simp (disch := omega) only [go_sem, g3]
        rw [if_pos g3.symm] at hst
        refine .of (by omega) ?_ ?_
        · show _ = St.mk _ _
          rw [hst]
          rfl
        · show (cmpct _).length ≤ _
          rw [hst]
          omega
      · have hln : (cmpct (l.take (j + 2 + i)) ++ l.drop (cmpct (l.take (j + 2 + i))).length).length = l.length := by simp; omega
        rw [if_neg (fun hc => g3 hc.symm)] at hst
        simp (disch := omega) only [go_sem, g3, e3, e4, k1, k2]
        refine .of (by omega) ?_ ?_
        · show _ = St.mk _ _
          rw [hst, set_put _ _ _ (by omega), List.length_append]
          rfl
        · show (cmpct _).length ≤ _
          rw [hst, List.length_append]
          simp
          omega
    · have hln : (cmpct (l.take (j + 2 + i)) ++ l.drop (cmpct (l.take (j + 2 + i))).length).length = l.length := by simp; omega
      have hall : cmpct (l.take (j + 2 + i)) = cmpct l := by rw [List.take_of_length_le (by omega)]
      rw [hall] at hln hw ⊢
      simp (disch := omega) only [go_sem]
      rw [List.append_assoc, List.take_append_of_le_length (by simp), List.take_take, Nat.min_self, List.take_append_of_le_length (Nat.le_refl _), List.take_length]
  · simp (disch := omega) only [go_sem]
    rw [List.take_of_length_le (by omega)] at hi
    rw [List.take_length, hi]

end Go.Pv

/-
  Appending to arrays that are given in full; two lists of numbers that grow side by side.
-/
namespace Go.Pv

def apI (id ver off len : Nat) (x : Int) (a : Arr) : Option (V × Tn) :=
  if off + len = a.size ∧ a.k = 1 ∧ len + 1 ≤ mostRows then some (.own id (ver + 1) 0 (len + 1), { ar := some (id, ⟨ver + 1, 1, catRows (cutRows off len a.body) (.inl [[.int .i64 x]])⟩) }) else none
@[go_sem] theorem app_own (h : Heap) (id ver off len : Nat) (x : Int) : appendV h 1 (.own id ver off len) (.tl [[.int .i64 x]]) = (ownArr h id ver).bind (apI id ver off len x) := by
  cases ho : ownArr h id ver with
  | none => simp [appendV, srcRows, rowsFit, ho]
  | some a =>
    simp only [appendV, srcRows, rowsFit, ho, rowsLen, apI, List.all_cons, List.all_nil, List.length_cons, List.length_nil, Option.bind_some]
    by_cases h1 : off + len = a.size <;> by_cases h2 : a.k = 1 <;> by_cases h3 : len + 1 ≤ mostRows <;> simp [h1, h2, h3]
@[go_sem] theorem apI_ok {id ver len : Nat} {x : Int} {l : List Int} (h1 : len = l.length) (h2 : l.length + 1 ≤ 2147483648) : apI id ver 0 len x ⟨ver, 1, .inl (ints l)⟩ = some (.own id (ver + 1) 0 (len + 1), { ar := some (id, ⟨ver + 1, 1, .inl (ints (l ++ [x]))⟩) }) := by
  subst h1
  unfold apI
  rw [if_pos ⟨by simp [Arr.size, ints], rfl, h2⟩]
  have : List.take l.length (List.map (fun x => [PV.int IntKind.i64 x]) l) = List.map (fun x => [PV.int IntKind.i64 x]) l := List.take_of_length_le (by simp)
  simp [catRows, cutRows, ints, this]
@[go_sem] theorem app_tl (h : Heap) (x : Int) : appendV h 1 (.tl []) (.tl [[.int .i64 x]]) = some (.own h.ar.length 0 0 1, { push := [⟨0, 1, .inl (ints [x])⟩], base := h.ar.length }) := by
  simp [appendV, srcRows, rowsFit, rowsLen, mostRows, catRows, ints]

end Go.Pv

/-
  Loops over lists: folds and searches.
-/
namespace Go.Pv
variable {A : Nat → Option AFunc} {Pr : Prims}

/-- What a round of a fold comes to. -/
def foldK {σ : Type} (S : Nat → σ → St) (I : Nat → σ → Prop) (k : Nat) (acc : σ) (Q : Ex → St → Prop) (_t : Tie (S, I, k, acc, Q) := .mk) : Ex → St → Prop
  | .normal, s => s = S k acc ∧ I k acc
  | .exit i, s => Q (.exit i) s
  | .ret, s => Q .ret s
@[congr] theorem foldK_congr {σ : Type} {S : Nat → σ → St} {I : Nat → σ → Prop} {k : Nat} {acc : σ} {Q : Ex → St → Prop} {e e' : Ex} {s s' : St} (he : e = e') (hs : s = s') : foldK S I k acc Q .mk e s = foldK S I k acc Q .mk e' s' := by rw [he, hs]
@[go_sem] theorem foldK_exit {σ : Type} (S : Nat → σ → St) (I : Nat → σ → Prop) (k : Nat) (acc : σ) (Q : Ex → St → Prop) (i : Nat) (s : St) : foldK S I k acc Q .mk (.exit i) s = Q (.exit i) s := rfl
@[go_sem] theorem foldK_ret {σ : Type} (S : Nat → σ → St) (I : Nat → σ → Prop) (k : Nat) (acc : σ) (Q : Ex → St → Prop) (s : St) : foldK S I k acc Q .mk .ret s = Q .ret s := rfl
theorem foldK.of {σ : Type} {S : Nat → σ → St} {I : Nat → σ → Prop} {k : Nat} {acc : σ} {Q : Ex → St → Prop} {s : St} (h : s = S k acc) (h2 : I k acc) : foldK S I k acc Q .mk .normal s := ⟨h, h2⟩

/-- The end of a loop: no more rounds. -/
def exitK (Q : Ex → St → Prop) (_t : Tie Q := .mk) : Ex → St → Prop
  | .normal, _ => False
  | .exit i, s => Q (.exit i) s
  | .ret, s => Q .ret s
@[congr] theorem exitK_congr {Q : Ex → St → Prop} {e e' : Ex} {s s' : St} (he : e = e') (hs : s = s') : exitK Q .mk e s = exitK Q .mk e' s' := by rw [he, hs]
@[go_sem] theorem exitK_exit (Q : Ex → St → Prop) (i : Nat) (s : St) : exitK Q .mk (.exit i) s = Q (.exit i) s := rfl
@[go_sem] theorem exitK_ret (Q : Ex → St → Prop) (s : St) : exitK Q .mk .ret s = Q .ret s := rfl

/-- A loop over a list that folds. -/
theorem W.fold {σ α : Type} {a : AC} {s : St} {Q : Ex → St → Prop} (l : List α) (f : σ → α → σ) (x0 : σ) (S : Nat → σ → St) (I : Nat → σ → Prop) (hs : s = S 0 x0) (h0 : I 0 x0)
    (hr : ∀ k x acc, l[k]? = some x → k < l.length → acc = (l.take k).foldl f x0 → I k acc → W A Pr a (S k acc) (foldK S I (k + 1) (f acc x) Q))
    (he : ∀ acc, acc = l.foldl f x0 → I l.length acc → W A Pr a (S l.length acc) (exitK Q)) : W A Pr (.loop a) s Q := by
  refine W.upto l.length (fun k => S k ((l.take k).foldl f x0)) (fun k => I k ((l.take k).foldl f x0)) (by simpa using hs) (by simpa using h0) fun k hk hi => ?_
  rcases Nat.lt_or_ge k l.length with h | h
  · obtain ⟨x, hx⟩ : ∃ x, l[k]? = some x := ⟨l[k], by simp [h]⟩
    obtain ⟨ex, s', h1, h2⟩ := hr k x _ hx h rfl hi
    have ht : (l.take (k + 1)).foldl f x0 = f ((l.take k).foldl f x0) x := by rw [List.take_add_one, hx]; simp [List.foldl_append]
    refine ⟨ex, s', h1, ?_⟩
    cases ex with
    | normal => exact .of h (by rw [ht]; exact h2.1) (by rw [ht]; exact h2.2)
    | exit i => exact h2
    | ret => exact h2
  · obtain rfl : k = l.length := by omega
    rw [List.take_length] at hi ⊢
    obtain ⟨ex, s', h1, h2⟩ := he _ rfl hi
    refine ⟨ex, s', h1, ?_⟩
    cases ex with
    | normal => exact h2.elim
    | exit i => exact h2
    | ret => exact h2

/-- A loop that counts, and folds. -/
theorem W.foldN {σ : Type} {a : AC} {s : St} {Q : Ex → St → Prop} (n : Nat) (f : σ → Nat → σ) (x0 : σ) (S : Nat → σ → St) (I : Nat → σ → Prop) (hs : s = S 0 x0) (h0 : I 0 x0)
    (hr : ∀ k acc, k < n → acc = (List.range k).foldl f x0 → I k acc → W A Pr a (S k acc) (foldK S I (k + 1) (f acc k) Q))
    (he : ∀ acc, acc = (List.range n).foldl f x0 → I n acc → W A Pr a (S n acc) (exitK Q)) : W A Pr (.loop a) s Q := by
  refine W.fold (List.range n) f x0 S I hs h0 (fun k x acc hx hk ha hi => ?_) (fun acc ha hi => ?_)
  · rw [List.length_range] at hk
    rw [List.getElem?_range hk] at hx
    cases hx
    refine hr k acc hk ?_ hi
    rw [ha, List.take_range, Nat.min_eq_left (by omega)]
  · rw [List.length_range] at hi ⊢
    exact he acc ha hi

/-- What a round of a search comes to. -/
def findK (S : Nat → St) (k : Nat) (p : Bool) (Q : Ex → St → Prop) (_t : Tie (S, k, p, Q) := .mk) : Ex → St → Prop
  | .normal, s => p = false ∧ s = S k
  | .exit i, s => Q (.exit i) s
  | .ret, s => Q .ret s
@[congr] theorem findK_congr {S : Nat → St} {k : Nat} {p : Bool} {Q : Ex → St → Prop} {e e' : Ex} {s s' : St} (he : e = e') (hs : s = s') : findK S k p Q .mk e s = findK S k p Q .mk e' s' := by rw [he, hs]
@[go_sem] theorem findK_exit (S : Nat → St) (k : Nat) (p : Bool) (Q : Ex → St → Prop) (i : Nat) (s : St) : findK S k p Q .mk (.exit i) s = Q (.exit i) s := rfl
@[go_sem] theorem findK_ret (S : Nat → St) (k : Nat) (p : Bool) (Q : Ex → St → Prop) (s : St) : findK S k p Q .mk .ret s = Q .ret s := rfl
theorem findK.of {S : Nat → St} {k : Nat} {p : Bool} {Q : Ex → St → Prop} {s : St} (h : p = false) (h2 : s = S k) : findK S k p Q .mk .normal s := ⟨h, h2⟩

/-- Where a search stands. -/
structure Found {α : Type} (l : List α) (p : α → Bool) (k : Nat) (x : α) : Prop where
  any : l.any p = true
  all : l.all (fun y => !p y) = false
  find : l.find? p = some x
  idx : l.findIdx? p = some k
structure Nowhere {α : Type} (l : List α) (p : α → Bool) : Prop where
  any : l.any p = false
  all : l.all (fun y => !p y) = true
  find : l.find? p = none
  idx : l.findIdx? p = none

theorem found_of {α : Type} {l : List α} {p : α → Bool} {k : Nat} {x : α} (hb : ∀ j, j < k → ∀ y, l[j]? = some y → p y = false) (hx : l[k]? = some x) (hp : p x = true) : Found l p k x := by
  obtain ⟨hk, rfl⟩ := List.getElem?_eq_some_iff.1 hx
  have hi : l.findIdx? p = some k := by
    rw [List.findIdx?_eq_some_iff_getElem]
    exact ⟨hk, hp, fun j hj => by simpa using hb j hj _ (by rw [List.getElem?_eq_getElem (by omega)])⟩
  refine ⟨List.any_eq_true.2 ⟨_, List.getElem_mem hk, hp⟩, ?_, ?_, hi⟩
  · rw [List.all_eq_false]
    exact ⟨_, List.getElem_mem hk, by simp [hp]⟩
  · rw [List.find?_eq_some_iff_getElem]
    exact ⟨hp, k, hk, rfl, fun j hj => by simpa using hb j hj _ (by rw [List.getElem?_eq_getElem (by omega)])⟩

theorem nowhere_of {α : Type} {l : List α} {p : α → Bool} (hb : ∀ j, j < l.length → ∀ y, l[j]? = some y → p y = false) : Nowhere l p := by
  have hm : ∀ x ∈ l, p x = false := fun x hx => by
    obtain ⟨j, hj, rfl⟩ := List.getElem_of_mem hx
    exact hb j hj _ (by rw [List.getElem?_eq_getElem])
  exact ⟨by rw [List.any_eq_false]; intro x hx; simp [hm x hx], by rw [List.all_eq_true]; intro x hx; simp [hm x hx], by rw [List.find?_eq_none]; intro x hx; simp [hm x hx], by rw [List.findIdx?_eq_none_iff]; exact hm⟩

/-- A loop over a list that searches. -/
theorem W.find {α : Type} {a : AC} {s : St} {Q : Ex → St → Prop} (l : List α) (p : α → Bool) (S : Nat → St) (hs : s = S 0)
    (hr : ∀ k x, l[k]? = some x → k < l.length → (p x = true → Found l p k x) → W A Pr a (S k) (findK S (k + 1) (p x) Q))
    (he : Nowhere l p → W A Pr a (S l.length) (exitK Q)) : W A Pr (.loop a) s Q := by
  refine W.upto l.length S (fun k => ∀ j, j < k → ∀ y, l[j]? = some y → p y = false) hs (fun j hj => absurd hj (Nat.not_lt_zero _)) fun k hk hi => ?_
  rcases Nat.lt_or_ge k l.length with h | h
  · obtain ⟨x, hx⟩ : ∃ x, l[k]? = some x := ⟨l[k], by simp [h]⟩
    obtain ⟨ex, s', h1, h2⟩ := hr k x hx h (fun hp => found_of hi hx hp)
    refine ⟨ex, s', h1, ?_⟩
    cases ex with
    | normal =>
      refine .of h h2.2 fun j hj y hy => ?_
      rcases Nat.lt_or_ge j k with g | g
      · exact hi j g y hy
      · obtain rfl : j = k := by omega
        rw [hx] at hy
        cases hy
        exact h2.1
    | exit i => exact h2
    | ret => exact h2
  · obtain rfl : k = l.length := by omega
    obtain ⟨ex, s', h1, h2⟩ := he (nowhere_of hi)
    refine ⟨ex, s', h1, ?_⟩
    cases ex with
    | normal => exact h2.elim
    | exit i => exact h2
    | ret => exact h2

/-- One round, and the loop again. -/
def againK (A : Nat → Option AFunc) (Pr : Prims) (a : AC) (Q : Ex → St → Prop) (_t : Tie (a, Q) := .mk) : Ex → St → Prop
  | .normal, s => W A Pr (.loop a) s Q
  | .exit i, s => Q (.exit i) s
  | .ret, s => Q .ret s
@[congr] theorem againK_congr {a : AC} {Q : Ex → St → Prop} {e e' : Ex} {s s' : St} (he : e = e') (hs : s = s') : againK A Pr a Q .mk e s = againK A Pr a Q .mk e' s' := by rw [he, hs]
@[go_sem] theorem againK_normal (a : AC) (Q : Ex → St → Prop) (s : St) : againK A Pr a Q .mk .normal s = W A Pr (.loop a) s Q := rfl
@[go_sem] theorem againK_exit (a : AC) (Q : Ex → St → Prop) (i : Nat) (s : St) : againK A Pr a Q .mk (.exit i) s = Q (.exit i) s := rfl
@[go_sem] theorem againK_ret (a : AC) (Q : Ex → St → Prop) (s : St) : againK A Pr a Q .mk .ret s = Q .ret s := rfl
theorem W.once {a : AC} {s : St} {Q : Ex → St → Prop} (h : W A Pr a s (againK A Pr a Q)) : W A Pr (.loop a) s Q := by
  obtain ⟨ex, s', h1, h2⟩ := h
  cases ex with
  | normal =>
    obtain ⟨e2, s2, h3, h4⟩ := h2
    exact ⟨e2, s2, Runs.loop_step h1 h3, h4⟩
  | exit i => exact ⟨_, _, Runs.loop_out h1 (by simp), h2⟩
  | ret => exact ⟨_, _, Runs.loop_out h1 (by simp), h2⟩

end Go.Pv

/-
  Labels, as the program finds them.
-/
namespace Go.Pv

/-- Two lists that grow, by which came first. -/
inductive Two where
  | e
  | a (x : Int) (l : List Int)
  | b (x : Int) (l : List Int)
  | ab (x : Int) (l : List Int) (y : Int) (r : List Int)
  | ba (x : Int) (l : List Int) (y : Int) (r : List Int)

def ow (i : Nat) (l : List Int) : V := .own i l.length 0 (l.length + 1)
def ao (x : Int) (l : List Int) : Arr := ⟨l.length, 1, .inl (ints (x :: l))⟩
def Two.v0 : Two → V
  | .e | .b _ _ => .tl []
  | .a _ l | .ab _ l _ _ => ow 0 l
  | .ba _ l _ _ => ow 1 l
def Two.v1 : Two → V
  | .e | .a _ _ => .tl []
  | .b _ l | .ba _ _ _ l => ow 0 l
  | .ab _ _ _ r => ow 1 r
def Two.ar : Two → List Arr
  | .e => []
  | .a x l | .b x l => [ao x l]
  | .ab x l y r => [ao x l, ao y r]
  | .ba x l y r => [ao y r, ao x l]
def Two.l0 : Two → List Int
  | .e | .b _ _ => []
  | .a x l | .ab x l _ _ | .ba x l _ _ => x :: l
def Two.l1 : Two → List Int
  | .e | .a _ _ => []
  | .b x l | .ab _ _ x l | .ba _ _ x l => x :: l
def Two.put (s : Bool) (z : Int) : Two → Two
  | .e => if s then .b z [] else .a z []
  | .a x l => if s then .ab x l z [] else .a x (l ++ [z])
  | .b x l => if s then .b x (l ++ [z]) else .ba z [] x l
  | .ab x l y r => if s then .ab x l y (r ++ [z]) else .ab x (l ++ [z]) y r
  | .ba x l y r => if s then .ba x l y (r ++ [z]) else .ba x (l ++ [z]) y r

theorem Two.put_l0 (s : Bool) (z : Int) (t : Two) : (t.put s z).l0 = if s then t.l0 else t.l0 ++ [z] := by
  cases t <;> cases s <;> rfl
theorem Two.put_l1 (s : Bool) (z : Int) (t : Two) : (t.put s z).l1 = if s then t.l1 ++ [z] else t.l1 := by
  cases t <;> cases s <;> rfl
def twoTo (es : List Edge) : Nat → Two
  | 0 => .e
  | k + 1 => match es[k]? with
    | some e => (twoTo es k).put e.send e.label
    | none => twoTo es k
def Two.len (t : Two) : Nat := t.l0.length + t.l1.length
theorem twoTo_len (es : List Edge) : ∀ k, (twoTo es k).len ≤ k
  | 0 => Nat.le_refl _
  | k + 1 => by
    have := twoTo_len es k
    unfold twoTo
    split
    · unfold Two.len at *
      rw [Two.put_l0, Two.put_l1]
      split <;> simp <;> omega
    · omega

def sortI1 (id ver off len : Nat) (a : Arr) : Option (V × Tn) :=
  if len = 0 then some (.tup [], { ra := some id }) else (match a.body with
        | .inl rows => if a.k = 1 ∧ off + len ≤ rows.length ∧ len ≤ mostRows then (match mapO intDec ((rows.drop off).take len) with
          | some l => some (.tup [], { ar := some (id, ⟨ver, 1, .inl (rows.take off ++ (isort ltI l).map (fun x => [.int .i64 x]) ++ rows.drop (off + len))⟩) })
          | none => none) else none
        | .inr _ => none)
@[go_sem] theorem sortIP_tl (h : Heap) : sortIP [.tl []] h = some (.tup [], {}) := rfl
@[go_sem] theorem sortIP_own (h : Heap) (id ver off len : Nat) : sortIP [.own id ver off len] h = (ownArr h id ver).bind (sortI1 id ver off len) := by
  simp only [sortIP]
  cases ownArr h id ver <;> rfl
theorem ints_dec (l : List Int) : mapO intDec (ints l) = some l := by
  induction l with
  | nil => rfl
  | cons x l ih =>
    show mapO intDec ([.int .i64 x] :: ints l) = _
    simp only [mapO, intDec, ih]
@[go_sem] theorem sortI1_ints {id ver n : Nat} {l : List Int} (hn : n = l.length) (h0 : n ≠ 0) (hm : n ≤ 2147483648) : sortI1 id ver 0 n ⟨ver, 1, .inl (ints l)⟩ = some (.tup [], { ar := some (id, ⟨ver, 1, .inl (ints (isort ltI l))⟩) }) := by
  subst hn
  have e1 : (ints l).length = l.length := ints_length l
  simp [sortI1, h0, e1, mostRows, hm, ints_dec, List.take_of_length_le (Nat.le_of_eq e1), List.drop_eq_nil_of_le (Nat.le_of_eq e1)]
  rfl
@[go_sem] theorem lendAll_tl (h : Heap) : lendAll h true [.tl []] = some ([.lst 0 []], none) := rfl
def lendA (id ver len : Nat) (a : Arr) : Option (List PV × Option (Nat × Arr)) :=
  if a.size = len ∧ a.k ≠ 0 then (match a.body with
      | .inl rows => some ([.fr a.k rows], some (id, ⟨ver + 1, 0, .inl []⟩))
      | .inr _ => none) else none
@[go_sem] theorem lendAll_own (h : Heap) (id ver len : Nat) : lendAll h true [.own id ver 0 len] = (ownArr h id ver).bind (lendA id ver len) := by
  simp only [lendAll, lendTake]
  cases ownArr h id ver with
  | none => rfl
  | some a =>
    simp only [Option.bind_some, if_true, lendA]
    by_cases hc : a.size = len ∧ a.k ≠ 0
    · cases hb : a.body <;> simp [hc, mapO]
    · simp [hc]
@[go_sem] theorem lendA_ints {id ver v len : Nat} {l : List Int} (hn : len = l.length) : lendA id ver len ⟨v, 1, .inl (ints l)⟩ = some ([.fr 1 (ints l)], some (id, ⟨ver + 1, 0, .inl []⟩)) := by
  subst hn
  simp [lendA, Arr.size, ints_length]

theorem cmpct_small : ∀ {l : List Int}, l.length < 2 → cmpct l = l
  | [], _ => rfl
  | [_], _ => rfl
  | _ :: _ :: _, h => by simp at h; omega
@[go_sem] theorem r104 (l : List Int) (h0 : l.length ≤ 2000000000) : res A PrA 104 [.fr 1 (ints l)] = some [.fr 1 (ints (cmpct l))] := by
  rcases Nat.lt_or_ge l.length 2 with h | h
  · rw [r104_small l h, cmpct_small h]
  · exact r104_big l h h0
@[go_sem] theorem r104_nil : res A PrA 104 [.lst 0 []] = some [.lst 0 []] := by
  refine res_of a104 rfl rfl ?_
  simp only [F104]
  have h2 : (((0 : Nat) : Nat) : Int) < 2 := by omega
  simp (disch := omega) only [go_sem, h2]
  rfl
@[go_sem] theorem isort_len (l : List Int) : (isort ltI l).length = l.length := (isort_perm ltI l).length_eq

theorem two_l0 (es : List Edge) : ∀ k, k ≤ es.length → (twoTo es k).l0 = ((es.take k).filter fun e => e.send == false).map (·.label) ∧ (twoTo es k).l1 = ((es.take k).filter fun e => e.send == true).map (·.label)
  | 0, _ => ⟨rfl, rfl⟩
  | k + 1, hk => by
    obtain ⟨h1, h2⟩ := two_l0 es k (by omega)
    obtain ⟨e, he⟩ : ∃ e, es[k]? = some e := ⟨es[k], by simp⟩
    have hb : twoTo es (k + 1) = (twoTo es k).put e.send e.label := by simp only [twoTo, he]
    rw [hb, Two.put_l0, Two.put_l1, h1, h2, List.take_add_one, he]
    cases hs : e.send <;> simp [hs]

end Go.Pv

/-
  Plain laws: ascending lists; breadth-first searches.
-/
namespace Go.Pv

/-- Ascending lists with the same members are the same. -/
theorem pw_ext {α : Type} {r : α → α → Prop} (irr : ∀ x, ¬ r x x) (tr : ∀ x y z, r x y → r y z → r x z) : ∀ {l m : List α}, l.Pairwise r → m.Pairwise r → (∀ x, x ∈ l ↔ x ∈ m) → l = m
  | [], [], _, _, _ => rfl
  | [], y :: m, _, _, h => absurd ((h y).2 (by simp)) (by simp)
  | x :: l, [], _, _, h => absurd ((h x).1 (by simp)) (by simp)
  | x :: l, y :: m, hl, hm, h => by
    rw [List.pairwise_cons] at hl hm
    have e : x = y := by
      rcases List.mem_cons.1 ((h x).1 (by simp)) with e | hx
      · exact e
      · rcases List.mem_cons.1 ((h y).2 (by simp)) with e | hy
        · exact e.symm
        · exact (irr x (tr x y x (hl.1 y hy) (hm.1 x hx))).elim
    subst e
    congr 1
    refine pw_ext irr tr hl.2 hm.2 fun z => ⟨fun hz => ?_, fun hz => ?_⟩
    · rcases List.mem_cons.1 ((h z).1 (List.mem_cons_of_mem _ hz)) with rfl | hz'
      · exact (irr z (hl.1 z hz)).elim
      · exact hz'
    · rcases List.mem_cons.1 ((h z).2 (List.mem_cons_of_mem _ hz)) with rfl | hz'
      · exact (irr z (hm.1 z hz)).elim
      · exact hz'

theorem asc_ext {l m : List Int} (hl : l.Pairwise (· < ·)) (hm : m.Pairwise (· < ·)) (h : ∀ x, x ∈ l ↔ x ∈ m) : l = m :=
  pw_ext (r := (· < ·)) (fun x => Int.lt_irrefl x) (fun _ _ _ => Int.lt_trans) hl hm h

/-- Numbers from 0 on, each once: no more than there are. -/
theorem nodup_bound {l : List Int} {n : Nat} (hn : l.Nodup) (h : ∀ x ∈ l, 0 ≤ x ∧ x < n) : l.length ≤ n := by
  have := List.Nodup.length_le_of_subset (l₂ := (List.range n).map Int.ofNat) hn (fun x hx => by
    have := h x hx
    rw [List.mem_map]
    exact ⟨x.toNat, List.mem_range.2 (by omega), by simp; omega⟩)
  simpa using this

section
variable {α : Type} [DecidableEq α]

/-- One more, unless it is there. -/
def addN (o : List α) (x : α) : List α := if x ∈ o then o else o ++ [x]
theorem addN_mem {o : List α} {x y : α} : y ∈ addN o x ↔ y ∈ o ∨ y = x := by
  unfold addN
  split
  · rename_i h
    exact ⟨.inl, fun h' => h'.elim id (fun e => e ▸ h)⟩
  · simp
theorem addN_nodup {o : List α} {x : α} (h : o.Nodup) : (addN o x).Nodup := by
  unfold addN
  split
  · exact h
  · rename_i hx
    rw [List.nodup_append]
    exact ⟨h, by simp, fun a ha b hb => by
      rw [List.mem_singleton] at hb
      subst hb
      exact fun e => hx (e ▸ ha)⟩
theorem addN_pre (o : List α) (x : α) : o <+: addN o x := by
  unfold addN
  split
  · exact List.prefix_refl o
  · exact List.prefix_append o [x]
def addL (o : List α) (l : List α) : List α := l.foldl addN o
theorem addL_cons (o : List α) (x : α) (l : List α) : addL o (x :: l) = addL (addN o x) l := rfl
theorem addL_snoc (o : List α) (l : List α) (x : α) : addL o (l ++ [x]) = addN (addL o l) x := by simp [addL, List.foldl_append]
theorem addL_mem : ∀ {l o : List α} {y : α}, y ∈ addL o l ↔ y ∈ o ∨ y ∈ l
  | [], o, y => by simp [addL]
  | x :: l, o, y => by
    rw [addL_cons, addL_mem, addN_mem]
    simp [or_assoc]
theorem addL_nodup : ∀ {l o : List α}, o.Nodup → (addL o l).Nodup
  | [], _, h => h
  | x :: l, o, h => by
    rw [addL_cons]
    exact addL_nodup (addN_nodup h)
theorem addL_pre : ∀ (o l : List α), o <+: addL o l
  | o, [] => List.prefix_refl o
  | o, x :: l => by
    rw [addL_cons]
    exact (addN_pre o x).trans (addL_pre _ l)

/-- A breadth-first search, for so many rounds. -/
def bfs (nx : α → List α) : Nat → Nat → List α → List α
  | 0, _, o => o
  | n + 1, i, o => match o[i]? with
    | none => o
    | some v => bfs nx n (i + 1) (addL o (nx v))

theorem bfs_step {nx : α → List α} {n i : Nat} {o : List α} {v : α} (h : o[i]? = some v) : bfs nx (n + 1) i o = bfs nx n (i + 1) (addL o (nx v)) := by
  simp only [bfs, h]
theorem bfs_end {nx : α → List α} : ∀ {n i : Nat} {o : List α}, o.length ≤ i → bfs nx n i o = o
  | 0, _, _, _ => rfl
  | n + 1, i, o, h => by simp only [bfs, List.getElem?_eq_none h]

theorem bfs_pre {nx : α → List α} : ∀ (n i : Nat) (o : List α), o <+: bfs nx n i o
  | 0, _, o => List.prefix_refl o
  | n + 1, i, o => by
    unfold bfs
    split
    · exact List.prefix_refl o
    · exact (addL_pre o _).trans (bfs_pre n _ _)
theorem bfs_nodup {nx : α → List α} : ∀ (n i : Nat) {o : List α}, o.Nodup → (bfs nx n i o).Nodup
  | 0, _, _, h => h
  | n + 1, i, o, h => by
    unfold bfs
    split
    · exact h
    · exact bfs_nodup n _ (addL_nodup h)

/-- What is reached from something. -/
inductive Rch (nx : α → List α) (s : α) : α → Prop
  | refl : Rch nx s s
  | step {v x : α} : Rch nx s v → x ∈ nx v → Rch nx s x
omit [DecidableEq α] in
theorem Rch.trans {nx : α → List α} {s v x : α} (h : Rch nx s v) (h2 : Rch nx v x) : Rch nx s x := by
  induction h2 with
  | refl => exact h
  | step _ hx ih => exact .step ih hx
omit [DecidableEq α] in
theorem Rch.head {nx : α → List α} {s v x : α} (h : v ∈ nx s) (h2 : Rch nx v x) : Rch nx s x := Rch.trans (.step .refl h) h2

theorem bfs_all {nx : α → List α} {P : α → Prop} (hP : ∀ v, P v → ∀ x ∈ nx v, P x) : ∀ (n i : Nat) {o : List α}, (∀ v ∈ o, P v) → ∀ v ∈ bfs nx n i o, P v
  | 0, _, _, h => h
  | n + 1, i, o, h => by
    unfold bfs
    split
    · exact h
    · rename_i v hv
      refine bfs_all hP n _ fun x hx => ?_
      rcases addL_mem.1 hx with hx | hx
      · exact h x hx
      · exact hP v (h v (List.mem_of_getElem? hv)) x hx

/-- It ends closed, if there are rounds enough. -/
theorem bfs_done {nx : α → List α} {N : Nat} {P : α → Prop} (hP : ∀ v, P v → ∀ x ∈ nx v, P x) (hN : ∀ o : List α, o.Nodup → (∀ v ∈ o, P v) → o.length ≤ N) : ∀ (n i : Nat) {o : List α}, N ≤ n + i → o.Nodup → (∀ v ∈ o, P v) →
    (∀ j v, j < i → o[j]? = some v → ∀ x ∈ nx v, x ∈ o) → ∀ v ∈ bfs nx n i o, ∀ x ∈ nx v, x ∈ bfs nx n i o
  | 0, i, o, hn, hd, ho, hc => by
    intro v hv x hx
    obtain ⟨j, hj, rfl⟩ := List.getElem_of_mem hv
    have := hN o hd ho
    have hlt : j < o.length := hj
    exact hc j o[j] (by omega) (by simp) x hx
  | n + 1, i, o, hn, hd, ho, hc => by
    unfold bfs
    split
    · rename_i hnone
      intro v hv x hx
      obtain ⟨j, hj, rfl⟩ := List.getElem_of_mem hv
      have := List.getElem?_eq_none_iff.1 hnone
      exact hc j o[j] (by omega) (by simp) x hx
    · rename_i v hv
      refine bfs_done hP hN n (i + 1) (by omega) (addL_nodup hd) (fun x hx => ?_) (fun j w hj hw x hx => ?_)
      · rcases addL_mem.1 hx with hx | hx
        · exact ho x hx
        · exact hP v (ho v (List.mem_of_getElem? hv)) x hx
      · rw [addL_mem]
        have hi : i < o.length := (List.getElem?_eq_some_iff.1 hv).1
        obtain ⟨t, ht⟩ := addL_pre o (nx v)
        rw [← ht, List.getElem?_append_left (by omega)] at hw
        rcases Nat.lt_or_ge j i with h | h
        · exact .inl (hc j w h hw x hx)
        · obtain rfl : j = i := by omega
          rw [hv] at hw
          cases hw
          exact .inr hx

/-- Exactly what is reached is found. -/
theorem bfs_rch {nx : α → List α} {N : Nat} {P : α → Prop} {s : α} (hP : ∀ v, P v → ∀ x ∈ nx v, P x) (hN : ∀ o : List α, o.Nodup → (∀ v ∈ o, P v) → o.length ≤ N) (hs : P s) {v : α} : v ∈ bfs nx N 0 [s] ↔ Rch nx s v := by
  constructor
  · exact bfs_all (P := Rch nx s) (fun v hv x hx => .step hv hx) N 0 (by simp; exact .refl) v
  · have hc := bfs_done hP hN N 0 (o := [s]) (by omega) (by simp) (by simpa using hs) (fun j v hj => absurd hj (Nat.not_lt_zero _))
    have hp : s ∈ bfs nx N 0 [s] := (bfs_pre N 0 [s]).subset (by simp)
    intro h
    induction h with
    | refl => exact hp
    | step _ hx ih => exact hc _ ih _ hx

section
variable {β : Type} [DecidableEq β]
theorem addN_map {g : α → β} {o : List α} {x : α} (hg : ∀ y ∈ o, g y = g x → y = x) : addN (o.map g) (g x) = (addN o x).map g := by
  unfold addN
  by_cases h : x ∈ o
  · rw [if_pos h, if_pos (List.mem_map_of_mem h)]
  · rw [if_neg h, if_neg (fun hm => by
      obtain ⟨y, hy, e⟩ := List.mem_map.1 hm
      exact h (hg y hy e ▸ hy)), List.map_append]
    rfl
theorem addL_map {g : α → β} {P : α → Prop} (hg : ∀ x y, P x → P y → g x = g y → x = y) : ∀ (l : List α) {o : List α}, (∀ v ∈ o, P v) → (∀ v ∈ l, P v) → addL (o.map g) (l.map g) = (addL o l).map g
  | [], _, _, _ => rfl
  | x :: l, o, ho, hl => by
    rw [List.map_cons, addL_cons, addL_cons, addN_map (fun y hy e => hg y x (ho y hy) (hl x (by simp)) e)]
    refine addL_map hg l (fun v hv => ?_) (fun v hv => hl v (by simp [hv]))
    rcases addN_mem.1 hv with h | h
    · exact ho v h
    · exact h ▸ hl x (by simp)
/-- The same search under other names. -/
theorem bfs_map {g : α → β} {P : α → Prop} {nx : α → List α} {nx' : β → List β} (hg : ∀ x y, P x → P y → g x = g y → x = y) (hP : ∀ v, P v → ∀ x ∈ nx v, P x) (hx : ∀ v, P v → nx' (g v) = (nx v).map g) :
    ∀ (n i : Nat) {o : List α}, (∀ v ∈ o, P v) → bfs nx' n i (o.map g) = (bfs nx n i o).map g
  | 0, _, _, _ => rfl
  | n + 1, i, o, ho => by
    simp only [bfs, List.getElem?_map]
    cases h : o[i]? with
    | none => rfl
    | some v =>
      have hv := ho v (List.mem_of_getElem? h)
      simp only [Option.map_some]
      rw [hx v hv, addL_map hg (nx v) ho (hP v hv)]
      refine bfs_map hg hP hx n (i + 1) fun x hx' => ?_
      rcases addL_mem.1 hx' with h' | h'
      · exact ho x h'
      · exact hP v hv x h'
end
end

/-- More rounds than needed change nothing. -/
theorem bfs_more {α : Type} [DecidableEq α] {nx : α → List α} {N : Nat} {P : α → Prop} (hP : ∀ v, P v → ∀ x ∈ nx v, P x) (hN : ∀ o : List α, o.Nodup → (∀ v ∈ o, P v) → o.length ≤ N) : ∀ (n m i : Nat) {o : List α}, N ≤ n + i → N ≤ m + i → o.Nodup → (∀ v ∈ o, P v) → bfs nx n i o = bfs nx m i o
  | 0, m, i, o, h1, _, hd, ho => by
    have := hN o hd ho
    rw [bfs_end (by omega), bfs_end (by omega)]
  | n + 1, 0, i, o, _, h2, hd, ho => by
    have := hN o hd ho
    rw [bfs_end (by omega), bfs_end (by omega)]
  | n + 1, m + 1, i, o, h1, h2, hd, ho => by
    simp only [bfs]
    cases h : o[i]? with
    | none => rfl
    | some v =>
      have hv := ho v (List.mem_of_getElem? h)
      refine bfs_more hP hN n m (i + 1) (by omega) (by omega) (addL_nodup hd) fun x hx => ?_
      rcases addL_mem.1 hx with h' | h'
      · exact ho x h'
      · exact hP v hv x h'

end Go.Pv

/-
  Plain laws: sorts, insertion from the end.
-/
namespace Go.Pv

section
variable {α : Type} [Inhabited α]

/-- Any two are apart. -/
def apt (lt : α → α → Bool) (x y : α) : Prop := lt x y = true ∨ lt y x = true
omit [Inhabited α] in
theorem apt.symm {lt : α → α → Bool} {x y : α} (h : apt lt x y) : apt lt y x := h.elim .inr .inl

/-- The place to which one moves down from the end. -/
def bub (lt : α → α → Bool) (x : α) (l : List α) : Nat → Nat
  | 0 => 0
  | p + 1 => if lt x (l.getD p default) = true then bub lt x l p else p + 1
def putA (x : α) (l : List α) (p : Nat) : List α := l.take p ++ x :: l.drop p
def insB (lt : α → α → Bool) (x : α) (l : List α) : List α := putA x l (bub lt x l l.length)
theorem bub_le (lt : α → α → Bool) (x : α) (l : List α) : ∀ q, bub lt x l q ≤ q
  | 0 => Nat.le_refl _
  | q + 1 => by
    have := bub_le lt x l q
    unfold bub
    split <;> omega
omit [Inhabited α] in
theorem putA_len (x : α) (l : List α) (p : Nat) (h : p ≤ l.length) : (putA x l p).length = l.length + 1 := by simp [putA]; omega
theorem insB_len (lt : α → α → Bool) (x : α) (l : List α) : (insB lt x l).length = l.length + 1 := putA_len x l _ (bub_le lt x l _)
omit [Inhabited α] in
theorem putA_at (x : α) (l : List α) (p : Nat) (h : p ≤ l.length) : (putA x l p)[p]? = some x := by
  unfold putA
  rw [List.getElem?_append_right (by simp; omega)]
  simp [Nat.min_eq_left h]
theorem putA_below (x : α) (l : List α) (p : Nat) (h : p < l.length) : (putA x l (p + 1))[p]? = some (l.getD p default) := by
  unfold putA
  rw [List.getElem?_append_left (by simp; omega), List.getElem?_take, if_pos (by omega)]
  simp [h]
theorem putA_down (x : α) (l : List α) (p : Nat) (h : p < l.length) : ((putA x l (p + 1)).set (p + 1) (l.getD p default)).set p x = putA x l p := by
  apply List.ext_getElem?
  intro i
  have h1 := putA_len x l (p + 1) (by omega)
  by_cases ip : i = p
  · subst ip
    rw [putA_at x l i (by omega), List.getElem?_set_self (by simp [h1]; omega)]
  · rw [List.getElem?_set_ne (Ne.symm ip)]
    by_cases iq : i = p + 1
    · subst iq
      rw [List.getElem?_set_self (by rw [h1]; omega)]
      unfold putA
      rw [List.getElem?_append_right (by simp; omega)]
      simp [Nat.min_eq_left (Nat.le_of_lt h), h]
    · rw [List.getElem?_set_ne (Ne.symm iq)]
      unfold putA
      rcases Nat.lt_or_ge i p with hi | hi
      · rw [List.getElem?_append_left (by simp; omega), List.getElem?_append_left (by simp; omega), List.getElem?_take, List.getElem?_take, if_pos (by omega), if_pos hi]
      · rw [List.getElem?_append_right (by simp; omega), List.getElem?_append_right (by simp; omega)]
        obtain ⟨q, rfl⟩ : ∃ q, i = p + 2 + q := ⟨i - (p + 2), by omega⟩
        simp only [List.length_take, Nat.min_eq_left (Nat.le_of_lt h), Nat.min_eq_left (Nat.succ_le_of_lt h)]
        rw [show p + 2 + q - (p + 1) = q + 1 by omega, show p + 2 + q - p = q + 2 by omega]
        simp only [List.getElem?_cons_succ, List.getElem?_drop]
        congr 1
        omega

omit [Inhabited α] in
theorem putA_perm (x : α) (l : List α) (p : Nat) : (putA x l p).Perm (x :: l) := by
  unfold putA
  refine (List.perm_middle).trans ?_
  rw [List.take_append_drop]
theorem insB_perm (lt : α → α → Bool) (x : α) (l : List α) : (insB lt x l).Perm (x :: l) := putA_perm x l _

theorem bub_above (lt : α → α → Bool) (x : α) (l : List α) : ∀ q j, bub lt x l q ≤ j → j < q → lt x (l.getD j default) = true
  | 0, j, _, h => absurd h (Nat.not_lt_zero _)
  | q + 1, j, h1, h2 => by
    unfold bub at h1
    split at h1
    · rename_i h
      rcases Nat.lt_or_ge j q with h3 | h3
      · exact bub_above lt x l q j h1 h3
      · obtain rfl : j = q := by omega
        exact h
    · omega
theorem bub_stop (lt : α → α → Bool) (x : α) (l : List α) : ∀ q p, bub lt x l q = p + 1 → lt x (l.getD p default) = false
  | 0, p, h => by simp [bub] at h
  | q + 1, p, h => by
    unfold bub at h
    split at h
    · exact bub_stop lt x l q p h
    · rename_i hn
      obtain rfl : p = q := by omega
      simpa using hn

theorem insB_sorted {lt : α → α → Bool} (tr : ∀ x y z, lt x y = true → lt y z = true → lt x z = true) {x : α} {l : List α} (hl : l.Pairwise (fun a b => lt a b = true)) (hx : ∀ y ∈ l, apt lt x y) : (insB lt x l).Pairwise (fun a b => lt a b = true) := by
  have hle := bub_le lt x l l.length
  have hup : ∀ y ∈ l.drop (bub lt x l l.length), lt x y = true := fun y hy => by
    obtain ⟨j, hj, rfl⟩ := List.getElem_of_mem hy
    rw [List.length_drop] at hj
    have := bub_above lt x l l.length (bub lt x l l.length + j) (by omega) (by omega)
    rw [List.getElem_drop]
    simpa [show bub lt x l l.length + j < l.length by omega] using this
  have hlo : ∀ y ∈ l.take (bub lt x l l.length), lt y x = true := fun y hy => by
    obtain ⟨j, hj, rfl⟩ := List.getElem_of_mem hy
    rw [List.length_take] at hj
    obtain ⟨p, hp⟩ : ∃ p, bub lt x l l.length = p + 1 := ⟨bub lt x l l.length - 1, by omega⟩
    have hst := bub_stop lt x l _ _ hp
    have hpl : p < l.length := by omega
    have e1 : l.getD p default = l[p] := by simp [hpl]
    rw [e1] at hst
    have h1 : lt l[p] x = true := (hx l[p] (List.getElem_mem _)).resolve_left (by simp [hst])
    rw [List.getElem_take]
    rcases Nat.lt_or_ge j p with h | h
    · exact tr _ _ _ (List.pairwise_iff_getElem.1 hl j p (by omega) hpl h) h1
    · obtain rfl : j = p := by omega
      exact h1
  unfold insB putA
  rw [List.pairwise_append, List.pairwise_cons]
  refine ⟨hl.sublist (List.take_sublist _ _), ⟨hup, hl.sublist (List.drop_sublist _ _)⟩, fun a ha b hb => ?_⟩
  rcases List.mem_cons.1 hb with rfl | hb
  · exact hlo a ha
  · exact tr _ _ _ (hlo a ha) (hup b hb)

/-- A sort by insertion from the end. -/
def sortB (lt : α → α → Bool) (l : List α) : List α := l.foldl (fun o x => insB lt x o) []
theorem foldB_perm (lt : α → α → Bool) : ∀ (l o : List α), (l.foldl (fun o x => insB lt x o) o).Perm (o ++ l)
  | [], o => by simp
  | x :: l, o => by
    rw [List.foldl_cons]
    refine (foldB_perm lt l _).trans ?_
    refine ((insB_perm lt x o).append_right l).trans ?_
    exact (List.perm_middle (a := x) (l₁ := o) (l₂ := l)).symm
theorem sortB_perm (lt : α → α → Bool) (l : List α) : (sortB lt l).Perm l := foldB_perm lt l []
theorem foldB_sorted {lt : α → α → Bool} (tr : ∀ x y z, lt x y = true → lt y z = true → lt x z = true) : ∀ {l o : List α}, o.Pairwise (fun a b => lt a b = true) → l.Pairwise (apt lt) → (∀ x ∈ l, ∀ y ∈ o, apt lt x y) → (l.foldl (fun o x => insB lt x o) o).Pairwise (fun a b => lt a b = true)
  | [], _, h, _, _ => h
  | x :: l, o, h, hl, hx => by
    rw [List.pairwise_cons] at hl
    rw [List.foldl_cons]
    refine foldB_sorted tr (insB_sorted tr h (hx x (by simp))) hl.2 fun z hz y hy => ?_
    rcases List.mem_cons.1 ((insB_perm lt x o).subset hy) with rfl | hy
    · exact (hl.1 z hz).symm
    · exact hx z (by simp [hz]) y hy
theorem sortB_sorted {lt : α → α → Bool} (tr : ∀ x y z, lt x y = true → lt y z = true → lt x z = true) {l : List α} (hl : l.Pairwise (apt lt)) : (sortB lt l).Pairwise (fun a b => lt a b = true) := foldB_sorted tr List.Pairwise.nil hl (fun _ _ _ h => absurd h (by simp))

omit [Inhabited α] in
theorem ins_pw {lt : α → α → Bool} (tr : ∀ x y z, lt x y = true → lt y z = true → lt x z = true) {x : α} : ∀ {l : List α}, l.Pairwise (fun a b => lt a b = true) → (∀ y ∈ l, apt lt x y) → (ins lt x l).Pairwise (fun a b => lt a b = true)
  | [], _, _ => List.pairwise_singleton _ _
  | y :: r, h, hx => by
    obtain ⟨h1, h2⟩ := List.pairwise_cons.1 h
    unfold ins
    split
    · rename_i hc
      refine List.pairwise_cons.2 ⟨fun z hz => ?_, ins_pw tr h2 (fun z hz => hx z (by simp [hz]))⟩
      rcases List.mem_cons.1 ((ins_perm lt x r).subset hz) with rfl | hz
      · exact hc
      · exact h1 z hz
    · rename_i hc
      have hxy : lt x y = true := (hx y (by simp)).resolve_right (by simpa using hc)
      refine List.pairwise_cons.2 ⟨fun z hz => ?_, h⟩
      rcases List.mem_cons.1 hz with rfl | hz
      · exact hxy
      · exact tr _ _ _ hxy (h1 z hz)
omit [Inhabited α] in
theorem isort_pw {lt : α → α → Bool} (tr : ∀ x y z, lt x y = true → lt y z = true → lt x z = true) : ∀ {l : List α}, l.Pairwise (apt lt) → (isort lt l).Pairwise (fun a b => lt a b = true)
  | [], _ => List.Pairwise.nil
  | x :: l, h => by
    obtain ⟨h1, h2⟩ := List.pairwise_cons.1 h
    exact ins_pw tr (isort_pw tr h2) fun y hy => h1 y ((isort_perm lt l).subset hy)
omit [Inhabited α] in
theorem rising_of {lt : α → α → Bool} : ∀ {l : List α}, l.Pairwise (fun a b => lt a b = true) → rising lt l = true
  | [], _ => rfl
  | [_], _ => rfl
  | x :: y :: r, h => by
    obtain ⟨h1, h2⟩ := List.pairwise_cons.1 h
    simp only [rising, Bool.and_eq_true]
    exact ⟨h1 y (by simp), rising_of h2⟩
omit [Inhabited α] in
theorem pw_uniq {lt : α → α → Bool} (irr : ∀ x, lt x x = false) (tr : ∀ x y z, lt x y = true → lt y z = true → lt x z = true) {l m : List α} (hl : l.Pairwise (fun a b => lt a b = true)) (hm : m.Pairwise (fun a b => lt a b = true)) (h : ∀ x, x ∈ l ↔ x ∈ m) : l = m :=
  pw_ext (r := fun a b => lt a b = true) (fun x => by simp [irr x]) tr hl hm h
theorem sortB_isort {lt : α → α → Bool} (irr : ∀ x, lt x x = false) (tr : ∀ x y z, lt x y = true → lt y z = true → lt x z = true) {l : List α} (hl : l.Pairwise (apt lt)) : sortB lt l = isort lt l :=
  pw_uniq irr tr (sortB_sorted tr hl) (isort_pw tr hl) fun _ => ((sortB_perm lt l).trans (isort_perm lt l).symm).mem_iff
end

end Go.Pv

/-
  Plain laws: labels of automata.
-/
namespace Go.Pv

/-- The labels with a direction, in the order of edges. -/
def labs (d : Bool) (es : List Edge) : List Int := (es.filter fun e => e.send == d).map (·.label)
theorem labs_mem {d : Bool} {es : List Edge} {x : Int} : x ∈ labs d es ↔ ∃ e ∈ es, e.send = d ∧ e.label = x := by
  simp [labs, and_assoc]

theorem cmpct_mem : ∀ {l : List Int} {x : Int}, x ∈ cmpct l ↔ x ∈ l
  | [], _ => by simp [cmpct]
  | [y], _ => by simp [cmpct]
  | y :: z :: r, x => by
    have ih := cmpct_mem (l := z :: r) (x := x)
    unfold cmpct
    split
    · rename_i h
      subst h
      rw [ih]
      simp
    · simp only [List.mem_cons] at ih ⊢
      rw [ih]
theorem cmpct_asc : ∀ {l : List Int}, l.Pairwise (· ≤ ·) → (cmpct l).Pairwise (· < ·)
  | [], _ => List.Pairwise.nil
  | [y], _ => List.pairwise_singleton _ _
  | y :: z :: r, h => by
    obtain ⟨h1, h2⟩ := List.pairwise_cons.1 h
    have ih := cmpct_asc h2
    unfold cmpct
    split
    · exact ih
    · rename_i hn
      refine List.pairwise_cons.2 ⟨fun x hx => ?_, ih⟩
      have hx' := cmpct_mem.1 hx
      have hz := h1 z (by simp)
      rcases List.mem_cons.1 hx' with rfl | hx'
      · omega
      · have := (List.pairwise_cons.1 h2).1 x hx'
        omega
theorem cmpct_len : ∀ l : List Int, (cmpct l).length ≤ l.length
  | [] => Nat.le_refl _
  | [_] => Nat.le_refl _
  | x :: y :: r => by
    have := cmpct_len (y :: r)
    unfold cmpct
    split <;> simp at * <;> omega
/-- Numbers, ascending, each once. -/
def uniqs (l : List Int) : List Int := cmpct (isort ltI l)
theorem uniqs_asc (l : List Int) : (uniqs l).Pairwise (· < ·) := cmpct_asc (isort_sorted l)
theorem uniqs_len (l : List Int) : (uniqs l).length ≤ l.length := by
  have := cmpct_len (isort ltI l)
  rw [isort_len] at this
  exact this
theorem labs_len (d : Bool) (es : List Edge) : (labs d es).length ≤ es.length := by
  unfold labs
  rw [List.length_map]
  exact List.length_filter_le _ _
theorem uniqs_mem {l : List Int} {x : Int} : x ∈ uniqs l ↔ x ∈ l := by
  unfold uniqs
  rw [cmpct_mem, (isort_perm ltI l).mem_iff]
theorem uniqs_eq {l m : List Int} (h : ∀ x, x ∈ l ↔ x ∈ m) : uniqs l = uniqs m := asc_ext (uniqs_asc l) (uniqs_asc m) fun x => by rw [uniqs_mem, uniqs_mem, h]
theorem uniqs_of {l m : List Int} (hm : m.Pairwise (· < ·)) (h : ∀ x, x ∈ l ↔ x ∈ m) : uniqs l = m := asc_ext (uniqs_asc l) hm fun x => by rw [uniqs_mem, h]

theorem atFrom_neg {x : Int} : ∀ {l : List Int} {k : Nat}, atFrom x k l < 0 ↔ x ∉ l
  | [], k => by simp [atFrom]
  | y :: r, k => by
    unfold atFrom
    split
    · rename_i h
      subst h
      simp
    · rename_i h
      rw [atFrom_neg]
      simp only [List.mem_cons, not_or]
      exact ⟨fun h2 => ⟨fun e => h e.symm, h2⟩, fun h2 => h2.2⟩
theorem atL_neg {x : Int} {l : List Int} : atL x l < 0 ↔ x ∉ l := atFrom_neg
theorem atL_pos {x : Int} {l : List Int} : 0 ≤ atL x l ↔ x ∈ l := by
  rw [← Int.not_lt, atL_neg]
  simp

theorem bubI_bub (x : Int) (l : List Int) : ∀ q, bubI x l q = bub ltI x l q
  | 0 => rfl
  | q + 1 => by
    simp only [bubI, bub, bubI_bub x l q, ltI, decide_eq_true_eq]
    rfl
theorem insI_insB (x : Int) (l : List Int) : insI x l = insB ltI x l := by
  unfold insI insB
  rw [bubI_bub]
  rfl
theorem ltI_pw {l : List Int} : l.Pairwise (fun a b => ltI a b = true) ↔ l.Pairwise (· < ·) := by
  simp [ltI]

theorem labTo_spec (d : Bool) (es : List Edge) : ∀ k, k ≤ es.length → (labTo d es k).Pairwise (· < ·) ∧ ∀ x, x ∈ labTo d es k ↔ x ∈ labs d (es.take k)
  | 0, _ => ⟨List.Pairwise.nil, fun x => by simp [labTo, labs]⟩
  | k + 1, hk => by
    obtain ⟨h1, h2⟩ := labTo_spec d es k (by omega)
    obtain ⟨e, he⟩ : ∃ e, es[k]? = some e := ⟨es[k], by simp⟩
    have ht : labs d (es.take (k + 1)) = labs d (es.take k) ++ (if e.send = d then [e.label] else []) := by
      rw [List.take_add_one, he]
      unfold labs
      simp only [List.filter_append, List.map_append, Option.toList_some]
      by_cases h : e.send = d <;> simp [h]
    rw [ht]
    simp only [labTo, he]
    by_cases hd : e.send = d
    · by_cases ha : 0 ≤ atL e.label (labTo d es k)
      · rw [if_pos (.inr ha)]
        refine ⟨h1, fun x => ?_⟩
        rw [h2, if_pos hd, List.mem_append, List.mem_singleton]
        refine ⟨.inl, fun h => h.elim id fun hx => ?_⟩
        subst hx
        exact (h2 _).1 (atL_pos.1 ha)
      · rw [if_neg (by simp [hd, ha]), insI_insB]
        have hn : e.label ∉ labTo d es k := fun h => ha (atL_pos.2 h)
        refine ⟨?_, fun x => ?_⟩
        · rw [← ltI_pw]
          refine insB_sorted (fun x y z => by simp only [ltI, decide_eq_true_eq]; omega) (ltI_pw.2 h1) fun y hy => ?_
          have : e.label ≠ y := fun h => hn (h ▸ hy)
          simp only [apt, ltI, decide_eq_true_eq]
          omega
        · rw [(insB_perm ltI e.label _).mem_iff, List.mem_cons, h2, if_pos hd, List.mem_append, List.mem_singleton]
          exact ⟨fun h => h.elim .inr .inl, fun h => h.elim .inr .inl⟩
    · rw [if_pos (.inl hd), if_neg hd, List.append_nil]
      exact ⟨h1, h2⟩
/-- The reference's labels. -/
theorem labTo_uniqs (d : Bool) (es : List Edge) : labTo d es es.length = uniqs (labs d es) := by
  obtain ⟨h1, h2⟩ := labTo_spec d es es.length (Nat.le_refl _)
  rw [List.take_length] at h2
  exact (uniqs_of h1 fun x => (h2 x).symm).symm

end Go.Pv

/-
  Plain laws: valid automata, their duals, what can be reached, trimmed automata.
-/
namespace Go.Pv

/-- An automaton without an error. -/
structure Auto.Good (a : Auto) : Prop where
  st : 0 ≤ a.start ∧ a.start < a.states
  mx : a.states ≤ 12
  len : a.edges.length ≤ 100
  fit : ∀ e ∈ a.edges, e.fits a.states = true
  asc : a.edges.Pairwise (fun x y => Edge.lt x y = true)

theorem Edge.lt_irr (x : Edge) : Edge.lt x x = false := by simp [Edge.lt]
theorem Edge.lt_tr (x y z : Edge) (h1 : Edge.lt x y = true) (h2 : Edge.lt y z = true) : Edge.lt x z = true := by
  unfold Edge.lt at *
  by_cases a1 : x.fr = y.fr <;> by_cases a2 : y.fr = z.fr <;> by_cases b1 : x.send = y.send <;> by_cases b2 : y.send = z.send <;> simp_all <;> (try omega)
  all_goals (try (have : ¬ x.fr = z.fr := by omega); simp_all; omega)
theorem Edge.apt_iff {x y : Edge} : apt Edge.lt x y ↔ ¬ (x.fr = y.fr ∧ x.send = y.send ∧ x.label = y.label) := by
  unfold apt Edge.lt
  by_cases a1 : x.fr = y.fr
  · cases h1 : x.send <;> cases h2 : y.send <;> simp [a1] <;> omega
  · have : ¬ y.fr = x.fr := fun h => a1 h.symm
    simp [a1, this]
    omega

theorem chk_asc {n : Int} : ∀ {p : Option Edge} {l : List Edge}, chk n p l = true → l.Pairwise (fun x y => Edge.lt x y = true) ∧ ∀ q, p = some q → ∀ e ∈ l, Edge.lt q e = true
  | _, [], _ => ⟨List.Pairwise.nil, fun _ _ e he => absurd he (by simp)⟩
  | p, x :: r, h => by
    simp only [chk, Bool.and_eq_true] at h
    obtain ⟨h1, h2⟩ := chk_asc h.2
    refine ⟨List.pairwise_cons.2 ⟨h2 x rfl, h1⟩, fun q hq e he => ?_⟩
    subst hq
    have hx : Edge.lt q x = true := h.1.2
    rcases List.mem_cons.1 he with rfl | he
    · exact hx
    · exact Edge.lt_tr _ _ _ hx (h2 x rfl e he)
theorem chk_of {n : Int} : ∀ {p : Option Edge} {l : List Edge}, l.Pairwise (fun x y => Edge.lt x y = true) → (∀ e ∈ l, e.fits n = true) → (∀ q, p = some q → ∀ e ∈ l, Edge.lt q e = true) → chk n p l = true
  | _, [], _, _, _ => rfl
  | p, x :: r, h1, h2, h3 => by
    obtain ⟨g1, g2⟩ := List.pairwise_cons.1 h1
    simp only [chk, Bool.and_eq_true]
    refine ⟨⟨h2 x (by simp), ?_⟩, chk_of g2 (fun e he => h2 e (by simp [he])) fun q hq e he => ?_⟩
    · cases p with
      | none => rfl
      | some q => exact h3 q rfl x (by simp)
    · cases hq
      exact g1 e he
theorem Auto.good_iff {a : Auto} : a.err = 0 ↔ a.Good := by
  unfold Auto.err
  constructor
  · intro h
    split at h
    · cases h
    · split at h
      · split at h
        · rename_i h1 h2 h3
          exact ⟨h2, by omega, by omega, chk_fits h3, (chk_asc h3).1⟩
        · cases h
      · cases h
  · intro h
    have := h.mx; have := h.len
    rw [if_neg (by omega), if_pos h.st, if_pos (chk_of h.asc h.fit (fun q hq => by cases hq))]

-- next states
theorem nextE_some {s : Int} {d : Bool} {x t : Int} : ∀ {es : List Edge}, es.Pairwise (apt Edge.lt) → (nextE s d x es = some t ↔ ⟨s, d, x, t⟩ ∈ es)
  | [], _ => by simp [nextE]
  | e :: r, h => by
    obtain ⟨h1, h2⟩ := List.pairwise_cons.1 h
    unfold nextE
    split
    · rename_i hc
      constructor
      · intro h
        cases h
        obtain ⟨rfl, rfl, rfl⟩ := hc
        exact List.mem_cons_self ..
      · intro hm
        rcases List.mem_cons.1 hm with hm | hm
        · rw [← hm]
        · exact (Edge.apt_iff.1 (h1 _ hm) hc).elim
    · rename_i hc
      rw [nextE_some h2, List.mem_cons]
      refine ⟨.inr, fun h => h.elim (fun h => ?_) id⟩
      rw [← h] at hc
      exact (hc ⟨rfl, rfl, rfl⟩).elim
theorem Auto.Good.apt {a : Auto} (h : a.Good) : a.edges.Pairwise (apt Edge.lt) := h.asc.imp .inl

-- duals
def Edge.flip (e : Edge) : Edge := ⟨e.fr, !e.send, e.label, e.to⟩
theorem Edge.flip_flip (e : Edge) : e.flip.flip = e := by simp [Edge.flip]
def dualE (es : List Edge) : List Edge := isort Edge.lt (es.map Edge.flip)
def Auto.dual (a : Auto) : Auto := ⟨a.states, a.start, dualE a.edges⟩
theorem flip_apt {es : List Edge} (h : es.Pairwise (apt Edge.lt)) : (es.map Edge.flip).Pairwise (apt Edge.lt) := by
  rw [List.pairwise_map]
  refine h.imp fun {x y} hxy => ?_
  rw [Edge.apt_iff] at hxy ⊢
  simpa [Edge.flip] using hxy
theorem dualE_mem {es : List Edge} {e : Edge} : e ∈ dualE es ↔ e.flip ∈ es := by
  unfold dualE
  rw [(isort_perm _ _).mem_iff, List.mem_map]
  constructor
  · rintro ⟨x, hx, rfl⟩
    rwa [Edge.flip_flip]
  · exact fun h => ⟨_, h, Edge.flip_flip e⟩
theorem dual_sorted {es : List Edge} (h : es.Pairwise (apt Edge.lt)) : (dualE es).Pairwise (fun x y => Edge.lt x y = true) := isort_pw Edge.lt_tr (flip_apt h)
theorem dualE_len (es : List Edge) : (dualE es).length = es.length := by simp [dualE, (isort_perm _ _).length_eq]
theorem Auto.Good.dual {a : Auto} (h : a.Good) : a.dual.Good where
  st := h.st
  mx := h.mx
  len := by show (dualE a.edges).length ≤ 100; rw [dualE_len]; exact h.len
  fit e he := by
    have := h.fit e.flip (dualE_mem.1 he)
    exact this
  asc := dual_sorted h.apt
theorem Auto.Good.dual_dual {a : Auto} (h : a.Good) : a.dual.dual = a := by
  have : dualE (dualE a.edges) = a.edges := pw_uniq Edge.lt_irr Edge.lt_tr h.dual.dual.asc h.asc fun e => by
    rw [dualE_mem, dualE_mem, Edge.flip_flip]
  show (⟨a.states, a.start, dualE (dualE a.edges)⟩ : Auto) = a
  rw [this]
theorem dual_labs {es : List Edge} {d : Bool} : uniqs (labs d (dualE es)) = uniqs (labs (!d) es) := by
  refine uniqs_eq fun x => ?_
  rw [labs_mem, labs_mem]
  constructor
  · rintro ⟨e, he, rfl, rfl⟩
    exact ⟨_, dualE_mem.1 he, rfl, rfl⟩
  · rintro ⟨e, he, h1, h2⟩
    exact ⟨e.flip, dualE_mem.2 (by rwa [Edge.flip_flip]), by simp [Edge.flip, h1], h2⟩

-- what can be reached
def outs (es : List Edge) (v : Int) : List Int := (es.filter fun e => e.fr == v).map (·.to)
theorem outs_mem {es : List Edge} {v x : Int} : x ∈ outs es v ↔ ∃ e ∈ es, e.fr = v ∧ e.to = x := by simp [outs, and_assoc]
/-- The states that can be reached from one, breadth-first. -/
def Auto.from (a : Auto) (s : Int) : List Int := bfs (outs a.edges) a.states.toNat 0 [s]
def Auto.order (a : Auto) : List Int := a.from a.start
def Auto.inr (a : Auto) (v : Int) : Prop := 0 ≤ v ∧ v < a.states
theorem Auto.Good.outs_in {a : Auto} (h : a.Good) : ∀ v, a.inr v → ∀ x ∈ outs a.edges v, a.inr x := by
  intro v _ x hx
  obtain ⟨e, he, _, rfl⟩ := outs_mem.1 hx
  have := fits_iff.1 (h.fit e he)
  exact ⟨this.2.2.1, this.2.2.2.1⟩
theorem Auto.bound {a : Auto} : ∀ o : List Int, o.Nodup → (∀ v ∈ o, a.inr v) → o.length ≤ a.states.toNat := fun o hd ho => nodup_bound hd fun x hx => by
  have := ho x hx
  unfold Auto.inr at this
  omega
theorem Auto.Good.from_mem {a : Auto} (h : a.Good) {s v : Int} (hs : a.inr s) : v ∈ a.from s ↔ Rch (outs a.edges) s v := bfs_rch h.outs_in a.bound hs
theorem Auto.from_nodup (a : Auto) (s : Int) : (a.from s).Nodup := bfs_nodup _ _ (by simp)
theorem Auto.Good.from_in {a : Auto} (h : a.Good) {s : Int} (hs : a.inr s) : ∀ v ∈ a.from s, a.inr v := bfs_all h.outs_in _ _ (by simpa using hs)
theorem Auto.Good.from_len {a : Auto} (h : a.Good) {s : Int} (hs : a.inr s) : (a.from s).length ≤ a.states.toNat := a.bound _ (a.from_nodup s) (h.from_in hs)
theorem Auto.Good.order_in {a : Auto} (h : a.Good) : ∀ v ∈ a.order, a.inr v := h.from_in h.st
theorem Auto.Good.order_closed {a : Auto} (h : a.Good) {e : Edge} (he : e ∈ a.edges) (hf : e.fr ∈ a.order) : e.to ∈ a.order := (h.from_mem h.st).2 (.step ((h.from_mem h.st).1 hf) (outs_mem.2 ⟨e, he, rfl, rfl⟩))
theorem Auto.order_head (a : Auto) : ∃ r, a.order = a.start :: r := by
  obtain ⟨t, ht⟩ := bfs_pre (nx := outs a.edges) a.states.toNat 0 [a.start]
  exact ⟨t, ht.symm⟩

-- places in a list
theorem atFrom_get {x : Int} : ∀ {l : List Int} {k : Nat}, x ∈ l → ∃ j, atFrom x k l = ((k + j : Nat) : Int) ∧ l[j]? = some x
  | [], _, h => absurd h (by simp)
  | y :: r, k, h => by
    unfold atFrom
    split
    · rename_i hy
      exact ⟨0, rfl, by simp [hy]⟩
    · rename_i hy
      rcases List.mem_cons.1 h with rfl | h
      · exact (hy rfl).elim
      · obtain ⟨j, h1, h2⟩ := atFrom_get (k := k + 1) h
        exact ⟨j + 1, by rw [h1]; omega, by simpa using h2⟩
theorem atL_get {x : Int} {l : List Int} (h : x ∈ l) : ∃ j : Nat, atL x l = (j : Int) ∧ l[j]? = some x := by
  obtain ⟨j, h1, h2⟩ := atFrom_get (k := 0) h
  exact ⟨j, by unfold atL; rw [h1, Nat.zero_add], h2⟩
theorem atL_of {x : Int} {l : List Int} {j : Nat} (hd : l.Nodup) (h : l[j]? = some x) : atL x l = j := by
  obtain ⟨i, h1, h2⟩ := atL_get (List.mem_of_getElem? h)
  rw [h1]
  obtain ⟨g1, g2⟩ := List.getElem?_eq_some_iff.1 h
  obtain ⟨f1, f2⟩ := List.getElem?_eq_some_iff.1 h2
  have := (List.pairwise_iff_getElem.1 hd)
  rcases Nat.lt_trichotomy i j with hl | rfl | hl
  · exact (this i j f1 g1 hl (f2.trans g2.symm)).elim
  · rfl
  · exact (this j i g1 f1 hl (g2.trans f2.symm)).elim
theorem atL_inj {x y : Int} {l : List Int} (hx : x ∈ l) (hy : y ∈ l) (h : atL x l = atL y l) : x = y := by
  obtain ⟨i, h1, h2⟩ := atL_get hx
  obtain ⟨j, g1, g2⟩ := atL_get hy
  rw [h1, g1] at h
  have : i = j := by omega
  subst this
  rw [h2] at g2
  exact Option.some.inj g2
theorem atL_range {x : Int} {l : List Int} (hx : x ∈ l) : 0 ≤ atL x l ∧ atL x l < l.length := by
  obtain ⟨i, h1, h2⟩ := atL_get hx
  have := (List.getElem?_eq_some_iff.1 h2).1
  omega
def iota (n : Nat) : List Int := (List.range n).map Int.ofNat
theorem iota_get {n k : Nat} (h : k < n) : (iota n)[k]? = some (k : Int) := by simp [iota, h]
theorem iota_nodup (n : Nat) : (iota n).Nodup := List.Pairwise.map _ (fun _ _ h e => h (Int.ofNat.inj e)) List.nodup_range
theorem iota_at {n : Nat} {x : Int} (h : 0 ≤ x ∧ x < n) : atL x (iota n) = x := by
  have := atL_of (iota_nodup n) (iota_get (n := n) (k := x.toNat) (by omega))
  rw [show ((x.toNat : Nat) : Int) = x by omega] at this
  exact this
theorem iota_mem {n : Nat} {x : Int} : x ∈ iota n ↔ 0 ≤ x ∧ x < n := by
  unfold iota
  rw [List.mem_map]
  constructor
  · rintro ⟨k, hk, rfl⟩
    have := List.mem_range.1 hk
    simp
    omega
  · intro h
    exact ⟨x.toNat, List.mem_range.2 (by omega), by simp; omega⟩
theorem map_atL {l : List Int} (hd : l.Nodup) : l.map (atL · l) = iota l.length := by
  apply List.ext_getElem?
  intro i
  rw [List.getElem?_map]
  rcases Nat.lt_or_ge i l.length with h | h
  · rw [List.getElem?_eq_getElem h, iota_get h]
    simp only [Option.map_some]
    rw [atL_of hd (List.getElem?_eq_getElem h)]
  · rw [List.getElem?_eq_none h, List.getElem?_eq_none (by simp [iota, h])]
    rfl

-- trimmed automata
def Edge.ren (o : List Int) (e : Edge) : Edge := ⟨atL e.fr o, e.send, e.label, atL e.to o⟩
def kept (o : List Int) (es : List Edge) : List Edge := (es.filter fun e => decide (e.fr ∈ o)).map (Edge.ren o)
def Auto.trim (a : Auto) : Auto := ⟨a.order.length, 0, isort Edge.lt (kept a.order a.edges)⟩
theorem kept_mem {o : List Int} {es : List Edge} {x : Edge} : x ∈ kept o es ↔ ∃ e ∈ es, e.fr ∈ o ∧ e.ren o = x := by simp [kept, and_assoc]
theorem kept_apt {o : List Int} {es : List Edge} (h : es.Pairwise (apt Edge.lt)) : (kept o es).Pairwise (apt Edge.lt) := by
  unfold kept
  rw [List.pairwise_map]
  have h2 := h.filter (fun e => decide (e.fr ∈ o))
  refine List.Pairwise.imp_of_mem (fun {x y} hx hy hxy => ?_) h2
  have hx' := (List.mem_filter.1 hx).2
  have hy' := (List.mem_filter.1 hy).2
  simp only [decide_eq_true_eq] at hx' hy'
  rw [Edge.apt_iff] at hxy ⊢
  exact fun ⟨e1, e2, e3⟩ => hxy ⟨atL_inj hx' hy' e1, e2, e3⟩
theorem Auto.trim_mem {a : Auto} {x : Edge} : x ∈ a.trim.edges ↔ ∃ e ∈ a.edges, e.fr ∈ a.order ∧ e.ren a.order = x := by
  show x ∈ isort _ _ ↔ _
  rw [(isort_perm _ _).mem_iff, kept_mem]
theorem Auto.Good.trim {a : Auto} (h : a.Good) : a.trim.Good where
  st := by
    obtain ⟨r, hr⟩ := a.order_head
    show (0 : Int) ≤ 0 ∧ (0 : Int) < (a.order.length : Int)
    rw [hr]
    simp
  mx := by
    have := h.from_len h.st
    have := h.mx
    show (a.order.length : Int) ≤ 12
    unfold Auto.order
    omega
  len := by
    show (isort _ (kept _ _)).length ≤ 100
    rw [(isort_perm _ _).length_eq]
    have := List.length_filter_le (fun e : Edge => decide (e.fr ∈ a.order)) a.edges
    have := h.len
    simp only [kept, List.length_map]
    omega
  fit x hx := by
    obtain ⟨e, he, hf, rfl⟩ := Auto.trim_mem.1 hx
    have := fits_iff.1 (h.fit e he)
    have h1 := atL_range hf
    have h2 := atL_range (h.order_closed he hf)
    rw [fits_iff]
    show 0 ≤ atL e.fr a.order ∧ atL e.fr a.order < (a.order.length : Int) ∧ 0 ≤ atL e.to a.order ∧ atL e.to a.order < (a.order.length : Int) ∧ _
    exact ⟨h1.1, h1.2, h2.1, h2.2, this.2.2.2.2⟩
  asc := isort_pw Edge.lt_tr (kept_apt h.apt)

theorem Auto.Good.trim_outs {a : Auto} (h : a.Good) {v : Int} (hv : v ∈ a.order) : outs a.trim.edges (atL v a.order) = (outs a.edges v).map (atL · a.order) := by
  have key : (a.trim.edges.filter fun e => e.fr == atL v a.order) = (a.edges.filter fun e => e.fr == v).map (Edge.ren a.order) := by
    refine pw_uniq Edge.lt_irr Edge.lt_tr (h.trim.asc.filter _) ?_ fun x => ?_
    · rw [List.pairwise_map]
      refine List.Pairwise.imp_of_mem (fun {x y} hx hy hxy => ?_) (h.asc.filter _)
      have hx' := (List.mem_filter.1 hx).2
      have hy' := (List.mem_filter.1 hy).2
      simp only [beq_iff_eq] at hx' hy'
      unfold Edge.lt at hxy ⊢
      simp only [Edge.ren, hx', hy', ne_eq, not_true_eq_false, if_false] at hxy ⊢
      exact hxy
    · rw [List.mem_filter, Auto.trim_mem, List.mem_map]
      simp only [beq_iff_eq]
      constructor
      · rintro ⟨⟨e, he, hf, rfl⟩, hx⟩
        exact ⟨e, List.mem_filter.2 ⟨he, by simpa using atL_inj hf hv hx⟩, rfl⟩
      · rintro ⟨e, he, rfl⟩
        obtain ⟨he, hf⟩ := List.mem_filter.1 he
        simp only [beq_iff_eq] at hf
        exact ⟨⟨e, he, hf ▸ hv, rfl⟩, by simp [Edge.ren, hf]⟩
  unfold outs
  rw [key, List.map_map, List.map_map]
  rfl
theorem Auto.Good.trim_from {a : Auto} (h : a.Good) {s : Int} (hs : s ∈ a.order) : a.trim.from (atL s a.order) = (a.from s).map (atL · a.order) := by
  have hcl : ∀ v, v ∈ a.order → ∀ x ∈ outs a.edges v, x ∈ a.order := fun v hv x hx => by
    obtain ⟨e, he, rfl, rfl⟩ := outs_mem.1 hx
    exact h.order_closed he hv
  have hm := bfs_map (g := (atL · a.order)) (P := fun v => v ∈ a.order) (nx := outs a.edges) (nx' := outs a.trim.edges) (fun x y hx hy e => atL_inj hx hy e) hcl (fun v hv => h.trim_outs hv) a.order.length 0 (o := [s]) (by simpa using hs)
  show bfs (outs a.trim.edges) ((a.order.length : Int)).toNat 0 [atL s a.order] = _
  rw [Int.toNat_natCast]
  refine hm.trans ?_
  congr 1
  refine bfs_more (N := a.order.length) hcl (fun o hd ho => List.Nodup.length_le_of_subset hd ho) _ _ 0 (by omega) ?_ (by simp) (by simpa using hs)
  have := h.from_len h.st
  unfold Auto.order
  omega
theorem Auto.start_mem (a : Auto) : a.start ∈ a.order := by
  obtain ⟨r, hr⟩ := a.order_head
  rw [hr]
  simp
theorem Auto.Good.trim_order {a : Auto} (h : a.Good) : a.trim.order = iota a.order.length := by
  obtain ⟨r, hr⟩ := a.order_head
  have h0 : atL a.start a.order = 0 := by
    rw [hr]
    simp [atL, atFrom]
  have := h.trim_from a.start_mem
  rw [h0] at this
  show a.trim.from 0 = _
  rw [this]
  exact map_atL (a.from_nodup a.start)
theorem Auto.Good.trim_trim {a : Auto} (h : a.Good) : a.trim.trim = a.trim := by
  have ho := h.trim_order
  have hl : (iota a.order.length).length = a.order.length := by simp [iota]
  have hg := h.trim
  have he : a.trim.trim.edges = a.trim.edges := by
    refine pw_uniq Edge.lt_irr Edge.lt_tr hg.trim.asc hg.asc fun x => ?_
    rw [Auto.trim_mem, ho]
    have hr : ∀ e ∈ a.trim.edges, e.ren (iota a.order.length) = e := fun e he => by
      have := fits_iff.1 (hg.fit e he)
      have hs : a.trim.states = (a.order.length : Int) := rfl
      rw [hs] at this
      simp only [Edge.ren, iota_at ⟨this.1, this.2.1⟩, iota_at ⟨this.2.2.1, this.2.2.2.1⟩]
    constructor
    · rintro ⟨e, he, hf, rfl⟩
      rwa [hr e he]
    · intro hx
      have := fits_iff.1 (hg.fit x hx)
      exact ⟨x, hx, iota_mem.2 ⟨this.1, this.2.1⟩, hr x hx⟩
  show (⟨(a.trim.order.length : Int), 0, a.trim.trim.edges⟩ : Auto) = ⟨(a.order.length : Int), 0, a.trim.edges⟩
  rw [he, ho, hl]

-- runs
theorem Auto.Good.trim_next {a : Auto} (h : a.Good) {s : Int} (hs : s ∈ a.order) (d : Bool) (x : Int) : nextE (atL s a.order) d x a.trim.edges = (nextE s d x a.edges).map (atL · a.order) := by
  apply Option.ext
  intro t
  rw [nextE_some h.trim.apt, Auto.trim_mem, Option.map_eq_some_iff]
  constructor
  · rintro ⟨e, he, hf, hr⟩
    obtain ⟨f, d', x', t'⟩ := e
    simp only [Edge.ren, Edge.mk.injEq] at hr
    obtain ⟨h1, rfl, rfl, rfl⟩ := hr
    have := atL_inj hf hs h1
    subst this
    exact ⟨t', (nextE_some h.apt).2 he, rfl⟩
  · rintro ⟨t', hn, rfl⟩
    exact ⟨_, (nextE_some h.apt).1 hn, hs, rfl⟩
/-- Actions performed: the last state, and how many. -/
def runE (es : List Edge) : Int → List (Bool × Int) → Int × Nat
  | s, [] => (s, 0)
  | s, (d, x) :: r => match nextE s d x es with
    | none => (s, 0)
    | some t => ((runE es t r).1, (runE es t r).2 + 1)
theorem Auto.Good.trim_run {a : Auto} (h : a.Good) : ∀ {s : Int} (_ : s ∈ a.order) (l : List (Bool × Int)), runE a.trim.edges (atL s a.order) l = (atL (runE a.edges s l).1 a.order, (runE a.edges s l).2)
  | _, _, [] => rfl
  | s, hs, (d, x) :: r => by
    simp only [runE, h.trim_next hs]
    cases hn : nextE s d x a.edges with
    | none => rfl
    | some t =>
      have ht : t ∈ a.order := h.order_closed (e := ⟨s, d, x, t⟩) ((nextE_some h.apt).1 hn) hs
      simp only [Option.map_some]
      rw [h.trim_run ht r]

-- ends that can be reached
theorem isEnd_iff {s : Int} : ∀ {es : List Edge}, isEnd s es = true ↔ ∀ e ∈ es, e.fr ≠ s
  | [] => by simp [isEnd]
  | e :: r => by
    unfold isEnd
    split
    · rename_i h
      simp [h]
    · rename_i h
      rw [isEnd_iff]
      simp [h]
theorem all_cong {α : Type} {p q : α → Bool} : ∀ {l : List α}, (∀ x ∈ l, p x = q x) → l.all p = l.all q
  | [], _ => rfl
  | x :: l, h => by rw [List.all_cons, List.all_cons, h x (by simp), all_cong fun y hy => h y (by simp [hy])]
theorem any_cong {α : Type} {p q : α → Bool} : ∀ {l : List α}, (∀ x ∈ l, p x = q x) → l.any p = l.any q
  | [], _ => rfl
  | x :: l, h => by rw [List.any_cons, List.any_cons, h x (by simp), any_cong fun y hy => h y (by simp [hy])]
def Auto.proper (a : Auto) : Bool := a.order.all fun v => (a.from v).any fun w => isEnd w a.edges
theorem Auto.Good.trim_proper {a : Auto} (h : a.Good) : a.trim.proper = a.proper := by
  have hf : ∀ v ∈ a.order, ∀ w ∈ a.from v, w ∈ a.order := fun v hv w hw => (h.from_mem h.st).2 (((h.from_mem h.st).1 hv).trans ((h.from_mem (h.order_in v hv)).1 hw))
  have he : ∀ w ∈ a.order, isEnd (atL w a.order) a.trim.edges = isEnd w a.edges := fun w hw => by
    rw [Bool.eq_iff_iff, isEnd_iff, isEnd_iff]
    constructor
    · intro hn e he hx
      exact hn _ (Auto.trim_mem.2 ⟨e, he, hx ▸ hw, rfl⟩) (by simp [Edge.ren, hx])
    · intro hn x hx hr
      obtain ⟨e, he, hf, rfl⟩ := Auto.trim_mem.1 hx
      exact hn e he (atL_inj hf hw hr)
  have hi : a.trim.order = a.order.map (atL · a.order) := h.trim_order.trans (map_atL (a.from_nodup a.start)).symm
  unfold Auto.proper
  rw [hi, List.all_map]
  refine all_cong fun v hv => ?_
  simp only [Function.comp_apply]
  rw [h.trim_from hv, List.any_map]
  refine any_cong fun w hw => ?_
  simp only [Function.comp_apply]
  rw [he w (hf v hv w hw)]

end Go.Pv

/-
  Lists that begin as a literal and grow by appending; rows of arrays of the call's own.
-/
namespace Go.Pv

/-- A list of which the first b rows were written out. Its array is the n-th. -/
def glV (n b : Nat) (rows : List (List PV)) : V := if rows.length ≤ b then .tl rows else .own n (rows.length - b - 1) 0 rows.length
def glA (k b : Nat) (rows : List (List PV)) : List Arr := if rows.length ≤ b then [] else [⟨rows.length - b - 1, k, .inl rows⟩]
theorem glV_lit {n b : Nat} {rows : List (List PV)} (h : rows.length ≤ b) : glV n b rows = .tl rows := if_pos h
theorem glA_lit {k b : Nat} {rows : List (List PV)} (h : rows.length ≤ b) : glA k b rows = [] := if_pos h
theorem glV_own {n b m : Nat} {rows : List (List PV)} (h : rows.length = b + m + 1) : glV n b rows = .own n m 0 (b + m + 1) := by
  unfold glV
  rw [if_neg (by omega), h, show b + m + 1 - b - 1 = m by omega]
theorem glA_own {k b m : Nat} {rows : List (List PV)} (h : rows.length = b + m + 1) : glA k b rows = [⟨m, k, .inl rows⟩] := by
  unfold glA
  rw [if_neg (by omega), h, show b + m + 1 - b - 1 = m by omega]
theorem gl_cases {b : Nat} {rows : List (List PV)} : rows.length ≤ b ∨ ∃ m, rows.length = b + m + 1 := by
  rcases Nat.lt_or_ge b rows.length with h | h
  · exact .inr ⟨rows.length - b - 1, by omega⟩
  · exact .inl h
theorem glV_snoc {n b : Nat} {rows : List (List PV)} {r : List PV} (h : b ≤ rows.length) : glV n b (rows ++ [r]) = .own n (rows.length - b) 0 (rows.length + 1) := by
  rw [glV_own (m := rows.length - b) (by simp; omega), show b + (rows.length - b) + 1 = rows.length + 1 by omega]
theorem glA_snoc {k b : Nat} {rows : List (List PV)} {r : List PV} (h : b ≤ rows.length) : glA k b (rows ++ [r]) = [⟨rows.length - b, k, .inl (rows ++ [r])⟩] := glA_own (by simp; omega)

/-- Rows appended to an array of the call's own. -/
def apR (id ver off len k : Nat) (r : List PV) (a : Arr) : Option (V × Tn) :=
  if off + len = a.size ∧ a.k = k ∧ len + 1 ≤ mostRows then some (.own id (ver + 1) 0 (len + 1), { ar := some (id, ⟨ver + 1, k, catRows (cutRows off len a.body) (.inl [r])⟩) }) else none
theorem app_ownr (h : Heap) (id ver off len k : Nat) (r : List PV) (hr : r.length = k) : appendV h k (.own id ver off len) (.tl [r]) = (ownArr h id ver).bind (apR id ver off len k r) := by
  cases ho : ownArr h id ver with
  | none => simp [appendV, srcRows, rowsFit, ho]
  | some a =>
    simp only [appendV, srcRows, rowsFit, ho, rowsLen, apR, List.all_cons, List.all_nil, List.length_cons, List.length_nil, Option.bind_some, hr, beq_self_eq_true, Bool.and_self, if_true]
    by_cases h1 : off + len = a.size <;> by_cases h2 : a.k = k <;> by_cases h3 : len + 1 ≤ mostRows <;> simp [h1, h2, h3]
theorem apR_ok {id ver len k : Nat} {r : List PV} {l : List (List PV)} (h1 : len = l.length) (h2 : l.length + 1 ≤ 2147483648) : apR id ver 0 len k r ⟨ver, k, .inl l⟩ = some (.own id (ver + 1) 0 (len + 1), { ar := some (id, ⟨ver + 1, k, .inl (l ++ [r])⟩) }) := by
  subst h1
  unfold apR
  rw [if_pos ⟨by simp [Arr.size], rfl, h2⟩]
  simp [catRows, cutRows]
theorem app_tlr (h : Heap) (k : Nat) (rows : List (List PV)) (r : List PV) (hr : r.length = k) (hk : ∀ x ∈ rows, x.length = k) (hm : rows.length + 1 ≤ 2147483648) : appendV h k (.tl rows) (.tl [r]) = some (.own h.ar.length 0 0 (rows.length + 1), { push := [⟨0, k, .inl (rows ++ [r])⟩], base := h.ar.length }) := by
  have : (rows.all fun x => x.length == k) = true := by simpa using hk
  simp [appendV, srcRows, rowsFit, rowsLen, mostRows, catRows, hr, this, hm]
@[go_sem] theorem app_tli (h : Heap) (l : List Int) (x : Int) (hm : l.length + 1 ≤ 2147483648) : appendV h 1 (.tl (ints l)) (.tl [[.int .i64 x]]) = some (.own h.ar.length 0 0 (l.length + 1), { push := [⟨0, 1, .inl (ints (l ++ [x]))⟩], base := h.ar.length }) := by
  rw [app_tlr h 1 (ints l) [.int .i64 x] rfl (by simp [ints]) (by rw [ints_length]; exact hm), ints_length, ints_snoc]

@[go_sem] theorem lenV_gl (h : Heap) (n b : Nat) (rows : List (List PV)) : lenV h 0 (glV n b rows) = some (rows.length, {}) := by unfold glV; split <;> rfl
@[go_sem] theorem cells_gl (n b : Nat) (rows : List (List PV)) : V.cells (glV n b rows) = [glV n b rows] := by unfold glV; split <;> rfl
@[go_sem] theorem calm_gl (n b : Nat) (rows : List (List PV)) : V.calm (glV n b rows) = true := by unfold glV; split <;> rfl
@[go_sem] theorem sized_gl (n b : Nat) (rows : List (List PV)) : V.sized (glV n b rows) = true := by unfold glV; split <;> rfl
@[go_sem] theorem scrub_gl (kb : List Nat) (n b : Nat) (rows : List (List PV)) : scrub kb (glV n b rows) = glV n b rows := by unfold glV; split <;> rfl
@[go_sem] theorem okc_gl (kb : List Nat) (n b : Nat) (rows : List (List PV)) : okc kb (glV n b rows) = true := by unfold glV; split <;> rfl
@[go_sem] theorem keep_gl (h : Heap) (n b : Nat) (rows : List (List PV)) : keep h false (glV n b rows) = keepc h 4 (glV n b rows) := by unfold glV; split <;> rfl
@[go_sem] theorem lend_gl (h : Heap) (n b : Nat) (rows : List (List PV)) : lend h (glV n b rows) = lendc h 4 (glV n b rows) := by unfold glV; split <;> rfl
def glG (b : Nat) (rows : List (List PV)) : Nat := if rows.length ≤ b then 0 else 1
theorem keepc_gl (bx : List (Nat × List V)) (mp : List (List (PV × PV))) (pre : List Arr) (k b d : Nat) (rows : List (List PV)) : keepc ⟨bx, pre ++ glA k b rows, mp⟩ (d + 1) (glV pre.length b rows) = some (.lst 0 rows) := by
  unfold glV glA
  split
  · rfl
  · simp [keepc_own, ownArr, keepRows, cutRows]
theorem lendc_gl (bx : List (Nat × List V)) (mp : List (List (PV × PV))) (pre : List Arr) (k b d : Nat) (rows : List (List PV)) : lendc ⟨bx, pre ++ glA k b rows, mp⟩ (d + 1) (glV pre.length b rows) = some (.lst (glG b rows) rows) := by
  unfold glV glA glG
  split
  · rfl
  · simp [lendc, ownArr, cutRows]
@[go_sem] theorem keepc_gl0 (bx : List (Nat × List V)) (mp : List (List (PV × PV))) (k b : Nat) (rows : List (List PV)) : keepc ⟨bx, glA k b rows, mp⟩ 4 (glV 0 b rows) = some (.lst 0 rows) := keepc_gl bx mp [] k b 3 rows
@[go_sem] theorem keepc_gl1 (bx : List (Nat × List V)) (mp : List (List (PV × PV))) (a : Arr) (k b : Nat) (rows : List (List PV)) : keepc ⟨bx, a :: glA k b rows, mp⟩ 4 (glV 1 b rows) = some (.lst 0 rows) := keepc_gl bx mp [a] k b 3 rows
@[go_sem] theorem lendc_gl0 (bx : List (Nat × List V)) (mp : List (List (PV × PV))) (k b : Nat) (rows : List (List PV)) : lendc ⟨bx, glA k b rows, mp⟩ 4 (glV 0 b rows) = some (.lst (glG b rows) rows) := lendc_gl bx mp [] k b 3 rows
@[go_sem] theorem lendc_gl1 (bx : List (Nat × List V)) (mp : List (List (PV × PV))) (a : Arr) (k b : Nat) (rows : List (List PV)) : lendc ⟨bx, a :: glA k b rows, mp⟩ 4 (glV 1 b rows) = some (.lst (glG b rows) rows) := lendc_gl bx mp [a] k b 3 rows

attribute [go_sem] Int.lt_irrefl

end Go.Pv

/-
  Lists that are equal; beginnings of lists.
-/
namespace Go.Pv

theorem take_step {α : Type} {a b : List α} {k : Nat} {x y : α} (hx : a[k]? = some x) (hy : b[k]? = some y) (h : a.take k = b.take k) (e : x = y) : a.take (k + 1) = b.take (k + 1) := by
  rw [List.take_add_one, List.take_add_one, hx, hy, h, e]
theorem takes_all {α : Type} {a b : List α} {k : Nat} (ha : a.length ≤ k) (hb : b.length ≤ k) (h : a.take k = b.take k) : a = b := by
  rwa [List.take_of_length_le ha, List.take_of_length_le hb] at h

/-- Ints -/
@[go_sem] theorem r94 (t u : Nat) (a b : List Int) (ha : a.length ≤ 2 ^ 63 - 1) (hb : b.length ≤ 2 ^ 63 - 1) : res A PrA 94 [.lst t (ints a), .lst u (ints b)] = some [.bool (decide (a = b))] := by
  refine res_of a94 rfl rfl ?_
  simp only [F94]
  simp (disch := omega) only [go_sem]
  refine Br.ofP (fun h => ?_) (fun h => ?_) <;> simp (disch := omega) only [go_sem, h]
  case refine_2 =>
    have : ¬ a = b := fun e => h (by rw [e])
    simp [this]
  refine W.upto a.length (fun k => ⟨[(0, .pv (.lst t (ints a))), (1, .pv (.lst u (ints b))), (5, .pv (.int .i64 k))], ⟨[], [], []⟩⟩) (fun k => a.take k = b.take k) rfl rfl fun k hk hi => ?_
  simp (disch := omega) only [go_sem]
  refine Br.ofP (fun g => ?_) (fun g => ?_)
  · obtain ⟨x, hx⟩ := get_at (l := a) (k := k) (by omega)
    obtain ⟨y, hy⟩ := get_at (l := b) (k := k) (by omega)
    simp (disch := omega) only [go_sem, hx, hy]
    refine Br.ofP (fun f => ?_) (fun f => ?_) <;> simp (disch := omega) only [go_sem, f]
    · exact .of (by omega) rfl (take_step hx hy hi f)
    · have : ¬ a = b := fun e => f (by rw [e, hy] at hx; exact (Option.some.inj hx).symm)
      simp [this]
  · simp (disch := omega) only [go_sem]
    have := takes_all (k := k) (by omega) (by omega) hi
    simp [this]

end Go.Pv

/-
  The law of next states, ends and labels.
-/
namespace Go.Pv

theorem ends_len (a : Auto) : a.ends.length ≤ 12 := by
  unfold Auto.ends
  split
  · have := endsTo_len a.edges a.states.toNat
    omega
  · simp

end Go.Pv

/-
  Edges put in order by the reference.
-/
namespace Go.Pv

@[go_sem] theorem edgs_snocc (l : List Edge) (f : Int) (d : Bool) (x t : Int) : edgs l ++ [[.int .i64 f, .bool d, .int .i64 x, .int .i64 t]] = edgs (l ++ [⟨f, d, x, t⟩]) := by simp [edgs, Edge.c]
theorem edge_eta (e : Edge) : (⟨e.fr, e.send, e.label, e.to⟩ : Edge) = e := rfl
@[go_sem] theorem edgs_store {id row ver : Nat} {f x t : Int} {d : Bool} {l : List Edge} (h1 : row < l.length) : storeRow id row 0 [.pv (.int .i64 f), .pv (.bool d), .pv (.int .i64 x), .pv (.int .i64 t)] ⟨ver, 4, .inl (edgs l)⟩ = some { ar := some (id, ⟨ver, 4, .inl (edgs (l.set row ⟨f, d, x, t⟩))⟩) } := by
  rw [storeRow_inl (l := [.int .i64 f, .bool d, .int .i64 x, .int .i64 t]) (by rw [edgs_length]; exact h1) rfl (by simp) rfl]
  have : over row 0 [.int .i64 f, .bool d, .int .i64 x, .int .i64 t] (edgs l) = edgs (l.set row ⟨f, d, x, t⟩) := by
    unfold over edgs
    rw [List.map_set]
    congr 1
    obtain ⟨e, he⟩ : ∃ e, l[row]? = some e := ⟨l[row], by simp [h1]⟩
    simp [he, Edge.c]
  rw [this]

set_option maxHeartbeats 2000000 in
/-- Sorted, of the reference. -/
@[go_sem] theorem r43 (t : Nat) (a : Auto) (hl : a.edges.length ≤ 2000000000) :
    res A PrA 43 [.agg [.int .i64 a.states, .int .i64 a.start, .lst t (a.edges.map Edge.c)]] = some [.agg [.int .i64 a.states, .int .i64 a.start, .lst 0 (edgs (sortB Edge.lt a.edges))]] := by
  refine res_of a43 rfl rfl ?_
  simp only [F43]
  simp (disch := omega) only [go_sem]
  refine W.fold a.edges (fun o x => insB Edge.lt x o) [] (fun k o => ⟨[(1, .ptr 1 0), (2, .ptr 2 0), (3, .ptr 3 0), (4, .pv (.int .i64 k))], ⟨[(1, [.pv (.int .i64 a.states), .pv (.int .i64 a.start), .pv (.lst t (a.edges.map Edge.c))]), (2, [.pv (.int .i64 0), .pv (.int .i64 0), .tl []]), (3, [.pv (.int .i64 a.states), .pv (.int .i64 a.start), grV 0 (edgs o)])], grA 4 (edgs o), []⟩⟩) (fun k o => o.length = k) rfl rfl (fun k e o he hk _ hi => ?_) (fun o ho hi => ?_)
  · simp (disch := omega) only [go_sem, he]
    refine Br.ofP (fun h => ?_) (fun h => (h (by omega)).elim)
    simp (disch := omega) only [go_sem, he]
    have hlen : (edgs (o ++ [e])).length = o.length + 1 := by simp [edgs]
    refine W.upto o.length (fun j => ⟨[(1, .ptr 1 0), (2, .ptr 2 0), (3, .ptr 3 0), (4, .pv (.int .i64 k)), (5, .pv (.int .i64 (o.length - j : Nat)))], ⟨[(1, [.pv (.int .i64 a.states), .pv (.int .i64 a.start), .pv (.lst t (a.edges.map Edge.c))]), (2, [.pv (.int .i64 0), .pv (.int .i64 0), .tl []]), (3, [.pv (.int .i64 a.states), .pv (.int .i64 a.start), .own 0 o.length 0 (o.length + 1)])], [⟨o.length, 4, .inl (edgs (putA e o (o.length - j)))⟩], []⟩⟩)
      (fun j => bub Edge.lt e o o.length = bub Edge.lt e o (o.length - j)) ?_ rfl fun j hj hq => ?_
    · rw [grV_own hlen, grA_own hlen, show (((o.length + 1 : Nat) : Int) - 1) = ((o.length - 0 : Nat) : Int) by omega]
      simp [putA]
    have hpl := putA_len e o (o.length - j) (by omega)
    have hp0 := putA_at e o (o.length - j) (by omega)
    simp (disch := omega) only [go_sem, hp0]
    have fin : bub Edge.lt e o o.length = o.length - j → insB Edge.lt e o = putA e o (o.length - j) := fun hb => by unfold insB; rw [hb]
    refine Br.ofP (fun f1 => ?_) (fun f1 => ?_)
    · obtain ⟨p, hp⟩ : ∃ p, o.length - j = p + 1 := ⟨o.length - j - 1, by omega⟩
      have hpb := putA_below e o p (by omega)
      have hpd := putA_down e o p (by omega)
      have e1 : ((p + 1 : Nat) : Int) - 1 = (p : Int) := by omega
      have e2 : o.length - (j + 1) = p := by omega
      rw [hp] at hq hpl hp0 fin
      have f2 : (0 : Int) < ((p + 1 : Nat) : Int) := by omega
      have hpl2 : ((putA e o (p + 1)).set (p + 1) (o.getD p default)).length = o.length + 1 := by rw [List.length_set]; exact hpl
      simp (disch := omega) only [go_sem, hp, hp0, f2, e1, hpb, edge_eta]
      refine Br.of (fun f3 => ?_) (fun f3 => ?_) <;> simp (disch := omega) only [go_sem, f3, hp0, e1, hpb, hpd, edge_eta]
      · refine .of (by omega) ?_ ?_
        · show _ = St.mk _ _
          rw [e2]
        · rw [hq, e2]
          simp only [bub, f3, if_true]
      · refine foldK.of ?_ ?_
        · show _ = St.mk _ _
          rw [fin (by rw [hq]; simp only [bub, f3, Bool.false_eq_true, if_false]), grV_own (by rw [edgs_length]; exact hpl), grA_own (by rw [edgs_length]; exact hpl)]
          rfl
        · rw [insB_len]
          omega
    · have h0 : o.length - j = 0 := by omega
      simp (disch := omega) only [go_sem, f1]
      rw [h0] at hq hpl hp0 fin ⊢
      refine foldK.of ?_ ?_
      · show _ = St.mk _ _
        rw [fin hq, grV_own (by rw [edgs_length]; exact hpl), grA_own (by rw [edgs_length]; exact hpl)]
        rfl
      · rw [insB_len]
        omega
  · simp (disch := omega) only [go_sem]
    rw [ho]
    rfl

end Go.Pv

/-
  Duals.
-/
namespace Go.Pv

theorem fold_map {α β : Type} (f : α → β) : ∀ (l : List α) (o : List β), l.foldl (fun o x => o ++ [f x]) o = o ++ l.map f
  | [], o => by simp
  | x :: l, o => by rw [List.foldl_cons, fold_map f l]; simp
theorem fold_filter {α β : Type} (p : α → Bool) (f : α → β) : ∀ (l : List α) (o : List β), l.foldl (fun o x => if p x = true then o ++ [f x] else o) o = o ++ (l.filter p).map f
  | [], o => by simp
  | x :: l, o => by
    rw [List.foldl_cons, fold_filter p f l]
    by_cases h : p x = true <;> simp [h]
@[go_sem] theorem r43e (t : Nat) (n s : Int) (l : List Edge) (hl : l.length ≤ 2000000000) : res A PrA 43 [.agg [.int .i64 n, .int .i64 s, .lst t (edgs l)]] = some [.agg [.int .i64 n, .int .i64 s, .lst 0 (edgs (sortB Edge.lt l))]] := r43 t ⟨n, s, l⟩ hl

theorem cloneP_edgs (h : Heap) (t : Nat) (l : List Edge) (ht : t ≤ 1) (hl : l.length ≤ 2147483648) : cloneP 4 [.pv (.lst t (l.map Edge.c))] h = some (if l.length = 0 then (.tl [], {}) else (.own h.ar.length 0 0 l.length, { push := [⟨0, 4, .inl (edgs l)⟩], base := h.ar.length })) := by
  have h1 : ((l.map Edge.c).all fun x => x.length == 4) = true := by simp [Edge.c]
  have h2 : l.length ≤ mostRows := hl
  by_cases h0 : l.length = 0 <;> simp [cloneP, srcRows, rowsFit, ht, h1, h2, h0, edgs]

/-- The first k turned. -/
def mapTo {α : Type} (f : α → α) (l : List α) (k : Nat) : List α := (l.take k).map f ++ l.drop k
theorem mapTo_len {α : Type} (f : α → α) (l : List α) (k : Nat) : (mapTo f l k).length = l.length := by simp [mapTo]; omega
theorem mapTo_get {α : Type} {f : α → α} {l : List α} {k : Nat} {e : α} (h : l[k]? = some e) : (mapTo f l k)[k]? = some e := by
  have hk := (List.getElem?_eq_some_iff.1 h).1
  unfold mapTo
  rw [List.getElem?_append_right (by simp; omega)]
  simp [Nat.min_eq_left (Nat.le_of_lt hk), h]
theorem mapTo_set {α : Type} {f : α → α} {l : List α} {k : Nat} {e : α} (h : l[k]? = some e) : (mapTo f l k).set k (f e) = mapTo f l (k + 1) := by
  have hk := (List.getElem?_eq_some_iff.1 h).1
  unfold mapTo
  rw [List.set_append_right _ _ (by simp; omega), drop_at h, List.take_add_one, h]
  simp [Nat.min_eq_left (Nat.le_of_lt hk)]
theorem mapTo_all {α : Type} (f : α → α) (l : List α) : mapTo f l l.length = l.map f := by simp [mapTo]
theorem mapTo_zero {α : Type} (f : α → α) (l : List α) : mapTo f l 0 = l := by simp [mapTo]
@[go_sem] theorem edgs_store1 {id row ver : Nat} {d : Bool} {l : List Edge} {e : Edge} (h : l[row]? = some e) : storeRow id row 1 [.pv (.bool d)] ⟨ver, 4, .inl (edgs l)⟩ = some { ar := some (id, ⟨ver, 4, .inl (edgs (l.set row ⟨e.fr, d, e.label, e.to⟩))⟩) } := by
  have hk := (List.getElem?_eq_some_iff.1 h).1
  rw [storeRow_inl (l := [.bool d]) (by rw [edgs_length]; exact hk) rfl (by simp) rfl]
  have : over row 1 [.bool d] (edgs l) = edgs (l.set row ⟨e.fr, d, e.label, e.to⟩) := by
    unfold over edgs
    rw [List.map_set]
    congr 1
    simp [h, Edge.c]
  rw [this]
theorem edgs_dec (l : List Edge) : mapO Edge.dec (edgs l) = some l := by
  induction l with
  | nil => rfl
  | cons x l ih =>
    show mapO Edge.dec (x.c :: edgs l) = _
    have : Edge.dec x.c = some x := rfl
    simp only [mapO, this, ih]
@[go_sem] theorem sortP_tl (k g : Nat) (f : List (List PV) → Option (List (List PV))) (h : Heap) : sortP k f g [.tl [], .func g []] h = some (.tup [], {}) := by simp [sortP]
theorem sortP_edgs {h : Heap} {id ver n : Nat} {l : List Edge} (hn : n = l.length) (ho : ownArr h id ver = some ⟨ver, 4, .inl (edgs l)⟩) (h0 : l.length ≠ 0) (hm : l.length ≤ 2147483648) (hap : l.Pairwise (apt Edge.lt)) :
    sortP 4 (sortRows Edge.c Edge.dec Edge.lt) 47 [.own id ver 0 n, .func 47 []] h = some (.tup [], { ar := some (id, ⟨ver, 4, .inl (edgs (isort Edge.lt l))⟩) }) := by
  subst hn
  have e1 : (edgs l).length = l.length := edgs_length l
  have hr := rising_of (isort_pw Edge.lt_tr hap)
  simp [sortP, ho, h0, e1, mostRows, hm, sortRows, edgs_dec, hr, List.take_of_length_le (Nat.le_of_eq e1), List.drop_eq_nil_of_le (Nat.le_of_eq e1)]
  rfl

set_option maxHeartbeats 2000000 in
@[go_sem] theorem r97 (t : Nat) (a : Auto) (ht : t ≤ 1) (hl : a.edges.length ≤ 2000000000) :
    res A PrA 97 [.agg [.int .i64 a.states, .int .i64 a.start, .lst t (a.edges.map Edge.c)]] = some (if a.err = 0 then [.agg [.int .i64 a.states, .int .i64 a.start, .lst 0 (edgs (dualE a.edges))], .int .i64 0] else [.agg [.int .i64 0, .int .i64 0, .lst 0 []], .int .i64 a.err]) := by
  refine res_of a97 rfl rfl ?_
  simp only [F97]
  simp (disch := omega) only [go_sem]
  refine Br.ofP (fun h1 => ?_) (fun h1 => ?_) <;> simp (disch := omega) only [go_sem, h1]
  by_cases h0 : a.edges.length = 0
  · have he : a.edges = [] := List.eq_nil_of_length_eq_zero h0
    simp (disch := omega) only [go_sem, cloneP_edgs, h0]
    refine W.once ?_
    simp (disch := omega) only [go_sem]
    have h2 : dualE a.edges = [] := by rw [he]; rfl
    rw [if_pos h1, h2]
    refine Br.ofP (fun h => absurd h (by omega)) (fun _ => ?_)
    simp (disch := omega) only [go_sem]
  simp (disch := omega) only [go_sem, cloneP_edgs, h0]
  have hz := (Auto.good_iff.1 h1)
  refine W.fold a.edges (fun (o : Nat) (_ : Edge) => o + 1) 0 (fun k _ => ⟨[(2, .ptr 2 0), (5, .ptr 5 0), (23, .pv (.int .i64 a.edges.length)), (24, .pv (.int .i64 k))], ⟨[(2, [.pv (.int .i64 0), .pv (.int .i64 0), .tl []]), (5, [.pv (.int .i64 a.states), .pv (.int .i64 a.start), .own 0 0 0 a.edges.length])], [⟨0, 4, .inl (edgs (mapTo Edge.flip a.edges k))⟩], []⟩⟩) (fun _ _ => True) rfl trivial (fun k e o he hk _ _ => ?_) (fun o _ _ => ?_)
  · simp (disch := omega) only [go_sem]
    refine Br.ofP (fun h => ?_) (fun h => (h (by omega)).elim)
    have hg := mapTo_get (f := Edge.flip) he
    have hs := mapTo_set (f := Edge.flip) he
    have hs' : (mapTo Edge.flip a.edges k).set k { fr := e.fr, send := !e.send, label := e.label, to := e.to } = mapTo Edge.flip a.edges (k + 1) := hs
    have hln := mapTo_len Edge.flip a.edges k
    simp (disch := omega) only [go_sem, hg, edgs_store1 hg, hs']
    exact foldK.of rfl trivial
  · rw [mapTo_all]
    have hap := flip_apt hz.apt
    have hln : (a.edges.map Edge.flip).length = a.edges.length := List.length_map _
    simp (disch := omega) only [go_sem]
    rw [sortP_edgs hln.symm rfl (by omega) (by omega) hap]
    have hl2 := dualE_len a.edges
    simp (disch := omega) only [go_sem]
    rw [if_pos h1, List.take_of_length_le]
    · rfl
    · rw [edgs_length]
      exact Nat.le_of_eq hl2

end Go.Pv

/-
  Automata that are equal.
-/
namespace Go.Pv

theorem edge_ext {a b : Edge} (h1 : a.fr = b.fr) (h2 : a.send = b.send) (h3 : a.label = b.label) (h4 : a.to = b.to) : a = b := by
  cases a; cases b; simp_all
theorem edge_dec (a b : Edge) : (decide (a.fr = b.fr) && (decide (a.send = b.send) && (decide (a.label = b.label) && decide (a.to = b.to)))) = decide (a = b) := by
  by_cases h : a = b
  · subst h; simp
  · have : ¬ (a.fr = b.fr ∧ a.send = b.send ∧ a.label = b.label ∧ a.to = b.to) := fun ⟨h1, h2, h3, h4⟩ => h (edge_ext h1 h2 h3 h4)
    simp only [h, decide_false, Bool.and_eq_false_iff, decide_eq_false_iff_not]
    by_cases h1 : a.fr = b.fr <;> by_cases h2 : a.send = b.send <;> by_cases h3 : a.label = b.label <;> by_cases h4 : a.to = b.to <;> simp_all
set_option maxHeartbeats 1000000 in
/-- Same -/
@[go_sem] theorem r15 (t u : Nat) (a b : Auto) (ha : a.edges.length ≤ 2 ^ 63 - 1) (hb : b.edges.length ≤ 2 ^ 63 - 1) : res A PrA 15 [.agg [.int .i64 a.states, .int .i64 a.start, .lst t (a.edges.map Edge.c)], .agg [.int .i64 b.states, .int .i64 b.start, .lst u (b.edges.map Edge.c)]] = some [.bool (decide (a = b))] := by
  refine res_of a15 rfl rfl ?_
  simp only [F15]
  simp (disch := omega) only [go_sem]
  refine Br.ofP (fun h1 => ?_) (fun h1 => ?_) <;> simp (disch := omega) only [go_sem, h1]
  case refine_2 =>
    have : ¬ a = b := fun e => h1 (by rw [e])
    simp [this]
  refine Br.ofP (fun h2 => ?_) (fun h2 => ?_) <;> simp (disch := omega) only [go_sem, h2]
  case refine_2 =>
    have : ¬ a = b := fun e => h2 (by rw [e])
    simp [this]
  refine Br.ofP (fun h3 => ?_) (fun h3 => ?_) <;> simp (disch := omega) only [go_sem, h3]
  case refine_2 =>
    have : ¬ a = b := fun e => h3 (by rw [e])
    simp [this]
  refine W.upto a.edges.length (fun k => ⟨[(2, .ptr 2 0), (3, .ptr 3 0), (5, .pv (.int .i64 k))], ⟨[(2, [.pv (.int .i64 b.states), .pv (.int .i64 b.start), .pv (.lst t (a.edges.map Edge.c))]), (3, [.pv (.int .i64 b.states), .pv (.int .i64 b.start), .pv (.lst u (b.edges.map Edge.c))])], [], []⟩⟩) (fun k => a.edges.take k = b.edges.take k) rfl rfl fun k hk hi => ?_
  simp (disch := omega) only [go_sem]
  refine Br.ofP (fun g => ?_) (fun g => ?_)
  · obtain ⟨x, hx⟩ := get_at (l := a.edges) (k := k) (by omega)
    obtain ⟨y, hy⟩ := get_at (l := b.edges) (k := k) (by omega)
    simp (disch := omega) only [go_sem, hx, hy, edge_dec]
    refine Br.ofP (fun f => ?_) (fun f => ?_) <;> simp (disch := omega) only [go_sem, f]
    · exact .of (by omega) rfl (take_step hx hy hi f)
    · have : ¬ a = b := fun e => f (by rw [e, hy] at hx; exact (Option.some.inj hx).symm)
      simp [this]
  · simp (disch := omega) only [go_sem]
    have h4 := takes_all (k := k) (by omega) (by omega) hi
    have : a = b := by cases a; cases b; simp_all
    simp [this]
@[go_sem] theorem r15e (t u : Nat) (n s n' s' : Int) (l m : List Edge) (hl : l.length ≤ 2 ^ 63 - 1) (hm : m.length ≤ 2 ^ 63 - 1) : res A PrA 15 [.agg [.int .i64 n, .int .i64 s, .lst t (edgs l)], .agg [.int .i64 n', .int .i64 s', .lst u (edgs m)]] = some [.bool (decide ((⟨n, s, l⟩ : Auto) = ⟨n', s', m⟩))] := r15 t u ⟨n, s, l⟩ ⟨n', s', m⟩ hl hm

@[go_sem] theorem r39e (t : Nat) (n s0 : Int) (l : List Edge) (s : Int) (d : Bool) (x : Int) (hl : l.length ≤ 2 ^ 63 - 1) :
    res A PrA 39 [.agg [.int .i64 n, .int .i64 s0, .lst t (edgs l)], .int .i64 s, .bool d, .int .i64 x] = some [.int .i64 ((nextE s d x l).getD 0), .bool (nextE s d x l).isSome] := r39 t ⟨n, s0, l⟩ s d x hl
@[go_sem] theorem r45e (t : Nat) (n s0 : Int) (l : List Edge) (s : Int) (d : Bool) (x : Int) (hl : l.length ≤ 2 ^ 63 - 1) :
    res A PrA 45 [.agg [.int .i64 n, .int .i64 s0, .lst t (edgs l)], .int .i64 s, .bool d, .int .i64 x] = some [.int .i64 ((nextE s d x l).getD 0), .bool (nextE s d x l).isSome] := r45 t ⟨n, s0, l⟩ s d x hl
@[go_sem] theorem r26e (t : Nat) (n s : Int) (l : List Edge) (hl : l.length ≤ 2 ^ 63 - 1) : res A PrA 26 [.agg [.int .i64 n, .int .i64 s, .lst t (edgs l)]] = some [.int .i64 (⟨n, s, l⟩ : Auto).err] := r26 t ⟨n, s, l⟩ hl
@[go_sem] theorem r29e (t : Nat) (n s : Int) (l : List Edge) (hl : l.length ≤ 2 ^ 63 - 1) : res A PrA 29 [.agg [.int .i64 n, .int .i64 s, .lst t (edgs l)]] = some [.int .i64 (⟨n, s, l⟩ : Auto).err] := r29 t ⟨n, s, l⟩ hl
@[go_sem] theorem r97e (t : Nat) (n s : Int) (l : List Edge) (ht : t ≤ 1) (hl : l.length ≤ 2000000000) : res A PrA 97 [.agg [.int .i64 n, .int .i64 s, .lst t (edgs l)]] = some (if (⟨n, s, l⟩ : Auto).err = 0 then [.agg [.int .i64 n, .int .i64 s, .lst 0 (edgs (dualE l))], .int .i64 0] else [.agg [.int .i64 0, .int .i64 0, .lst 0 []], .int .i64 (⟨n, s, l⟩ : Auto).err]) := r97 t ⟨n, s, l⟩ ht hl
end Go.Pv

/-
  Plain laws: automata of drafts.
-/
namespace Go.Pv

structure Arc where
  fr : Int
  act : Int
  to : Int
  deriving DecidableEq, Inhabited
structure Draft where
  n : Int
  arcs : List Arc
  deriving DecidableEq, Inhabited
def Arc.c (x : Arc) : List PV := [.int .u8 x.fr, .int .u8 x.act, .int .u8 x.to]
def Arc.ok (x : Arc) : Prop := (0 ≤ x.fr ∧ x.fr ≤ 255) ∧ (0 ≤ x.act ∧ x.act ≤ 255) ∧ (0 ≤ x.to ∧ x.to ≤ 255)
def Draft.ok (d : Draft) : Prop := (0 ≤ d.n ∧ d.n ≤ 255) ∧ d.arcs.length ≤ 2 ^ 63 - 1 ∧ ∀ x ∈ d.arcs, x.ok
/-- The edge of an arc. -/
def Arc.edge (st : Int) (x : Arc) : Edge := ⟨x.fr % st, decide (x.act % 2 = 1), 1 + x.act / 2 % 3, x.to % st⟩
def addE (es : List Edge) (e : Edge) : List Edge := if (nextE e.fr e.send e.label es).isSome = true then es else es ++ [e]
def Draft.raw (d : Draft) : List Edge := (d.arcs.take 12).foldl (fun es x => addE es (x.edge (1 + d.n % 4))) []
def Draft.auto (d : Draft) : Auto := ⟨1 + d.n % 4, 0, sortB Edge.lt d.raw⟩

theorem nextE_none {s : Int} {d : Bool} {x : Int} : ∀ {es : List Edge}, (nextE s d x es).isSome = false ↔ ∀ e ∈ es, ¬ (e.fr = s ∧ e.send = d ∧ e.label = x)
  | [] => by simp [nextE]
  | e :: r => by
    unfold nextE
    split
    · rename_i h
      simp [h]
    · rename_i h
      rw [nextE_none]
      simp only [List.mem_cons]
      exact ⟨fun hh y hy => hy.elim (fun e => e ▸ h) (hh y), fun hh y hy => hh y (.inr hy)⟩
theorem addE_apt {es : List Edge} {e : Edge} (h : es.Pairwise (apt Edge.lt)) : (addE es e).Pairwise (apt Edge.lt) := by
  unfold addE
  split
  · exact h
  · rename_i hn
    have hn' := nextE_none.1 (by simpa using hn)
    rw [List.pairwise_append]
    refine ⟨h, List.pairwise_singleton _ _, fun a ha b hb => ?_⟩
    rw [List.mem_singleton] at hb
    subst hb
    rw [Edge.apt_iff]
    exact hn' a ha
theorem addE_len (es : List Edge) (e : Edge) : (addE es e).length ≤ es.length + 1 := by
  unfold addE
  split <;> simp
theorem addE_mem {es : List Edge} {e x : Edge} (h : x ∈ addE es e) : x ∈ es ∨ x = e := by
  unfold addE at h
  split at h
  · exact .inl h
  · simpa using h
theorem raw_spec {st : Int} (hs : 1 ≤ st ∧ st ≤ 4) : ∀ (l : List Arc) (es : List Edge), (∀ x ∈ l, x.ok) → es.Pairwise (apt Edge.lt) → (∀ e ∈ es, e.fits st = true) →
    (l.foldl (fun es x => addE es (x.edge st)) es).Pairwise (apt Edge.lt) ∧ (∀ e ∈ l.foldl (fun es x => addE es (x.edge st)) es, e.fits st = true) ∧ (l.foldl (fun es x => addE es (x.edge st)) es).length ≤ es.length + l.length
  | [], es, _, h1, h2 => ⟨h1, h2, by simp⟩
  | x :: l, es, hx, h1, h2 => by
    have hxo := hx x (by simp)
    have hf : (x.edge st).fits st = true := by
      rw [fits_iff]
      have a1 := Int.emod_nonneg x.fr (b := st) (by omega)
      have a2 := Int.emod_lt_of_pos x.fr (b := st) (by omega)
      have a3 := Int.emod_nonneg x.to (b := st) (by omega)
      have a4 := Int.emod_lt_of_pos x.to (b := st) (by omega)
      simp only [Arc.edge]
      omega
    obtain ⟨g1, g2, g3⟩ := raw_spec hs l (addE es (x.edge st)) (fun y hy => hx y (by simp [hy])) (addE_apt h1) fun e he => by
      rcases addE_mem he with h | h
      · exact h2 e h
      · exact h ▸ hf
    have := addE_len es (x.edge st)
    exact ⟨g1, g2, by simp only [List.foldl_cons, List.length_cons]; omega⟩
theorem Draft.st {d : Draft} : 1 ≤ 1 + d.n % 4 ∧ 1 + d.n % 4 ≤ 4 := by omega
theorem Draft.raw_ok {d : Draft} (h : d.ok) : d.raw.Pairwise (apt Edge.lt) ∧ (∀ e ∈ d.raw, e.fits (1 + d.n % 4) = true) ∧ d.raw.length ≤ 12 := by
  obtain ⟨h1, h2, h3⟩ := raw_spec d.st (d.arcs.take 12) [] (fun x hx => h.2.2 x (List.mem_of_mem_take hx)) List.Pairwise.nil (fun e he => absurd he (by simp))
  refine ⟨h1, h2, ?_⟩
  have : (d.arcs.take 12).length ≤ 12 := by simp; omega
  simp only [List.length_nil] at h3
  unfold Draft.raw
  omega
theorem Draft.len {d : Draft} (h : d.ok) : d.auto.edges.length ≤ 12 := by
  have := (sortB_perm Edge.lt d.raw).length_eq
  have := d.raw_ok h
  show (sortB Edge.lt d.raw).length ≤ 12
  omega
/-- The automaton of a draft, with any start, has no error. -/
theorem Draft.good {d : Draft} (h : d.ok) {s : Int} (hs : 0 ≤ s ∧ s < 1 + d.n % 4) : (⟨1 + d.n % 4, s, d.auto.edges⟩ : Auto).Good where
  st := hs
  mx := by
    have := d.st
    show 1 + d.n % 4 ≤ 12
    omega
  len := by
    have := d.len h
    show d.auto.edges.length ≤ 100
    omega
  fit e he := (d.raw_ok h).2.1 e ((sortB_perm Edge.lt d.raw).subset he)
  asc := sortB_sorted Edge.lt_tr (d.raw_ok h).1

end Go.Pv

/-
  Automata of drafts.
-/
namespace Go.Pv

@[go_sem] theorem binV_rem_pos {k : IntKind} {a b : Int} (ha : 0 ≤ a) (hb : 0 < b) : binV .rem (.pv (.int k a)) (.pv (.int k b)) = some (.pv (.int k (a % b))) := by
  rw [binV_rem (by omega), Int.tmod_eq_emod_of_nonneg ha]
@[go_sem] theorem binV_quo_u8 {a b : Int} (ha : 0 ≤ a) (hb : 0 < b) (h2 : a ≤ 255) : binV .quo (.pv (.int .u8 a)) (.pv (.int .u8 b)) = some (.pv (.int .u8 (a / b))) := by
  rw [binV_quo (by omega), Int.tdiv_eq_ediv_of_nonneg ha, wrap_u8]
  · exact Int.ediv_nonneg ha (by omega)
  · exact Int.le_trans (Int.ediv_le_self b ha) h2
attribute [go_sem] wrap_u8

set_option maxHeartbeats 2000000 in
@[go_sem] theorem r25 (t : Nat) (d : Draft) (hd : d.ok) : res A PrA 25 [.agg [.int .u8 d.n, .lst t (d.arcs.map Arc.c)]] = some [.agg [.int .i64 (1 + d.n % 4), .int .i64 0, .lst 0 (edgs d.auto.edges)], .bool (decide ((d.arcs.length : Int) ≤ 12))] := by
  refine res_of a25 rfl rfl ?_
  simp only [F25]
  obtain ⟨d1, d2, d3⟩ := hd
  have hst := d.st
  simp (disch := omega) only [go_sem]
  refine W.fold (d.arcs.take 12) (fun es x => addE es (x.edge (1 + d.n % 4))) [] (fun k o => ⟨[(1, .ptr 1 0), (2, .ptr 2 0), (4, .ptr 4 0), (5, .pv (.int .i64 k))], ⟨[(1, [.pv (.int .u8 d.n), .pv (.lst t (d.arcs.map Arc.c))]), (2, [.pv (.int .i64 0), .pv (.int .i64 0), .tl []]), (4, [.pv (.int .i64 (1 + d.n % 4)), .pv (.int .i64 0), grV 0 (edgs o)])], grA 4 (edgs o), []⟩⟩) (fun k o => o.length ≤ k) rfl (by simp) (fun k x o hx hk _ hi => ?_) (fun o ho hi => ?_)
  · have hk2 : k < d.arcs.length ∧ k < 12 := by simp at hk; omega
    have hx' : d.arcs[k]? = some x := by rw [List.getElem?_take, if_pos hk2.2] at hx; exact hx
    have hxo := d3 x (List.mem_of_getElem? hx')
    unfold Arc.ok at hxo
    have q1 : (k : Int) < (d.arcs.length : Int) := by omega
    have q2 : (k : Int) < 12 := by omega
    have al := addE_len o (x.edge (1 + d.n % 4))
    have a1 := Int.emod_nonneg x.fr (b := 1 + d.n % 4) (by omega)
    have a2 := Int.emod_nonneg x.to (b := 1 + d.n % 4) (by omega)
    simp (disch := omega) only [go_sem, hx', q1, q2, Arc.c]
    have ha : addE o (x.edge (1 + d.n % 4)) = if (nextE (x.fr % (1 + d.n % 4)) (decide (x.act % 2 = 1)) (1 + x.act / 2 % 3) o).isSome = true then o else o ++ [x.edge (1 + d.n % 4)] := rfl
    refine Br.of (fun g => ?_) (fun g => ?_) <;> simp (disch := omega) only [go_sem, g]
    · refine foldK.of ?_ (by omega)
      show _ = St.mk _ _
      rw [ha, if_pos g]
      rfl
    · refine foldK.of ?_ (by omega)
      show _ = St.mk _ _
      rw [ha, if_neg (by simp [g])]
      rfl
  · have hr : o = d.raw := ho
    have hro := d.raw_ok ⟨d1, d2, d3⟩
    have hlen := d.len ⟨d1, d2, d3⟩
    rcases Nat.lt_or_ge d.arcs.length 12 with hc | hc
    · have e1 : (d.arcs.take 12).length = d.arcs.length := by simp; omega
      rw [e1]
      have q1 : ¬ ((d.arcs.length : Int) < (d.arcs.length : Int)) := by omega
      subst hr
      simp (disch := omega) only [go_sem, q1]
      rfl
    · have e1 : (d.arcs.take 12).length = 12 := by simp; omega
      rw [e1]
      subst hr
      simp (disch := omega) only [go_sem]
      have q3 : ¬ (((12 : Nat) : Int) < 12) := by omega
      refine Br.ofP (fun g => ?_) (fun g => ?_) <;> simp (disch := omega) only [go_sem, g, q3] <;> rfl

end Go.Pv

/-
  The law of duals.
-/
namespace Go.Pv

theorem decide_yes {p : Prop} [Decidable p] (h : p) : decide p = true := by simp [h]

end Go.Pv

/-
  What can be reached, as the reference finds it.
-/
namespace Go.Pv

theorem fold_outs (es : List Edge) (v : Int) : ∀ o : List Int, es.foldl (fun o e => if e.fr = v then addN o e.to else o) o = addL o (outs es v) := by
  induction es with
  | nil => intro o; rfl
  | cons e es ih =>
    intro o
    rw [List.foldl_cons, ih]
    by_cases h : e.fr = v
    · rw [if_pos h]
      simp [outs, h, addL_cons]
    · rw [if_neg h]
      simp [outs, h]
theorem glV_ints {n b : Nat} {o : List Int} {x : Int} (h : b ≤ o.length) : glV n b (ints (o ++ [x])) = .own n (o.length - b) 0 (o.length + 1) := by
  rw [← ints_snoc, glV_snoc (by rw [ints_length]; exact h), ints_length]
theorem glA_ints {b : Nat} {o : List Int} {x : Int} (h : b ≤ o.length) : glA 1 b (ints (o ++ [x])) = [⟨o.length - b, 1, .inl (ints (o ++ [x]))⟩] := by
  rw [← ints_snoc, glA_snoc (by rw [ints_length]; exact h), ints_length]
theorem ints_len (l : List Int) : (ints l).length = l.length := ints_length l

set_option maxHeartbeats 4000000 in
/-- order, of the reference. -/
@[go_sem] theorem r52 (t : Nat) (a : Auto) (hg : a.Good) :
    res A PrA 52 [.agg [.int .i64 a.states, .int .i64 a.start, .lst t (a.edges.map Edge.c)]] = some [.lst 0 (ints a.order)] := by
  refine res_of a52 rfl rfl ?_
  simp only [F52]
  obtain ⟨g1, g2, g3, g4, g5⟩ := hg
  have hg : a.Good := ⟨g1, g2, g3, g4, g5⟩
  simp (disch := omega) only [go_sem]
  refine W.loop (α := Nat × List Int) (fun x => ⟨[(1, .ptr 1 0), (3, glV 0 1 (ints x.2)), (4, .pv (.int .i64 x.1))], ⟨[(1, [.pv (.int .i64 a.states), .pv (.int .i64 a.start), .pv (.lst t (a.edges.map Edge.c))])], glA 1 1 (ints x.2), []⟩⟩)
    (fun x => x.2.Nodup ∧ (∀ v ∈ x.2, a.inr v) ∧ 1 ≤ x.2.length ∧ x.1 ≤ x.2.length ∧ bfs (outs a.edges) (a.states.toNat - x.1) x.1 x.2 = a.order) (fun x => a.states.toNat - x.1) (0, [a.start]) rfl ⟨by simp, fun w hw => (List.mem_singleton.1 hw) ▸ hg.st, by simp, by simp, rfl⟩ fun x hx => ?_
  obtain ⟨i, o⟩ := x
  obtain ⟨hd, hin, h1, h2, hb⟩ := hx
  dsimp only at hd hin h1 h2 hb
  have hlen := a.bound o hd hin
  simp (disch := omega) only [go_sem]
  refine Br.ofP (fun h => ?_) (fun h => ?_)
  · obtain ⟨v, hv⟩ := get_at (l := o) (k := i) (by omega)
    simp (disch := omega) only [go_sem]
    refine W.fold a.edges (fun o e => if e.fr = v then addN o e.to else o) o (fun k o => ⟨[(1, .ptr 1 0), (3, glV 0 1 (ints o)), (4, .pv (.int .i64 i)), (5, .pv (.int .i64 k))], ⟨[(1, [.pv (.int .i64 a.states), .pv (.int .i64 a.start), .pv (.lst t (a.edges.map Edge.c))])], glA 1 1 (ints o), []⟩⟩)
      (fun _ o => o.Nodup ∧ (∀ v ∈ o, a.inr v) ∧ 1 ≤ o.length ∧ o[i]? = some v) rfl ⟨hd, hin, h1, hv⟩ (fun k e o he hk _ hi => ?_) (fun o ho hi => ?_)
    · obtain ⟨hd, hin, h1, hv⟩ := hi
      have hlen := a.bound o hd hin
      have hef := fits_iff.1 (g4 e (List.mem_of_getElem? he))
      have hto : a.inr e.to := ⟨hef.2.2.1, hef.2.2.2.1⟩
      have hI : (if e.fr = v then addN o e.to else o).Nodup ∧ (∀ w ∈ (if e.fr = v then addN o e.to else o), a.inr w) ∧ 1 ≤ (if e.fr = v then addN o e.to else o).length ∧ (if e.fr = v then addN o e.to else o)[i]? = some v := by
        split
        · obtain ⟨r, hr⟩ := addN_pre o e.to
          have hil := (List.getElem?_eq_some_iff.1 hv).1
          refine ⟨addN_nodup hd, fun x hx => (addN_mem.1 hx).elim (hin x) (fun q => q ▸ hto), by rw [← hr, List.length_append]; omega, by rw [← hr, List.getElem?_append_left hil]; exact hv⟩
        · exact ⟨hd, hin, h1, hv⟩
      have hstay : e.fr = v → ¬ atL e.to o < 0 → (if e.fr = v then addN o e.to else o) = o := fun h1 h2 => by rw [if_pos h1, addN, if_pos (atL_pos.1 (by omega))]
      have hmore : e.fr = v → atL e.to o < 0 → (if e.fr = v then addN o e.to else o) = o ++ [e.to] := fun h1 h2 => by rw [if_pos h1, addN, if_neg (atL_neg.1 h2)]
      rcases gl_cases (b := 1) (rows := ints o) with hc | ⟨m, hc⟩
      · rw [glV_lit hc, glA_lit hc]
        rw [ints_len] at hc
        simp (disch := omega) only [go_sem, he]
        refine Br.ofP (fun h => ?_) (fun h => (h (by omega)).elim)
        simp (disch := omega) only [go_sem, he, hv]
        refine Br.ofP (fun f1 => ?_) (fun f1 => ?_) <;> simp (disch := omega) only [go_sem, f1]
        · refine Br.ofP (fun f2 => ?_) (fun f2 => ?_) <;> simp (disch := omega) only [go_sem, f2]
          · refine foldK.of ?_ hI
            show _ = St.mk _ _
            rw [hmore f1 f2, glV_ints h1, glA_ints h1, show o.length - 1 = 0 by omega]
            rfl
          · refine foldK.of ?_ hI
            show _ = St.mk _ _
            rw [hstay f1 f2, glV_lit (by rw [ints_len]; exact hc), glA_lit (by rw [ints_len]; exact hc)]
            rfl
        · refine foldK.of ?_ hI
          show _ = St.mk _ _
          rw [if_neg f1, glV_lit (by rw [ints_len]; exact hc), glA_lit (by rw [ints_len]; exact hc)]
          rfl
      · rw [glV_own hc, glA_own hc]
        rw [ints_len] at hc
        have hil := (List.getElem?_eq_some_iff.1 hv).1
        have ht : o.take (1 + m + 1) = o := List.take_of_length_le (by omega)
        have hi0 : (0 : Int) ≤ (i : Int) := by omega
        simp (disch := omega) only [go_sem, he]
        refine Br.ofP (fun h => ?_) (fun h => (h (by omega)).elim)
        simp (disch := omega) only [go_sem, he, hv, ht]
        refine Br.ofP (fun f1 => ?_) (fun f1 => ?_) <;> simp (disch := omega) only [go_sem, f1, ht]
        · refine Br.ofP (fun f2 => ?_) (fun f2 => ?_) <;> simp (disch := omega) only [go_sem, f2]
          · refine foldK.of ?_ hI
            show _ = St.mk _ _
            rw [hmore f1 f2, glV_ints h1, glA_ints h1, show o.length - 1 = m + 1 by omega, hc]
            rfl
          · refine foldK.of ?_ hI
            show _ = St.mk _ _
            rw [hstay f1 f2, glV_own (by rw [ints_len]; exact hc), glA_own (by rw [ints_len]; exact hc)]
            rfl
        · refine foldK.of ?_ hI
          show _ = St.mk _ _
          rw [if_neg f1, glV_own (by rw [ints_len]; exact hc), glA_own (by rw [ints_len]; exact hc)]
          rfl
    · rw [fold_outs] at ho
      simp (disch := omega) only [go_sem]
      obtain ⟨hd', hin', h1', hv'⟩ := hi
      have hl' := a.bound o hd' hin'
      have hil := (List.getElem?_eq_some_iff.1 hv').1
      refine ⟨(i + 1, o), ⟨hd', hin', h1', hil, ?_⟩, by dsimp only; omega, rfl⟩
      dsimp only
      rw [← hb, ho]
      obtain ⟨q, hq⟩ : ∃ q, a.states.toNat - i = q + 1 := ⟨a.states.toNat - i - 1, by omega⟩
      rw [hq, bfs_step hv]
      congr 1
      omega
  · simp (disch := omega) only [go_sem]
    rw [bfs_end (by omega)] at hb
    rw [hb]

end Go.Pv

/-
  What can be reached, as the program finds it.
-/
namespace Go.Pv

/-- The first k are x, the others y. -/
def fillTo (x y : Int) (n k : Nat) : List Int := List.replicate k x ++ List.replicate (n - k) y
theorem fillTo_len {x y : Int} {n k : Nat} (h : k ≤ n) : (fillTo x y n k).length = n := by simp [fillTo]; omega
theorem fillTo_zero (x y : Int) (n : Nat) : fillTo x y n 0 = List.replicate n y := by simp [fillTo]
theorem fillTo_all (x y : Int) (n : Nat) : fillTo x y n n = List.replicate n x := by simp [fillTo]
theorem fillTo_succ {x y : Int} {n k : Nat} (h : k < n) : (fillTo x y n k).set k x = fillTo x y n (k + 1) := by
  unfold fillTo
  rw [List.set_append_right _ _ (by simp)]
  obtain ⟨m, hm⟩ : ∃ m, n - k = m + 1 := ⟨n - k - 1, by omega⟩
  have : n - (k + 1) = m := by omega
  rw [hm, this, List.replicate_succ' (n := k), List.append_assoc]
  simp [List.replicate_succ]

/-- The place of each number in a list. -/
def places (n : Nat) (o : List Int) : List Int := (List.range n).map fun (v : Nat) => atL (v : Int) o
theorem places_len (n : Nat) (o : List Int) : (places n o).length = n := by simp [places]
theorem places_get {n : Nat} {o : List Int} {v : Int} (h : 0 ≤ v ∧ v < n) : (places n o)[v.toNat]? = some (atL v o) := by
  unfold places
  rw [List.getElem?_map, List.getElem?_range (by omega)]
  simp only [Option.map_some]
  rw [show ((v.toNat : Nat) : Int) = v by omega]
theorem atFrom_snoc {x y : Int} : ∀ {l : List Int} {k : Nat}, x ∉ l → atFrom y k (l ++ [x]) = if y ∈ l then atFrom y k l else if y = x then ((k + l.length : Nat) : Int) else -1
  | [], k, _ => by
    simp only [List.nil_append, atFrom, List.not_mem_nil, if_false, List.length_nil, Nat.add_zero]
    by_cases h : x = y
    · simp [h]
    · have : ¬ y = x := fun e => h e.symm
      simp [h, this]
  | z :: l, k, hx => by
    simp only [List.mem_cons, not_or] at hx
    simp only [List.cons_append, atFrom]
    by_cases h : z = y
    · simp [h]
    · have hz : ¬ y = z := fun e => h e.symm
      rw [if_neg h, atFrom_snoc hx.2]
      simp only [List.mem_cons, hz, false_or, List.length_cons]
      split
      · rfl
      · split
        · congr 1
          omega
        · rfl
theorem atL_snoc {x y : Int} {l : List Int} (hx : x ∉ l) : atL y (l ++ [x]) = if y ∈ l then atL y l else if y = x then (l.length : Int) else -1 := by
  unfold atL
  rw [atFrom_snoc hx]
  simp
theorem atL_no {x : Int} {l : List Int} (h : x ∉ l) : atL x l = -1 := by
  have : ∀ {l : List Int} {k : Nat}, x ∉ l → atFrom x k l = -1 := by
    intro l
    induction l with
    | nil => intro k _; rfl
    | cons y l ih =>
      intro k h
      simp only [List.mem_cons, not_or] at h
      unfold atFrom
      rw [if_neg (fun e => h.1 e.symm), ih h.2]
  exact this h
theorem places_snoc {n : Nat} {o : List Int} {x : Int} (hx : x ∉ o) (h : 0 ≤ x ∧ x < n) : (places n o).set x.toNat (o.length : Int) = places n (o ++ [x]) := by
  apply List.ext_getElem?
  intro i
  rcases Nat.lt_or_ge i n with hi | hi
  · have e1 := places_get (n := n) (o := o ++ [x]) (v := (i : Int)) (by omega)
    rw [Int.toNat_natCast] at e1
    rw [e1, atL_snoc hx]
    by_cases hix : x.toNat = i
    · have : (i : Int) = x := by omega
      rw [hix, List.getElem?_set_self (by rw [places_len]; exact hi), if_neg (by rw [this]; exact hx), if_pos this]
    · have hne : ¬ (i : Int) = x := by omega
      have e2 := places_get (n := n) (o := o) (v := (i : Int)) (by omega)
      rw [Int.toNat_natCast] at e2
      rw [List.getElem?_set_ne hix, e2]
      split
      · rfl
      · rename_i hno
        first
          | rw [atL_no hno]
          | rw [if_neg hne, atL_no hno]
  · rw [List.getElem?_eq_none (by simp [places_len, hi]), List.getElem?_eq_none (by simp [places_len, hi])]
theorem places_nil (n : Nat) : places n [] = List.replicate n (-1) := by
  apply List.ext_getElem?
  intro i
  rcases Nat.lt_or_ge i n with hi | hi
  · have e1 := places_get (n := n) (o := []) (v := (i : Int)) (by omega)
    rw [Int.toNat_natCast] at e1
    rw [e1]
    simp [hi]
    rfl
  · rw [List.getElem?_eq_none (by simp [places_len, hi]), List.getElem?_eq_none (by simp [hi])]

set_option maxHeartbeats 4000000 in
/-- found. -/
@[go_sem] theorem r50 (t : Nat) (a : Auto) (hg : a.Good) :
    res A PrA 50 [.agg [.int .i64 a.states, .int .i64 a.start, .lst t (a.edges.map Edge.c)]] = some [.lst 0 (ints a.order), .lst 0 (ints (places a.states.toNat a.order))] := by
  refine res_of a50 rfl rfl ?_
  simp only [F50]
  obtain ⟨g1, g2, g3, g4, g5⟩ := hg
  have hg : a.Good := ⟨g1, g2, g3, g4, g5⟩
  simp (disch := omega) only [go_sem]
  refine W.upto a.states.toNat (fun k => ⟨[(1, .ptr 1 0), (4, .own 0 0 0 a.states.toNat), (14, .pv (.int .i64 a.states.toNat)), (15, .pv (.int .i64 k))], ⟨[(1, [.pv (.int .i64 a.states), .pv (.int .i64 a.start), .pv (.lst t (a.edges.map Edge.c))])], [⟨0, 1, .inl (ints (fillTo (-1) 0 a.states.toNat k))⟩], []⟩⟩) (fun _ => True) (by rw [fillTo_zero]; rfl) trivial fun k hk _ => ?_
  simp (disch := omega) only [go_sem]
  refine Br.ofP (fun h => ?_) (fun h => ?_)
  · have ho := fillTo_len (x := -1) (y := 0) (n := a.states.toNat) (k := k) (by omega)
    simp (disch := omega) only [go_sem, fillTo_succ (show k < a.states.toNat by omega)]
    exact .of (by omega) rfl trivial
  obtain rfl : k = a.states.toNat := by omega
  clear h hk
  have hn : (List.replicate a.states.toNat (-1 : Int)).length = a.states.toNat := List.length_replicate
  have hp0 := places_snoc (n := a.states.toNat) (o := []) (x := a.start) (by simp) (by omega)
  rw [places_nil] at hp0
  simp only [List.length_nil, List.nil_append] at hp0
  have hp0' : (List.replicate a.states.toNat (-1 : Int)).set a.start.toNat 0 = places a.states.toNat [a.start] := hp0
  simp (disch := omega) only [go_sem, fillTo_all, hp0']
  refine W.loop (α := Nat × List Int) (fun x => ⟨[(1, .ptr 1 0), (4, .own 0 0 0 a.states.toNat), (6, glV 1 1 (ints x.2)), (7, .pv (.int .i64 x.1))], ⟨[(1, [.pv (.int .i64 a.states), .pv (.int .i64 a.start), .pv (.lst t (a.edges.map Edge.c))])], ⟨0, 1, .inl (ints (places a.states.toNat x.2))⟩ :: glA 1 1 (ints x.2), []⟩⟩)
    (fun x => x.2.Nodup ∧ (∀ v ∈ x.2, a.inr v) ∧ 1 ≤ x.2.length ∧ x.1 ≤ x.2.length ∧ bfs (outs a.edges) (a.states.toNat - x.1) x.1 x.2 = a.order) (fun x => a.states.toNat - x.1) (0, [a.start]) rfl ⟨by simp, fun w hw => (List.mem_singleton.1 hw) ▸ hg.st, by simp, by simp, rfl⟩ fun x hx => ?_
  obtain ⟨i, o⟩ := x
  obtain ⟨hd, hin, h1, h2, hb⟩ := hx
  dsimp only at hd hin h1 h2 hb
  have hlen := a.bound o hd hin
  simp (disch := omega) only [go_sem]
  refine Br.ofP (fun h => ?_) (fun h => ?_)
  · obtain ⟨v, hv⟩ := get_at (l := o) (k := i) (by omega)
    simp (disch := omega) only [go_sem]
    refine W.fold a.edges (fun o e => if e.fr = v then addN o e.to else o) o (fun k o => ⟨[(1, .ptr 1 0), (4, .own 0 0 0 a.states.toNat), (6, glV 1 1 (ints o)), (7, .pv (.int .i64 i)), (36, .pv (.lst t (a.edges.map Edge.c))), (37, .pv (.int .i64 a.edges.length)), (38, .pv (.int .i64 k))], ⟨[(1, [.pv (.int .i64 a.states), .pv (.int .i64 a.start), .pv (.lst t (a.edges.map Edge.c))])], ⟨0, 1, .inl (ints (places a.states.toNat o))⟩ :: glA 1 1 (ints o), []⟩⟩)
      (fun _ o => o.Nodup ∧ (∀ v ∈ o, a.inr v) ∧ 1 ≤ o.length ∧ o[i]? = some v) rfl ⟨hd, hin, h1, hv⟩ (fun k e o he hk _ hi => ?_) (fun o ho hi => ?_)
    · obtain ⟨hd, hin, h1, hv⟩ := hi
      have hlen := a.bound o hd hin
      have hef := fits_iff.1 (g4 e (List.mem_of_getElem? he))
      have hto : a.inr e.to := ⟨hef.2.2.1, hef.2.2.2.1⟩
      have hI : (if e.fr = v then addN o e.to else o).Nodup ∧ (∀ w ∈ (if e.fr = v then addN o e.to else o), a.inr w) ∧ 1 ≤ (if e.fr = v then addN o e.to else o).length ∧ (if e.fr = v then addN o e.to else o)[i]? = some v := by
        split
        · obtain ⟨r, hr⟩ := addN_pre o e.to
          have hil := (List.getElem?_eq_some_iff.1 hv).1
          refine ⟨addN_nodup hd, fun x hx => (addN_mem.1 hx).elim (hin x) (fun q => q ▸ hto), by rw [← hr, List.length_append]; omega, by rw [← hr, List.getElem?_append_left hil]; exact hv⟩
        · exact ⟨hd, hin, h1, hv⟩
      have hstay : e.fr = v → ¬ atL e.to o < 0 → (if e.fr = v then addN o e.to else o) = o := fun h1 h2 => by rw [if_pos h1, addN, if_pos (atL_pos.1 (by omega))]
      have hmore : e.fr = v → atL e.to o < 0 → (if e.fr = v then addN o e.to else o) = o ++ [e.to] := fun h1 h2 => by rw [if_pos h1, addN, if_neg (atL_neg.1 h2)]
      have hpl := places_len a.states.toNat o
      have hpg := places_get (n := a.states.toNat) (o := o) (v := e.to) (by omega)
      rcases gl_cases (b := 1) (rows := ints o) with hc | ⟨m, hc⟩
      · rw [glV_lit hc, glA_lit hc]
        rw [ints_len] at hc
        simp (disch := omega) only [go_sem, he]
        refine Br.ofP (fun h => ?_) (fun h => (h (by omega)).elim)
        simp (disch := omega) only [go_sem, he, hv, hpg]
        refine Br.ofP (fun f1 => ?_) (fun f1 => ?_) <;> simp (disch := omega) only [go_sem, f1, hpg]
        · refine Br.ofP (fun f2 => ?_) (fun f2 => ?_) <;> simp (disch := omega) only [go_sem, f2]
          · refine foldK.of ?_ hI
            show _ = St.mk _ _
            rw [hmore f1 f2, glV_ints h1, glA_ints h1, show o.length - 1 = 0 by omega, ← places_snoc (atL_neg.1 f2) (by omega)]
            rfl
          · refine foldK.of ?_ hI
            show _ = St.mk _ _
            rw [hstay f1 f2, glV_lit (by rw [ints_len]; exact hc), glA_lit (by rw [ints_len]; exact hc)]
            rfl
        · refine foldK.of ?_ hI
          show _ = St.mk _ _
          rw [if_neg f1, glV_lit (by rw [ints_len]; exact hc), glA_lit (by rw [ints_len]; exact hc)]
          rfl
      · rw [glV_own hc, glA_own hc]
        rw [ints_len] at hc
        have hil := (List.getElem?_eq_some_iff.1 hv).1
        have ht : o.take (1 + m + 1) = o := List.take_of_length_le (by omega)
        have hi0 : (0 : Int) ≤ (i : Int) := by omega
        simp (disch := omega) only [go_sem, he]
        refine Br.ofP (fun h => ?_) (fun h => (h (by omega)).elim)
        simp (disch := omega) only [go_sem, he, hv, ht, hpg]
        refine Br.ofP (fun f1 => ?_) (fun f1 => ?_) <;> simp (disch := omega) only [go_sem, f1, ht, hpg]
        · refine Br.ofP (fun f2 => ?_) (fun f2 => ?_) <;> simp (disch := omega) only [go_sem, f2]
          · refine foldK.of ?_ hI
            show _ = St.mk _ _
            rw [hmore f1 f2, glV_ints h1, glA_ints h1, ← places_snoc (atL_neg.1 f2) (by omega), show o.length - 1 = m + 1 by omega, hc]
            rfl
          · refine foldK.of ?_ hI
            show _ = St.mk _ _
            rw [hstay f1 f2, glV_own (by rw [ints_len]; exact hc), glA_own (by rw [ints_len]; exact hc)]
            rfl
        · refine foldK.of ?_ hI
          show _ = St.mk _ _
          rw [if_neg f1, glV_own (by rw [ints_len]; exact hc), glA_own (by rw [ints_len]; exact hc)]
          rfl
    · rw [fold_outs] at ho
      simp (disch := omega) only [go_sem]
      obtain ⟨hd', hin', h1', hv'⟩ := hi
      have hl' := a.bound o hd' hin'
      have hil := (List.getElem?_eq_some_iff.1 hv').1
      refine ⟨(i + 1, o), ⟨hd', hin', h1', hil, ?_⟩, by dsimp only; omega, rfl⟩
      dsimp only
      rw [← hb, ho]
      obtain ⟨q, hq⟩ : ∃ q, a.states.toNat - i = q + 1 := ⟨a.states.toNat - i - 1, by omega⟩
      rw [hq, bfs_step hv]
      congr 1
      omega
  · simp (disch := omega) only [go_sem]
    rw [bfs_end (by omega)] at hb
    rw [hb, List.take_of_length_le (by rw [places_len]; exact Nat.le_refl _)]

end Go.Pv

/-
  Trimmed automata, runs, proper automata (of the reference).
-/
namespace Go.Pv

@[go_sem] theorem r52e (t : Nat) (n s : Int) (l : List Edge) (hg : (⟨n, s, l⟩ : Auto).Good) : res A PrA 52 [.agg [.int .i64 n, .int .i64 s, .lst t (edgs l)]] = some [.lst 0 (ints (⟨n, s, l⟩ : Auto).order)] := r52 t ⟨n, s, l⟩ hg

theorem kept_fold (o : List Int) (es : List Edge) : es.foldl (fun r e => if 0 ≤ atL e.fr o then r ++ [e.ren o] else r) [] = kept o es := by
  have h := fold_filter (fun e : Edge => decide (e.fr ∈ o)) (Edge.ren o) es []
  rw [List.nil_append] at h
  rw [← show _ = kept o es from h]
  congr 1
  funext r e
  by_cases hc : e.fr ∈ o
  · simp [hc, atL_pos]
  · simp [hc, atL_pos]
theorem kept_len (o : List Int) (es : List Edge) : (kept o es).length ≤ es.length := by
  unfold kept
  rw [List.length_map]
  exact List.length_filter_le _ _

set_option maxHeartbeats 2000000 in
/-- Trim, of the reference. -/
@[go_sem] theorem r33 (t : Nat) (a : Auto) (hl : a.edges.length ≤ 2000000000) :
    res A PrA 33 [.agg [.int .i64 a.states, .int .i64 a.start, .lst t (a.edges.map Edge.c)]] = some (if a.err = 0 then [.agg [.int .i64 a.order.length, .int .i64 0, .lst 0 (edgs (sortB Edge.lt (kept a.order a.edges)))], .int .i64 0] else [.agg [.int .i64 0, .int .i64 0, .lst 0 []], .int .i64 a.err]) := by
  refine res_of a33 rfl rfl ?_
  simp only [F33]
  simp (disch := omega) only [go_sem]
  refine Br.ofP (fun h1 => ?_) (fun h1 => ?_) <;> simp (disch := omega) only [go_sem, h1]
  have hg := Auto.good_iff.1 h1
  have hol := hg.from_len hg.st
  have hmx := hg.mx
  have hol' : a.order.length ≤ 12 := by unfold Auto.order; omega
  have hkl := kept_len a.order a.edges
  simp (disch := omega) only [go_sem, r52 t a hg]
  refine W.fold a.edges (fun r e => if 0 ≤ atL e.fr a.order then r ++ [e.ren a.order] else r) [] (fun k r => ⟨[(1, .ptr 1 0), (2, .ptr 2 0), (5, .pv (.lst 0 (ints a.order))), (6, .ptr 6 0), (7, .pv (.int .i64 k))], ⟨[(1, [.pv (.int .i64 a.states), .pv (.int .i64 a.start), .pv (.lst t (a.edges.map Edge.c))]), (2, [.pv (.int .i64 0), .pv (.int .i64 0), .tl []]), (6, [.pv (.int .i64 a.order.length), .pv (.int .i64 0), grV 0 (edgs r)])], grA 4 (edgs r), []⟩⟩) (fun k r => r.length ≤ k) rfl (Nat.le_refl _) (fun k e r he hk _ hi => ?_) (fun r hr hi => ?_)
  · simp (disch := omega) only [go_sem, he]
    refine Br.ofP (fun h => ?_) (fun h => (h (by omega)).elim)
    simp (disch := omega) only [go_sem, he]
    refine Br.ofP (fun f => ?_) (fun f => ?_) <;> simp (disch := omega) only [go_sem, f]
    · refine foldK.of ?_ (by rw [if_pos f]; simp; omega)
      show _ = St.mk _ _
      rw [if_pos f]
      rfl
    · refine foldK.of ?_ (by rw [if_neg f]; omega)
      show _ = St.mk _ _
      rw [if_neg f]
      rfl
  · rw [kept_fold] at hr
    subst hr
    simp (disch := omega) only [go_sem]
    rw [if_pos h1]

/-- What a sort turns. -/
def srtT (l : List Edge) : Tn := if l.length = 0 then {} else { ar := some (0, ⟨l.length - 1, 4, .inl (edgs (isort Edge.lt l))⟩) }
theorem sortP_gr {bx : List (Nat × List V)} {mp : List (List (PV × PV))} {l : List Edge} (hm : l.length ≤ 2147483648) (hap : l.Pairwise (apt Edge.lt)) :
    sortP 4 (sortRows Edge.c Edge.dec Edge.lt) 47 [grV 0 (edgs l), .func 47 []] ⟨bx, grA 4 (edgs l), mp⟩ = some (.tup [], srtT l) := by
  rcases Nat.eq_zero_or_pos l.length with h | h
  · have : l = [] := List.eq_nil_of_length_eq_zero h
    subst this
    simp [srtT, edgs, grV, sortP]
  · obtain ⟨m, hm'⟩ : ∃ m, (edgs l).length = m + 1 := ⟨l.length - 1, by rw [edgs_length]; omega⟩
    rw [grV_own hm', grA_own hm']
    rw [edgs_length] at hm'
    rw [sortP_edgs (l := l) hm'.symm (by simp [ownArr]) (by omega) hm hap, srtT, if_neg (by omega), hm']
    rfl
@[go_sem] theorem srtT_apply (bx : List (Nat × List V)) (mp : List (List (PV × PV))) (l : List Edge) : (srtT l).apply ⟨bx, grA 4 (edgs l), mp⟩ = ⟨bx, grA 4 (edgs (isort Edge.lt l)), mp⟩ := by
  have hp := (isort_perm Edge.lt l).length_eq
  rcases Nat.eq_zero_or_pos l.length with h | h
  · have : l = [] := List.eq_nil_of_length_eq_zero h
    subst this
    simp [srtT, edgs, isort, Tn.apply, grA]
  · obtain ⟨m, hm'⟩ : ∃ m, (edgs l).length = m + 1 := ⟨l.length - 1, by rw [edgs_length]; omega⟩
    have hm2 : (edgs (isort Edge.lt l)).length = m + 1 := by rw [edgs_length, hp, ← edgs_length]; exact hm'
    rw [grA_own hm', grA_own hm2]
    rw [edgs_length] at hm'
    simp [srtT, Tn.apply, hm']
theorem grV_len {n : Nat} {a b : List (List PV)} (h : a.length = b.length) : grV n a = grV n b := by
  cases a <;> cases b <;> simp_all [grV]

set_option maxHeartbeats 2000000 in
/-- Trim. -/
@[go_sem] theorem r32 (t : Nat) (a : Auto) (hl : a.edges.length ≤ 2000000000) :
    res A PrA 32 [.agg [.int .i64 a.states, .int .i64 a.start, .lst t (a.edges.map Edge.c)]] = some (if a.err = 0 then [.agg [.int .i64 a.trim.states, .int .i64 0, .lst 0 (edgs a.trim.edges)], .int .i64 0] else [.agg [.int .i64 0, .int .i64 0, .lst 0 []], .int .i64 a.err]) := by
  refine res_of a32 rfl rfl ?_
  simp only [F32]
  simp (disch := omega) only [go_sem]
  refine Br.ofP (fun h1 => ?_) (fun h1 => ?_) <;> simp (disch := omega) only [go_sem, h1]
  have hg := Auto.good_iff.1 h1
  have hol := hg.from_len hg.st
  have hmx := hg.mx
  have hol' : a.order.length ≤ 12 := by unfold Auto.order; omega
  have hkl := kept_len a.order a.edges
  have hpl := places_len a.states.toNat a.order
  simp (disch := omega) only [go_sem, r50 t a hg]
  refine W.fold a.edges (fun r e => if 0 ≤ atL e.fr a.order then r ++ [e.ren a.order] else r) [] (fun k r => ⟨[(2, .ptr 2 0), (6, .pv (.lst 0 (ints (places a.states.toNat a.order)))), (7, .ptr 7 0), (25, .pv (.lst t (a.edges.map Edge.c))), (26, .pv (.int .i64 a.edges.length)), (27, .pv (.int .i64 k))], ⟨[(2, [.pv (.int .i64 0), .pv (.int .i64 0), .tl []]), (7, [.pv (.int .i64 a.order.length), .pv (.int .i64 0), grV 0 (edgs r)])], grA 4 (edgs r), []⟩⟩) (fun k r => r.length ≤ k) rfl (Nat.le_refl _) (fun k e r he hk _ hi => ?_) (fun r hr hi => ?_)
  · have hef := fits_iff.1 (hg.fit e (List.mem_of_getElem? he))
    have q1 := places_get (n := a.states.toNat) (o := a.order) (v := e.fr) (by omega)
    have q2 := places_get (n := a.states.toNat) (o := a.order) (v := e.to) (by omega)
    obtain ⟨j1, hj1⟩ := Int.eq_ofNat_of_zero_le hef.1
    obtain ⟨j2, hj2⟩ := Int.eq_ofNat_of_zero_le hef.2.2.1
    simp (disch := omega) only [go_sem, he]
    refine Br.ofP (fun h => ?_) (fun h => (h (by omega)).elim)
    simp (disch := omega) only [go_sem, he, idxR_int, q1, q2]
    refine Br.ofP (fun f => ?_) (fun f => ?_) <;> simp (disch := omega) only [go_sem, f, idxR_int, q1, q2]
    · refine foldK.of ?_ (by rw [if_pos f]; simp; omega)
      show _ = St.mk _ _
      rw [if_pos f]
      rfl
    · refine foldK.of ?_ (by rw [if_neg f]; omega)
      show _ = St.mk _ _
      rw [if_neg f]
      rfl
  · rw [kept_fold] at hr
    subst hr
    simp (disch := omega) only [go_sem]
    rw [sortP_gr (by omega) (kept_apt hg.apt)]
    have hp := (isort_perm Edge.lt (kept a.order a.edges)).length_eq
    simp (disch := omega) only [go_sem]
    rw [grV_len (show (edgs (kept a.order a.edges)).length = (edgs (isort Edge.lt (kept a.order a.edges))).length by rw [edgs_length, edgs_length, hp])]
    simp (disch := omega) only [go_sem]
    rw [if_pos h1]
    rfl

end Go.Pv

/-
  Runs.
-/
namespace Go.Pv

def actC (x : Bool × Int) : List PV := [.bool x.1, .int .i64 x.2]
@[go_sem] theorem actC_eq (x : Bool × Int) : actC x = [.bool x.1, .int .i64 x.2] := rfl
/-- Actions, each a row. -/
def acts (l : List (Bool × Int)) : List (List PV) := l.map actC
@[go_sem] theorem acts_length (l : List (Bool × Int)) : (acts l).length = l.length := by simp [acts]
@[go_sem] theorem acts_get (l : List (Bool × Int)) (i : Nat) : (acts l)[i]? = l[i]?.map actC := by simp [acts]
theorem runE_len (es : List Edge) : ∀ (l : List (Bool × Int)) (s : Int), (runE es s l).2 ≤ l.length
  | [], _ => Nat.le_refl _
  | (d, x) :: r, s => by
    unfold runE
    split
    · simp
    · rename_i t _
      have := runE_len es r t
      simp
      omega

set_option maxHeartbeats 2000000 in
@[go_sem] theorem r27 (t u : Nat) (a : Auto) (l : List (Bool × Int)) (hl : a.edges.length ≤ 2000000000) (hm : l.length ≤ 2000000000) :
    res A PrA 27 [.agg [.int .i64 a.states, .int .i64 a.start, .lst t (a.edges.map Edge.c)], .lst u (acts l)] = some (if a.err = 0 then [.int .i64 (runE a.edges a.start l).1, .int .i64 (runE a.edges a.start l).2, .int .i64 0] else [.int .i64 0, .int .i64 0, .int .i64 a.err]) := by
  refine res_of a27 rfl rfl ?_
  simp only [F27]
  simp (disch := omega) only [go_sem]
  refine Br.ofP (fun h1 => ?_) (fun h1 => ?_) <;> simp (disch := omega) only [go_sem, h1]
  refine W.loop (α := Nat × Int) (fun x => ⟨[(1, .pv (.lst u (acts l))), (2, .ptr 2 0), (8, .pv (.int .i64 x.2)), (20, .pv (.lst u (acts l))), (21, .pv (.int .i64 l.length)), (22, .pv (.int .i64 x.1))], ⟨[(2, [.pv (.int .i64 a.states), .pv (.int .i64 a.start), .pv (.lst t (a.edges.map Edge.c))])], [], []⟩⟩)
    (fun x => x.1 ≤ l.length ∧ (runE a.edges a.start l).1 = (runE a.edges x.2 (l.drop x.1)).1 ∧ (runE a.edges a.start l).2 = (runE a.edges x.2 (l.drop x.1)).2 + x.1) (fun x => l.length - x.1) (0, a.start) rfl ⟨Nat.zero_le _, rfl, rfl⟩ fun x hx => ?_
  obtain ⟨k, s⟩ := x
  obtain ⟨hk, hr1, hr2⟩ := hx
  dsimp only at hk hr1 hr2
  simp (disch := omega) only [go_sem]
  refine Br.ofP (fun h => ?_) (fun h => ?_)
  · obtain ⟨y, hy⟩ := get_at (l := l) (k := k) (by omega)
    rw [drop_at hy] at hr1 hr2
    simp (disch := omega) only [go_sem, hy]
    refine Br.of (fun f => ?_) (fun f => ?_) <;> simp (disch := omega) only [go_sem, f]
    · obtain ⟨n, hn⟩ := Option.isSome_iff_exists.1 f
      simp only [runE, hn] at hr1 hr2
      refine ⟨(k + 1, n), ⟨by dsimp only; omega, hr1, by dsimp only; omega⟩, by dsimp only; omega, ?_⟩
      rw [hn]
      rfl
    · have hn : nextE s y.1 y.2 a.edges = none := by simpa using f
      simp only [runE, hn] at hr1 hr2
      rw [if_pos h1, hr1, hr2]
      simp
  · obtain rfl : k = l.length := by omega
    simp (disch := omega) only [go_sem]
    rw [List.drop_length] at hr1 hr2
    rw [if_pos h1, hr1, hr2]
    simp [runE]

end Go.Pv

/-
  Drafts and actions that a law is given.
-/
namespace Go.Pv
variable {P : Program}

theorem slice_dec {α : Type} {c : α → List PV} {ok : α → Prop} {n : Nat} {t el : TypeId} {cs : List PV} (hu : P.underlying t = some (.slice el)) (he : ∀ cs, typed P n el cs → ∃ x, cs = c x ∧ ok x) (h : typed P (n + 1) t cs) : ∃ l : List α, cs = [.lst 0 (l.map c)] ∧ l.length ≤ 2 ^ 63 - 1 ∧ ∀ x ∈ l, ok x := by
  obtain ⟨rows, rfl, hl, hr⟩ := typed_slice hu h
  obtain ⟨l, rfl⟩ := rows_map (c := fun x : {x : α // ok x} => c x.1) (rows := rows) (fun r hr' => by
    obtain ⟨x, rfl, hx⟩ := he r (hr r hr')
    exact ⟨⟨x, hx⟩, rfl⟩)
  refine ⟨l.map (·.1), by simp [Function.comp_def], by simpa [maxLen] using hl, fun x hx => ?_⟩
  obtain ⟨y, _, rfl⟩ := List.mem_map.1 hx
  exact y.2
theorem u8_min : IntKind.min .u8 = 0 := by decide
theorem u8_max : IntKind.max .u8 = 255 := by decide

structure DraftT (P : Program) (td tl ta tu : TypeId) : Prop where
  d : ∃ fs, P.underlying td = some (.struct fs) ∧ fs.toList.map (·.type) = [tu, tl]
  l : P.underlying tl = some (.slice ta)
  a : ∃ fs, P.underlying ta = some (.struct fs) ∧ fs.toList.map (·.type) = [tu, tu, tu]
  u : P.underlying tu = some (.int .u8)
theorem arc_typed {td tl ta tu : TypeId} (T : DraftT P td tl ta tu) {n : Nat} (cs : List PV) (h : typed P (n + 2) ta cs) : ∃ x : Arc, cs = x.c ∧ x.ok := by
  obtain ⟨fs, hu, hts⟩ := T.a
  obtain ⟨r0, q0, rfl, h0, r1, q1, rfl, h1, r2, q2, rfl, h2, rfl⟩ := typed_struct hu hts h
  obtain ⟨x, rfl, hx⟩ := typed_int T.u h0
  obtain ⟨y, rfl, hy⟩ := typed_int T.u h1
  obtain ⟨z, rfl, hz⟩ := typed_int T.u h2
  rw [u8_min, u8_max] at hx hy hz
  exact ⟨⟨x, y, z⟩, rfl, hx, hy, hz⟩
theorem draft_typed {td tl ta tu : TypeId} (T : DraftT P td tl ta tu) {n : Nat} (cs : List PV) (h : typed P (n + 4) td cs) : ∃ d : Draft, cs = [.int .u8 d.n, .lst 0 (d.arcs.map Arc.c)] ∧ d.ok := by
  obtain ⟨fs, hu, hts⟩ := T.d
  obtain ⟨r0, q0, rfl, h0, r1, q1, rfl, h1, rfl⟩ := typed_struct hu hts h
  obtain ⟨x, rfl, hx⟩ := typed_int T.u h0
  rw [u8_min, u8_max] at hx
  obtain ⟨l, rfl, hl, hok⟩ := slice_dec T.l (arc_typed T (n := n)) h1
  exact ⟨⟨x, l⟩, rfl, hx, hl, hok⟩
def draftArg {td tl ta tu : TypeId} (T : DraftT P td tl ta tu) : Arg P td Draft where
  pv d := .agg [.int .u8 d.n, .lst 0 (d.arcs.map Arc.c)]
  ok := Draft.ok
  dec cs h := by
    obtain ⟨d, rfl, hd⟩ := draft_typed (n := 8) T cs h
    obtain ⟨fs, hu, _⟩ := T.d
    exact ⟨d, hd, by simp only [argPV, isAgg_struct hu, if_true]⟩
structure ActT (P : Program) (tl ta ti tb : TypeId) : Prop where
  l : P.underlying tl = some (.slice ta)
  a : ∃ fs, P.underlying ta = some (.struct fs) ∧ fs.toList.map (·.type) = [tb, ti]
  i : P.underlying ti = some (.int .i64)
  b : P.underlying tb = some .bool
theorem act_typed {tl ta ti tb : TypeId} (T : ActT P tl ta ti tb) {n : Nat} (cs : List PV) (h : typed P (n + 2) ta cs) : ∃ x : Bool × Int, cs = actC x ∧ True := by
  obtain ⟨fs, hu, hts⟩ := T.a
  obtain ⟨r0, q0, rfl, h0, r1, q1, rfl, h1, rfl⟩ := typed_struct hu hts h
  obtain ⟨b, rfl⟩ := typed_bool T.b h0
  obtain ⟨x, rfl, _⟩ := typed_int T.i h1
  exact ⟨(b, x), rfl, trivial⟩
def actsArg {tl ta ti tb : TypeId} (T : ActT P tl ta ti tb) : Arg P tl (List (Bool × Int)) where
  pv l := .lst 0 (acts l)
  ok l := l.length ≤ 2 ^ 63 - 1
  dec cs h := by
    obtain ⟨l, rfl, hl, _⟩ := slice_dec T.l (act_typed T (n := 9)) h
    have : isAggT P tl = some false := by simp [isAggT, T.l]
    exact ⟨l, hl, by simp [argPV, this, acts]⟩
/-- A byte. -/
theorem u8_ok {x : Int} (h : IntKind.min .u8 ≤ x ∧ x ≤ IntKind.max .u8) : 0 ≤ x ∧ x ≤ 255 := by
  rwa [u8_min, u8_max] at h

end Go.Pv

/-
  The law of trimmed automata.
-/
namespace Go.Pv

@[go_sem] theorem r32e (t : Nat) (n s : Int) (l : List Edge) (hl : l.length ≤ 2000000000) : res A PrA 32 [.agg [.int .i64 n, .int .i64 s, .lst t (edgs l)]] = some (if (⟨n, s, l⟩ : Auto).err = 0 then [.agg [.int .i64 (⟨n, s, l⟩ : Auto).trim.states, .int .i64 0, .lst 0 (edgs (⟨n, s, l⟩ : Auto).trim.edges)], .int .i64 0] else [.agg [.int .i64 0, .int .i64 0, .lst 0 []], .int .i64 (⟨n, s, l⟩ : Auto).err]) := r32 t ⟨n, s, l⟩ hl
@[go_sem] theorem r33e (t : Nat) (n s : Int) (l : List Edge) (hl : l.length ≤ 2000000000) : res A PrA 33 [.agg [.int .i64 n, .int .i64 s, .lst t (edgs l)]] = some (if (⟨n, s, l⟩ : Auto).err = 0 then [.agg [.int .i64 (⟨n, s, l⟩ : Auto).order.length, .int .i64 0, .lst 0 (edgs (sortB Edge.lt (kept (⟨n, s, l⟩ : Auto).order l)))], .int .i64 0] else [.agg [.int .i64 0, .int .i64 0, .lst 0 []], .int .i64 (⟨n, s, l⟩ : Auto).err]) := r33 t ⟨n, s, l⟩ hl

/-- The automaton of a draft from a start. -/
def Draft.from (d : Draft) (s : Int) : Auto := ⟨1 + d.n % 4, s % (1 + d.n % 4), d.auto.edges⟩
theorem Draft.from_good {d : Draft} (hd : d.ok) {s : Int} : (d.from s).Good := Draft.good hd ⟨Int.emod_nonneg s (by have := d.st; omega), Int.emod_lt_of_pos s (by have := d.st; omega)⟩

set_option maxHeartbeats 1000000 in
/-- AutomatonTrim. -/
theorem r88 (d : Draft) (s : Int) (hd : d.ok) (hs : 0 ≤ s ∧ s ≤ 255) : res A PrA 88 [.agg [.int .u8 d.n, .lst 0 (d.arcs.map Arc.c)], .int .u8 s] = some [.bool true] := by
  refine res_of a88 rfl rfl ?_
  simp only [F88]
  simp (disch := omega) only [go_sem, r91, r25 0 d hd]
  refine Br.ofP (fun h1 => ?_) (fun h1 => ?_) <;> simp (disch := omega) only [go_sem, r91]
  have hst := d.st
  have hg := d.from_good hd (s := s)
  have he := Auto.good_iff.2 hg
  have he2 := Auto.good_iff.2 hg.trim
  have hlen := d.len hd
  have hl2 := hg.trim.len
  have hs2 : sortB Edge.lt (kept (d.from s).order d.auto.edges) = (d.from s).trim.edges := sortB_isort Edge.lt_irr Edge.lt_tr (kept_apt hg.apt)
  have htt := hg.trim_trim
  have ha : (⟨1 + d.n % 4, s % (1 + d.n % 4), d.auto.edges⟩ : Auto) = d.from s := rfl
  have hb : (⟨(d.from s).trim.states, 0, (d.from s).trim.edges⟩ : Auto) = (d.from s).trim := rfl
  have hc : (⟨((d.from s).order.length : Int), 0, (d.from s).trim.edges⟩ : Auto) = (d.from s).trim := rfl
  have hk := kept_len (d.from s).order d.auto.edges
  have hsl := (sortB_perm Edge.lt (kept (d.from s).order d.auto.edges)).length_eq
  simp (disch := omega) only [go_sem, ha, hb, hc, he, he2, hs2, htt]

end Go.Pv

/-
  The law of runs.
-/
namespace Go.Pv

@[go_sem] theorem r27e (t u : Nat) (n s : Int) (es : List Edge) (l : List (Bool × Int)) (hl : es.length ≤ 2000000000) (hm : l.length ≤ 2000000000) : res A PrA 27 [.agg [.int .i64 n, .int .i64 s, .lst t (edgs es)], .lst u (acts l)] = some (if (⟨n, s, es⟩ : Auto).err = 0 then [.int .i64 (runE es s l).1, .int .i64 (runE es s l).2, .int .i64 0] else [.int .i64 0, .int .i64 0, .int .i64 (⟨n, s, es⟩ : Auto).err]) := r27 t u ⟨n, s, es⟩ l hl hm
theorem Auto.start_at (a : Auto) : atL a.start a.order = 0 := by
  obtain ⟨r, hr⟩ := a.order_head
  rw [hr]
  simp [atL, atFrom]

end Go.Pv

