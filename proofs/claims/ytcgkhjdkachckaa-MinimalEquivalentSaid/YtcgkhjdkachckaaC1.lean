/-
  What the functions of the law give.
-/
import Derived.Test.YtcgkhjdkachckaaTab
set_option linter.unusedSimpArgs false
set_option linter.unusedVariables false
/-
  Contracts: comparisons of the library, the order of edges.
-/
namespace Go.Pv

theorem r66 {Pr : Prims} (x : Int) : res A Pr 66 [.int .i64 x] = some [.bool false] := by
  refine res_of a66 rfl rfl ?_
  simp only [F66]
  simp (disch := omega) only [go_sem]

theorem r60 {Pr : Prims} (hp : Pr 66 = none) (x y : Int) : res A Pr 60 [.int .i64 x, .int .i64 y] = some [.int .i64 (cmpI x y)] := by
  refine res_of a60 rfl rfl ?_
  simp only [F60]
  simp (disch := omega) only [go_sem, CW_CN hp tk66, r66]
  unfold cmpI
  refine Br.ofP (fun h => ?_) (fun h => ?_) <;> simp (disch := omega) only [go_sem, h]
  refine Br.ofP (fun h2 => ?_) (fun h2 => ?_) <;> simp (disch := omega) only [go_sem, h, h2]

theorem r58 {Pr : Prims} (a : Edge) : res A Pr 58 [.agg a.c] = some [.int .i64 a.side] := by
  refine res_of a58 rfl rfl ?_
  simp only [F58]
  simp (disch := omega) only [go_sem]
  unfold Edge.side
  refine Br.of (fun h => ?_) (fun h => ?_) <;> simp (disch := omega) only [go_sem, h]

/-- The first that is not zero. -/
def orI : List Int → Int
  | [] => 0
  | x :: r => if x ≠ 0 then x else orI r

/-- The list from a place on. -/
theorem drop_at {α : Type} {l : List α} {k : Nat} {x : α} (h : l[k]? = some x) : l.drop k = x :: l.drop (k + 1) := by
  obtain ⟨h1, h2⟩ := List.getElem?_eq_some_iff.1 h
  rw [List.drop_eq_getElem_cons h1, h2]
theorem get_at {α : Type} {l : List α} {k : Nat} (h : k < l.length) : ∃ x, l[k]? = some x := ⟨_, List.getElem?_eq_getElem h⟩
theorem drop_end {α : Type} {l : List α} {k : Nat} (h : ¬ (k : Int) < l.length) : l.drop k = [] := List.drop_eq_nil_of_le (by omega)

theorem r59 {Pr : Prims} (t : Nat) (l : List Int) (hl : l.length < 1000) : res A Pr 59 [.lst t (ints l)] = some [.int .i64 (orI l)] := by
  refine res_of a59 rfl rfl ?_
  simp only [F59]
  simp (disch := omega) only [go_sem]
  refine W.upto l.length (fun k => ⟨[(3, .pv (.int .i64 0)), (6, .pv (.lst t (ints l))), (7, .pv (.int .i64 l.length)), (8, .pv (.int .i64 k))], ⟨[], [], []⟩⟩) (fun k => orI l = orI (l.drop k)) rfl rfl fun k hk hi => ?_
  simp (disch := omega) only [go_sem]
  refine Br.ofP (fun h => ?_) (fun h => ?_)
  · obtain ⟨x, hx⟩ := get_at (l := l) (k := k) (by omega)
    rw [drop_at hx, orI] at hi
    simp (disch := omega) only [go_sem, hx]
    refine Br.ofP (fun h1 => ?_) (fun h1 => ?_) <;> simp (disch := omega) only [go_sem]
    · exact .of (by omega) rfl (by simpa [h1] using hi)
    · simp [hi, h1]
  · simp (disch := omega) only [go_sem]
    simp [hi, drop_end h, orI]

theorem r47 {Pr : Prims} (h66 : Pr 66 = none) (h60 : Pr 60 = none) (h59 : Pr 59 = none) (h58 : Pr 58 = none) (a b : Edge) : res A Pr 47 [.agg a.c, .agg b.c] = some [.int .i64 (Edge.cmp a b)] := by
  refine res_of a47 rfl rfl ?_
  simp only [F47]
  have e59 := fun x y z => r59 (Pr := Pr) 0 [x, y, z] (by simp)
  simp only [ints, List.map_cons, List.map_nil] at e59
  have e58 := fun x => r58 (Pr := Pr) x
  simp only [Edge.c] at e58
  simp (disch := omega) only [go_sem, CW_CN h60 tk60, CW_CN h59 tk59, CW_CN h58 tk58, r60 h66, e58 a, e58 b, e59]
  by_cases h : cmpI a.label b.label = 0 <;> simp [orI, Edge.cmp, h]

end Go.Pv

/-
  Contracts: errors of automata.
-/
namespace Go.Pv

@[go_sem] theorem r44 (a b : Edge) : res A PrA 44 [.agg [.int .i64 a.fr, .bool a.send, .int .i64 a.label, .int .i64 a.to], .agg [.int .i64 b.fr, .bool b.send, .int .i64 b.label, .int .i64 b.to]] = some [.bool (Edge.lt a b)] := by
  refine res_of a44 rfl rfl ?_
  simp only [F44]
  simp (disch := omega) only [go_sem]
  unfold Edge.lt
  by_cases h : a.fr = b.fr <;> by_cases h2 : a.send = b.send <;> simp (disch := omega) only [go_sem, h, h2, ne_eq, not_true_eq_false, not_false_eq_true]

theorem Auto.err_ok {a : Auto} (h1 : a.states ≤ 12) (h2 : a.edges.length ≤ 100) (h3 : 0 ≤ a.start ∧ a.start < a.states) : a.err = if chk a.states none a.edges = true then 0 else 1 := by
  unfold Auto.err
  rw [if_neg (by omega), if_pos h3]
theorem Auto.err_start {a : Auto} (h1 : a.states ≤ 12) (h2 : a.edges.length ≤ 100) (h3 : ¬ (0 ≤ a.start ∧ a.start < a.states)) : a.err = 1 := by
  unfold Auto.err
  rw [if_neg (by omega), if_neg h3]
theorem Auto.err_large {a : Auto} (h : 12 < a.states ∨ 100 < a.edges.length) : a.err = 3 := by
  unfold Auto.err
  rw [if_pos h]
theorem chk_no {n : Int} {p : Option Edge} {e : Edge} {r : List Edge} (h : e.fits n = false) : chk n p (e :: r) = false := by simp [chk, h]

set_option maxHeartbeats 1000000 in
@[go_sem] theorem r26 (t : Nat) (a : Auto) (hl : a.edges.length ≤ 2 ^ 63 - 1) : res A PrA 26 [.agg [.int .i64 a.states, .int .i64 a.start, .lst t (a.edges.map Edge.c)]] = some [.int .i64 a.err] := by
  refine res_of a26 rfl rfl ?_
  simp only [F26]
  simp (disch := omega) only [go_sem]
  refine Br.ofP (fun h1 => ?_) (fun h1 => ?_) <;> simp (disch := omega) only [go_sem, h1]
  · rw [Auto.err_large (.inl h1)]
  refine Br.ofP (fun h2 => ?_) (fun h2 => ?_) <;> simp (disch := omega) only [go_sem, h2]
  · rw [Auto.err_large (.inr (by omega))]
  refine Br.ofP (fun h3 => ?_) (fun h3 => ?_) <;> simp (disch := omega) only [go_sem, h3]
  · rw [Auto.err_start (by omega) (by omega) (by omega)]
  refine Br.ofP (fun h4 => ?_) (fun h4 => ?_) <;> simp (disch := omega) only [go_sem, h4]
  · rw [Auto.err_start (by omega) (by omega) (by omega)]
  refine Br.ofP (fun h5 => ?_) (fun h5 => ?_) <;> simp (disch := omega) only [go_sem, h5]
  · rw [Auto.err_start (by omega) (by omega) (by omega)]
  rw [Auto.err_ok (by omega) (by omega) (by omega)]
  refine W.upto a.edges.length (fun k => ⟨[(1, .ptr 1 0), (3, .pv (.int .i64 k))], ⟨[(1, [.pv (.int .i64 a.states), .pv (.int .i64 a.start), .pv (.lst t (a.edges.map Edge.c))])], [], []⟩⟩) (fun k => chk a.states none a.edges = chk a.states (ahead1 a.edges k) (a.edges.drop k)) rfl rfl fun k hk hi => ?_
  simp (disch := omega) only [go_sem]
  refine Br.ofP (fun h => ?_) (fun h => ?_)
  · obtain ⟨e, he⟩ := get_at (l := a.edges) (k := k) (by omega)
    rw [drop_at he] at hi
    have bad : e.fits a.states = false → chk a.states none a.edges = false := fun hb => hi.trans (chk_no hb)
    simp (disch := omega) only [go_sem, he]
    refine Br.ofP (fun g1 => ?_) (fun g1 => ?_) <;> simp (disch := omega) only [go_sem, g1]
    · rw [bad (by simp [Edge.fits]; omega)]; rfl
    refine Br.ofP (fun g2 => ?_) (fun g2 => ?_) <;> simp (disch := omega) only [go_sem, g2]
    · rw [bad (by simp [Edge.fits]; omega)]; rfl
    refine Br.ofP (fun g3 => ?_) (fun g3 => ?_) <;> simp (disch := omega) only [go_sem, g3]
    · rw [bad (by simp [Edge.fits]; omega)]; rfl
    refine Br.ofP (fun g4 => ?_) (fun g4 => ?_) <;> simp (disch := omega) only [go_sem, g4]
    · rw [bad (by simp [Edge.fits]; omega)]; rfl
    refine Br.ofP (fun g5 => ?_) (fun g5 => ?_) <;> simp (disch := omega) only [go_sem, g5]
    · rw [bad (by simp [Edge.fits]; omega)]; rfl
    refine Br.ofP (fun g6 => ?_) (fun g6 => ?_) <;> simp (disch := omega) only [go_sem, g6]
    · rw [bad (by simp [Edge.fits]; omega)]; rfl
    have fit : e.fits a.states = true := by simp [Edge.fits]; omega
    refine Br.ofP (fun g7 => ?_) (fun g7 => ?_) <;> simp (disch := omega) only [go_sem, g7]
    · obtain ⟨j, rfl⟩ : ∃ j, k = j + 1 := ⟨k - 1, by omega⟩
      obtain ⟨d, hd⟩ := get_at (l := a.edges) (k := j) (by omega)
      have hj : ((j + 1 : Nat) : Int) - 1 = (j : Int) := by omega
      rw [ahead1_succ, hd] at hi
      simp (disch := omega) only [go_sem, hj, hd]
      refine Br.of (fun g8 => ?_) (fun g8 => ?_) <;> simp (disch := omega) only [go_sem]
      · exact .of (by omega) rfl (by rw [hi, ahead1_succ, he]; simp [chk, fit, g8])
      · rw [hi]; simp [chk, g8]
    · obtain rfl : k = 0 := by omega
      exact .of (by omega) rfl (by rw [hi, ahead1_succ, he]; simp [chk, fit, ahead1])
  · simp (disch := omega) only [go_sem]
    rw [hi, drop_end h]
    rfl

@[go_sem] theorem r47a (a b : Edge) : res A PrA 47 [.agg [.int .i64 a.fr, .bool a.send, .int .i64 a.label, .int .i64 a.to], .agg [.int .i64 b.fr, .bool b.send, .int .i64 b.label, .int .i64 b.to]] = some [.int .i64 (Edge.cmp a b)] :=
  r47 (by kernel_rfl) (by kernel_rfl) (by kernel_rfl) (by kernel_rfl) a b

@[go_sem] theorem r46 (n s : Int) (t : Nat) (cs : List PV) : res A PrA 46 [.int .i64 n, .ro t (.int .i64 s :: cs)] = some [.bool (decide (0 ≤ n) && decide (n < s))] := by
  refine res_of a46 rfl rfl ?_
  simp only [F46]
  simp (disch := omega) only [go_sem]
  refine Br.ofP (fun h1 => ?_) (fun h1 => ?_) <;> simp (disch := omega) only [go_sem, h1]

theorem fits_of {e : Edge} {n : Int} : e.fits n = (((decide (0 ≤ e.fr) && decide (e.fr < n)) && (decide (0 ≤ e.to) && decide (e.to < n))) && (decide (1 ≤ e.label) && decide (e.label ≤ 1000))) := by
  simp [Edge.fits, Bool.and_assoc]

set_option maxHeartbeats 2000000 in
@[go_sem] theorem r29 (t : Nat) (a : Auto) (hl : a.edges.length ≤ 2 ^ 63 - 1) : res A PrA 29 [.agg [.int .i64 a.states, .int .i64 a.start, .lst t (a.edges.map Edge.c)]] = some [.int .i64 a.err] := by
  refine res_of a29 rfl rfl ?_
  simp only [F29]
  simp (disch := omega) only [go_sem]
  refine Br.ofP (fun h1 => ?_) (fun h1 => ?_) <;> simp (disch := omega) only [go_sem, h1]
  · rw [Auto.err_large (.inl h1)]
  refine Br.ofP (fun h2 => ?_) (fun h2 => ?_) <;> simp (disch := omega) only [go_sem, h2]
  · rw [Auto.err_large (.inr (by omega))]
  refine Br.of (fun h3 => ?_) (fun h3 => ?_) <;> simp at h3 <;> simp (disch := omega) only [go_sem]
  case refine_2 => rw [Auto.err_start (by omega) (by omega) (by omega)]
  rw [Auto.err_ok (by omega) (by omega) (by omega)]
  refine W.upto a.edges.length (fun k => ⟨[(1, .ptr 1 0), (3, .func 46 [.ptr 1 0]), (22, .pv (.lst t (a.edges.map Edge.c))), (23, .pv (.int .i64 a.edges.length)), (24, .pv (.int .i64 k))], ⟨[(1, [.pv (.int .i64 a.states), .pv (.int .i64 a.start), .pv (.lst t (a.edges.map Edge.c))])], [], []⟩⟩) (fun k => chk a.states none a.edges = chk a.states (ahead1 a.edges k) (a.edges.drop k)) rfl rfl fun k hk hi => ?_
  simp (disch := omega) only [go_sem]
  refine Br.ofP (fun h => ?_) (fun h => ?_)
  · obtain ⟨e, he⟩ := get_at (l := a.edges) (k := k) (by omega)
    rw [drop_at he] at hi
    have bad : e.fits a.states = false → chk a.states none a.edges = false := fun hb => hi.trans (chk_no hb)
    rw [fits_of] at bad
    simp (disch := omega) only [go_sem, he]
    refine Br.of (fun g1 => ?_) (fun g1 => ?_) <;> simp (disch := omega) only [go_sem, g1]
    case refine_2 => rw [bad (by rw [g1]; rfl)]; rfl
    refine Br.of (fun g2 => ?_) (fun g2 => ?_) <;> simp (disch := omega) only [go_sem, g2]
    case refine_2 => rw [bad (by rw [g1, g2]; rfl)]; rfl
    refine Br.ofP (fun g3 => ?_) (fun g3 => ?_) <;> simp (disch := omega) only [go_sem, g3]
    · rw [bad (by simp; omega)]; rfl
    refine Br.ofP (fun g4 => ?_) (fun g4 => ?_) <;> simp (disch := omega) only [go_sem, g4]
    · rw [bad (by simp; omega)]; rfl
    have fit : e.fits a.states = true := by rw [fits_of, g1, g2]; simp; omega
    refine Br.ofP (fun g7 => ?_) (fun g7 => ?_) <;> simp (disch := omega) only [go_sem, g7]
    · obtain ⟨j, rfl⟩ : ∃ j, k = j + 1 := ⟨k - 1, by omega⟩
      obtain ⟨d, hd⟩ := get_at (l := a.edges) (k := j) (by omega)
      have hj : ((j + 1 : Nat) : Int) - 1 = (j : Int) := by omega
      rw [ahead1_succ, hd] at hi
      simp (disch := omega) only [go_sem, hj, hd, Edge.cmp_ge]
      refine Br.of (fun g8 => ?_) (fun g8 => ?_) <;> simp (disch := omega) only [go_sem]
      · exact .of (by omega) rfl (by rw [hi, ahead1_succ, he]; simp [chk, fit, g8])
      · rw [hi]; simp [chk, g8]
    · obtain rfl : k = 0 := by omega
      exact .of (by omega) rfl (by rw [hi, ahead1_succ, he]; simp [chk, fit, ahead1])
  · simp (disch := omega) only [go_sem]
    rw [hi, drop_end h]
    rfl

end Go.Pv

/-
  Lists that grow by appending.
-/
namespace Go.Pv
variable {A : Nat → Option AFunc} {Pr : Prims}

/-- A list that a call has built by appending; its array, if there is one, is the n-th. -/
def grV (n : Nat) : List (List PV) → V
  | [] => .tl []
  | _ :: r => .own n r.length 0 (r.length + 1)
def grA (k : Nat) : List (List PV) → List Arr
  | [] => []
  | x :: r => [⟨r.length, k, .inl (x :: r)⟩]
def grT (n k : Nat) (rows : List (List PV)) (r : List PV) : Tn :=
  match rows with
  | [] => { push := [⟨0, k, .inl [r]⟩], base := n }
  | x :: q => { ar := some (n, ⟨q.length + 1, k, .inl (x :: q ++ [r])⟩) }

theorem grow (bx : List (Nat × List V)) (mp : List (List (PV × PV))) (pre : List Arr) (k : Nat) (rows : List (List PV)) (r : List PV) (hr : r.length = k) (hm : rows.length + 1 ≤ 2147483648) :
    appendV ⟨bx, pre ++ grA k rows, mp⟩ k (grV pre.length rows) (.tl [r]) = some (grV pre.length (rows ++ [r]), grT pre.length k rows r) := by
  cases rows with
  | nil => simp [appendV, grV, grA, grT, srcRows, rowsFit, rowsLen, hr, catRows, mostRows]
  | cons x q =>
    have h1 : ownArr ⟨bx, pre ++ grA k (x :: q), mp⟩ pre.length q.length = some ⟨q.length, k, .inl (x :: q)⟩ := by simp [ownArr, grA]
    have h2 : (⟨q.length, k, .inl (x :: q)⟩ : Arr).size = q.length + 1 := rfl
    have h3 : ((x :: q).drop 0).take (q.length + 1) = x :: q := by simp
    simp only [List.length_cons] at hm
    simp [appendV, grV, grT, srcRows, rowsFit, rowsLen, hr, h1, h2, catRows, cutRows, mostRows]
    omega

theorem grT_apply (bx : List (Nat × List V)) (mp : List (List (PV × PV))) (pre : List Arr) (k : Nat) (rows : List (List PV)) (r : List PV) :
    (grT pre.length k rows r).apply ⟨bx, pre ++ grA k rows, mp⟩ = ⟨bx, pre ++ grA k (rows ++ [r]), mp⟩ := by
  cases rows with
  | nil => simp [grT, Tn.apply, grA]
  | cons x q => simp [grT, Tn.apply, grA]

@[go_sem] theorem grow0 (bx : List (Nat × List V)) (mp : List (List (PV × PV))) (k : Nat) (rows : List (List PV)) (r : List PV) (hr : r.length = k) (hm : rows.length + 1 ≤ 2147483648) :
    appendV ⟨bx, grA k rows, mp⟩ k (grV 0 rows) (.tl [r]) = some (grV 0 (rows ++ [r]), grT 0 k rows r) := grow bx mp [] k rows r hr hm
@[go_sem] theorem grow1 (bx : List (Nat × List V)) (mp : List (List (PV × PV))) (a : Arr) (k : Nat) (rows : List (List PV)) (r : List PV) (hr : r.length = k) (hm : rows.length + 1 ≤ 2147483648) :
    appendV ⟨bx, a :: grA k rows, mp⟩ k (grV 1 rows) (.tl [r]) = some (grV 1 (rows ++ [r]), grT 1 k rows r) := grow bx mp [a] k rows r hr hm
@[go_sem] theorem grow2 (bx : List (Nat × List V)) (mp : List (List (PV × PV))) (a b : Arr) (k : Nat) (rows : List (List PV)) (r : List PV) (hr : r.length = k) (hm : rows.length + 1 ≤ 2147483648) :
    appendV ⟨bx, a :: b :: grA k rows, mp⟩ k (grV 2 rows) (.tl [r]) = some (grV 2 (rows ++ [r]), grT 2 k rows r) := grow bx mp [a, b] k rows r hr hm
@[go_sem] theorem grT_apply0 (bx : List (Nat × List V)) (mp : List (List (PV × PV))) (k : Nat) (rows : List (List PV)) (r : List PV) :
    (grT 0 k rows r).apply ⟨bx, grA k rows, mp⟩ = ⟨bx, grA k (rows ++ [r]), mp⟩ := grT_apply bx mp [] k rows r
@[go_sem] theorem grT_apply1 (bx : List (Nat × List V)) (mp : List (List (PV × PV))) (a : Arr) (k : Nat) (rows : List (List PV)) (r : List PV) :
    (grT 1 k rows r).apply ⟨bx, a :: grA k rows, mp⟩ = ⟨bx, a :: grA k (rows ++ [r]), mp⟩ := grT_apply bx mp [a] k rows r
@[go_sem] theorem grT_apply2 (bx : List (Nat × List V)) (mp : List (List (PV × PV))) (a b : Arr) (k : Nat) (rows : List (List PV)) (r : List PV) :
    (grT 2 k rows r).apply ⟨bx, a :: b :: grA k rows, mp⟩ = ⟨bx, a :: b :: grA k (rows ++ [r]), mp⟩ := grT_apply bx mp [a, b] k rows r

@[go_sem] theorem lenV_gr (h : Heap) (n : Nat) (rows : List (List PV)) : lenV h 0 (grV n rows) = some (rows.length, {}) := by cases rows <;> rfl
@[go_sem] theorem cells_gr (n : Nat) (rows : List (List PV)) : V.cells (grV n rows) = [grV n rows] := by cases rows <;> rfl
@[go_sem] theorem calm_gr (n : Nat) (rows : List (List PV)) : V.calm (grV n rows) = true := by cases rows <;> rfl
@[go_sem] theorem sized_gr (n : Nat) (rows : List (List PV)) : V.sized (grV n rows) = true := by cases rows <;> rfl
@[go_sem] theorem scrub_gr (kb : List Nat) (n : Nat) (rows : List (List PV)) : scrub kb (grV n rows) = grV n rows := by cases rows <;> rfl
@[go_sem] theorem okc_gr (kb : List Nat) (n : Nat) (rows : List (List PV)) : okc kb (grV n rows) = true := by cases rows <;> rfl
@[go_sem] theorem purec_gr (n : Nat) (rows : List (List PV)) : V.purec (grV n rows) = none := by cases rows <;> rfl

theorem own_gr (bx : List (Nat × List V)) (mp : List (List (PV × PV))) (pre post : List Arr) (k : Nat) (x : List PV) (q : List (List PV)) : ownArr ⟨bx, pre ++ (grA k (x :: q) ++ post), mp⟩ pre.length q.length = some ⟨q.length, k, .inl (x :: q)⟩ := by simp [ownArr, grA]
theorem keepc_gr (bx : List (Nat × List V)) (mp : List (List (PV × PV))) (pre : List Arr) (k d : Nat) (rows : List (List PV)) : keepc ⟨bx, pre ++ grA k rows, mp⟩ (d + 1) (grV pre.length rows) = some (.lst 0 rows) := by
  cases rows with
  | nil => rfl
  | cons x q =>
    have := own_gr bx mp pre [] k x q
    rw [List.append_nil] at this
    simp [grV, keepc_own, this, keepRows, cutRows]
@[go_sem] theorem keepc_gr0 (bx : List (Nat × List V)) (mp : List (List (PV × PV))) (k : Nat) (rows : List (List PV)) : keepc ⟨bx, grA k rows, mp⟩ 4 (grV 0 rows) = some (.lst 0 rows) := keepc_gr bx mp [] k 3 rows
@[go_sem] theorem keepc_gr1 (bx : List (Nat × List V)) (mp : List (List (PV × PV))) (a : Arr) (k : Nat) (rows : List (List PV)) : keepc ⟨bx, a :: grA k rows, mp⟩ 4 (grV 1 rows) = some (.lst 0 rows) := keepc_gr bx mp [a] k 3 rows
@[go_sem] theorem keepc_gr2 (bx : List (Nat × List V)) (mp : List (List (PV × PV))) (a b : Arr) (k : Nat) (rows : List (List PV)) : keepc ⟨bx, a :: b :: grA k rows, mp⟩ 4 (grV 2 rows) = some (.lst 0 rows) := keepc_gr bx mp [a, b] k 3 rows
@[go_sem] theorem keep_gr (h : Heap) (n : Nat) (rows : List (List PV)) : keep h false (grV n rows) = keepc h 4 (grV n rows) := by cases rows <;> rfl

/-- With which tag such a list is lent. -/
def grG : List (List PV) → Nat
  | [] => 0
  | _ => 1
theorem lendc_gr (bx : List (Nat × List V)) (mp : List (List (PV × PV))) (pre : List Arr) (k d : Nat) (rows : List (List PV)) : lendc ⟨bx, pre ++ grA k rows, mp⟩ (d + 1) (grV pre.length rows) = some (.lst (grG rows) rows) := by
  cases rows with
  | nil => rfl
  | cons x q =>
    have := own_gr bx mp pre [] k x q
    rw [List.append_nil] at this
    simp [grV, lendc, this, cutRows, grG]
@[go_sem] theorem lendc_gr0 (bx : List (Nat × List V)) (mp : List (List (PV × PV))) (k : Nat) (rows : List (List PV)) : lendc ⟨bx, grA k rows, mp⟩ 4 (grV 0 rows) = some (.lst (grG rows) rows) := lendc_gr bx mp [] k 3 rows
@[go_sem] theorem lendc_gr1 (bx : List (Nat × List V)) (mp : List (List (PV × PV))) (a : Arr) (k : Nat) (rows : List (List PV)) : lendc ⟨bx, a :: grA k rows, mp⟩ 4 (grV 1 rows) = some (.lst (grG rows) rows) := lendc_gr bx mp [a] k 3 rows
@[go_sem] theorem lendc_gr2 (bx : List (Nat × List V)) (mp : List (List (PV × PV))) (a b : Arr) (k : Nat) (rows : List (List PV)) : lendc ⟨bx, a :: b :: grA k rows, mp⟩ 4 (grV 2 rows) = some (.lst (grG rows) rows) := lendc_gr bx mp [a, b] k 3 rows
@[go_sem] theorem lend_gr (h : Heap) (n : Nat) (rows : List (List PV)) : lend h (grV n rows) = lendc h 4 (grV n rows) := by cases rows <;> rfl
/-- One that is not empty. -/
theorem grV_own {i n : Nat} {rows : List (List PV)} (h : rows.length = n + 1) : grV i rows = .own i n 0 (n + 1) := by
  match rows, h with
  | x :: q, h =>
    simp at h
    simp [grV, h]
theorem grA_own {k n : Nat} {rows : List (List PV)} (h : rows.length = n + 1) : grA k rows = [⟨n, k, .inl rows⟩] := by
  match rows, h with
  | x :: q, h =>
    simp at h
    simp [grA, h]

-- parts of an array of the call's own
def chkR {α : Type} (i : Int) (len : Nat) (v : α) : Option α := if 0 ≤ i ∧ i ≤ len then some v else none
@[go_sem] theorem chkR_ok {α : Type} {i : Int} {len : Nat} {v : α} (h0 : 0 ≤ i) (h1 : i ≤ (len : Int)) : chkR i len v = some v := if_pos ⟨h0, h1⟩
@[go_sem] theorem sl_from (g : Opd → V) (h : Heap) (k id ver off len : Nat) (lo : Opd) :
    sliceV g h k (.own id ver off len) (some lo) none none = (ownArr h id ver).bind fun a => (intOf (g lo)).bind fun i => if a.k = k then chkR i len (.own id ver (off + i.toNat) (len - i.toNat), { ra := some id }) else none := by
  cases ho : ownArr h id ver with
  | none => simp [sliceV, ho]
  | some a =>
    cases hi : intOf (g lo) with
    | none => simp [sliceV, ho, bounds, bound, hi]
    | some i => by_cases hk : a.k = k <;> by_cases h0 : 0 ≤ i ∧ i ≤ len <;> simp [sliceV, ho, bounds, bound, hi, hk, h0, chkR]
@[go_sem] theorem sl_to (g : Opd → V) (h : Heap) (k id ver off len : Nat) (hi : Opd) :
    sliceV g h k (.own id ver off len) none (some hi) none = (ownArr h id ver).bind fun a => (intOf (g hi)).bind fun i => if a.k = k then chkR i len (.own id ver off i.toNat, { ra := some id }) else none := by
  cases ho : ownArr h id ver with
  | none => simp [sliceV, ho]
  | some a =>
    cases hj : intOf (g hi) with
    | none => simp [sliceV, ho, bounds, bound, hj]
    | some i => by_cases hk : a.k = k <;> by_cases h0 : 0 ≤ i ∧ i ≤ len <;> simp [sliceV, ho, bounds, bound, hj, hk, h0, chkR]

end Go.Pv

/-
  Lists of numbers and of edges that grow by appending.
-/
namespace Go.Pv

@[go_sem] theorem ints_nil : ints [] = [] := rfl
@[go_sem] theorem ints_snoc (l : List Int) (x : Int) : ints l ++ [[.int .i64 x]] = ints (l ++ [x]) := by simp [ints]
/-- Edges, each a row. -/
def edgs (l : List Edge) : List (List PV) := l.map Edge.c
@[go_sem] theorem edgs_length (l : List Edge) : (edgs l).length = l.length := by simp [edgs]
@[go_sem] theorem edgs_nil : edgs [] = [] := rfl
theorem edgs_map (l : List Edge) : l.map Edge.c = edgs l := rfl
@[go_sem] theorem edgs_get (l : List Edge) (i : Nat) : (edgs l)[i]? = l[i]?.map Edge.c := by simp [edgs]
theorem edgs_snoc (l : List Edge) (e : Edge) : edgs l ++ [e.c] = edgs (l ++ [e]) := by simp [edgs]
@[go_sem] theorem grow0i (bx : List (Nat × List V)) (mp : List (List (PV × PV))) (l : List Int) (x : Int) (hm : l.length + 1 ≤ 2147483648) :
    appendV ⟨bx, grA 1 (ints l), mp⟩ 1 (grV 0 (ints l)) (.tl [[.int .i64 x]]) = some (grV 0 (ints (l ++ [x])), grT 0 1 (ints l) [.int .i64 x]) := by
  rw [grow0 bx mp  1 (ints l) [.int .i64 x] rfl (by rw [ints_length]; exact hm), ints_snoc]
@[go_sem] theorem grow0e (bx : List (Nat × List V)) (mp : List (List (PV × PV))) (l : List Edge) (f : Int) (s : Bool) (x t : Int) (hm : l.length + 1 ≤ 2147483648) :
    appendV ⟨bx, grA 4 (edgs l), mp⟩ 4 (grV 0 (edgs l)) (.tl [[.int .i64 f, .bool s, .int .i64 x, .int .i64 t]]) = some (grV 0 (edgs (l ++ [⟨f, s, x, t⟩])), grT 0 4 (edgs l) (Edge.c ⟨f, s, x, t⟩)) := by
  rw [← edgs_snoc]
  exact grow0 bx mp  4 (edgs l) (Edge.c ⟨f, s, x, t⟩) rfl (by rw [edgs_length]; exact hm)
@[go_sem] theorem grow1i (bx : List (Nat × List V)) (mp : List (List (PV × PV))) (a : Arr) (l : List Int) (x : Int) (hm : l.length + 1 ≤ 2147483648) :
    appendV ⟨bx, a :: grA 1 (ints l), mp⟩ 1 (grV 1 (ints l)) (.tl [[.int .i64 x]]) = some (grV 1 (ints (l ++ [x])), grT 1 1 (ints l) [.int .i64 x]) := by
  rw [grow1 bx mp a 1 (ints l) [.int .i64 x] rfl (by rw [ints_length]; exact hm), ints_snoc]
@[go_sem] theorem grow1e (bx : List (Nat × List V)) (mp : List (List (PV × PV))) (a : Arr) (l : List Edge) (f : Int) (s : Bool) (x t : Int) (hm : l.length + 1 ≤ 2147483648) :
    appendV ⟨bx, a :: grA 4 (edgs l), mp⟩ 4 (grV 1 (edgs l)) (.tl [[.int .i64 f, .bool s, .int .i64 x, .int .i64 t]]) = some (grV 1 (edgs (l ++ [⟨f, s, x, t⟩])), grT 1 4 (edgs l) (Edge.c ⟨f, s, x, t⟩)) := by
  rw [← edgs_snoc]
  exact grow1 bx mp a 4 (edgs l) (Edge.c ⟨f, s, x, t⟩) rfl (by rw [edgs_length]; exact hm)
@[go_sem] theorem grow2i (bx : List (Nat × List V)) (mp : List (List (PV × PV))) (a b : Arr) (l : List Int) (x : Int) (hm : l.length + 1 ≤ 2147483648) :
    appendV ⟨bx, a :: b :: grA 1 (ints l), mp⟩ 1 (grV 2 (ints l)) (.tl [[.int .i64 x]]) = some (grV 2 (ints (l ++ [x])), grT 2 1 (ints l) [.int .i64 x]) := by
  rw [grow2 bx mp a b 1 (ints l) [.int .i64 x] rfl (by rw [ints_length]; exact hm), ints_snoc]
@[go_sem] theorem grow2e (bx : List (Nat × List V)) (mp : List (List (PV × PV))) (a b : Arr) (l : List Edge) (f : Int) (s : Bool) (x t : Int) (hm : l.length + 1 ≤ 2147483648) :
    appendV ⟨bx, a :: b :: grA 4 (edgs l), mp⟩ 4 (grV 2 (edgs l)) (.tl [[.int .i64 f, .bool s, .int .i64 x, .int .i64 t]]) = some (grV 2 (edgs (l ++ [⟨f, s, x, t⟩])), grT 2 4 (edgs l) (Edge.c ⟨f, s, x, t⟩)) := by
  rw [← edgs_snoc]
  exact grow2 bx mp a b 4 (edgs l) (Edge.c ⟨f, s, x, t⟩) rfl (by rw [edgs_length]; exact hm)

/-- Truth values, each a row. -/
def bools (l : List Bool) : List (List PV) := l.map fun b => [.bool b]
@[go_sem] theorem bools_length (l : List Bool) : (bools l).length = l.length := by simp [bools]
@[go_sem] theorem bools_get (l : List Bool) (i : Nat) : (bools l)[i]? = l[i]?.map fun b => [.bool b] := by simp [bools]
theorem bools_set (l : List Bool) (i : Nat) (b : Bool) : (bools l).set i [.bool b] = bools (l.set i b) := by simp [bools, List.map_set]
@[go_sem] theorem bools_store {id row ver : Nat} {b : Bool} {l : List Bool} (h1 : row < l.length) : storeRow id row 0 [.pv (.bool b)] ⟨ver, 1, .inl (bools l)⟩ = some { ar := some (id, ⟨ver, 1, .inl (bools (l.set row b))⟩) } := by
  rw [storeRow_one (by rw [bools_length]; exact h1) rfl (.inr ⟨.bool l[row], by simp [bools, h1]⟩) rfl, bools_set]
@[go_sem] theorem bools_made (n : Nat) (b : Bool) : sameRows n [.pv (.bool b)] = .inl (bools (List.replicate n b)) := by
  simp [sameRows, mapO, V.purec, PV.perm, bools]

end Go.Pv

/-
  The law of the errors of automata.
-/
namespace Go.Pv

end Go.Pv

/-
  Next states.
-/
namespace Go.Pv

/-- The next state of the first edge that fits. -/
def nextE (s : Int) (d : Bool) (x : Int) : List Edge → Option Int
  | [] => none
  | e :: r => if e.fr = s ∧ e.send = d ∧ e.label = x then some e.to else nextE s d x r

@[go_sem] theorem r45 (t : Nat) (a : Auto) (s : Int) (d : Bool) (x : Int) (hl : a.edges.length ≤ 2 ^ 63 - 1) :
    res A PrA 45 [.agg [.int .i64 a.states, .int .i64 a.start, .lst t (a.edges.map Edge.c)], .int .i64 s, .bool d, .int .i64 x] = some [.int .i64 ((nextE s d x a.edges).getD 0), .bool (nextE s d x a.edges).isSome] := by
  refine res_of a45 rfl rfl ?_
  simp only [F45]
  simp (disch := omega) only [go_sem]
  refine W.upto a.edges.length (fun k => ⟨[(1, .pv (.int .i64 s)), (2, .pv (.bool d)), (3, .pv (.int .i64 x)), (13, .pv (.lst t (a.edges.map Edge.c))), (14, .pv (.int .i64 a.edges.length)), (15, .pv (.int .i64 k))], ⟨[], [], []⟩⟩) (fun k => nextE s d x a.edges = nextE s d x (a.edges.drop k)) rfl rfl fun k hk hi => ?_
  simp (disch := omega) only [go_sem]
  refine Br.ofP (fun h => ?_) (fun h => ?_)
  · obtain ⟨e, he⟩ := get_at (l := a.edges) (k := k) (by omega)
    rw [drop_at he] at hi
    have no : ¬ (e.fr = s ∧ e.send = d ∧ e.label = x) → nextE s d x a.edges = nextE s d x (a.edges.drop (k + 1)) := fun hn => hi.trans (by simp only [nextE, if_neg hn])
    have yes : (e.fr = s ∧ e.send = d ∧ e.label = x) → nextE s d x a.edges = some e.to := fun hn => hi.trans (by simp only [nextE, if_pos hn])
    simp (disch := omega) only [go_sem, he]
    refine Br.ofP (fun g1 => ?_) (fun g1 => ?_) <;> simp (disch := omega) only [go_sem, g1]
    · refine Br.ofP (fun g2 => ?_) (fun g2 => ?_) <;> simp (disch := omega) only [go_sem, g2]
      · refine Br.ofP (fun g3 => ?_) (fun g3 => ?_) <;> simp (disch := omega) only [go_sem, g3]
        · rw [yes ⟨g1, g2, g3⟩]
          rfl
        · exact .of (by omega) rfl (no (fun hn => g3 hn.2.2))
      · exact .of (by omega) rfl (no (fun hn => g2 hn.2.1))
    · exact .of (by omega) rfl (no (fun hn => g1 hn.1))
  · simp (disch := omega) only [go_sem]
    rw [hi, drop_end h]
    rfl

@[go_sem] theorem r39 (t : Nat) (a : Auto) (s : Int) (d : Bool) (x : Int) (hl : a.edges.length ≤ 2 ^ 63 - 1) :
    res A PrA 39 [.agg [.int .i64 a.states, .int .i64 a.start, .lst t (a.edges.map Edge.c)], .int .i64 s, .bool d, .int .i64 x] = some [.int .i64 ((nextE s d x a.edges).getD 0), .bool (nextE s d x a.edges).isSome] := by
  refine res_of a39 rfl rfl ?_
  simp only [F39]
  simp (disch := omega) only [go_sem]
  refine W.upto a.edges.length (fun k => ⟨[(1, .pv (.int .i64 s)), (2, .pv (.bool d)), (3, .pv (.int .i64 x)), (4, .ptr 4 0), (10, .pv (.int .i64 k))], ⟨[(4, [.pv (.int .i64 a.states), .pv (.int .i64 a.start), .pv (.lst t (a.edges.map Edge.c))])], [], []⟩⟩) (fun k => nextE s d x a.edges = nextE s d x (a.edges.drop k)) rfl rfl fun k hk hi => ?_
  simp (disch := omega) only [go_sem]
  refine Br.ofP (fun h => ?_) (fun h => ?_)
  · obtain ⟨e, he⟩ := get_at (l := a.edges) (k := k) (by omega)
    rw [drop_at he] at hi
    have no : ¬ (e.fr = s ∧ e.send = d ∧ e.label = x) → nextE s d x a.edges = nextE s d x (a.edges.drop (k + 1)) := fun hn => hi.trans (by simp only [nextE, if_neg hn])
    have yes : (e.fr = s ∧ e.send = d ∧ e.label = x) → nextE s d x a.edges = some e.to := fun hn => hi.trans (by simp only [nextE, if_pos hn])
    simp (disch := omega) only [go_sem, he]
    refine Br.ofP (fun g1 => ?_) (fun g1 => ?_) <;> simp (disch := omega) only [go_sem, g1]
    · refine Br.ofP (fun g2 => ?_) (fun g2 => ?_) <;> simp (disch := omega) only [go_sem, g2]
      · refine Br.ofP (fun g3 => ?_) (fun g3 => ?_) <;> simp (disch := omega) only [go_sem, g3]
        · rw [yes ⟨g1, g2, g3⟩]
          rfl
        · exact .of (by omega) rfl (no (fun hn => g3 hn.2.2))
      · exact .of (by omega) rfl (no (fun hn => g2 hn.2.1))
    · exact .of (by omega) rfl (no (fun hn => g1 hn.1))
  · simp (disch := omega) only [go_sem]
    rw [hi, drop_end h]
    rfl
end Go.Pv

/-
  Ends.
-/
namespace Go.Pv


/-- No edge leaves the state. -/
def isEnd (s : Int) : List Edge → Bool
  | [] => true
  | e :: r => if e.fr = s then false else isEnd s r

/-- The ends below a number. -/
def endsTo (es : List Edge) : Nat → List Int
  | 0 => []
  | k + 1 => if isEnd k es then endsTo es k ++ [(k : Int)] else endsTo es k
theorem endsTo_len (es : List Edge) : ∀ k, (endsTo es k).length ≤ k
  | 0 => Nat.le_refl _
  | k + 1 => by
    have := endsTo_len es k
    unfold endsTo
    split <;> simp <;> omega
def Auto.ends (a : Auto) : List Int := if a.states ≤ 12 then endsTo a.edges a.states.toNat else []

/-- Which states an edge among the first ones leaves. -/
def busyTo (n : Nat) (es : List Edge) : Nat → List Bool
  | 0 => List.replicate n false
  | k + 1 => match es[k]? with
    | some e => if 0 ≤ e.fr ∧ e.fr < n then (busyTo n es k).set e.fr.toNat true else busyTo n es k
    | none => busyTo n es k
theorem busyTo_len (n : Nat) (es : List Edge) : ∀ k, (busyTo n es k).length = n
  | 0 => by simp [busyTo]
  | k + 1 => by
    have := busyTo_len n es k
    unfold busyTo
    split
    · split <;> simp [this]
    · exact this
theorem isEnd_snoc (s : Int) (e : Edge) : ∀ l : List Edge, isEnd s (l ++ [e]) = (isEnd s l && !decide (e.fr = s))
  | [] => by by_cases h : e.fr = s <;> simp [isEnd, h]
  | d :: l => by
    simp only [List.cons_append, isEnd]
    rw [isEnd_snoc s e l]
    split <;> simp
theorem busyTo_get (n : Nat) (es : List Edge) : ∀ k, k ≤ es.length → ∀ s, s < n → (busyTo n es k)[s]? = some (!isEnd s (es.take k))
  | 0, _, s, hs => by simp [busyTo, isEnd, hs]
  | k + 1, hk, s, hs => by
    have ih := busyTo_get n es k (by omega) s hs
    have hlen := busyTo_len n es k
    obtain ⟨e, he⟩ : ∃ e, es[k]? = some e := ⟨es[k], by simp⟩
    have ht : es.take (k + 1) = es.take k ++ [e] := by rw [List.take_add_one, he]; rfl
    rw [ht, isEnd_snoc]
    simp only [busyTo, he]
    by_cases h : e.fr = (s : Int)
    · rw [if_pos (by omega), h]
      simp [List.getElem?_set, hlen, hs]
    · by_cases h2 : 0 ≤ e.fr ∧ e.fr < n
      · rw [if_pos h2, List.getElem?_set_ne (by omega), ih]
        simp [h]
      · rw [if_neg h2, ih]
        simp [h]

end Go.Pv

/-
  Places of numbers in lists; labels.
-/
namespace Go.Pv

/-- The first place of a number behind k places, or -1. -/
def atFrom (x : Int) : Nat → List Int → Int
  | _, [] => -1
  | k, y :: r => if y = x then k else atFrom x (k + 1) r
def atL (x : Int) (l : List Int) : Int := atFrom x 0 l

/-- The place to which a number moves down from the end. -/
def bubI (x : Int) (l : List Int) : Nat → Nat
  | 0 => 0
  | p + 1 => if x < l.getD p 0 then bubI x l p else p + 1
def putI (x : Int) (l : List Int) (p : Nat) : List Int := l.take p ++ x :: l.drop p
def insI (x : Int) (l : List Int) : List Int := putI x l (bubI x l l.length)
theorem putI_len (x : Int) (l : List Int) (p : Nat) (h : p ≤ l.length) : (putI x l p).length = l.length + 1 := by simp [putI]; omega

theorem putI_at (x : Int) (l : List Int) (p : Nat) (h : p ≤ l.length) : (putI x l p)[p]? = some x := by
  unfold putI
  rw [List.getElem?_append_right (by simp; omega)]
  simp [Nat.min_eq_left h]
theorem putI_below (x : Int) (l : List Int) (p : Nat) (h : p < l.length) : (putI x l (p + 1))[p]? = some (l.getD p 0) := by
  unfold putI
  rw [List.getElem?_append_left (by simp; omega), List.getElem?_take, if_pos (by omega)]
  simp [h]
theorem putI_down (x : Int) (l : List Int) (p : Nat) (h : p < l.length) : ((putI x l (p + 1)).set (p + 1) (l.getD p 0)).set p x = putI x l p := by
  apply List.ext_getElem?
  intro i
  have h1 := putI_len x l (p + 1) (by omega)
  have h2 := putI_len x l p (by omega)
  by_cases ip : i = p
  · subst ip
    rw [putI_at x l i (by omega), List.getElem?_set_self (by simp [h1]; omega)]
  · rw [List.getElem?_set_ne (Ne.symm ip)]
    by_cases iq : i = p + 1
    · subst iq
      rw [List.getElem?_set_self (by rw [h1]; omega)]
      unfold putI
      rw [List.getElem?_append_right (by simp; omega)]
      simp [Nat.min_eq_left (Nat.le_of_lt h), h]
    · rw [List.getElem?_set_ne (Ne.symm iq)]
      unfold putI
      rcases Nat.lt_or_ge i p with hi | hi
      · rw [List.getElem?_append_left (by simp; omega), List.getElem?_append_left (by simp; omega), List.getElem?_take, List.getElem?_take, if_pos (by omega), if_pos hi]
      · rw [List.getElem?_append_right (by simp; omega), List.getElem?_append_right (by simp; omega)]
        obtain ⟨q, rfl⟩ : ∃ q, i = p + 2 + q := ⟨i - (p + 2), by omega⟩
        simp only [List.length_take, Nat.min_eq_left (Nat.le_of_lt h), Nat.min_eq_left (Nat.succ_le_of_lt h)]
        rw [show p + 2 + q - (p + 1) = q + 1 by omega, show p + 2 + q - p = q + 2 by omega]
        simp only [List.getElem?_cons_succ, List.getElem?_drop]
        congr 1
        omega

/-- The labels with a direction among the first edges. -/
def labTo (d : Bool) (es : List Edge) : Nat → List Int
  | 0 => []
  | k + 1 => match es[k]? with
    | some e => if e.send ≠ d ∨ 0 ≤ atL e.label (labTo d es k) then labTo d es k else insI e.label (labTo d es k)
    | none => labTo d es k
theorem bubI_le (x : Int) (l : List Int) : ∀ q, bubI x l q ≤ q
  | 0 => Nat.le_refl _
  | q + 1 => by
    have := bubI_le x l q
    unfold bubI
    split <;> omega
theorem insI_len (x : Int) (l : List Int) : (insI x l).length = l.length + 1 := putI_len x l _ (bubI_le x l _)
theorem labTo_len (d : Bool) (es : List Edge) : ∀ k, (labTo d es k).length ≤ k
  | 0 => Nat.le_refl _
  | k + 1 => by
    have := labTo_len d es k
    unfold labTo
    split
    · split
      · omega
      · rw [insI_len]
        omega
    · omega

end Go.Pv

/-
  Labels.
-/
namespace Go.Pv

end Go.Pv

/-
  slices.Compact of numbers that the caller gives away.
-/
namespace Go.Pv

/-- No two neighbours alike. -/
def cmpct : List Int → List Int
  | [] => []
  | [x] => [x]
  | x :: y :: r => if x = y then cmpct (y :: r) else x :: cmpct (y :: r)

@[go_sem] theorem ownIds_one (a b c d : Nat) : distinct (ownIds [.own a b c d]) = true := rfl
@[go_sem] theorem fresh_ints (bx : List (Nat × List V)) (mp : List (List (PV × PV))) (ar : List Arr) (v n : Nat) (l : List Int) : keep ⟨bx, ⟨v, 1, .inl (ints l)⟩ :: ar, mp⟩ true (.own 0 v 0 n) = some (.fr 1 (ints (l.take n))) := by
  simp [keep, freshc, ownArr, ints]

@[go_sem] theorem clr_ints (bx : List (Nat × List V)) (mp : List (List (PV × PV))) (ar : List Arr) (v off len : Nat) (l : List Int) (h : off + len ≤ l.length) : clrV ⟨bx, ⟨v, 1, .inl (ints l)⟩ :: ar, mp⟩ 1 [.pv (.int .i64 0)] (.own 0 v off len) =
    some (.tup [], { ar := some (0, ⟨v, 1, .inl (ints (l.take off ++ List.replicate len 0 ++ l.drop (off + len)))⟩) }) := by
  simp [clrV, ownArr, mapO, V.purec, PV.perm, ints, h]

theorem cmpct_step (l : List Int) (x y : Int) (k : Nat) (hx : l[k]? = some x) (hy : l[k + 1]? = some y) : cmpct (l.take (k + 2)) = if x = y then cmpct (l.take (k + 1)) else cmpct (l.take (k + 1)) ++ [y] := by
  induction l generalizing k with
  | nil => simp at hx
  | cons z l ih =>
    cases k with
    | zero =>
      simp at hx hy
      subst hx
      match l, hy with
      | w :: r, hy =>
        simp at hy
        subst hy
        simp only [Nat.zero_add, List.take_succ_cons, List.take_zero, cmpct]
        split
        · rename_i hzw
          rw [hzw]
        · rfl
    | succ k =>
      simp at hx hy
      have := ih k hx hy
      match l, hx with
      | w :: r, hx =>
        simp only [List.take_succ_cons, cmpct] at this ⊢
        split
        · exact this
        · rw [this]
          split <;> simp

theorem set_put (c l : List Int) (v : Int) (h : c.length < l.length) : (c ++ l.drop c.length).set c.length v = (c ++ [v]) ++ l.drop (c ++ [v]).length := by
  rw [List.set_append_right _ _ (Nat.le_refl _), Nat.sub_self, List.append_assoc]
  have : (c ++ [v]).length = c.length + 1 := by simp
  rw [this, List.drop_eq_getElem_cons h]
  rfl

end Go.Pv

/-
  Appending to arrays that are given in full; two lists of numbers that grow side by side.
-/
namespace Go.Pv

def apI (id ver off len : Nat) (x : Int) (a : Arr) : Option (V × Tn) :=
  if off + len = a.size ∧ a.k = 1 ∧ len + 1 ≤ mostRows then some (.own id (ver + 1) 0 (len + 1), { ar := some (id, ⟨ver + 1, 1, catRows (cutRows off len a.body) (.inl [[.int .i64 x]])⟩) }) else none
@[go_sem] theorem app_own (h : Heap) (id ver off len : Nat) (x : Int) : appendV h 1 (.own id ver off len) (.tl [[.int .i64 x]]) = (ownArr h id ver).bind (apI id ver off len x) := by
  cases ho : ownArr h id ver with
  | none => simp [appendV, srcRows, rowsFit, ho]
  | some a =>
    simp only [appendV, srcRows, rowsFit, ho, rowsLen, apI, List.all_cons, List.all_nil, List.length_cons, List.length_nil, Option.bind_some]
    by_cases h1 : off + len = a.size <;> by_cases h2 : a.k = 1 <;> by_cases h3 : len + 1 ≤ mostRows <;> simp [h1, h2, h3]
@[go_sem] theorem apI_ok {id ver len : Nat} {x : Int} {l : List Int} (h1 : len = l.length) (h2 : l.length + 1 ≤ 2147483648) : apI id ver 0 len x ⟨ver, 1, .inl (ints l)⟩ = some (.own id (ver + 1) 0 (len + 1), { ar := some (id, ⟨ver + 1, 1, .inl (ints (l ++ [x]))⟩) }) := by
  subst h1
  unfold apI
  rw [if_pos ⟨by simp [Arr.size, ints], rfl, h2⟩]
  have : List.take l.length (List.map (fun x => [PV.int IntKind.i64 x]) l) = List.map (fun x => [PV.int IntKind.i64 x]) l := List.take_of_length_le (by simp)
  simp [catRows, cutRows, ints, this]
@[go_sem] theorem app_tl (h : Heap) (x : Int) : appendV h 1 (.tl []) (.tl [[.int .i64 x]]) = some (.own h.ar.length 0 0 1, { push := [⟨0, 1, .inl (ints [x])⟩], base := h.ar.length }) := by
  simp [appendV, srcRows, rowsFit, rowsLen, mostRows, catRows, ints]

end Go.Pv

/-
  Loops over lists: folds and searches.
-/
namespace Go.Pv
variable {A : Nat → Option AFunc} {Pr : Prims}

/-- What a round of a fold comes to. -/
def foldK {σ : Type} (S : Nat → σ → St) (I : Nat → σ → Prop) (k : Nat) (acc : σ) (Q : Ex → St → Prop) (_t : Tie (S, I, k, acc, Q) := .mk) : Ex → St → Prop
  | .normal, s => s = S k acc ∧ I k acc
  | .exit i, s => Q (.exit i) s
  | .ret, s => Q .ret s
@[congr] theorem foldK_congr {σ : Type} {S : Nat → σ → St} {I : Nat → σ → Prop} {k : Nat} {acc : σ} {Q : Ex → St → Prop} {e e' : Ex} {s s' : St} (he : e = e') (hs : s = s') : foldK S I k acc Q .mk e s = foldK S I k acc Q .mk e' s' := by rw [he, hs]
@[go_sem] theorem foldK_exit {σ : Type} (S : Nat → σ → St) (I : Nat → σ → Prop) (k : Nat) (acc : σ) (Q : Ex → St → Prop) (i : Nat) (s : St) : foldK S I k acc Q .mk (.exit i) s = Q (.exit i) s := rfl
@[go_sem] theorem foldK_ret {σ : Type} (S : Nat → σ → St) (I : Nat → σ → Prop) (k : Nat) (acc : σ) (Q : Ex → St → Prop) (s : St) : foldK S I k acc Q .mk .ret s = Q .ret s := rfl
theorem foldK.of {σ : Type} {S : Nat → σ → St} {I : Nat → σ → Prop} {k : Nat} {acc : σ} {Q : Ex → St → Prop} {s : St} (h : s = S k acc) (h2 : I k acc) : foldK S I k acc Q .mk .normal s := ⟨h, h2⟩

/-- The end of a loop: no more rounds. -/
def exitK (Q : Ex → St → Prop) (_t : Tie Q := .mk) : Ex → St → Prop
  | .normal, _ => False
  | .exit i, s => Q (.exit i) s
  | .ret, s => Q .ret s
@[congr] theorem exitK_congr {Q : Ex → St → Prop} {e e' : Ex} {s s' : St} (he : e = e') (hs : s = s') : exitK Q .mk e s = exitK Q .mk e' s' := by rw [he, hs]
@[go_sem] theorem exitK_exit (Q : Ex → St → Prop) (i : Nat) (s : St) : exitK Q .mk (.exit i) s = Q (.exit i) s := rfl
@[go_sem] theorem exitK_ret (Q : Ex → St → Prop) (s : St) : exitK Q .mk .ret s = Q .ret s := rfl

/-- A loop over a list that folds. -/
theorem W.fold {σ α : Type} {a : AC} {s : St} {Q : Ex → St → Prop} (l : List α) (f : σ → α → σ) (x0 : σ) (S : Nat → σ → St) (I : Nat → σ → Prop) (hs : s = S 0 x0) (h0 : I 0 x0)
    (hr : ∀ k x acc, l[k]? = some x → k < l.length → acc = (l.take k).foldl f x0 → I k acc → W A Pr a (S k acc) (foldK S I (k + 1) (f acc x) Q))
    (he : ∀ acc, acc = l.foldl f x0 → I l.length acc → W A Pr a (S l.length acc) (exitK Q)) : W A Pr (.loop a) s Q := by
  refine W.upto l.length (fun k => S k ((l.take k).foldl f x0)) (fun k => I k ((l.take k).foldl f x0)) (by simpa using hs) (by simpa using h0) fun k hk hi => ?_
  rcases Nat.lt_or_ge k l.length with h | h
  · obtain ⟨x, hx⟩ : ∃ x, l[k]? = some x := ⟨l[k], by simp [h]⟩
    obtain ⟨ex, s', h1, h2⟩ := hr k x _ hx h rfl hi
    have ht : (l.take (k + 1)).foldl f x0 = f ((l.take k).foldl f x0) x := by rw [List.take_add_one, hx]; simp [List.foldl_append]
    refine ⟨ex, s', h1, ?_⟩
    cases ex with
    | normal => exact .of h (by rw [ht]; exact h2.1) (by rw [ht]; exact h2.2)
    | exit i => exact h2
    | ret => exact h2
  · obtain rfl : k = l.length := by omega
    rw [List.take_length] at hi ⊢
    obtain ⟨ex, s', h1, h2⟩ := he _ rfl hi
    refine ⟨ex, s', h1, ?_⟩
    cases ex with
    | normal => exact h2.elim
    | exit i => exact h2
    | ret => exact h2

/-- A loop that counts, and folds. -/
theorem W.foldN {σ : Type} {a : AC} {s : St} {Q : Ex → St → Prop} (n : Nat) (f : σ → Nat → σ) (x0 : σ) (S : Nat → σ → St) (I : Nat → σ → Prop) (hs : s = S 0 x0) (h0 : I 0 x0)
    (hr : ∀ k acc, k < n → acc = (List.range k).foldl f x0 → I k acc → W A Pr a (S k acc) (foldK S I (k + 1) (f acc k) Q))
    (he : ∀ acc, acc = (List.range n).foldl f x0 → I n acc → W A Pr a (S n acc) (exitK Q)) : W A Pr (.loop a) s Q := by
  refine W.fold (List.range n) f x0 S I hs h0 (fun k x acc hx hk ha hi => ?_) (fun acc ha hi => ?_)
  · rw [List.length_range] at hk
    rw [List.getElem?_range hk] at hx
    cases hx
    refine hr k acc hk ?_ hi
    rw [ha, List.take_range, Nat.min_eq_left (by omega)]
  · rw [List.length_range] at hi ⊢
    exact he acc ha hi

/-- What a round of a search comes to. -/
def findK (S : Nat → St) (k : Nat) (p : Bool) (Q : Ex → St → Prop) (_t : Tie (S, k, p, Q) := .mk) : Ex → St → Prop
  | .normal, s => p = false ∧ s = S k
  | .exit i, s => Q (.exit i) s
  | .ret, s => Q .ret s
@[congr] theorem findK_congr {S : Nat → St} {k : Nat} {p : Bool} {Q : Ex → St → Prop} {e e' : Ex} {s s' : St} (he : e = e') (hs : s = s') : findK S k p Q .mk e s = findK S k p Q .mk e' s' := by rw [he, hs]
@[go_sem] theorem findK_exit (S : Nat → St) (k : Nat) (p : Bool) (Q : Ex → St → Prop) (i : Nat) (s : St) : findK S k p Q .mk (.exit i) s = Q (.exit i) s := rfl
@[go_sem] theorem findK_ret (S : Nat → St) (k : Nat) (p : Bool) (Q : Ex → St → Prop) (s : St) : findK S k p Q .mk .ret s = Q .ret s := rfl
theorem findK.of {S : Nat → St} {k : Nat} {p : Bool} {Q : Ex → St → Prop} {s : St} (h : p = false) (h2 : s = S k) : findK S k p Q .mk .normal s := ⟨h, h2⟩

/-- Where a search stands. -/
structure Found {α : Type} (l : List α) (p : α → Bool) (k : Nat) (x : α) : Prop where
  any : l.any p = true
  all : l.all (fun y => !p y) = false
  find : l.find? p = some x
  idx : l.findIdx? p = some k
structure Nowhere {α : Type} (l : List α) (p : α → Bool) : Prop where
  any : l.any p = false
  all : l.all (fun y => !p y) = true
  find : l.find? p = none
  idx : l.findIdx? p = none

theorem found_of {α : Type} {l : List α} {p : α → Bool} {k : Nat} {x : α} (hb : ∀ j, j < k → ∀ y, l[j]? = some y → p y = false) (hx : l[k]? = some x) (hp : p x = true) : Found l p k x := by
  obtain ⟨hk, rfl⟩ := List.getElem?_eq_some_iff.1 hx
  have hi : l.findIdx? p = some k := by
    rw [List.findIdx?_eq_some_iff_getElem]
    exact ⟨hk, hp, fun j hj => by simpa using hb j hj _ (by rw [List.getElem?_eq_getElem (by omega)])⟩
  refine ⟨List.any_eq_true.2 ⟨_, List.getElem_mem hk, hp⟩, ?_, ?_, hi⟩
  · rw [List.all_eq_false]
    exact ⟨_, List.getElem_mem hk, by simp [hp]⟩
  · rw [List.find?_eq_some_iff_getElem]
    exact ⟨hp, k, hk, rfl, fun j hj => by simpa using hb j hj _ (by rw [List.getElem?_eq_getElem (by omega)])⟩

theorem nowhere_of {α : Type} {l : List α} {p : α → Bool} (hb : ∀ j, j < l.length → ∀ y, l[j]? = some y → p y = false) : Nowhere l p := by
  have hm : ∀ x ∈ l, p x = false := fun x hx => by
    obtain ⟨j, hj, rfl⟩ := List.getElem_of_mem hx
    exact hb j hj _ (by rw [List.getElem?_eq_getElem])
  exact ⟨by rw [List.any_eq_false]; intro x hx; simp [hm x hx], by rw [List.all_eq_true]; intro x hx; simp [hm x hx], by rw [List.find?_eq_none]; intro x hx; simp [hm x hx], by rw [List.findIdx?_eq_none_iff]; exact hm⟩

/-- A loop over a list that searches. -/
theorem W.find {α : Type} {a : AC} {s : St} {Q : Ex → St → Prop} (l : List α) (p : α → Bool) (S : Nat → St) (hs : s = S 0)
    (hr : ∀ k x, l[k]? = some x → k < l.length → (p x = true → Found l p k x) → W A Pr a (S k) (findK S (k + 1) (p x) Q))
    (he : Nowhere l p → W A Pr a (S l.length) (exitK Q)) : W A Pr (.loop a) s Q := by
  refine W.upto l.length S (fun k => ∀ j, j < k → ∀ y, l[j]? = some y → p y = false) hs (fun j hj => absurd hj (Nat.not_lt_zero _)) fun k hk hi => ?_
  rcases Nat.lt_or_ge k l.length with h | h
  · obtain ⟨x, hx⟩ : ∃ x, l[k]? = some x := ⟨l[k], by simp [h]⟩
    obtain ⟨ex, s', h1, h2⟩ := hr k x hx h (fun hp => found_of hi hx hp)
    refine ⟨ex, s', h1, ?_⟩
    cases ex with
    | normal =>
      refine .of h h2.2 fun j hj y hy => ?_
      rcases Nat.lt_or_ge j k with g | g
      · exact hi j g y hy
      · obtain rfl : j = k := by omega
        rw [hx] at hy
        cases hy
        exact h2.1
    | exit i => exact h2
    | ret => exact h2
  · obtain rfl : k = l.length := by omega
    obtain ⟨ex, s', h1, h2⟩ := he (nowhere_of hi)
    refine ⟨ex, s', h1, ?_⟩
    cases ex with
    | normal => exact h2.elim
    | exit i => exact h2
    | ret => exact h2

/-- One round, and the loop again. -/
def againK (A : Nat → Option AFunc) (Pr : Prims) (a : AC) (Q : Ex → St → Prop) (_t : Tie (a, Q) := .mk) : Ex → St → Prop
  | .normal, s => W A Pr (.loop a) s Q
  | .exit i, s => Q (.exit i) s
  | .ret, s => Q .ret s
@[congr] theorem againK_congr {a : AC} {Q : Ex → St → Prop} {e e' : Ex} {s s' : St} (he : e = e') (hs : s = s') : againK A Pr a Q .mk e s = againK A Pr a Q .mk e' s' := by rw [he, hs]
@[go_sem] theorem againK_normal (a : AC) (Q : Ex → St → Prop) (s : St) : againK A Pr a Q .mk .normal s = W A Pr (.loop a) s Q := rfl
@[go_sem] theorem againK_exit (a : AC) (Q : Ex → St → Prop) (i : Nat) (s : St) : againK A Pr a Q .mk (.exit i) s = Q (.exit i) s := rfl
@[go_sem] theorem againK_ret (a : AC) (Q : Ex → St → Prop) (s : St) : againK A Pr a Q .mk .ret s = Q .ret s := rfl
theorem W.once {a : AC} {s : St} {Q : Ex → St → Prop} (h : W A Pr a s (againK A Pr a Q)) : W A Pr (.loop a) s Q := by
  obtain ⟨ex, s', h1, h2⟩ := h
  cases ex with
  | normal =>
    obtain ⟨e2, s2, h3, h4⟩ := h2
    exact ⟨e2, s2, Runs.loop_step h1 h3, h4⟩
  | exit i => exact ⟨_, _, Runs.loop_out h1 (by simp), h2⟩
  | ret => exact ⟨_, _, Runs.loop_out h1 (by simp), h2⟩

end Go.Pv

/-
  Labels, as the program finds them.
-/
namespace Go.Pv

/-- Two lists that grow, by which came first. -/
inductive Two where
  | e
  | a (x : Int) (l : List Int)
  | b (x : Int) (l : List Int)
  | ab (x : Int) (l : List Int) (y : Int) (r : List Int)
  | ba (x : Int) (l : List Int) (y : Int) (r : List Int)

def ow (i : Nat) (l : List Int) : V := .own i l.length 0 (l.length + 1)
def ao (x : Int) (l : List Int) : Arr := ⟨l.length, 1, .inl (ints (x :: l))⟩
def Two.v0 : Two → V
  | .e | .b _ _ => .tl []
  | .a _ l | .ab _ l _ _ => ow 0 l
  | .ba _ l _ _ => ow 1 l
def Two.v1 : Two → V
  | .e | .a _ _ => .tl []
  | .b _ l | .ba _ _ _ l => ow 0 l
  | .ab _ _ _ r => ow 1 r
def Two.ar : Two → List Arr
  | .e => []
  | .a x l | .b x l => [ao x l]
  | .ab x l y r => [ao x l, ao y r]
  | .ba x l y r => [ao y r, ao x l]
def Two.l0 : Two → List Int
  | .e | .b _ _ => []
  | .a x l | .ab x l _ _ | .ba x l _ _ => x :: l
def Two.l1 : Two → List Int
  | .e | .a _ _ => []
  | .b x l | .ab _ _ x l | .ba _ _ x l => x :: l
def Two.put (s : Bool) (z : Int) : Two → Two
  | .e => if s then .b z [] else .a z []
  | .a x l => if s then .ab x l z [] else .a x (l ++ [z])
  | .b x l => if s then .b x (l ++ [z]) else .ba z [] x l
  | .ab x l y r => if s then .ab x l y (r ++ [z]) else .ab x (l ++ [z]) y r
  | .ba x l y r => if s then .ba x l y (r ++ [z]) else .ba x (l ++ [z]) y r

theorem Two.put_l0 (s : Bool) (z : Int) (t : Two) : (t.put s z).l0 = if s then t.l0 else t.l0 ++ [z] := by
  cases t <;> cases s <;> rfl
theorem Two.put_l1 (s : Bool) (z : Int) (t : Two) : (t.put s z).l1 = if s then t.l1 ++ [z] else t.l1 := by
  cases t <;> cases s <;> rfl
def twoTo (es : List Edge) : Nat → Two
  | 0 => .e
  | k + 1 => match es[k]? with
    | some e => (twoTo es k).put e.send e.label
    | none => twoTo es k
def Two.len (t : Two) : Nat := t.l0.length + t.l1.length
theorem twoTo_len (es : List Edge) : ∀ k, (twoTo es k).len ≤ k
  | 0 => Nat.le_refl _
  | k + 1 => by
    have := twoTo_len es k
    unfold twoTo
    split
    · unfold Two.len at *
      rw [Two.put_l0, Two.put_l1]
      split <;> simp <;> omega
    · omega

def sortI1 (id ver off len : Nat) (a : Arr) : Option (V × Tn) :=
  if len = 0 then some (.tup [], { ra := some id }) else (match a.body with
        | .inl rows => if a.k = 1 ∧ off + len ≤ rows.length ∧ len ≤ mostRows then (match mapO intDec ((rows.drop off).take len) with
          | some l => some (.tup [], { ar := some (id, ⟨ver, 1, .inl (rows.take off ++ (isort ltI l).map (fun x => [.int .i64 x]) ++ rows.drop (off + len))⟩) })
          | none => none) else none
        | .inr _ => none)
@[go_sem] theorem sortIP_tl (h : Heap) : sortIP [.tl []] h = some (.tup [], {}) := rfl
@[go_sem] theorem sortIP_own (h : Heap) (id ver off len : Nat) : sortIP [.own id ver off len] h = (ownArr h id ver).bind (sortI1 id ver off len) := by
  simp only [sortIP]
  cases ownArr h id ver <;> rfl
theorem ints_dec (l : List Int) : mapO intDec (ints l) = some l := by
  induction l with
  | nil => rfl
  | cons x l ih =>
    show mapO intDec ([.int .i64 x] :: ints l) = _
    simp only [mapO, intDec, ih]
@[go_sem] theorem sortI1_ints {id ver n : Nat} {l : List Int} (hn : n = l.length) (h0 : n ≠ 0) (hm : n ≤ 2147483648) : sortI1 id ver 0 n ⟨ver, 1, .inl (ints l)⟩ = some (.tup [], { ar := some (id, ⟨ver, 1, .inl (ints (isort ltI l))⟩) }) := by
  subst hn
  have e1 : (ints l).length = l.length := ints_length l
  simp [sortI1, h0, e1, mostRows, hm, ints_dec, List.take_of_length_le (Nat.le_of_eq e1), List.drop_eq_nil_of_le (Nat.le_of_eq e1)]
  rfl
@[go_sem] theorem lendAll_tl (h : Heap) : lendAll h true [.tl []] = some ([.lst 0 []], none) := rfl
def lendA (id ver len : Nat) (a : Arr) : Option (List PV × Option (Nat × Arr)) :=
  if a.size = len ∧ a.k ≠ 0 then (match a.body with
      | .inl rows => some ([.fr a.k rows], some (id, ⟨ver + 1, 0, .inl []⟩))
      | .inr _ => none) else none
@[go_sem] theorem lendAll_own (h : Heap) (id ver len : Nat) : lendAll h true [.own id ver 0 len] = (ownArr h id ver).bind (lendA id ver len) := by
  simp only [lendAll, lendTake]
  cases ownArr h id ver with
  | none => rfl
  | some a =>
    simp only [Option.bind_some, if_true, lendA]
    by_cases hc : a.size = len ∧ a.k ≠ 0
    · cases hb : a.body <;> simp [hc, mapO]
    · simp [hc]
@[go_sem] theorem lendA_ints {id ver v len : Nat} {l : List Int} (hn : len = l.length) : lendA id ver len ⟨v, 1, .inl (ints l)⟩ = some ([.fr 1 (ints l)], some (id, ⟨ver + 1, 0, .inl []⟩)) := by
  subst hn
  simp [lendA, Arr.size, ints_length]

theorem cmpct_small : ∀ {l : List Int}, l.length < 2 → cmpct l = l
  | [], _ => rfl
  | [_], _ => rfl
  | _ :: _ :: _, h => by simp at h; omega
@[go_sem] theorem isort_len (l : List Int) : (isort ltI l).length = l.length := (isort_perm ltI l).length_eq

theorem two_l0 (es : List Edge) : ∀ k, k ≤ es.length → (twoTo es k).l0 = ((es.take k).filter fun e => e.send == false).map (·.label) ∧ (twoTo es k).l1 = ((es.take k).filter fun e => e.send == true).map (·.label)
  | 0, _ => ⟨rfl, rfl⟩
  | k + 1, hk => by
    obtain ⟨h1, h2⟩ := two_l0 es k (by omega)
    obtain ⟨e, he⟩ : ∃ e, es[k]? = some e := ⟨es[k], by simp⟩
    have hb : twoTo es (k + 1) = (twoTo es k).put e.send e.label := by simp only [twoTo, he]
    rw [hb, Two.put_l0, Two.put_l1, h1, h2, List.take_add_one, he]
    cases hs : e.send <;> simp [hs]

end Go.Pv

/-
  Plain laws: ascending lists; breadth-first searches.
-/
namespace Go.Pv

/-- Ascending lists with the same members are the same. -/
theorem pw_ext {α : Type} {r : α → α → Prop} (irr : ∀ x, ¬ r x x) (tr : ∀ x y z, r x y → r y z → r x z) : ∀ {l m : List α}, l.Pairwise r → m.Pairwise r → (∀ x, x ∈ l ↔ x ∈ m) → l = m
  | [], [], _, _, _ => rfl
  | [], y :: m, _, _, h => absurd ((h y).2 (by simp)) (by simp)
  | x :: l, [], _, _, h => absurd ((h x).1 (by simp)) (by simp)
  | x :: l, y :: m, hl, hm, h => by
    rw [List.pairwise_cons] at hl hm
    have e : x = y := by
      rcases List.mem_cons.1 ((h x).1 (by simp)) with e | hx
      · exact e
      · rcases List.mem_cons.1 ((h y).2 (by simp)) with e | hy
        · exact e.symm
        · exact (irr x (tr x y x (hl.1 y hy) (hm.1 x hx))).elim
    subst e
    congr 1
    refine pw_ext irr tr hl.2 hm.2 fun z => ⟨fun hz => ?_, fun hz => ?_⟩
    · rcases List.mem_cons.1 ((h z).1 (List.mem_cons_of_mem _ hz)) with rfl | hz'
      · exact (irr z (hl.1 z hz)).elim
      · exact hz'
    · rcases List.mem_cons.1 ((h z).2 (List.mem_cons_of_mem _ hz)) with rfl | hz'
      · exact (irr z (hm.1 z hz)).elim
      · exact hz'

theorem asc_ext {l m : List Int} (hl : l.Pairwise (· < ·)) (hm : m.Pairwise (· < ·)) (h : ∀ x, x ∈ l ↔ x ∈ m) : l = m :=
  pw_ext (r := (· < ·)) (fun x => Int.lt_irrefl x) (fun _ _ _ => Int.lt_trans) hl hm h

/-- Numbers from 0 on, each once: no more than there are. -/
theorem nodup_bound {l : List Int} {n : Nat} (hn : l.Nodup) (h : ∀ x ∈ l, 0 ≤ x ∧ x < n) : l.length ≤ n := by
  have := List.Nodup.length_le_of_subset (l₂ := (List.range n).map Int.ofNat) hn (fun x hx => by
    have := h x hx
    rw [List.mem_map]
    exact ⟨x.toNat, List.mem_range.2 (by omega), by simp; omega⟩)
  simpa using this

section
variable {α : Type} [DecidableEq α]

/-- One more, unless it is there. -/
def addN (o : List α) (x : α) : List α := if x ∈ o then o else o ++ [x]
theorem addN_mem {o : List α} {x y : α} : y ∈ addN o x ↔ y ∈ o ∨ y = x := by
  unfold addN
  split
  · rename_i h
    exact ⟨.inl, fun h' => h'.elim id (fun e => e ▸ h)⟩
  · simp
theorem addN_nodup {o : List α} {x : α} (h : o.Nodup) : (addN o x).Nodup := by
  unfold addN
  split
  · exact h
  · rename_i hx
    rw [List.nodup_append]
    exact ⟨h, by simp, fun a ha b hb => by
      rw [List.mem_singleton] at hb
      subst hb
      exact fun e => hx (e ▸ ha)⟩
theorem addN_pre (o : List α) (x : α) : o <+: addN o x := by
  unfold addN
  split
  · exact List.prefix_refl o
  · exact List.prefix_append o [x]
def addL (o : List α) (l : List α) : List α := l.foldl addN o
theorem addL_cons (o : List α) (x : α) (l : List α) : addL o (x :: l) = addL (addN o x) l := rfl
theorem addL_snoc (o : List α) (l : List α) (x : α) : addL o (l ++ [x]) = addN (addL o l) x := by simp [addL, List.foldl_append]
theorem addL_mem : ∀ {l o : List α} {y : α}, y ∈ addL o l ↔ y ∈ o ∨ y ∈ l
  | [], o, y => by simp [addL]
  | x :: l, o, y => by
    rw [addL_cons, addL_mem, addN_mem]
    simp [or_assoc]
theorem addL_nodup : ∀ {l o : List α}, o.Nodup → (addL o l).Nodup
  | [], _, h => h
  | x :: l, o, h => by
    rw [addL_cons]
    exact addL_nodup (addN_nodup h)
theorem addL_pre : ∀ (o l : List α), o <+: addL o l
  | o, [] => List.prefix_refl o
  | o, x :: l => by
    rw [addL_cons]
    exact (addN_pre o x).trans (addL_pre _ l)

/-- A breadth-first search, for so many rounds. -/
def bfs (nx : α → List α) : Nat → Nat → List α → List α
  | 0, _, o => o
  | n + 1, i, o => match o[i]? with
    | none => o
    | some v => bfs nx n (i + 1) (addL o (nx v))

theorem bfs_step {nx : α → List α} {n i : Nat} {o : List α} {v : α} (h : o[i]? = some v) : bfs nx (n + 1) i o = bfs nx n (i + 1) (addL o (nx v)) := by
  simp only [bfs, h]
theorem bfs_end {nx : α → List α} : ∀ {n i : Nat} {o : List α}, o.length ≤ i → bfs nx n i o = o
  | 0, _, _, _ => rfl
  | n + 1, i, o, h => by simp only [bfs, List.getElem?_eq_none h]

theorem bfs_pre {nx : α → List α} : ∀ (n i : Nat) (o : List α), o <+: bfs nx n i o
  | 0, _, o => List.prefix_refl o
  | n + 1, i, o => by
    unfold bfs
    split
    · exact List.prefix_refl o
    · exact (addL_pre o _).trans (bfs_pre n _ _)
theorem bfs_nodup {nx : α → List α} : ∀ (n i : Nat) {o : List α}, o.Nodup → (bfs nx n i o).Nodup
  | 0, _, _, h => h
  | n + 1, i, o, h => by
    unfold bfs
    split
    · exact h
    · exact bfs_nodup n _ (addL_nodup h)

/-- What is reached from something. -/
inductive Rch (nx : α → List α) (s : α) : α → Prop
  | refl : Rch nx s s
  | step {v x : α} : Rch nx s v → x ∈ nx v → Rch nx s x
omit [DecidableEq α] in
theorem Rch.trans {nx : α → List α} {s v x : α} (h : Rch nx s v) (h2 : Rch nx v x) : Rch nx s x := by
  induction h2 with
  | refl => exact h
  | step _ hx ih => exact .step ih hx
omit [DecidableEq α] in
theorem Rch.head {nx : α → List α} {s v x : α} (h : v ∈ nx s) (h2 : Rch nx v x) : Rch nx s x := Rch.trans (.step .refl h) h2

theorem bfs_all {nx : α → List α} {P : α → Prop} (hP : ∀ v, P v → ∀ x ∈ nx v, P x) : ∀ (n i : Nat) {o : List α}, (∀ v ∈ o, P v) → ∀ v ∈ bfs nx n i o, P v
  | 0, _, _, h => h
  | n + 1, i, o, h => by
    unfold bfs
    split
    · exact h
    · rename_i v hv
      refine bfs_all hP n _ fun x hx => ?_
      rcases addL_mem.1 hx with hx | hx
      · exact h x hx
      · exact hP v (h v (List.mem_of_getElem? hv)) x hx

/-- It ends closed, if there are rounds enough. -/
theorem bfs_done {nx : α → List α} {N : Nat} {P : α → Prop} (hP : ∀ v, P v → ∀ x ∈ nx v, P x) (hN : ∀ o : List α, o.Nodup → (∀ v ∈ o, P v) → o.length ≤ N) : ∀ (n i : Nat) {o : List α}, N ≤ n + i → o.Nodup → (∀ v ∈ o, P v) →
    (∀ j v, j < i → o[j]? = some v → ∀ x ∈ nx v, x ∈ o) → ∀ v ∈ bfs nx n i o, ∀ x ∈ nx v, x ∈ bfs nx n i o
  | 0, i, o, hn, hd, ho, hc => by
    intro v hv x hx
    obtain ⟨j, hj, rfl⟩ := List.getElem_of_mem hv
    have := hN o hd ho
    have hlt : j < o.length := hj
    exact hc j o[j] (by omega) (by simp) x hx
  | n + 1, i, o, hn, hd, ho, hc => by
    unfold bfs
    split
    · rename_i hnone
      intro v hv x hx
      obtain ⟨j, hj, rfl⟩ := List.getElem_of_mem hv
      have := List.getElem?_eq_none_iff.1 hnone
      exact hc j o[j] (by omega) (by simp) x hx
    · rename_i v hv
      refine bfs_done hP hN n (i + 1) (by omega) (addL_nodup hd) (fun x hx => ?_) (fun j w hj hw x hx => ?_)
      · rcases addL_mem.1 hx with hx | hx
        · exact ho x hx
        · exact hP v (ho v (List.mem_of_getElem? hv)) x hx
      · rw [addL_mem]
        have hi : i < o.length := (List.getElem?_eq_some_iff.1 hv).1
        obtain ⟨t, ht⟩ := addL_pre o (nx v)
        rw [← ht, List.getElem?_append_left (by omega)] at hw
        rcases Nat.lt_or_ge j i with h | h
        · exact .inl (hc j w h hw x hx)
        · obtain rfl : j = i := by omega
          rw [hv] at hw
          cases hw
          exact .inr hx

/-- Exactly what is reached is found. -/
theorem bfs_rch {nx : α → List α} {N : Nat} {P : α → Prop} {s : α} (hP : ∀ v, P v → ∀ x ∈ nx v, P x) (hN : ∀ o : List α, o.Nodup → (∀ v ∈ o, P v) → o.length ≤ N) (hs : P s) {v : α} : v ∈ bfs nx N 0 [s] ↔ Rch nx s v := by
  constructor
  · exact bfs_all (P := Rch nx s) (fun v hv x hx => .step hv hx) N 0 (by simp; exact .refl) v
  · have hc := bfs_done hP hN N 0 (o := [s]) (by omega) (by simp) (by simpa using hs) (fun j v hj => absurd hj (Nat.not_lt_zero _))
    have hp : s ∈ bfs nx N 0 [s] := (bfs_pre N 0 [s]).subset (by simp)
    intro h
    induction h with
    | refl => exact hp
    | step _ hx ih => exact hc _ ih _ hx

section
variable {β : Type} [DecidableEq β]
theorem addN_map {g : α → β} {o : List α} {x : α} (hg : ∀ y ∈ o, g y = g x → y = x) : addN (o.map g) (g x) = (addN o x).map g := by
  unfold addN
  by_cases h : x ∈ o
  · rw [if_pos h, if_pos (List.mem_map_of_mem h)]
  · rw [if_neg h, if_neg (fun hm => by
      obtain ⟨y, hy, e⟩ := List.mem_map.1 hm
      exact h (hg y hy e ▸ hy)), List.map_append]
    rfl
theorem addL_map {g : α → β} {P : α → Prop} (hg : ∀ x y, P x → P y → g x = g y → x = y) : ∀ (l : List α) {o : List α}, (∀ v ∈ o, P v) → (∀ v ∈ l, P v) → addL (o.map g) (l.map g) = (addL o l).map g
  | [], _, _, _ => rfl
  | x :: l, o, ho, hl => by
    rw [List.map_cons, addL_cons, addL_cons, addN_map (fun y hy e => hg y x (ho y hy) (hl x (by simp)) e)]
    refine addL_map hg l (fun v hv => ?_) (fun v hv => hl v (by simp [hv]))
    rcases addN_mem.1 hv with h | h
    · exact ho v h
    · exact h ▸ hl x (by simp)
/-- The same search under other names. -/
theorem bfs_map {g : α → β} {P : α → Prop} {nx : α → List α} {nx' : β → List β} (hg : ∀ x y, P x → P y → g x = g y → x = y) (hP : ∀ v, P v → ∀ x ∈ nx v, P x) (hx : ∀ v, P v → nx' (g v) = (nx v).map g) :
    ∀ (n i : Nat) {o : List α}, (∀ v ∈ o, P v) → bfs nx' n i (o.map g) = (bfs nx n i o).map g
  | 0, _, _, _ => rfl
  | n + 1, i, o, ho => by
    simp only [bfs, List.getElem?_map]
    cases h : o[i]? with
    | none => rfl
    | some v =>
      have hv := ho v (List.mem_of_getElem? h)
      simp only [Option.map_some]
      rw [hx v hv, addL_map hg (nx v) ho (hP v hv)]
      refine bfs_map hg hP hx n (i + 1) fun x hx' => ?_
      rcases addL_mem.1 hx' with h' | h'
      · exact ho x h'
      · exact hP v hv x h'
end
end

/-- More rounds than needed change nothing. -/
theorem bfs_more {α : Type} [DecidableEq α] {nx : α → List α} {N : Nat} {P : α → Prop} (hP : ∀ v, P v → ∀ x ∈ nx v, P x) (hN : ∀ o : List α, o.Nodup → (∀ v ∈ o, P v) → o.length ≤ N) : ∀ (n m i : Nat) {o : List α}, N ≤ n + i → N ≤ m + i → o.Nodup → (∀ v ∈ o, P v) → bfs nx n i o = bfs nx m i o
  | 0, m, i, o, h1, _, hd, ho => by
    have := hN o hd ho
    rw [bfs_end (by omega), bfs_end (by omega)]
  | n + 1, 0, i, o, _, h2, hd, ho => by
    have := hN o hd ho
    rw [bfs_end (by omega), bfs_end (by omega)]
  | n + 1, m + 1, i, o, h1, h2, hd, ho => by
    simp only [bfs]
    cases h : o[i]? with
    | none => rfl
    | some v =>
      have hv := ho v (List.mem_of_getElem? h)
      refine bfs_more hP hN n m (i + 1) (by omega) (by omega) (addL_nodup hd) fun x hx => ?_
      rcases addL_mem.1 hx with h' | h'
      · exact ho x h'
      · exact hP v hv x h'

end Go.Pv

/-
  Plain laws: sorts, insertion from the end.
-/
namespace Go.Pv

section
variable {α : Type} [Inhabited α]

/-- Any two are apart. -/
def apt (lt : α → α → Bool) (x y : α) : Prop := lt x y = true ∨ lt y x = true
omit [Inhabited α] in
theorem apt.symm {lt : α → α → Bool} {x y : α} (h : apt lt x y) : apt lt y x := h.elim .inr .inl

/-- The place to which one moves down from the end. -/
def bub (lt : α → α → Bool) (x : α) (l : List α) : Nat → Nat
  | 0 => 0
  | p + 1 => if lt x (l.getD p default) = true then bub lt x l p else p + 1
def putA (x : α) (l : List α) (p : Nat) : List α := l.take p ++ x :: l.drop p
def insB (lt : α → α → Bool) (x : α) (l : List α) : List α := putA x l (bub lt x l l.length)
theorem bub_le (lt : α → α → Bool) (x : α) (l : List α) : ∀ q, bub lt x l q ≤ q
  | 0 => Nat.le_refl _
  | q + 1 => by
    have := bub_le lt x l q
    unfold bub
    split <;> omega
omit [Inhabited α] in
theorem putA_len (x : α) (l : List α) (p : Nat) (h : p ≤ l.length) : (putA x l p).length = l.length + 1 := by simp [putA]; omega
theorem insB_len (lt : α → α → Bool) (x : α) (l : List α) : (insB lt x l).length = l.length + 1 := putA_len x l _ (bub_le lt x l _)
omit [Inhabited α] in
theorem putA_at (x : α) (l : List α) (p : Nat) (h : p ≤ l.length) : (putA x l p)[p]? = some x := by
  unfold putA
  rw [List.getElem?_append_right (by simp; omega)]
  simp [Nat.min_eq_left h]
theorem putA_below (x : α) (l : List α) (p : Nat) (h : p < l.length) : (putA x l (p + 1))[p]? = some (l.getD p default) := by
  unfold putA
  rw [List.getElem?_append_left (by simp; omega), List.getElem?_take, if_pos (by omega)]
  simp [h]
theorem putA_down (x : α) (l : List α) (p : Nat) (h : p < l.length) : ((putA x l (p + 1)).set (p + 1) (l.getD p default)).set p x = putA x l p := by
  apply List.ext_getElem?
  intro i
  have h1 := putA_len x l (p + 1) (by omega)
  by_cases ip : i = p
  · subst ip
    rw [putA_at x l i (by omega), List.getElem?_set_self (by simp [h1]; omega)]
  · rw [List.getElem?_set_ne (Ne.symm ip)]
    by_cases iq : i = p + 1
    · subst iq
      rw [List.getElem?_set_self (by rw [h1]; omega)]
      unfold putA
      rw [List.getElem?_append_right (by simp; omega)]
      simp [Nat.min_eq_left (Nat.le_of_lt h), h]
    · rw [List.getElem?_set_ne (Ne.symm iq)]
      unfold putA
      rcases Nat.lt_or_ge i p with hi | hi
      · rw [List.getElem?_append_left (by simp; omega), List.getElem?_append_left (by simp; omega), List.getElem?_take, List.getElem?_take, if_pos (by omega), if_pos hi]
      · rw [List.getElem?_append_right (by simp; omega), List.getElem?_append_right (by simp; omega)]
        obtain ⟨q, rfl⟩ : ∃ q, i = p + 2 + q := ⟨i - (p + 2), by omega⟩
        simp only [List.length_take, Nat.min_eq_left (Nat.le_of_lt h), Nat.min_eq_left (Nat.succ_le_of_lt h)]
        rw [show p + 2 + q - (p + 1) = q + 1 by omega, show p + 2 + q - p = q + 2 by omega]
        simp only [List.getElem?_cons_succ, List.getElem?_drop]
        congr 1
        omega

omit [Inhabited α] in
theorem putA_perm (x : α) (l : List α) (p : Nat) : (putA x l p).Perm (x :: l) := by
  unfold putA
  refine (List.perm_middle).trans ?_
  rw [List.take_append_drop]
theorem insB_perm (lt : α → α → Bool) (x : α) (l : List α) : (insB lt x l).Perm (x :: l) := putA_perm x l _

theorem bub_above (lt : α → α → Bool) (x : α) (l : List α) : ∀ q j, bub lt x l q ≤ j → j < q → lt x (l.getD j default) = true
  | 0, j, _, h => absurd h (Nat.not_lt_zero _)
  | q + 1, j, h1, h2 => by
    unfold bub at h1
    split at h1
    · rename_i h
      rcases Nat.lt_or_ge j q with h3 | h3
      · exact bub_above lt x l q j h1 h3
      · obtain rfl : j = q := by omega
        exact h
    · omega
theorem bub_stop (lt : α → α → Bool) (x : α) (l : List α) : ∀ q p, bub lt x l q = p + 1 → lt x (l.getD p default) = false
  | 0, p, h => by simp [bub] at h
  | q + 1, p, h => by
    unfold bub at h
    split at h
    · exact bub_stop lt x l q p h
    · rename_i hn
      obtain rfl : p = q := by omega
      simpa using hn

theorem insB_sorted {lt : α → α → Bool} (tr : ∀ x y z, lt x y = true → lt y z = true → lt x z = true) {x : α} {l : List α} (hl : l.Pairwise (fun a b => lt a b = true)) (hx : ∀ y ∈ l, apt lt x y) : (insB lt x l).Pairwise (fun a b => lt a b = true) := by
  have hle := bub_le lt x l l.length
  have hup : ∀ y ∈ l.drop (bub lt x l l.length), lt x y = true := fun y hy => by
    obtain ⟨j, hj, rfl⟩ := List.getElem_of_mem hy
    rw [List.length_drop] at hj
    have := bub_above lt x l l.length (bub lt x l l.length + j) (by omega) (by omega)
    rw [List.getElem_drop]
    simpa [show bub lt x l l.length + j < l.length by omega] using this
  have hlo : ∀ y ∈ l.take (bub lt x l l.length), lt y x = true := fun y hy => by
    obtain ⟨j, hj, rfl⟩ := List.getElem_of_mem hy
    rw [List.length_take] at hj
    obtain ⟨p, hp⟩ : ∃ p, bub lt x l l.length = p + 1 := ⟨bub lt x l l.length - 1, by omega⟩
    have hst := bub_stop lt x l _ _ hp
    have hpl : p < l.length := by omega
    have e1 : l.getD p default = l[p] := by simp [hpl]
    rw [e1] at hst
    have h1 : lt l[p] x = true := (hx l[p] (List.getElem_mem _)).resolve_left (by simp [hst])
    rw [List.getElem_take]
    rcases Nat.lt_or_ge j p with h | h
    · exact tr _ _ _ (List.pairwise_iff_getElem.1 hl j p (by omega) hpl h) h1
    · obtain rfl : j = p := by omega
      exact h1
  unfold insB putA
  rw [List.pairwise_append, List.pairwise_cons]
  refine ⟨hl.sublist (List.take_sublist _ _), ⟨hup, hl.sublist (List.drop_sublist _ _)⟩, fun a ha b hb => ?_⟩
  rcases List.mem_cons.1 hb with rfl | hb
  · exact hlo a ha
  · exact tr _ _ _ (hlo a ha) (hup b hb)

/-- A sort by insertion from the end. -/
def sortB (lt : α → α → Bool) (l : List α) : List α := l.foldl (fun o x => insB lt x o) []
theorem foldB_perm (lt : α → α → Bool) : ∀ (l o : List α), (l.foldl (fun o x => insB lt x o) o).Perm (o ++ l)
  | [], o => by simp
  | x :: l, o => by
    rw [List.foldl_cons]
    refine (foldB_perm lt l _).trans ?_
    refine ((insB_perm lt x o).append_right l).trans ?_
    exact (List.perm_middle (a := x) (l₁ := o) (l₂ := l)).symm
theorem sortB_perm (lt : α → α → Bool) (l : List α) : (sortB lt l).Perm l := foldB_perm lt l []
theorem foldB_sorted {lt : α → α → Bool} (tr : ∀ x y z, lt x y = true → lt y z = true → lt x z = true) : ∀ {l o : List α}, o.Pairwise (fun a b => lt a b = true) → l.Pairwise (apt lt) → (∀ x ∈ l, ∀ y ∈ o, apt lt x y) → (l.foldl (fun o x => insB lt x o) o).Pairwise (fun a b => lt a b = true)
  | [], _, h, _, _ => h
  | x :: l, o, h, hl, hx => by
    rw [List.pairwise_cons] at hl
    rw [List.foldl_cons]
    refine foldB_sorted tr (insB_sorted tr h (hx x (by simp))) hl.2 fun z hz y hy => ?_
    rcases List.mem_cons.1 ((insB_perm lt x o).subset hy) with rfl | hy
    · exact (hl.1 z hz).symm
    · exact hx z (by simp [hz]) y hy
theorem sortB_sorted {lt : α → α → Bool} (tr : ∀ x y z, lt x y = true → lt y z = true → lt x z = true) {l : List α} (hl : l.Pairwise (apt lt)) : (sortB lt l).Pairwise (fun a b => lt a b = true) := foldB_sorted tr List.Pairwise.nil hl (fun _ _ _ h => absurd h (by simp))

omit [Inhabited α] in
theorem ins_pw {lt : α → α → Bool} (tr : ∀ x y z, lt x y = true → lt y z = true → lt x z = true) {x : α} : ∀ {l : List α}, l.Pairwise (fun a b => lt a b = true) → (∀ y ∈ l, apt lt x y) → (ins lt x l).Pairwise (fun a b => lt a b = true)
  | [], _, _ => List.pairwise_singleton _ _
  | y :: r, h, hx => by
    obtain ⟨h1, h2⟩ := List.pairwise_cons.1 h
    unfold ins
    split
    · rename_i hc
      refine List.pairwise_cons.2 ⟨fun z hz => ?_, ins_pw tr h2 (fun z hz => hx z (by simp [hz]))⟩
      rcases List.mem_cons.1 ((ins_perm lt x r).subset hz) with rfl | hz
      · exact hc
      · exact h1 z hz
    · rename_i hc
      have hxy : lt x y = true := (hx y (by simp)).resolve_right (by simpa using hc)
      refine List.pairwise_cons.2 ⟨fun z hz => ?_, h⟩
      rcases List.mem_cons.1 hz with rfl | hz
      · exact hxy
      · exact tr _ _ _ hxy (h1 z hz)
omit [Inhabited α] in
theorem isort_pw {lt : α → α → Bool} (tr : ∀ x y z, lt x y = true → lt y z = true → lt x z = true) : ∀ {l : List α}, l.Pairwise (apt lt) → (isort lt l).Pairwise (fun a b => lt a b = true)
  | [], _ => List.Pairwise.nil
  | x :: l, h => by
    obtain ⟨h1, h2⟩ := List.pairwise_cons.1 h
    exact ins_pw tr (isort_pw tr h2) fun y hy => h1 y ((isort_perm lt l).subset hy)
omit [Inhabited α] in
theorem rising_of {lt : α → α → Bool} : ∀ {l : List α}, l.Pairwise (fun a b => lt a b = true) → rising lt l = true
  | [], _ => rfl
  | [_], _ => rfl
  | x :: y :: r, h => by
    obtain ⟨h1, h2⟩ := List.pairwise_cons.1 h
    simp only [rising, Bool.and_eq_true]
    exact ⟨h1 y (by simp), rising_of h2⟩
omit [Inhabited α] in
theorem pw_uniq {lt : α → α → Bool} (irr : ∀ x, lt x x = false) (tr : ∀ x y z, lt x y = true → lt y z = true → lt x z = true) {l m : List α} (hl : l.Pairwise (fun a b => lt a b = true)) (hm : m.Pairwise (fun a b => lt a b = true)) (h : ∀ x, x ∈ l ↔ x ∈ m) : l = m :=
  pw_ext (r := fun a b => lt a b = true) (fun x => by simp [irr x]) tr hl hm h
theorem sortB_isort {lt : α → α → Bool} (irr : ∀ x, lt x x = false) (tr : ∀ x y z, lt x y = true → lt y z = true → lt x z = true) {l : List α} (hl : l.Pairwise (apt lt)) : sortB lt l = isort lt l :=
  pw_uniq irr tr (sortB_sorted tr hl) (isort_pw tr hl) fun _ => ((sortB_perm lt l).trans (isort_perm lt l).symm).mem_iff
end

end Go.Pv

/-
  Plain laws: labels of automata.
-/
namespace Go.Pv

/-- The labels with a direction, in the order of edges. -/
def labs (d : Bool) (es : List Edge) : List Int := (es.filter fun e => e.send == d).map (·.label)
theorem labs_mem {d : Bool} {es : List Edge} {x : Int} : x ∈ labs d es ↔ ∃ e ∈ es, e.send = d ∧ e.label = x := by
  simp [labs, and_assoc]

theorem cmpct_mem : ∀ {l : List Int} {x : Int}, x ∈ cmpct l ↔ x ∈ l
  | [], _ => by simp [cmpct]
  | [y], _ => by simp [cmpct]
  | y :: z :: r, x => by
    have ih := cmpct_mem (l := z :: r) (x := x)
    unfold cmpct
    split
    · rename_i h
      subst h
      rw [ih]
      simp
    · simp only [List.mem_cons] at ih ⊢
      rw [ih]
theorem cmpct_asc : ∀ {l : List Int}, l.Pairwise (· ≤ ·) → (cmpct l).Pairwise (· < ·)
  | [], _ => List.Pairwise.nil
  | [y], _ => List.pairwise_singleton _ _
  | y :: z :: r, h => by
    obtain ⟨h1, h2⟩ := List.pairwise_cons.1 h
    have ih := cmpct_asc h2
    unfold cmpct
    split
    · exact ih
    · rename_i hn
      refine List.pairwise_cons.2 ⟨fun x hx => ?_, ih⟩
      have hx' := cmpct_mem.1 hx
      have hz := h1 z (by simp)
      rcases List.mem_cons.1 hx' with rfl | hx'
      · omega
      · have := (List.pairwise_cons.1 h2).1 x hx'
        omega
theorem cmpct_len : ∀ l : List Int, (cmpct l).length ≤ l.length
  | [] => Nat.le_refl _
  | [_] => Nat.le_refl _
  | x :: y :: r => by
    have := cmpct_len (y :: r)
    unfold cmpct
    split <;> simp at * <;> omega
/-- Numbers, ascending, each once. -/
def uniqs (l : List Int) : List Int := cmpct (isort ltI l)
theorem uniqs_asc (l : List Int) : (uniqs l).Pairwise (· < ·) := cmpct_asc (isort_sorted l)
theorem uniqs_len (l : List Int) : (uniqs l).length ≤ l.length := by
  have := cmpct_len (isort ltI l)
  rw [isort_len] at this
  exact this
theorem labs_len (d : Bool) (es : List Edge) : (labs d es).length ≤ es.length := by
  unfold labs
  rw [List.length_map]
  exact List.length_filter_le _ _
theorem uniqs_mem {l : List Int} {x : Int} : x ∈ uniqs l ↔ x ∈ l := by
  unfold uniqs
  rw [cmpct_mem, (isort_perm ltI l).mem_iff]
theorem uniqs_eq {l m : List Int} (h : ∀ x, x ∈ l ↔ x ∈ m) : uniqs l = uniqs m := asc_ext (uniqs_asc l) (uniqs_asc m) fun x => by rw [uniqs_mem, uniqs_mem, h]
theorem uniqs_of {l m : List Int} (hm : m.Pairwise (· < ·)) (h : ∀ x, x ∈ l ↔ x ∈ m) : uniqs l = m := asc_ext (uniqs_asc l) hm fun x => by rw [uniqs_mem, h]

theorem atFrom_neg {x : Int} : ∀ {l : List Int} {k : Nat}, atFrom x k l < 0 ↔ x ∉ l
  | [], k => by simp [atFrom]
  | y :: r, k => by
    unfold atFrom
    split
    · rename_i h
      subst h
      simp
    · rename_i h
      rw [atFrom_neg]
      simp only [List.mem_cons, not_or]
      exact ⟨fun h2 => ⟨fun e => h e.symm, h2⟩, fun h2 => h2.2⟩
theorem atL_neg {x : Int} {l : List Int} : atL x l < 0 ↔ x ∉ l := atFrom_neg
theorem atL_pos {x : Int} {l : List Int} : 0 ≤ atL x l ↔ x ∈ l := by
  rw [← Int.not_lt, atL_neg]
  simp

theorem bubI_bub (x : Int) (l : List Int) : ∀ q, bubI x l q = bub ltI x l q
  | 0 => rfl
  | q + 1 => by
    simp only [bubI, bub, bubI_bub x l q, ltI, decide_eq_true_eq]
    rfl
theorem insI_insB (x : Int) (l : List Int) : insI x l = insB ltI x l := by
  unfold insI insB
  rw [bubI_bub]
  rfl
theorem ltI_pw {l : List Int} : l.Pairwise (fun a b => ltI a b = true) ↔ l.Pairwise (· < ·) := by
  simp [ltI]

theorem labTo_spec (d : Bool) (es : List Edge) : ∀ k, k ≤ es.length → (labTo d es k).Pairwise (· < ·) ∧ ∀ x, x ∈ labTo d es k ↔ x ∈ labs d (es.take k)
  | 0, _ => ⟨List.Pairwise.nil, fun x => by simp [labTo, labs]⟩
  | k + 1, hk => by
    obtain ⟨h1, h2⟩ := labTo_spec d es k (by omega)
    obtain ⟨e, he⟩ : ∃ e, es[k]? = some e := ⟨es[k], by simp⟩
    have ht : labs d (es.take (k + 1)) = labs d (es.take k) ++ (if e.send = d then [e.label] else []) := by
      rw [List.take_add_one, he]
      unfold labs
      simp only [List.filter_append, List.map_append, Option.toList_some]
      by_cases h : e.send = d <;> simp [h]
    rw [ht]
    simp only [labTo, he]
    by_cases hd : e.send = d
    · by_cases ha : 0 ≤ atL e.label (labTo d es k)
      · rw [if_pos (.inr ha)]
        refine ⟨h1, fun x => ?_⟩
        rw [h2, if_pos hd, List.mem_append, List.mem_singleton]
        refine ⟨.inl, fun h => h.elim id fun hx => ?_⟩
        subst hx
        exact (h2 _).1 (atL_pos.1 ha)
      · rw [if_neg (by simp [hd, ha]), insI_insB]
        have hn : e.label ∉ labTo d es k := fun h => ha (atL_pos.2 h)
        refine ⟨?_, fun x => ?_⟩
        · rw [← ltI_pw]
          refine insB_sorted (fun x y z => by simp only [ltI, decide_eq_true_eq]; omega) (ltI_pw.2 h1) fun y hy => ?_
          have : e.label ≠ y := fun h => hn (h ▸ hy)
          simp only [apt, ltI, decide_eq_true_eq]
          omega
        · rw [(insB_perm ltI e.label _).mem_iff, List.mem_cons, h2, if_pos hd, List.mem_append, List.mem_singleton]
          exact ⟨fun h => h.elim .inr .inl, fun h => h.elim .inr .inl⟩
    · rw [if_pos (.inl hd), if_neg hd, List.append_nil]
      exact ⟨h1, h2⟩
/-- The reference's labels. -/
theorem labTo_uniqs (d : Bool) (es : List Edge) : labTo d es es.length = uniqs (labs d es) := by
  obtain ⟨h1, h2⟩ := labTo_spec d es es.length (Nat.le_refl _)
  rw [List.take_length] at h2
  exact (uniqs_of h1 fun x => (h2 x).symm).symm

end Go.Pv

/-
  Plain laws: valid automata, their duals, what can be reached, trimmed automata.
-/
namespace Go.Pv

/-- An automaton without an error. -/
structure Auto.Good (a : Auto) : Prop where
  st : 0 ≤ a.start ∧ a.start < a.states
  mx : a.states ≤ 12
  len : a.edges.length ≤ 100
  fit : ∀ e ∈ a.edges, e.fits a.states = true
  asc : a.edges.Pairwise (fun x y => Edge.lt x y = true)

theorem Edge.lt_irr (x : Edge) : Edge.lt x x = false := by simp [Edge.lt]
theorem Edge.lt_tr (x y z : Edge) (h1 : Edge.lt x y = true) (h2 : Edge.lt y z = true) : Edge.lt x z = true := by
  unfold Edge.lt at *
  by_cases a1 : x.fr = y.fr <;> by_cases a2 : y.fr = z.fr <;> by_cases b1 : x.send = y.send <;> by_cases b2 : y.send = z.send <;> simp_all <;> (try omega)
  all_goals (try (have : ¬ x.fr = z.fr := by omega); simp_all; omega)
theorem Edge.apt_iff {x y : Edge} : apt Edge.lt x y ↔ ¬ (x.fr = y.fr ∧ x.send = y.send ∧ x.label = y.label) := by
  unfold apt Edge.lt
  by_cases a1 : x.fr = y.fr
  · cases h1 : x.send <;> cases h2 : y.send <;> simp [a1] <;> omega
  · have : ¬ y.fr = x.fr := fun h => a1 h.symm
    simp [a1, this]
    omega

theorem chk_asc {n : Int} : ∀ {p : Option Edge} {l : List Edge}, chk n p l = true → l.Pairwise (fun x y => Edge.lt x y = true) ∧ ∀ q, p = some q → ∀ e ∈ l, Edge.lt q e = true
  | _, [], _ => ⟨List.Pairwise.nil, fun _ _ e he => absurd he (by simp)⟩
  | p, x :: r, h => by
    simp only [chk, Bool.and_eq_true] at h
    obtain ⟨h1, h2⟩ := chk_asc h.2
    refine ⟨List.pairwise_cons.2 ⟨h2 x rfl, h1⟩, fun q hq e he => ?_⟩
    subst hq
    have hx : Edge.lt q x = true := h.1.2
    rcases List.mem_cons.1 he with rfl | he
    · exact hx
    · exact Edge.lt_tr _ _ _ hx (h2 x rfl e he)
theorem chk_of {n : Int} : ∀ {p : Option Edge} {l : List Edge}, l.Pairwise (fun x y => Edge.lt x y = true) → (∀ e ∈ l, e.fits n = true) → (∀ q, p = some q → ∀ e ∈ l, Edge.lt q e = true) → chk n p l = true
  | _, [], _, _, _ => rfl
  | p, x :: r, h1, h2, h3 => by
    obtain ⟨g1, g2⟩ := List.pairwise_cons.1 h1
    simp only [chk, Bool.and_eq_true]
    refine ⟨⟨h2 x (by simp), ?_⟩, chk_of g2 (fun e he => h2 e (by simp [he])) fun q hq e he => ?_⟩
    · cases p with
      | none => rfl
      | some q => exact h3 q rfl x (by simp)
    · cases hq
      exact g1 e he
theorem Auto.good_iff {a : Auto} : a.err = 0 ↔ a.Good := by
  unfold Auto.err
  constructor
  · intro h
    split at h
    · cases h
    · split at h
      · split at h
        · rename_i h1 h2 h3
          exact ⟨h2, by omega, by omega, chk_fits h3, (chk_asc h3).1⟩
        · cases h
      · cases h
  · intro h
    have := h.mx; have := h.len
    rw [if_neg (by omega), if_pos h.st, if_pos (chk_of h.asc h.fit (fun q hq => by cases hq))]

-- next states
theorem nextE_some {s : Int} {d : Bool} {x t : Int} : ∀ {es : List Edge}, es.Pairwise (apt Edge.lt) → (nextE s d x es = some t ↔ ⟨s, d, x, t⟩ ∈ es)
  | [], _ => by simp [nextE]
  | e :: r, h => by
    obtain ⟨h1, h2⟩ := List.pairwise_cons.1 h
    unfold nextE
    split
    · rename_i hc
      constructor
      · intro h
        cases h
        obtain ⟨rfl, rfl, rfl⟩ := hc
        exact List.mem_cons_self ..
      · intro hm
        rcases List.mem_cons.1 hm with hm | hm
        · rw [← hm]
        · exact (Edge.apt_iff.1 (h1 _ hm) hc).elim
    · rename_i hc
      rw [nextE_some h2, List.mem_cons]
      refine ⟨.inr, fun h => h.elim (fun h => ?_) id⟩
      rw [← h] at hc
      exact (hc ⟨rfl, rfl, rfl⟩).elim
theorem Auto.Good.apt {a : Auto} (h : a.Good) : a.edges.Pairwise (apt Edge.lt) := h.asc.imp .inl

-- duals
def Edge.flip (e : Edge) : Edge := ⟨e.fr, !e.send, e.label, e.to⟩
theorem Edge.flip_flip (e : Edge) : e.flip.flip = e := by simp [Edge.flip]
def dualE (es : List Edge) : List Edge := isort Edge.lt (es.map Edge.flip)
def Auto.dual (a : Auto) : Auto := ⟨a.states, a.start, dualE a.edges⟩
theorem flip_apt {es : List Edge} (h : es.Pairwise (apt Edge.lt)) : (es.map Edge.flip).Pairwise (apt Edge.lt) := by
  rw [List.pairwise_map]
  refine h.imp fun {x y} hxy => ?_
  rw [Edge.apt_iff] at hxy ⊢
  simpa [Edge.flip] using hxy
theorem dualE_mem {es : List Edge} {e : Edge} : e ∈ dualE es ↔ e.flip ∈ es := by
  unfold dualE
  rw [(isort_perm _ _).mem_iff, List.mem_map]
  constructor
  · rintro ⟨x, hx, rfl⟩
    rwa [Edge.flip_flip]
  · exact fun h => ⟨_, h, Edge.flip_flip e⟩
theorem dual_sorted {es : List Edge} (h : es.Pairwise (apt Edge.lt)) : (dualE es).Pairwise (fun x y => Edge.lt x y = true) := isort_pw Edge.lt_tr (flip_apt h)
theorem dualE_len (es : List Edge) : (dualE es).length = es.length := by simp [dualE, (isort_perm _ _).length_eq]
theorem Auto.Good.dual {a : Auto} (h : a.Good) : a.dual.Good where
  st := h.st
  mx := h.mx
  len := by show (dualE a.edges).length ≤ 100; rw [dualE_len]; exact h.len
  fit e he := by
    have := h.fit e.flip (dualE_mem.1 he)
    exact this
  asc := dual_sorted h.apt
theorem Auto.Good.dual_dual {a : Auto} (h : a.Good) : a.dual.dual = a := by
  have : dualE (dualE a.edges) = a.edges := pw_uniq Edge.lt_irr Edge.lt_tr h.dual.dual.asc h.asc fun e => by
    rw [dualE_mem, dualE_mem, Edge.flip_flip]
  show (⟨a.states, a.start, dualE (dualE a.edges)⟩ : Auto) = a
  rw [this]
theorem dual_labs {es : List Edge} {d : Bool} : uniqs (labs d (dualE es)) = uniqs (labs (!d) es) := by
  refine uniqs_eq fun x => ?_
  rw [labs_mem, labs_mem]
  constructor
  · rintro ⟨e, he, rfl, rfl⟩
    exact ⟨_, dualE_mem.1 he, rfl, rfl⟩
  · rintro ⟨e, he, h1, h2⟩
    exact ⟨e.flip, dualE_mem.2 (by rwa [Edge.flip_flip]), by simp [Edge.flip, h1], h2⟩

-- what can be reached
def outs (es : List Edge) (v : Int) : List Int := (es.filter fun e => e.fr == v).map (·.to)
theorem outs_mem {es : List Edge} {v x : Int} : x ∈ outs es v ↔ ∃ e ∈ es, e.fr = v ∧ e.to = x := by simp [outs, and_assoc]
/-- The states that can be reached from one, breadth-first. -/
def Auto.from (a : Auto) (s : Int) : List Int := bfs (outs a.edges) a.states.toNat 0 [s]
def Auto.order (a : Auto) : List Int := a.from a.start
def Auto.inr (a : Auto) (v : Int) : Prop := 0 ≤ v ∧ v < a.states
theorem Auto.Good.outs_in {a : Auto} (h : a.Good) : ∀ v, a.inr v → ∀ x ∈ outs a.edges v, a.inr x := by
  intro v _ x hx
  obtain ⟨e, he, _, rfl⟩ := outs_mem.1 hx
  have := fits_iff.1 (h.fit e he)
  exact ⟨this.2.2.1, this.2.2.2.1⟩
theorem Auto.bound {a : Auto} : ∀ o : List Int, o.Nodup → (∀ v ∈ o, a.inr v) → o.length ≤ a.states.toNat := fun o hd ho => nodup_bound hd fun x hx => by
  have := ho x hx
  unfold Auto.inr at this
  omega
theorem Auto.Good.from_mem {a : Auto} (h : a.Good) {s v : Int} (hs : a.inr s) : v ∈ a.from s ↔ Rch (outs a.edges) s v := bfs_rch h.outs_in a.bound hs
theorem Auto.from_nodup (a : Auto) (s : Int) : (a.from s).Nodup := bfs_nodup _ _ (by simp)
theorem Auto.Good.from_in {a : Auto} (h : a.Good) {s : Int} (hs : a.inr s) : ∀ v ∈ a.from s, a.inr v := bfs_all h.outs_in _ _ (by simpa using hs)
theorem Auto.Good.from_len {a : Auto} (h : a.Good) {s : Int} (hs : a.inr s) : (a.from s).length ≤ a.states.toNat := a.bound _ (a.from_nodup s) (h.from_in hs)
theorem Auto.Good.order_in {a : Auto} (h : a.Good) : ∀ v ∈ a.order, a.inr v := h.from_in h.st
theorem Auto.Good.order_closed {a : Auto} (h : a.Good) {e : Edge} (he : e ∈ a.edges) (hf : e.fr ∈ a.order) : e.to ∈ a.order := (h.from_mem h.st).2 (.step ((h.from_mem h.st).1 hf) (outs_mem.2 ⟨e, he, rfl, rfl⟩))
theorem Auto.order_head (a : Auto) : ∃ r, a.order = a.start :: r := by
  obtain ⟨t, ht⟩ := bfs_pre (nx := outs a.edges) a.states.toNat 0 [a.start]
  exact ⟨t, ht.symm⟩

-- places in a list
theorem atFrom_get {x : Int} : ∀ {l : List Int} {k : Nat}, x ∈ l → ∃ j, atFrom x k l = ((k + j : Nat) : Int) ∧ l[j]? = some x
  | [], _, h => absurd h (by simp)
  | y :: r, k, h => by
    unfold atFrom
    split
    · rename_i hy
      exact ⟨0, rfl, by simp [hy]⟩
    · rename_i hy
      rcases List.mem_cons.1 h with rfl | h
      · exact (hy rfl).elim
      · obtain ⟨j, h1, h2⟩ := atFrom_get (k := k + 1) h
        exact ⟨j + 1, by rw [h1]; omega, by simpa using h2⟩
theorem atL_get {x : Int} {l : List Int} (h : x ∈ l) : ∃ j : Nat, atL x l = (j : Int) ∧ l[j]? = some x := by
  obtain ⟨j, h1, h2⟩ := atFrom_get (k := 0) h
  exact ⟨j, by unfold atL; rw [h1, Nat.zero_add], h2⟩
theorem atL_of {x : Int} {l : List Int} {j : Nat} (hd : l.Nodup) (h : l[j]? = some x) : atL x l = j := by
  obtain ⟨i, h1, h2⟩ := atL_get (List.mem_of_getElem? h)
  rw [h1]
  obtain ⟨g1, g2⟩ := List.getElem?_eq_some_iff.1 h
  obtain ⟨f1, f2⟩ := List.getElem?_eq_some_iff.1 h2
  have := (List.pairwise_iff_getElem.1 hd)
  rcases Nat.lt_trichotomy i j with hl | rfl | hl
  · exact (this i j f1 g1 hl (f2.trans g2.symm)).elim
  · rfl
  · exact (this j i g1 f1 hl (g2.trans f2.symm)).elim
theorem atL_inj {x y : Int} {l : List Int} (hx : x ∈ l) (hy : y ∈ l) (h : atL x l = atL y l) : x = y := by
  obtain ⟨i, h1, h2⟩ := atL_get hx
  obtain ⟨j, g1, g2⟩ := atL_get hy
  rw [h1, g1] at h
  have : i = j := by omega
  subst this
  rw [h2] at g2
  exact Option.some.inj g2
theorem atL_range {x : Int} {l : List Int} (hx : x ∈ l) : 0 ≤ atL x l ∧ atL x l < l.length := by
  obtain ⟨i, h1, h2⟩ := atL_get hx
  have := (List.getElem?_eq_some_iff.1 h2).1
  omega
def iota (n : Nat) : List Int := (List.range n).map Int.ofNat
theorem iota_get {n k : Nat} (h : k < n) : (iota n)[k]? = some (k : Int) := by simp [iota, h]
theorem iota_nodup (n : Nat) : (iota n).Nodup := List.Pairwise.map _ (fun _ _ h e => h (Int.ofNat.inj e)) List.nodup_range
theorem iota_at {n : Nat} {x : Int} (h : 0 ≤ x ∧ x < n) : atL x (iota n) = x := by
  have := atL_of (iota_nodup n) (iota_get (n := n) (k := x.toNat) (by omega))
  rw [show ((x.toNat : Nat) : Int) = x by omega] at this
  exact this
theorem iota_mem {n : Nat} {x : Int} : x ∈ iota n ↔ 0 ≤ x ∧ x < n := by
  unfold iota
  rw [List.mem_map]
  constructor
  · rintro ⟨k, hk, rfl⟩
    have := List.mem_range.1 hk
    simp
    omega
  · intro h
    exact ⟨x.toNat, List.mem_range.2 (by omega), by simp; omega⟩
theorem map_atL {l : List Int} (hd : l.Nodup) : l.map (atL · l) = iota l.length := by
  apply List.ext_getElem?
  intro i
  rw [List.getElem?_map]
  rcases Nat.lt_or_ge i l.length with h | h
  · rw [List.getElem?_eq_getElem h, iota_get h]
    simp only [Option.map_some]
    rw [atL_of hd (List.getElem?_eq_getElem h)]
  · rw [List.getElem?_eq_none h, List.getElem?_eq_none (by simp [iota, h])]
    rfl

-- trimmed automata
def Edge.ren (o : List Int) (e : Edge) : Edge := ⟨atL e.fr o, e.send, e.label, atL e.to o⟩
def kept (o : List Int) (es : List Edge) : List Edge := (es.filter fun e => decide (e.fr ∈ o)).map (Edge.ren o)
def Auto.trim (a : Auto) : Auto := ⟨a.order.length, 0, isort Edge.lt (kept a.order a.edges)⟩
theorem kept_mem {o : List Int} {es : List Edge} {x : Edge} : x ∈ kept o es ↔ ∃ e ∈ es, e.fr ∈ o ∧ e.ren o = x := by simp [kept, and_assoc]
theorem kept_apt {o : List Int} {es : List Edge} (h : es.Pairwise (apt Edge.lt)) : (kept o es).Pairwise (apt Edge.lt) := by
  unfold kept
  rw [List.pairwise_map]
  have h2 := h.filter (fun e => decide (e.fr ∈ o))
  refine List.Pairwise.imp_of_mem (fun {x y} hx hy hxy => ?_) h2
  have hx' := (List.mem_filter.1 hx).2
  have hy' := (List.mem_filter.1 hy).2
  simp only [decide_eq_true_eq] at hx' hy'
  rw [Edge.apt_iff] at hxy ⊢
  exact fun ⟨e1, e2, e3⟩ => hxy ⟨atL_inj hx' hy' e1, e2, e3⟩
theorem Auto.trim_mem {a : Auto} {x : Edge} : x ∈ a.trim.edges ↔ ∃ e ∈ a.edges, e.fr ∈ a.order ∧ e.ren a.order = x := by
  show x ∈ isort _ _ ↔ _
  rw [(isort_perm _ _).mem_iff, kept_mem]
theorem Auto.Good.trim {a : Auto} (h : a.Good) : a.trim.Good where
  st := by
    obtain ⟨r, hr⟩ := a.order_head
    show (0 : Int) ≤ 0 ∧ (0 : Int) < (a.order.length : Int)
    rw [hr]
    simp
  mx := by
    have := h.from_len h.st
    have := h.mx
    show (a.order.length : Int) ≤ 12
    unfold Auto.order
    omega
  len := by
    show (isort _ (kept _ _)).length ≤ 100
    rw [(isort_perm _ _).length_eq]
    have := List.length_filter_le (fun e : Edge => decide (e.fr ∈ a.order)) a.edges
    have := h.len
    simp only [kept, List.length_map]
    omega
  fit x hx := by
    obtain ⟨e, he, hf, rfl⟩ := Auto.trim_mem.1 hx
    have := fits_iff.1 (h.fit e he)
    have h1 := atL_range hf
    have h2 := atL_range (h.order_closed he hf)
    rw [fits_iff]
    show 0 ≤ atL e.fr a.order ∧ atL e.fr a.order < (a.order.length : Int) ∧ 0 ≤ atL e.to a.order ∧ atL e.to a.order < (a.order.length : Int) ∧ _
    exact ⟨h1.1, h1.2, h2.1, h2.2, this.2.2.2.2⟩
  asc := isort_pw Edge.lt_tr (kept_apt h.apt)

theorem Auto.Good.trim_outs {a : Auto} (h : a.Good) {v : Int} (hv : v ∈ a.order) : outs a.trim.edges (atL v a.order) = (outs a.edges v).map (atL · a.order) := by
  have key : (a.trim.edges.filter fun e => e.fr == atL v a.order) = (a.edges.filter fun e => e.fr == v).map (Edge.ren a.order) := by
    refine pw_uniq Edge.lt_irr Edge.lt_tr (h.trim.asc.filter _) ?_ fun x => ?_
    · rw [List.pairwise_map]
      refine List.Pairwise.imp_of_mem (fun {x y} hx hy hxy => ?_) (h.asc.filter _)
      have hx' := (List.mem_filter.1 hx).2
      have hy' := (List.mem_filter.1 hy).2
      simp only [beq_iff_eq] at hx' hy'
      unfold Edge.lt at hxy ⊢
      simp only [Edge.ren, hx', hy', ne_eq, not_true_eq_false, if_false] at hxy ⊢
      exact hxy
    · rw [List.mem_filter, Auto.trim_mem, List.mem_map]
      simp only [beq_iff_eq]
      constructor
      · rintro ⟨⟨e, he, hf, rfl⟩, hx⟩
        exact ⟨e, List.mem_filter.2 ⟨he, by simpa using atL_inj hf hv hx⟩, rfl⟩
      · rintro ⟨e, he, rfl⟩
        obtain ⟨he, hf⟩ := List.mem_filter.1 he
        simp only [beq_iff_eq] at hf
        exact ⟨⟨e, he, hf ▸ hv, rfl⟩, by simp [Edge.ren, hf]⟩
  unfold outs
  rw [key, List.map_map, List.map_map]
  rfl
theorem Auto.Good.trim_from {a : Auto} (h : a.Good) {s : Int} (hs : s ∈ a.order) : a.trim.from (atL s a.order) = (a.from s).map (atL · a.order) := by
  have hcl : ∀ v, v ∈ a.order → ∀ x ∈ outs a.edges v, x ∈ a.order := fun v hv x hx => by
    obtain ⟨e, he, rfl, rfl⟩ := outs_mem.1 hx
    exact h.order_closed he hv
  have hm := bfs_map (g := (atL · a.order)) (P := fun v => v ∈ a.order) (nx := outs a.edges) (nx' := outs a.trim.edges) (fun x y hx hy e => atL_inj hx hy e) hcl (fun v hv => h.trim_outs hv) a.order.length 0 (o := [s]) (by simpa using hs)
  show bfs (outs a.trim.edges) ((a.order.length : Int)).toNat 0 [atL s a.order] = _
  rw [Int.toNat_natCast]
  refine hm.trans ?_
  congr 1
  refine bfs_more (N := a.order.length) hcl (fun o hd ho => List.Nodup.length_le_of_subset hd ho) _ _ 0 (by omega) ?_ (by simp) (by simpa using hs)
  have := h.from_len h.st
  unfold Auto.order
  omega
theorem Auto.start_mem (a : Auto) : a.start ∈ a.order := by
  obtain ⟨r, hr⟩ := a.order_head
  rw [hr]
  simp
theorem Auto.Good.trim_order {a : Auto} (h : a.Good) : a.trim.order = iota a.order.length := by
  obtain ⟨r, hr⟩ := a.order_head
  have h0 : atL a.start a.order = 0 := by
    rw [hr]
    simp [atL, atFrom]
  have := h.trim_from a.start_mem
  rw [h0] at this
  show a.trim.from 0 = _
  rw [this]
  exact map_atL (a.from_nodup a.start)
theorem Auto.Good.trim_trim {a : Auto} (h : a.Good) : a.trim.trim = a.trim := by
  have ho := h.trim_order
  have hl : (iota a.order.length).length = a.order.length := by simp [iota]
  have hg := h.trim
  have he : a.trim.trim.edges = a.trim.edges := by
    refine pw_uniq Edge.lt_irr Edge.lt_tr hg.trim.asc hg.asc fun x => ?_
    rw [Auto.trim_mem, ho]
    have hr : ∀ e ∈ a.trim.edges, e.ren (iota a.order.length) = e := fun e he => by
      have := fits_iff.1 (hg.fit e he)
      have hs : a.trim.states = (a.order.length : Int) := rfl
      rw [hs] at this
      simp only [Edge.ren, iota_at ⟨this.1, this.2.1⟩, iota_at ⟨this.2.2.1, this.2.2.2.1⟩]
    constructor
    · rintro ⟨e, he, hf, rfl⟩
      rwa [hr e he]
    · intro hx
      have := fits_iff.1 (hg.fit x hx)
      exact ⟨x, hx, iota_mem.2 ⟨this.1, this.2.1⟩, hr x hx⟩
  show (⟨(a.trim.order.length : Int), 0, a.trim.trim.edges⟩ : Auto) = ⟨(a.order.length : Int), 0, a.trim.edges⟩
  rw [he, ho, hl]

-- runs
theorem Auto.Good.trim_next {a : Auto} (h : a.Good) {s : Int} (hs : s ∈ a.order) (d : Bool) (x : Int) : nextE (atL s a.order) d x a.trim.edges = (nextE s d x a.edges).map (atL · a.order) := by
  apply Option.ext
  intro t
  rw [nextE_some h.trim.apt, Auto.trim_mem, Option.map_eq_some_iff]
  constructor
  · rintro ⟨e, he, hf, hr⟩
    obtain ⟨f, d', x', t'⟩ := e
    simp only [Edge.ren, Edge.mk.injEq] at hr
    obtain ⟨h1, rfl, rfl, rfl⟩ := hr
    have := atL_inj hf hs h1
    subst this
    exact ⟨t', (nextE_some h.apt).2 he, rfl⟩
  · rintro ⟨t', hn, rfl⟩
    exact ⟨_, (nextE_some h.apt).1 hn, hs, rfl⟩
/-- Actions performed: the last state, and how many. -/
def runE (es : List Edge) : Int → List (Bool × Int) → Int × Nat
  | s, [] => (s, 0)
  | s, (d, x) :: r => match nextE s d x es with
    | none => (s, 0)
    | some t => ((runE es t r).1, (runE es t r).2 + 1)
theorem Auto.Good.trim_run {a : Auto} (h : a.Good) : ∀ {s : Int} (_ : s ∈ a.order) (l : List (Bool × Int)), runE a.trim.edges (atL s a.order) l = (atL (runE a.edges s l).1 a.order, (runE a.edges s l).2)
  | _, _, [] => rfl
  | s, hs, (d, x) :: r => by
    simp only [runE, h.trim_next hs]
    cases hn : nextE s d x a.edges with
    | none => rfl
    | some t =>
      have ht : t ∈ a.order := h.order_closed (e := ⟨s, d, x, t⟩) ((nextE_some h.apt).1 hn) hs
      simp only [Option.map_some]
      rw [h.trim_run ht r]

-- ends that can be reached
theorem isEnd_iff {s : Int} : ∀ {es : List Edge}, isEnd s es = true ↔ ∀ e ∈ es, e.fr ≠ s
  | [] => by simp [isEnd]
  | e :: r => by
    unfold isEnd
    split
    · rename_i h
      simp [h]
    · rename_i h
      rw [isEnd_iff]
      simp [h]
theorem all_cong {α : Type} {p q : α → Bool} : ∀ {l : List α}, (∀ x ∈ l, p x = q x) → l.all p = l.all q
  | [], _ => rfl
  | x :: l, h => by rw [List.all_cons, List.all_cons, h x (by simp), all_cong fun y hy => h y (by simp [hy])]
theorem any_cong {α : Type} {p q : α → Bool} : ∀ {l : List α}, (∀ x ∈ l, p x = q x) → l.any p = l.any q
  | [], _ => rfl
  | x :: l, h => by rw [List.any_cons, List.any_cons, h x (by simp), any_cong fun y hy => h y (by simp [hy])]
def Auto.proper (a : Auto) : Bool := a.order.all fun v => (a.from v).any fun w => isEnd w a.edges
theorem Auto.Good.trim_proper {a : Auto} (h : a.Good) : a.trim.proper = a.proper := by
  have hf : ∀ v ∈ a.order, ∀ w ∈ a.from v, w ∈ a.order := fun v hv w hw => (h.from_mem h.st).2 (((h.from_mem h.st).1 hv).trans ((h.from_mem (h.order_in v hv)).1 hw))
  have he : ∀ w ∈ a.order, isEnd (atL w a.order) a.trim.edges = isEnd w a.edges := fun w hw => by
    rw [Bool.eq_iff_iff, isEnd_iff, isEnd_iff]
    constructor
    · intro hn e he hx
      exact hn _ (Auto.trim_mem.2 ⟨e, he, hx ▸ hw, rfl⟩) (by simp [Edge.ren, hx])
    · intro hn x hx hr
      obtain ⟨e, he, hf, rfl⟩ := Auto.trim_mem.1 hx
      exact hn e he (atL_inj hf hw hr)
  have hi : a.trim.order = a.order.map (atL · a.order) := h.trim_order.trans (map_atL (a.from_nodup a.start)).symm
  unfold Auto.proper
  rw [hi, List.all_map]
  refine all_cong fun v hv => ?_
  simp only [Function.comp_apply]
  rw [h.trim_from hv, List.any_map]
  refine any_cong fun w hw => ?_
  simp only [Function.comp_apply]
  rw [he w (hf v hv w hw)]

end Go.Pv

/-
  Lists that begin as a literal and grow by appending; rows of arrays of the call's own.
-/
namespace Go.Pv

/-- A list of which the first b rows were written out. Its array is the n-th. -/
def glV (n b : Nat) (rows : List (List PV)) : V := if rows.length ≤ b then .tl rows else .own n (rows.length - b - 1) 0 rows.length
def glA (k b : Nat) (rows : List (List PV)) : List Arr := if rows.length ≤ b then [] else [⟨rows.length - b - 1, k, .inl rows⟩]
theorem glV_lit {n b : Nat} {rows : List (List PV)} (h : rows.length ≤ b) : glV n b rows = .tl rows := if_pos h
theorem glA_lit {k b : Nat} {rows : List (List PV)} (h : rows.length ≤ b) : glA k b rows = [] := if_pos h
theorem glV_own {n b m : Nat} {rows : List (List PV)} (h : rows.length = b + m + 1) : glV n b rows = .own n m 0 (b + m + 1) := by
  unfold glV
  rw [if_neg (by omega), h, show b + m + 1 - b - 1 = m by omega]
theorem glA_own {k b m : Nat} {rows : List (List PV)} (h : rows.length = b + m + 1) : glA k b rows = [⟨m, k, .inl rows⟩] := by
  unfold glA
  rw [if_neg (by omega), h, show b + m + 1 - b - 1 = m by omega]
theorem gl_cases {b : Nat} {rows : List (List PV)} : rows.length ≤ b ∨ ∃ m, rows.length = b + m + 1 := by
  rcases Nat.lt_or_ge b rows.length with h | h
  · exact .inr ⟨rows.length - b - 1, by omega⟩
  · exact .inl h
theorem glV_snoc {n b : Nat} {rows : List (List PV)} {r : List PV} (h : b ≤ rows.length) : glV n b (rows ++ [r]) = .own n (rows.length - b) 0 (rows.length + 1) := by
  rw [glV_own (m := rows.length - b) (by simp; omega), show b + (rows.length - b) + 1 = rows.length + 1 by omega]
theorem glA_snoc {k b : Nat} {rows : List (List PV)} {r : List PV} (h : b ≤ rows.length) : glA k b (rows ++ [r]) = [⟨rows.length - b, k, .inl (rows ++ [r])⟩] := glA_own (by simp; omega)

/-- Rows appended to an array of the call's own. -/
def apR (id ver off len k : Nat) (r : List PV) (a : Arr) : Option (V × Tn) :=
  if off + len = a.size ∧ a.k = k ∧ len + 1 ≤ mostRows then some (.own id (ver + 1) 0 (len + 1), { ar := some (id, ⟨ver + 1, k, catRows (cutRows off len a.body) (.inl [r])⟩) }) else none
theorem app_ownr (h : Heap) (id ver off len k : Nat) (r : List PV) (hr : r.length = k) : appendV h k (.own id ver off len) (.tl [r]) = (ownArr h id ver).bind (apR id ver off len k r) := by
  cases ho : ownArr h id ver with
  | none => simp [appendV, srcRows, rowsFit, ho]
  | some a =>
    simp only [appendV, srcRows, rowsFit, ho, rowsLen, apR, List.all_cons, List.all_nil, List.length_cons, List.length_nil, Option.bind_some, hr, beq_self_eq_true, Bool.and_self, if_true]
    by_cases h1 : off + len = a.size <;> by_cases h2 : a.k = k <;> by_cases h3 : len + 1 ≤ mostRows <;> simp [h1, h2, h3]
theorem apR_ok {id ver len k : Nat} {r : List PV} {l : List (List PV)} (h1 : len = l.length) (h2 : l.length + 1 ≤ 2147483648) : apR id ver 0 len k r ⟨ver, k, .inl l⟩ = some (.own id (ver + 1) 0 (len + 1), { ar := some (id, ⟨ver + 1, k, .inl (l ++ [r])⟩) }) := by
  subst h1
  unfold apR
  rw [if_pos ⟨by simp [Arr.size], rfl, h2⟩]
  simp [catRows, cutRows]
theorem app_tlr (h : Heap) (k : Nat) (rows : List (List PV)) (r : List PV) (hr : r.length = k) (hk : ∀ x ∈ rows, x.length = k) (hm : rows.length + 1 ≤ 2147483648) : appendV h k (.tl rows) (.tl [r]) = some (.own h.ar.length 0 0 (rows.length + 1), { push := [⟨0, k, .inl (rows ++ [r])⟩], base := h.ar.length }) := by
  have : (rows.all fun x => x.length == k) = true := by simpa using hk
  simp [appendV, srcRows, rowsFit, rowsLen, mostRows, catRows, hr, this, hm]
@[go_sem] theorem app_tli (h : Heap) (l : List Int) (x : Int) (hm : l.length + 1 ≤ 2147483648) : appendV h 1 (.tl (ints l)) (.tl [[.int .i64 x]]) = some (.own h.ar.length 0 0 (l.length + 1), { push := [⟨0, 1, .inl (ints (l ++ [x]))⟩], base := h.ar.length }) := by
  rw [app_tlr h 1 (ints l) [.int .i64 x] rfl (by simp [ints]) (by rw [ints_length]; exact hm), ints_length, ints_snoc]

@[go_sem] theorem lenV_gl (h : Heap) (n b : Nat) (rows : List (List PV)) : lenV h 0 (glV n b rows) = some (rows.length, {}) := by unfold glV; split <;> rfl
@[go_sem] theorem cells_gl (n b : Nat) (rows : List (List PV)) : V.cells (glV n b rows) = [glV n b rows] := by unfold glV; split <;> rfl
@[go_sem] theorem calm_gl (n b : Nat) (rows : List (List PV)) : V.calm (glV n b rows) = true := by unfold glV; split <;> rfl
@[go_sem] theorem sized_gl (n b : Nat) (rows : List (List PV)) : V.sized (glV n b rows) = true := by unfold glV; split <;> rfl
@[go_sem] theorem scrub_gl (kb : List Nat) (n b : Nat) (rows : List (List PV)) : scrub kb (glV n b rows) = glV n b rows := by unfold glV; split <;> rfl
@[go_sem] theorem okc_gl (kb : List Nat) (n b : Nat) (rows : List (List PV)) : okc kb (glV n b rows) = true := by unfold glV; split <;> rfl
@[go_sem] theorem keep_gl (h : Heap) (n b : Nat) (rows : List (List PV)) : keep h false (glV n b rows) = keepc h 4 (glV n b rows) := by unfold glV; split <;> rfl
@[go_sem] theorem lend_gl (h : Heap) (n b : Nat) (rows : List (List PV)) : lend h (glV n b rows) = lendc h 4 (glV n b rows) := by unfold glV; split <;> rfl
def glG (b : Nat) (rows : List (List PV)) : Nat := if rows.length ≤ b then 0 else 1
theorem keepc_gl (bx : List (Nat × List V)) (mp : List (List (PV × PV))) (pre : List Arr) (k b d : Nat) (rows : List (List PV)) : keepc ⟨bx, pre ++ glA k b rows, mp⟩ (d + 1) (glV pre.length b rows) = some (.lst 0 rows) := by
  unfold glV glA
  split
  · rfl
  · simp [keepc_own, ownArr, keepRows, cutRows]
theorem lendc_gl (bx : List (Nat × List V)) (mp : List (List (PV × PV))) (pre : List Arr) (k b d : Nat) (rows : List (List PV)) : lendc ⟨bx, pre ++ glA k b rows, mp⟩ (d + 1) (glV pre.length b rows) = some (.lst (glG b rows) rows) := by
  unfold glV glA glG
  split
  · rfl
  · simp [lendc, ownArr, cutRows]
@[go_sem] theorem keepc_gl0 (bx : List (Nat × List V)) (mp : List (List (PV × PV))) (k b : Nat) (rows : List (List PV)) : keepc ⟨bx, glA k b rows, mp⟩ 4 (glV 0 b rows) = some (.lst 0 rows) := keepc_gl bx mp [] k b 3 rows
@[go_sem] theorem keepc_gl1 (bx : List (Nat × List V)) (mp : List (List (PV × PV))) (a : Arr) (k b : Nat) (rows : List (List PV)) : keepc ⟨bx, a :: glA k b rows, mp⟩ 4 (glV 1 b rows) = some (.lst 0 rows) := keepc_gl bx mp [a] k b 3 rows
@[go_sem] theorem lendc_gl0 (bx : List (Nat × List V)) (mp : List (List (PV × PV))) (k b : Nat) (rows : List (List PV)) : lendc ⟨bx, glA k b rows, mp⟩ 4 (glV 0 b rows) = some (.lst (glG b rows) rows) := lendc_gl bx mp [] k b 3 rows
@[go_sem] theorem lendc_gl1 (bx : List (Nat × List V)) (mp : List (List (PV × PV))) (a : Arr) (k b : Nat) (rows : List (List PV)) : lendc ⟨bx, a :: glA k b rows, mp⟩ 4 (glV 1 b rows) = some (.lst (glG b rows) rows) := lendc_gl bx mp [a] k b 3 rows

attribute [go_sem] Int.lt_irrefl

end Go.Pv

/-
  Lists that are equal; beginnings of lists.
-/
namespace Go.Pv

theorem take_step {α : Type} {a b : List α} {k : Nat} {x y : α} (hx : a[k]? = some x) (hy : b[k]? = some y) (h : a.take k = b.take k) (e : x = y) : a.take (k + 1) = b.take (k + 1) := by
  rw [List.take_add_one, List.take_add_one, hx, hy, h, e]
theorem takes_all {α : Type} {a b : List α} {k : Nat} (ha : a.length ≤ k) (hb : b.length ≤ k) (h : a.take k = b.take k) : a = b := by
  rwa [List.take_of_length_le ha, List.take_of_length_le hb] at h

end Go.Pv

/-
  The law of next states, ends and labels.
-/
namespace Go.Pv

theorem ends_len (a : Auto) : a.ends.length ≤ 12 := by
  unfold Auto.ends
  split
  · have := endsTo_len a.edges a.states.toNat
    omega
  · simp

end Go.Pv

/-
  Edges put in order by the reference.
-/
namespace Go.Pv

@[go_sem] theorem edgs_snocc (l : List Edge) (f : Int) (d : Bool) (x t : Int) : edgs l ++ [[.int .i64 f, .bool d, .int .i64 x, .int .i64 t]] = edgs (l ++ [⟨f, d, x, t⟩]) := by simp [edgs, Edge.c]
theorem edge_eta (e : Edge) : (⟨e.fr, e.send, e.label, e.to⟩ : Edge) = e := rfl
@[go_sem] theorem edgs_store {id row ver : Nat} {f x t : Int} {d : Bool} {l : List Edge} (h1 : row < l.length) : storeRow id row 0 [.pv (.int .i64 f), .pv (.bool d), .pv (.int .i64 x), .pv (.int .i64 t)] ⟨ver, 4, .inl (edgs l)⟩ = some { ar := some (id, ⟨ver, 4, .inl (edgs (l.set row ⟨f, d, x, t⟩))⟩) } := by
  rw [storeRow_inl (l := [.int .i64 f, .bool d, .int .i64 x, .int .i64 t]) (by rw [edgs_length]; exact h1) rfl (by simp) rfl]
  have : over row 0 [.int .i64 f, .bool d, .int .i64 x, .int .i64 t] (edgs l) = edgs (l.set row ⟨f, d, x, t⟩) := by
    unfold over edgs
    rw [List.map_set]
    congr 1
    obtain ⟨e, he⟩ : ∃ e, l[row]? = some e := ⟨l[row], by simp [h1]⟩
    simp [he, Edge.c]
  rw [this]

end Go.Pv

/-
  Duals.
-/
namespace Go.Pv

theorem fold_map {α β : Type} (f : α → β) : ∀ (l : List α) (o : List β), l.foldl (fun o x => o ++ [f x]) o = o ++ l.map f
  | [], o => by simp
  | x :: l, o => by rw [List.foldl_cons, fold_map f l]; simp
theorem fold_filter {α β : Type} (p : α → Bool) (f : α → β) : ∀ (l : List α) (o : List β), l.foldl (fun o x => if p x = true then o ++ [f x] else o) o = o ++ (l.filter p).map f
  | [], o => by simp
  | x :: l, o => by
    rw [List.foldl_cons, fold_filter p f l]
    by_cases h : p x = true <;> simp [h]
theorem cloneP_edgs (h : Heap) (t : Nat) (l : List Edge) (ht : t ≤ 1) (hl : l.length ≤ 2147483648) : cloneP 4 [.pv (.lst t (l.map Edge.c))] h = some (if l.length = 0 then (.tl [], {}) else (.own h.ar.length 0 0 l.length, { push := [⟨0, 4, .inl (edgs l)⟩], base := h.ar.length })) := by
  have h1 : ((l.map Edge.c).all fun x => x.length == 4) = true := by simp [Edge.c]
  have h2 : l.length ≤ mostRows := hl
  by_cases h0 : l.length = 0 <;> simp [cloneP, srcRows, rowsFit, ht, h1, h2, h0, edgs]

/-- The first k turned. -/
def mapTo {α : Type} (f : α → α) (l : List α) (k : Nat) : List α := (l.take k).map f ++ l.drop k
theorem mapTo_len {α : Type} (f : α → α) (l : List α) (k : Nat) : (mapTo f l k).length = l.length := by simp [mapTo]; omega
theorem mapTo_get {α : Type} {f : α → α} {l : List α} {k : Nat} {e : α} (h : l[k]? = some e) : (mapTo f l k)[k]? = some e := by
  have hk := (List.getElem?_eq_some_iff.1 h).1
  unfold mapTo
  rw [List.getElem?_append_right (by simp; omega)]
  simp [Nat.min_eq_left (Nat.le_of_lt hk), h]
theorem mapTo_set {α : Type} {f : α → α} {l : List α} {k : Nat} {e : α} (h : l[k]? = some e) : (mapTo f l k).set k (f e) = mapTo f l (k + 1) := by
  have hk := (List.getElem?_eq_some_iff.1 h).1
  unfold mapTo
  rw [List.set_append_right _ _ (by simp; omega), drop_at h, List.take_add_one, h]
  simp [Nat.min_eq_left (Nat.le_of_lt hk)]
theorem mapTo_all {α : Type} (f : α → α) (l : List α) : mapTo f l l.length = l.map f := by simp [mapTo]
theorem mapTo_zero {α : Type} (f : α → α) (l : List α) : mapTo f l 0 = l := by simp [mapTo]
@[go_sem] theorem edgs_store1 {id row ver : Nat} {d : Bool} {l : List Edge} {e : Edge} (h : l[row]? = some e) : storeRow id row 1 [.pv (.bool d)] ⟨ver, 4, .inl (edgs l)⟩ = some { ar := some (id, ⟨ver, 4, .inl (edgs (l.set row ⟨e.fr, d, e.label, e.to⟩))⟩) } := by
  have hk := (List.getElem?_eq_some_iff.1 h).1
  rw [storeRow_inl (l := [.bool d]) (by rw [edgs_length]; exact hk) rfl (by simp) rfl]
  have : over row 1 [.bool d] (edgs l) = edgs (l.set row ⟨e.fr, d, e.label, e.to⟩) := by
    unfold over edgs
    rw [List.map_set]
    congr 1
    simp [h, Edge.c]
  rw [this]
theorem edgs_dec (l : List Edge) : mapO Edge.dec (edgs l) = some l := by
  induction l with
  | nil => rfl
  | cons x l ih =>
    show mapO Edge.dec (x.c :: edgs l) = _
    have : Edge.dec x.c = some x := rfl
    simp only [mapO, this, ih]
@[go_sem] theorem sortP_tl (k g : Nat) (f : List (List PV) → Option (List (List PV))) (h : Heap) : sortP k f g [.tl [], .func g []] h = some (.tup [], {}) := by simp [sortP]
theorem sortP_edgs {h : Heap} {id ver n : Nat} {l : List Edge} (hn : n = l.length) (ho : ownArr h id ver = some ⟨ver, 4, .inl (edgs l)⟩) (h0 : l.length ≠ 0) (hm : l.length ≤ 2147483648) (hap : l.Pairwise (apt Edge.lt)) :
    sortP 4 (sortRows Edge.c Edge.dec Edge.lt) 47 [.own id ver 0 n, .func 47 []] h = some (.tup [], { ar := some (id, ⟨ver, 4, .inl (edgs (isort Edge.lt l))⟩) }) := by
  subst hn
  have e1 : (edgs l).length = l.length := edgs_length l
  have hr := rising_of (isort_pw Edge.lt_tr hap)
  simp [sortP, ho, h0, e1, mostRows, hm, sortRows, edgs_dec, hr, List.take_of_length_le (Nat.le_of_eq e1), List.drop_eq_nil_of_le (Nat.le_of_eq e1)]
  rfl

end Go.Pv

/-
  Automata that are equal.
-/
namespace Go.Pv

theorem edge_ext {a b : Edge} (h1 : a.fr = b.fr) (h2 : a.send = b.send) (h3 : a.label = b.label) (h4 : a.to = b.to) : a = b := by
  cases a; cases b; simp_all
theorem edge_dec (a b : Edge) : (decide (a.fr = b.fr) && (decide (a.send = b.send) && (decide (a.label = b.label) && decide (a.to = b.to)))) = decide (a = b) := by
  by_cases h : a = b
  · subst h; simp
  · have : ¬ (a.fr = b.fr ∧ a.send = b.send ∧ a.label = b.label ∧ a.to = b.to) := fun ⟨h1, h2, h3, h4⟩ => h (edge_ext h1 h2 h3 h4)
    simp only [h, decide_false, Bool.and_eq_false_iff, decide_eq_false_iff_not]
    by_cases h1 : a.fr = b.fr <;> by_cases h2 : a.send = b.send <;> by_cases h3 : a.label = b.label <;> by_cases h4 : a.to = b.to <;> simp_all
set_option maxHeartbeats 1000000 in
/-- Same -/
@[go_sem] theorem r15 (t u : Nat) (a b : Auto) (ha : a.edges.length ≤ 2 ^ 63 - 1) (hb : b.edges.length ≤ 2 ^ 63 - 1) : res A PrA 15 [.agg [.int .i64 a.states, .int .i64 a.start, .lst t (a.edges.map Edge.c)], .agg [.int .i64 b.states, .int .i64 b.start, .lst u (b.edges.map Edge.c)]] = some [.bool (decide (a = b))] := by
  refine res_of a15 rfl rfl ?_
  simp only [F15]
  simp (disch := omega) only [go_sem]
  refine Br.ofP (fun h1 => ?_) (fun h1 => ?_) <;> simp (disch := omega) only [go_sem, h1]
  case refine_2 =>
    have : ¬ a = b := fun e => h1 (by rw [e])
    simp [this]
  refine Br.ofP (fun h2 => ?_) (fun h2 => ?_) <;> simp (disch := omega) only [go_sem, h2]
  case refine_2 =>
    have : ¬ a = b := fun e => h2 (by rw [e])
    simp [this]
  refine Br.ofP (fun h3 => ?_) (fun h3 => ?_) <;> simp (disch := omega) only [go_sem, h3]
  case refine_2 =>
    have : ¬ a = b := fun e => h3 (by rw [e])
    simp [this]
  refine W.upto a.edges.length (fun k => ⟨[(2, .ptr 2 0), (3, .ptr 3 0), (5, .pv (.int .i64 k))], ⟨[(2, [.pv (.int .i64 b.states), .pv (.int .i64 b.start), .pv (.lst t (a.edges.map Edge.c))]), (3, [.pv (.int .i64 b.states), .pv (.int .i64 b.start), .pv (.lst u (b.edges.map Edge.c))])], [], []⟩⟩) (fun k => a.edges.take k = b.edges.take k) rfl rfl fun k hk hi => ?_
  simp (disch := omega) only [go_sem]
  refine Br.ofP (fun g => ?_) (fun g => ?_)
  · obtain ⟨x, hx⟩ := get_at (l := a.edges) (k := k) (by omega)
    obtain ⟨y, hy⟩ := get_at (l := b.edges) (k := k) (by omega)
    simp (disch := omega) only [go_sem, hx, hy, edge_dec]
    refine Br.ofP (fun f => ?_) (fun f => ?_) <;> simp (disch := omega) only [go_sem, f]
    · exact .of (by omega) rfl (take_step hx hy hi f)
    · have : ¬ a = b := fun e => f (by rw [e, hy] at hx; exact (Option.some.inj hx).symm)
      simp [this]
  · simp (disch := omega) only [go_sem]
    have h4 := takes_all (k := k) (by omega) (by omega) hi
    have : a = b := by cases a; cases b; simp_all
    simp [this]
@[go_sem] theorem r15e (t u : Nat) (n s n' s' : Int) (l m : List Edge) (hl : l.length ≤ 2 ^ 63 - 1) (hm : m.length ≤ 2 ^ 63 - 1) : res A PrA 15 [.agg [.int .i64 n, .int .i64 s, .lst t (edgs l)], .agg [.int .i64 n', .int .i64 s', .lst u (edgs m)]] = some [.bool (decide ((⟨n, s, l⟩ : Auto) = ⟨n', s', m⟩))] := r15 t u ⟨n, s, l⟩ ⟨n', s', m⟩ hl hm

@[go_sem] theorem r39e (t : Nat) (n s0 : Int) (l : List Edge) (s : Int) (d : Bool) (x : Int) (hl : l.length ≤ 2 ^ 63 - 1) :
    res A PrA 39 [.agg [.int .i64 n, .int .i64 s0, .lst t (edgs l)], .int .i64 s, .bool d, .int .i64 x] = some [.int .i64 ((nextE s d x l).getD 0), .bool (nextE s d x l).isSome] := r39 t ⟨n, s0, l⟩ s d x hl
@[go_sem] theorem r45e (t : Nat) (n s0 : Int) (l : List Edge) (s : Int) (d : Bool) (x : Int) (hl : l.length ≤ 2 ^ 63 - 1) :
    res A PrA 45 [.agg [.int .i64 n, .int .i64 s0, .lst t (edgs l)], .int .i64 s, .bool d, .int .i64 x] = some [.int .i64 ((nextE s d x l).getD 0), .bool (nextE s d x l).isSome] := r45 t ⟨n, s0, l⟩ s d x hl
@[go_sem] theorem r26e (t : Nat) (n s : Int) (l : List Edge) (hl : l.length ≤ 2 ^ 63 - 1) : res A PrA 26 [.agg [.int .i64 n, .int .i64 s, .lst t (edgs l)]] = some [.int .i64 (⟨n, s, l⟩ : Auto).err] := r26 t ⟨n, s, l⟩ hl
@[go_sem] theorem r29e (t : Nat) (n s : Int) (l : List Edge) (hl : l.length ≤ 2 ^ 63 - 1) : res A PrA 29 [.agg [.int .i64 n, .int .i64 s, .lst t (edgs l)]] = some [.int .i64 (⟨n, s, l⟩ : Auto).err] := r29 t ⟨n, s, l⟩ hl
end Go.Pv

/-
  Plain laws: automata of drafts.
-/
namespace Go.Pv

structure Arc where
  fr : Int
  act : Int
  to : Int
  deriving DecidableEq, Inhabited
structure Draft where
  n : Int
  arcs : List Arc
  deriving DecidableEq, Inhabited
def Arc.c (x : Arc) : List PV := [.int .u8 x.fr, .int .u8 x.act, .int .u8 x.to]
def Arc.ok (x : Arc) : Prop := (0 ≤ x.fr ∧ x.fr ≤ 255) ∧ (0 ≤ x.act ∧ x.act ≤ 255) ∧ (0 ≤ x.to ∧ x.to ≤ 255)
def Draft.ok (d : Draft) : Prop := (0 ≤ d.n ∧ d.n ≤ 255) ∧ d.arcs.length ≤ 2 ^ 63 - 1 ∧ ∀ x ∈ d.arcs, x.ok
/-- The edge of an arc. -/
def Arc.edge (st : Int) (x : Arc) : Edge := ⟨x.fr % st, decide (x.act % 2 = 1), 1 + x.act / 2 % 3, x.to % st⟩
def addE (es : List Edge) (e : Edge) : List Edge := if (nextE e.fr e.send e.label es).isSome = true then es else es ++ [e]
def Draft.raw (d : Draft) : List Edge := (d.arcs.take 12).foldl (fun es x => addE es (x.edge (1 + d.n % 4))) []
def Draft.auto (d : Draft) : Auto := ⟨1 + d.n % 4, 0, sortB Edge.lt d.raw⟩

theorem nextE_none {s : Int} {d : Bool} {x : Int} : ∀ {es : List Edge}, (nextE s d x es).isSome = false ↔ ∀ e ∈ es, ¬ (e.fr = s ∧ e.send = d ∧ e.label = x)
  | [] => by simp [nextE]
  | e :: r => by
    unfold nextE
    split
    · rename_i h
      simp [h]
    · rename_i h
      rw [nextE_none]
      simp only [List.mem_cons]
      exact ⟨fun hh y hy => hy.elim (fun e => e ▸ h) (hh y), fun hh y hy => hh y (.inr hy)⟩
theorem addE_apt {es : List Edge} {e : Edge} (h : es.Pairwise (apt Edge.lt)) : (addE es e).Pairwise (apt Edge.lt) := by
  unfold addE
  split
  · exact h
  · rename_i hn
    have hn' := nextE_none.1 (by simpa using hn)
    rw [List.pairwise_append]
    refine ⟨h, List.pairwise_singleton _ _, fun a ha b hb => ?_⟩
    rw [List.mem_singleton] at hb
    subst hb
    rw [Edge.apt_iff]
    exact hn' a ha
theorem addE_len (es : List Edge) (e : Edge) : (addE es e).length ≤ es.length + 1 := by
  unfold addE
  split <;> simp
theorem addE_mem {es : List Edge} {e x : Edge} (h : x ∈ addE es e) : x ∈ es ∨ x = e := by
  unfold addE at h
  split at h
  · exact .inl h
  · simpa using h
theorem raw_spec {st : Int} (hs : 1 ≤ st ∧ st ≤ 4) : ∀ (l : List Arc) (es : List Edge), (∀ x ∈ l, x.ok) → es.Pairwise (apt Edge.lt) → (∀ e ∈ es, e.fits st = true) →
    (l.foldl (fun es x => addE es (x.edge st)) es).Pairwise (apt Edge.lt) ∧ (∀ e ∈ l.foldl (fun es x => addE es (x.edge st)) es, e.fits st = true) ∧ (l.foldl (fun es x => addE es (x.edge st)) es).length ≤ es.length + l.length
  | [], es, _, h1, h2 => ⟨h1, h2, by simp⟩
  | x :: l, es, hx, h1, h2 => by
    have hxo := hx x (by simp)
    have hf : (x.edge st).fits st = true := by
      rw [fits_iff]
      have a1 := Int.emod_nonneg x.fr (b := st) (by omega)
      have a2 := Int.emod_lt_of_pos x.fr (b := st) (by omega)
      have a3 := Int.emod_nonneg x.to (b := st) (by omega)
      have a4 := Int.emod_lt_of_pos x.to (b := st) (by omega)
      simp only [Arc.edge]
      omega
    obtain ⟨g1, g2, g3⟩ := raw_spec hs l (addE es (x.edge st)) (fun y hy => hx y (by simp [hy])) (addE_apt h1) fun e he => by
      rcases addE_mem he with h | h
      · exact h2 e h
      · exact h ▸ hf
    have := addE_len es (x.edge st)
    exact ⟨g1, g2, by simp only [List.foldl_cons, List.length_cons]; omega⟩
theorem Draft.st {d : Draft} : 1 ≤ 1 + d.n % 4 ∧ 1 + d.n % 4 ≤ 4 := by omega
theorem Draft.raw_ok {d : Draft} (h : d.ok) : d.raw.Pairwise (apt Edge.lt) ∧ (∀ e ∈ d.raw, e.fits (1 + d.n % 4) = true) ∧ d.raw.length ≤ 12 := by
  obtain ⟨h1, h2, h3⟩ := raw_spec d.st (d.arcs.take 12) [] (fun x hx => h.2.2 x (List.mem_of_mem_take hx)) List.Pairwise.nil (fun e he => absurd he (by simp))
  refine ⟨h1, h2, ?_⟩
  have : (d.arcs.take 12).length ≤ 12 := by simp; omega
  simp only [List.length_nil] at h3
  unfold Draft.raw
  omega
theorem Draft.len {d : Draft} (h : d.ok) : d.auto.edges.length ≤ 12 := by
  have := (sortB_perm Edge.lt d.raw).length_eq
  have := d.raw_ok h
  show (sortB Edge.lt d.raw).length ≤ 12
  omega
/-- The automaton of a draft, with any start, has no error. -/
theorem Draft.good {d : Draft} (h : d.ok) {s : Int} (hs : 0 ≤ s ∧ s < 1 + d.n % 4) : (⟨1 + d.n % 4, s, d.auto.edges⟩ : Auto).Good where
  st := hs
  mx := by
    have := d.st
    show 1 + d.n % 4 ≤ 12
    omega
  len := by
    have := d.len h
    show d.auto.edges.length ≤ 100
    omega
  fit e he := (d.raw_ok h).2.1 e ((sortB_perm Edge.lt d.raw).subset he)
  asc := sortB_sorted Edge.lt_tr (d.raw_ok h).1

end Go.Pv

/-
  Automata of drafts.
-/
namespace Go.Pv

@[go_sem] theorem binV_rem_pos {k : IntKind} {a b : Int} (ha : 0 ≤ a) (hb : 0 < b) : binV .rem (.pv (.int k a)) (.pv (.int k b)) = some (.pv (.int k (a % b))) := by
  rw [binV_rem (by omega), Int.tmod_eq_emod_of_nonneg ha]
@[go_sem] theorem binV_quo_u8 {a b : Int} (ha : 0 ≤ a) (hb : 0 < b) (h2 : a ≤ 255) : binV .quo (.pv (.int .u8 a)) (.pv (.int .u8 b)) = some (.pv (.int .u8 (a / b))) := by
  rw [binV_quo (by omega), Int.tdiv_eq_ediv_of_nonneg ha, wrap_u8]
  · exact Int.ediv_nonneg ha (by omega)
  · exact Int.le_trans (Int.ediv_le_self b ha) h2
attribute [go_sem] wrap_u8

end Go.Pv

/-
  The law of duals.
-/
namespace Go.Pv

theorem decide_yes {p : Prop} [Decidable p] (h : p) : decide p = true := by simp [h]

end Go.Pv

/-
  What can be reached, as the reference finds it.
-/
namespace Go.Pv

theorem fold_outs (es : List Edge) (v : Int) : ∀ o : List Int, es.foldl (fun o e => if e.fr = v then addN o e.to else o) o = addL o (outs es v) := by
  induction es with
  | nil => intro o; rfl
  | cons e es ih =>
    intro o
    rw [List.foldl_cons, ih]
    by_cases h : e.fr = v
    · rw [if_pos h]
      simp [outs, h, addL_cons]
    · rw [if_neg h]
      simp [outs, h]
theorem glV_ints {n b : Nat} {o : List Int} {x : Int} (h : b ≤ o.length) : glV n b (ints (o ++ [x])) = .own n (o.length - b) 0 (o.length + 1) := by
  rw [← ints_snoc, glV_snoc (by rw [ints_length]; exact h), ints_length]
theorem glA_ints {b : Nat} {o : List Int} {x : Int} (h : b ≤ o.length) : glA 1 b (ints (o ++ [x])) = [⟨o.length - b, 1, .inl (ints (o ++ [x]))⟩] := by
  rw [← ints_snoc, glA_snoc (by rw [ints_length]; exact h), ints_length]
theorem ints_len (l : List Int) : (ints l).length = l.length := ints_length l

end Go.Pv

/-
  What can be reached, as the program finds it.
-/
namespace Go.Pv

/-- The first k are x, the others y. -/
def fillTo (x y : Int) (n k : Nat) : List Int := List.replicate k x ++ List.replicate (n - k) y
theorem fillTo_len {x y : Int} {n k : Nat} (h : k ≤ n) : (fillTo x y n k).length = n := by simp [fillTo]; omega
theorem fillTo_zero (x y : Int) (n : Nat) : fillTo x y n 0 = List.replicate n y := by simp [fillTo]
theorem fillTo_all (x y : Int) (n : Nat) : fillTo x y n n = List.replicate n x := by simp [fillTo]
theorem fillTo_succ {x y : Int} {n k : Nat} (h : k < n) : (fillTo x y n k).set k x = fillTo x y n (k + 1) := by
  unfold fillTo
  rw [List.set_append_right _ _ (by simp)]
  obtain ⟨m, hm⟩ : ∃ m, n - k = m + 1 := ⟨n - k - 1, by omega⟩
  have : n - (k + 1) = m := by omega
  rw [hm, this, List.replicate_succ' (n := k), List.append_assoc]
  simp [List.replicate_succ]

/-- The place of each number in a list. -/
def places (n : Nat) (o : List Int) : List Int := (List.range n).map fun (v : Nat) => atL (v : Int) o
theorem places_len (n : Nat) (o : List Int) : (places n o).length = n := by simp [places]
theorem places_get {n : Nat} {o : List Int} {v : Int} (h : 0 ≤ v ∧ v < n) : (places n o)[v.toNat]? = some (atL v o) := by
  unfold places
  rw [List.getElem?_map, List.getElem?_range (by omega)]
  simp only [Option.map_some]
  rw [show ((v.toNat : Nat) : Int) = v by omega]
theorem atFrom_snoc {x y : Int} : ∀ {l : List Int} {k : Nat}, x ∉ l → atFrom y k (l ++ [x]) = if y ∈ l then atFrom y k l else if y = x then ((k + l.length : Nat) : Int) else -1
  | [], k, _ => by
    simp only [List.nil_append, atFrom, List.not_mem_nil, if_false, List.length_nil, Nat.add_zero]
    by_cases h : x = y
    · simp [h]
    · have : ¬ y = x := fun e => h e.symm
      simp [h, this]
  | z :: l, k, hx => by
    simp only [List.mem_cons, not_or] at hx
    simp only [List.cons_append, atFrom]
    by_cases h : z = y
    · simp [h]
    · have hz : ¬ y = z := fun e => h e.symm
      rw [if_neg h, atFrom_snoc hx.2]
      simp only [List.mem_cons, hz, false_or, List.length_cons]
      split
      · rfl
      · split
        · congr 1
          omega
        · rfl
theorem atL_snoc {x y : Int} {l : List Int} (hx : x ∉ l) : atL y (l ++ [x]) = if y ∈ l then atL y l else if y = x then (l.length : Int) else -1 := by
  unfold atL
  rw [atFrom_snoc hx]
  simp
theorem atL_no {x : Int} {l : List Int} (h : x ∉ l) : atL x l = -1 := by
  have : ∀ {l : List Int} {k : Nat}, x ∉ l → atFrom x k l = -1 := by
    intro l
    induction l with
    | nil => intro k _; rfl
    | cons y l ih =>
      intro k h
      simp only [List.mem_cons, not_or] at h
      unfold atFrom
      rw [if_neg (fun e => h.1 e.symm), ih h.2]
  exact this h
theorem places_snoc {n : Nat} {o : List Int} {x : Int} (hx : x ∉ o) (h : 0 ≤ x ∧ x < n) : (places n o).set x.toNat (o.length : Int) = places n (o ++ [x]) := by
  apply List.ext_getElem?
  intro i
  rcases Nat.lt_or_ge i n with hi | hi
  · have e1 := places_get (n := n) (o := o ++ [x]) (v := (i : Int)) (by omega)
    rw [Int.toNat_natCast] at e1
    rw [e1, atL_snoc hx]
    by_cases hix : x.toNat = i
    · have : (i : Int) = x := by omega
      rw [hix, List.getElem?_set_self (by rw [places_len]; exact hi), if_neg (by rw [this]; exact hx), if_pos this]
    · have hne : ¬ (i : Int) = x := by omega
      have e2 := places_get (n := n) (o := o) (v := (i : Int)) (by omega)
      rw [Int.toNat_natCast] at e2
      rw [List.getElem?_set_ne hix, e2]
      split
      · rfl
      · rename_i hno
        first
          | rw [atL_no hno]
          | rw [if_neg hne, atL_no hno]
  · rw [List.getElem?_eq_none (by simp [places_len, hi]), List.getElem?_eq_none (by simp [places_len, hi])]
theorem places_nil (n : Nat) : places n [] = List.replicate n (-1) := by
  apply List.ext_getElem?
  intro i
  rcases Nat.lt_or_ge i n with hi | hi
  · have e1 := places_get (n := n) (o := []) (v := (i : Int)) (by omega)
    rw [Int.toNat_natCast] at e1
    rw [e1]
    simp [hi]
    rfl
  · rw [List.getElem?_eq_none (by simp [places_len, hi]), List.getElem?_eq_none (by simp [hi])]

set_option maxHeartbeats 4000000 in
/-- found. -/
@[go_sem] theorem r50 (t : Nat) (a : Auto) (hg : a.Good) :
    res A PrA 50 [.agg [.int .i64 a.states, .int .i64 a.start, .lst t (a.edges.map Edge.c)]] = some [.lst 0 (ints a.order), .lst 0 (ints (places a.states.toNat a.order))] := by
  refine res_of a50 rfl rfl ?_
  simp only [F50]
  obtain ⟨g1, g2, g3, g4, g5⟩ := hg
  have hg : a.Good := ⟨g1, g2, g3, g4, g5⟩
  simp (disch := omega) only [go_sem]
  refine W.upto a.states.toNat (fun k => ⟨[(1, .ptr 1 0), (4, .own 0 0 0 a.states.toNat), (14, .pv (.int .i64 a.states.toNat)), (15, .pv (.int .i64 k))], ⟨[(1, [.pv (.int .i64 a.states), .pv (.int .i64 a.start), .pv (.lst t (a.edges.map Edge.c))])], [⟨0, 1, .inl (ints (fillTo (-1) 0 a.states.toNat k))⟩], []⟩⟩) (fun _ => True) (by rw [fillTo_zero]; rfl) trivial fun k hk _ => ?_
  simp (disch := omega) only [go_sem]
  refine Br.ofP (fun h => ?_) (fun h => ?_)
  · have ho := fillTo_len (x := -1) (y := 0) (n := a.states.toNat) (k := k) (by omega)
    simp (disch := omega) only [go_sem, fillTo_succ (show k < a.states.toNat by omega)]
    exact .of (by omega) rfl trivial
  obtain rfl : k = a.states.toNat := by omega
  clear h hk
  have hn : (List.replicate a.states.toNat (-1 : Int)).length = a.states.toNat := List.length_replicate
  have hp0 := places_snoc (n := a.states.toNat) (o := []) (x := a.start) (by simp) (by omega)
  rw [places_nil] at hp0
  simp only [List.length_nil, List.nil_append] at hp0
  have hp0' : (List.replicate a.states.toNat (-1 : Int)).set a.start.toNat 0 = places a.states.toNat [a.start] := hp0
  simp (disch := omega) only [go_sem, fillTo_all, hp0']
  refine W.loop (α := Nat × List Int) (fun x => ⟨[(1, .ptr 1 0), (4, .own 0 0 0 a.states.toNat), (6, glV 1 1 (ints x.2)), (7, .pv (.int .i64 x.1))], ⟨[(1, [.pv (.int .i64 a.states), .pv (.int .i64 a.start), .pv (.lst t (a.edges.map Edge.c))])], ⟨0, 1, .inl (ints (places a.states.toNat x.2))⟩ :: glA 1 1 (ints x.2), []⟩⟩)
    (fun x => x.2.Nodup ∧ (∀ v ∈ x.2, a.inr v) ∧ 1 ≤ x.2.length ∧ x.1 ≤ x.2.length ∧ bfs (outs a.edges) (a.states.toNat - x.1) x.1 x.2 = a.order) (fun x => a.states.toNat - x.1) (0, [a.start]) rfl ⟨by simp, fun w hw => (List.mem_singleton.1 hw) ▸ hg.st, by simp, by simp, rfl⟩ fun x hx => ?_
  obtain ⟨i, o⟩ := x
  obtain ⟨hd, hin, h1, h2, hb⟩ := hx
  dsimp only at hd hin h1 h2 hb
  have hlen := a.bound o hd hin
  simp (disch := omega) only [go_sem]
  refine Br.ofP (fun h => ?_) (fun h => ?_)
  · obtain ⟨v, hv⟩ := get_at (l := o) (k := i) (by omega)
    simp (disch := omega) only [go_sem]
    refine W.fold a.edges (fun o e => if e.fr = v then addN o e.to else o) o (fun k o => ⟨[(1, .ptr 1 0), (4, .own 0 0 0 a.states.toNat), (6, glV 1 1 (ints o)), (7, .pv (.int .i64 i)), (36, .pv (.lst t (a.edges.map Edge.c))), (37, .pv (.int .i64 a.edges.length)), (38, .pv (.int .i64 k))], ⟨[(1, [.pv (.int .i64 a.states), .pv (.int .i64 a.start), .pv (.lst t (a.edges.map Edge.c))])], ⟨0, 1, .inl (ints (places a.states.toNat o))⟩ :: glA 1 1 (ints o), []⟩⟩)
      (fun _ o => o.Nodup ∧ (∀ v ∈ o, a.inr v) ∧ 1 ≤ o.length ∧ o[i]? = some v) rfl ⟨hd, hin, h1, hv⟩ (fun k e o he hk _ hi => ?_) (fun o ho hi => ?_)
    · obtain ⟨hd, hin, h1, hv⟩ := hi
      have hlen := a.bound o hd hin
      have hef := fits_iff.1 (g4 e (List.mem_of_getElem? he))
      have hto : a.inr e.to := ⟨hef.2.2.1, hef.2.2.2.1⟩
      have hI : (if e.fr = v then addN o e.to else o).Nodup ∧ (∀ w ∈ (if e.fr = v then addN o e.to else o), a.inr w) ∧ 1 ≤ (if e.fr = v then addN o e.to else o).length ∧ (if e.fr = v then addN o e.to else o)[i]? = some v := by
        split
        · obtain ⟨r, hr⟩ := addN_pre o e.to
          have hil := (List.getElem?_eq_some_iff.1 hv).1
          refine ⟨addN_nodup hd, fun x hx => (addN_mem.1 hx).elim (hin x) (fun q => q ▸ hto), by rw [← hr, List.length_append]; omega, by rw [← hr, List.getElem?_append_left hil]; exact hv⟩
        · exact ⟨hd, hin, h1, hv⟩
      have hstay : e.fr = v → ¬ atL e.to o < 0 → (if e.fr = v then addN o e.to else o) = o := fun h1 h2 => by rw [if_pos h1, addN, if_pos (atL_pos.1 (by omega))]
      have hmore : e.fr = v → atL e.to o < 0 → (if e.fr = v then addN o e.to else o) = o ++ [e.to] := fun h1 h2 => by rw [if_pos h1, addN, if_neg (atL_neg.1 h2)]
      have hpl := places_len a.states.toNat o
      have hpg := places_get (n := a.states.toNat) (o := o) (v := e.to) (by omega)
      rcases gl_cases (b := 1) (rows := ints o) with hc | ⟨m, hc⟩
      · rw [glV_lit hc, glA_lit hc]
        rw [ints_len] at hc
        simp (disch := omega) only [go_sem, he]
        refine Br.ofP (fun h => ?_) (fun h => (h (by omega)).elim)
        simp (disch := omega) only [go_sem, he, hv, hpg]
        refine Br.ofP (fun f1 => ?_) (fun f1 => ?_) <;> simp (disch := omega) only [go_sem, f1, hpg]
        · refine Br.ofP (fun f2 => ?_) (fun f2 => ?_) <;> simp (disch := omega) only [go_sem, f2]
          · refine foldK.of ?_ hI
            show _ = St.mk _ _
            rw [hmore f1 f2, glV_ints h1, glA_ints h1, show o.length - 1 = 0 by omega, ← places_snoc (atL_neg.1 f2) (by omega)]
            rfl
          · refine foldK.of ?_ hI
            show _ = St.mk _ _
            rw [hstay f1 f2, glV_lit (by rw [ints_len]; exact hc), glA_lit (by rw [ints_len]; exact hc)]
            rfl
        · refine foldK.of ?_ hI
          show _ = St.mk _ _
          rw [if_neg f1, glV_lit (by rw [ints_len]; exact hc), glA_lit (by rw [ints_len]; exact hc)]
          rfl
      · rw [glV_own hc, glA_own hc]
        rw [ints_len] at hc
        have hil := (List.getElem?_eq_some_iff.1 hv).1
        have ht : o.take (1 + m + 1) = o := List.take_of_length_le (by omega)
        have hi0 : (0 : Int) ≤ (i : Int) := by omega
        simp (disch := omega) only [go_sem, he]
        refine Br.ofP (fun h => ?_) (fun h => (h (by omega)).elim)
        simp (disch := omega) only [go_sem, he, hv, ht, hpg]
        refine Br.ofP (fun f1 => ?_) (fun f1 => ?_) <;> simp (disch := omega) only [go_sem, f1, ht, hpg]
        · refine Br.ofP (fun f2 => ?_) (fun f2 => ?_) <;> simp (disch := omega) only [go_sem, f2]
          · refine foldK.of ?_ hI
            show _ = St.mk _ _
            rw [hmore f1 f2, glV_ints h1, glA_ints h1, ← places_snoc (atL_neg.1 f2) (by omega), show o.length - 1 = m + 1 by omega, hc]
            rfl
          · refine foldK.of ?_ hI
            show _ = St.mk _ _
            rw [hstay f1 f2, glV_own (by rw [ints_len]; exact hc), glA_own (by rw [ints_len]; exact hc)]
            rfl
        · refine foldK.of ?_ hI
          show _ = St.mk _ _
          rw [if_neg f1, glV_own (by rw [ints_len]; exact hc), glA_own (by rw [ints_len]; exact hc)]
          rfl
    · rw [fold_outs] at ho
      simp (disch := omega) only [go_sem]
      obtain ⟨hd', hin', h1', hv'⟩ := hi
      have hl' := a.bound o hd' hin'
      have hil := (List.getElem?_eq_some_iff.1 hv').1
      refine ⟨(i + 1, o), ⟨hd', hin', h1', hil, ?_⟩, by dsimp only; omega, rfl⟩
      dsimp only
      rw [← hb, ho]
      obtain ⟨q, hq⟩ : ∃ q, a.states.toNat - i = q + 1 := ⟨a.states.toNat - i - 1, by omega⟩
      rw [hq, bfs_step hv]
      congr 1
      omega
  · simp (disch := omega) only [go_sem]
    rw [bfs_end (by omega)] at hb
    rw [hb, List.take_of_length_le (by rw [places_len]; exact Nat.le_refl _)]

end Go.Pv

/-
  Trimmed automata, runs, proper automata (of the reference).
-/
namespace Go.Pv

theorem kept_fold (o : List Int) (es : List Edge) : es.foldl (fun r e => if 0 ≤ atL e.fr o then r ++ [e.ren o] else r) [] = kept o es := by
  have h := fold_filter (fun e : Edge => decide (e.fr ∈ o)) (Edge.ren o) es []
  rw [List.nil_append] at h
  rw [← show _ = kept o es from h]
  congr 1
  funext r e
  by_cases hc : e.fr ∈ o
  · simp [hc, atL_pos]
  · simp [hc, atL_pos]
theorem kept_len (o : List Int) (es : List Edge) : (kept o es).length ≤ es.length := by
  unfold kept
  rw [List.length_map]
  exact List.length_filter_le _ _

/-- What a sort turns. -/
def srtT (l : List Edge) : Tn := if l.length = 0 then {} else { ar := some (0, ⟨l.length - 1, 4, .inl (edgs (isort Edge.lt l))⟩) }
theorem sortP_gr {bx : List (Nat × List V)} {mp : List (List (PV × PV))} {l : List Edge} (hm : l.length ≤ 2147483648) (hap : l.Pairwise (apt Edge.lt)) :
    sortP 4 (sortRows Edge.c Edge.dec Edge.lt) 47 [grV 0 (edgs l), .func 47 []] ⟨bx, grA 4 (edgs l), mp⟩ = some (.tup [], srtT l) := by
  rcases Nat.eq_zero_or_pos l.length with h | h
  · have : l = [] := List.eq_nil_of_length_eq_zero h
    subst this
    simp [srtT, edgs, grV, sortP]
  · obtain ⟨m, hm'⟩ : ∃ m, (edgs l).length = m + 1 := ⟨l.length - 1, by rw [edgs_length]; omega⟩
    rw [grV_own hm', grA_own hm']
    rw [edgs_length] at hm'
    rw [sortP_edgs (l := l) hm'.symm (by simp [ownArr]) (by omega) hm hap, srtT, if_neg (by omega), hm']
    rfl
@[go_sem] theorem srtT_apply (bx : List (Nat × List V)) (mp : List (List (PV × PV))) (l : List Edge) : (srtT l).apply ⟨bx, grA 4 (edgs l), mp⟩ = ⟨bx, grA 4 (edgs (isort Edge.lt l)), mp⟩ := by
  have hp := (isort_perm Edge.lt l).length_eq
  rcases Nat.eq_zero_or_pos l.length with h | h
  · have : l = [] := List.eq_nil_of_length_eq_zero h
    subst this
    simp [srtT, edgs, isort, Tn.apply, grA]
  · obtain ⟨m, hm'⟩ : ∃ m, (edgs l).length = m + 1 := ⟨l.length - 1, by rw [edgs_length]; omega⟩
    have hm2 : (edgs (isort Edge.lt l)).length = m + 1 := by rw [edgs_length, hp, ← edgs_length]; exact hm'
    rw [grA_own hm', grA_own hm2]
    rw [edgs_length] at hm'
    simp [srtT, Tn.apply, hm']
theorem grV_len {n : Nat} {a b : List (List PV)} (h : a.length = b.length) : grV n a = grV n b := by
  cases a <;> cases b <;> simp_all [grV]

set_option maxHeartbeats 2000000 in
/-- Trim. -/
@[go_sem] theorem r32 (t : Nat) (a : Auto) (hl : a.edges.length ≤ 2000000000) :
    res A PrA 32 [.agg [.int .i64 a.states, .int .i64 a.start, .lst t (a.edges.map Edge.c)]] = some (if a.err = 0 then [.agg [.int .i64 a.trim.states, .int .i64 0, .lst 0 (edgs a.trim.edges)], .int .i64 0] else [.agg [.int .i64 0, .int .i64 0, .lst 0 []], .int .i64 a.err]) := by
  refine res_of a32 rfl rfl ?_
  simp only [F32]
  simp (disch := omega) only [go_sem]
  refine Br.ofP (fun h1 => ?_) (fun h1 => ?_) <;> simp (disch := omega) only [go_sem, h1]
  have hg := Auto.good_iff.1 h1
  have hol := hg.from_len hg.st
  have hmx := hg.mx
  have hol' : a.order.length ≤ 12 := by unfold Auto.order; omega
  have hkl := kept_len a.order a.edges
  have hpl := places_len a.states.toNat a.order
  simp (disch := omega) only [go_sem, r50 t a hg]
  refine W.fold a.edges (fun r e => if 0 ≤ atL e.fr a.order then r ++ [e.ren a.order] else r) [] (fun k r => ⟨[(2, .ptr 2 0), (6, .pv (.lst 0 (ints (places a.states.toNat a.order)))), (7, .ptr 7 0), (25, .pv (.lst t (a.edges.map Edge.c))), (26, .pv (.int .i64 a.edges.length)), (27, .pv (.int .i64 k))], ⟨[(2, [.pv (.int .i64 0), .pv (.int .i64 0), .tl []]), (7, [.pv (.int .i64 a.order.length), .pv (.int .i64 0), grV 0 (edgs r)])], grA 4 (edgs r), []⟩⟩) (fun k r => r.length ≤ k) rfl (Nat.le_refl _) (fun k e r he hk _ hi => ?_) (fun r hr hi => ?_)
  · have hef := fits_iff.1 (hg.fit e (List.mem_of_getElem? he))
    have q1 := places_get (n := a.states.toNat) (o := a.order) (v := e.fr) (by omega)
    have q2 := places_get (n := a.states.toNat) (o := a.order) (v := e.to) (by omega)
    obtain ⟨j1, hj1⟩ := Int.eq_ofNat_of_zero_le hef.1
    obtain ⟨j2, hj2⟩ := Int.eq_ofNat_of_zero_le hef.2.2.1
    simp (disch := omega) only [go_sem, he]
    refine Br.ofP (fun h => ?_) (fun h => (h (by omega)).elim)
    simp (disch := omega) only [go_sem, he, idxR_int, q1, q2]
    refine Br.ofP (fun f => ?_) (fun f => ?_) <;> simp (disch := omega) only [go_sem, f, idxR_int, q1, q2]
    · refine foldK.of ?_ (by rw [if_pos f]; simp; omega)
      show _ = St.mk _ _
      rw [if_pos f]
      rfl
    · refine foldK.of ?_ (by rw [if_neg f]; omega)
      show _ = St.mk _ _
      rw [if_neg f]
      rfl
  · rw [kept_fold] at hr
    subst hr
    simp (disch := omega) only [go_sem]
    rw [sortP_gr (by omega) (kept_apt hg.apt)]
    have hp := (isort_perm Edge.lt (kept a.order a.edges)).length_eq
    simp (disch := omega) only [go_sem]
    rw [grV_len (show (edgs (kept a.order a.edges)).length = (edgs (isort Edge.lt (kept a.order a.edges))).length by rw [edgs_length, edgs_length, hp])]
    simp (disch := omega) only [go_sem]
    rw [if_pos h1]
    rfl

end Go.Pv

/-
  Runs.
-/
namespace Go.Pv

def actC (x : Bool × Int) : List PV := [.bool x.1, .int .i64 x.2]
@[go_sem] theorem actC_eq (x : Bool × Int) : actC x = [.bool x.1, .int .i64 x.2] := rfl
/-- Actions, each a row. -/
def acts (l : List (Bool × Int)) : List (List PV) := l.map actC
@[go_sem] theorem acts_length (l : List (Bool × Int)) : (acts l).length = l.length := by simp [acts]
@[go_sem] theorem acts_get (l : List (Bool × Int)) (i : Nat) : (acts l)[i]? = l[i]?.map actC := by simp [acts]
theorem runE_len (es : List Edge) : ∀ (l : List (Bool × Int)) (s : Int), (runE es s l).2 ≤ l.length
  | [], _ => Nat.le_refl _
  | (d, x) :: r, s => by
    unfold runE
    split
    · simp
    · rename_i t _
      have := runE_len es r t
      simp
      omega

end Go.Pv

/-
  Drafts and actions that a law is given.
-/
namespace Go.Pv
variable {P : Program}

theorem slice_dec {α : Type} {c : α → List PV} {ok : α → Prop} {n : Nat} {t el : TypeId} {cs : List PV} (hu : P.underlying t = some (.slice el)) (he : ∀ cs, typed P n el cs → ∃ x, cs = c x ∧ ok x) (h : typed P (n + 1) t cs) : ∃ l : List α, cs = [.lst 0 (l.map c)] ∧ l.length ≤ 2 ^ 63 - 1 ∧ ∀ x ∈ l, ok x := by
  obtain ⟨rows, rfl, hl, hr⟩ := typed_slice hu h
  obtain ⟨l, rfl⟩ := rows_map (c := fun x : {x : α // ok x} => c x.1) (rows := rows) (fun r hr' => by
    obtain ⟨x, rfl, hx⟩ := he r (hr r hr')
    exact ⟨⟨x, hx⟩, rfl⟩)
  refine ⟨l.map (·.1), by simp [Function.comp_def], by simpa [maxLen] using hl, fun x hx => ?_⟩
  obtain ⟨y, _, rfl⟩ := List.mem_map.1 hx
  exact y.2
theorem u8_min : IntKind.min .u8 = 0 := by decide
theorem u8_max : IntKind.max .u8 = 255 := by decide

structure DraftT (P : Program) (td tl ta tu : TypeId) : Prop where
  d : ∃ fs, P.underlying td = some (.struct fs) ∧ fs.toList.map (·.type) = [tu, tl]
  l : P.underlying tl = some (.slice ta)
  a : ∃ fs, P.underlying ta = some (.struct fs) ∧ fs.toList.map (·.type) = [tu, tu, tu]
  u : P.underlying tu = some (.int .u8)
theorem arc_typed {td tl ta tu : TypeId} (T : DraftT P td tl ta tu) {n : Nat} (cs : List PV) (h : typed P (n + 2) ta cs) : ∃ x : Arc, cs = x.c ∧ x.ok := by
  obtain ⟨fs, hu, hts⟩ := T.a
  obtain ⟨r0, q0, rfl, h0, r1, q1, rfl, h1, r2, q2, rfl, h2, rfl⟩ := typed_struct hu hts h
  obtain ⟨x, rfl, hx⟩ := typed_int T.u h0
  obtain ⟨y, rfl, hy⟩ := typed_int T.u h1
  obtain ⟨z, rfl, hz⟩ := typed_int T.u h2
  rw [u8_min, u8_max] at hx hy hz
  exact ⟨⟨x, y, z⟩, rfl, hx, hy, hz⟩
theorem draft_typed {td tl ta tu : TypeId} (T : DraftT P td tl ta tu) {n : Nat} (cs : List PV) (h : typed P (n + 4) td cs) : ∃ d : Draft, cs = [.int .u8 d.n, .lst 0 (d.arcs.map Arc.c)] ∧ d.ok := by
  obtain ⟨fs, hu, hts⟩ := T.d
  obtain ⟨r0, q0, rfl, h0, r1, q1, rfl, h1, rfl⟩ := typed_struct hu hts h
  obtain ⟨x, rfl, hx⟩ := typed_int T.u h0
  rw [u8_min, u8_max] at hx
  obtain ⟨l, rfl, hl, hok⟩ := slice_dec T.l (arc_typed T (n := n)) h1
  exact ⟨⟨x, l⟩, rfl, hx, hl, hok⟩
def draftArg {td tl ta tu : TypeId} (T : DraftT P td tl ta tu) : Arg P td Draft where
  pv d := .agg [.int .u8 d.n, .lst 0 (d.arcs.map Arc.c)]
  ok := Draft.ok
  dec cs h := by
    obtain ⟨d, rfl, hd⟩ := draft_typed (n := 8) T cs h
    obtain ⟨fs, hu, _⟩ := T.d
    exact ⟨d, hd, by simp only [argPV, isAgg_struct hu, if_true]⟩
structure ActT (P : Program) (tl ta ti tb : TypeId) : Prop where
  l : P.underlying tl = some (.slice ta)
  a : ∃ fs, P.underlying ta = some (.struct fs) ∧ fs.toList.map (·.type) = [tb, ti]
  i : P.underlying ti = some (.int .i64)
  b : P.underlying tb = some .bool
theorem act_typed {tl ta ti tb : TypeId} (T : ActT P tl ta ti tb) {n : Nat} (cs : List PV) (h : typed P (n + 2) ta cs) : ∃ x : Bool × Int, cs = actC x ∧ True := by
  obtain ⟨fs, hu, hts⟩ := T.a
  obtain ⟨r0, q0, rfl, h0, r1, q1, rfl, h1, rfl⟩ := typed_struct hu hts h
  obtain ⟨b, rfl⟩ := typed_bool T.b h0
  obtain ⟨x, rfl, _⟩ := typed_int T.i h1
  exact ⟨(b, x), rfl, trivial⟩
def actsArg {tl ta ti tb : TypeId} (T : ActT P tl ta ti tb) : Arg P tl (List (Bool × Int)) where
  pv l := .lst 0 (acts l)
  ok l := l.length ≤ 2 ^ 63 - 1
  dec cs h := by
    obtain ⟨l, rfl, hl, _⟩ := slice_dec T.l (act_typed T (n := 9)) h
    have : isAggT P tl = some false := by simp [isAggT, T.l]
    exact ⟨l, hl, by simp [argPV, this, acts]⟩
/-- A byte. -/
theorem u8_ok {x : Int} (h : IntKind.min .u8 ≤ x ∧ x ≤ IntKind.max .u8) : 0 ≤ x ∧ x ≤ 255 := by
  rwa [u8_min, u8_max] at h

end Go.Pv

/-
  The law of trimmed automata.
-/
namespace Go.Pv

@[go_sem] theorem r32e (t : Nat) (n s : Int) (l : List Edge) (hl : l.length ≤ 2000000000) : res A PrA 32 [.agg [.int .i64 n, .int .i64 s, .lst t (edgs l)]] = some (if (⟨n, s, l⟩ : Auto).err = 0 then [.agg [.int .i64 (⟨n, s, l⟩ : Auto).trim.states, .int .i64 0, .lst 0 (edgs (⟨n, s, l⟩ : Auto).trim.edges)], .int .i64 0] else [.agg [.int .i64 0, .int .i64 0, .lst 0 []], .int .i64 (⟨n, s, l⟩ : Auto).err]) := r32 t ⟨n, s, l⟩ hl
/-- The automaton of a draft from a start. -/
def Draft.from (d : Draft) (s : Int) : Auto := ⟨1 + d.n % 4, s % (1 + d.n % 4), d.auto.edges⟩
theorem Draft.from_good {d : Draft} (hd : d.ok) {s : Int} : (d.from s).Good := Draft.good hd ⟨Int.emod_nonneg s (by have := d.st; omega), Int.emod_lt_of_pos s (by have := d.st; omega)⟩

end Go.Pv

/-
  The law of runs.
-/
namespace Go.Pv

theorem Auto.start_at (a : Auto) : atL a.start a.order = 0 := by
  obtain ⟨r, hr⟩ := a.order_head
  rw [hr]
  simp [atL, atFrom]

end Go.Pv

/-
  Searches of the library; the errors of graphs.
-/
namespace Go.Pv

/-- The first place where something holds, or -1. -/
def idxP {α : Type} (p : α → Bool) (l : List α) : Int := match l.findIdx? p with
  | some k => k
  | none => -1
theorem idxP_pos {α : Type} {p : α → Bool} {l : List α} : decide (0 ≤ idxP p l) = l.any p := by
  unfold idxP
  cases h : l.findIdx? p with
  | none =>
    rw [List.findIdx?_eq_none_iff] at h
    have : l.any p = false := by rw [List.any_eq_false]; intro x hx; simp [h x hx]
    simp [this]
  | some k =>
    rw [List.findIdx?_eq_some_iff_getElem] at h
    obtain ⟨hk, hp, _⟩ := h
    have : l.any p = true := List.any_eq_true.2 ⟨_, List.getElem_mem hk, hp⟩
    simp [this]
theorem Found.idxP {α : Type} {l : List α} {p : α → Bool} {k : Nat} {x : α} (h : Found l p k x) : idxP p l = k := by
  unfold Pv.idxP
  rw [h.idx]
theorem Nowhere.idxP {α : Type} {l : List α} {p : α → Bool} (h : Nowhere l p) : idxP p l = -1 := by
  unfold Pv.idxP
  rw [h.idx]

/-- Pairs of numbers, each a row. -/
def prs (l : List (Int × Int)) : List (List PV) := l.map fun x => [.int .i64 x.1, .int .i64 x.2]
@[go_sem] theorem prs_length (l : List (Int × Int)) : (prs l).length = l.length := by simp [prs]
@[go_sem] theorem prs_nil : prs [] = [] := rfl
@[go_sem] theorem prs_get (l : List (Int × Int)) (i : Nat) : (prs l)[i]? = l[i]?.map fun x => [.int .i64 x.1, .int .i64 x.2] := by simp [prs]
@[go_sem] theorem prs_snoc (l : List (Int × Int)) (a b : Int) : prs l ++ [[.int .i64 a, .int .i64 b]] = prs (l ++ [(a, b)]) := by simp [prs]
/-- An edge that is out of range. -/
def badP (n : Int) (x : Int × Int) : Bool := decide (min x.1 x.2 < 0) || decide (n ≤ max x.1 x.2)
/-- The error of a graph. -/
def gErr (n : Int) (es : List (Int × Int)) : Int := if 2000 < n ∨ 40000 < es.length then 3 else if n < 0 ∨ es.any (badP n) = true then 1 else 0
/-- The error of a graph and some vertices. -/
def gErrL (n : Int) (es : List (Int × Int)) (l : List Int) : Int := if gErr n es ≠ 0 then gErr n es else if (l.any fun x => decide (x < 0) || decide (n ≤ x)) = true then 7 else 0
end Go.Pv

/-
  Parts of graphs: repeated numbers, reversed edges, vertices with a level.
-/
namespace Go.Pv

@[go_sem] theorem prs_made (n : Nat) (x y : Int) : sameRows n [.pv (.int .i64 x), .pv (.int .i64 y)] = .inl (prs (List.replicate n (x, y))) := by
  simp [sameRows, mapO, V.purec, PV.perm, prs]
@[go_sem] theorem prs_store {id row ver : Nat} {x y : Int} {l : List (Int × Int)} (h1 : row < l.length) : storeRow id row 0 [.pv (.int .i64 x), .pv (.int .i64 y)] ⟨ver, 2, .inl (prs l)⟩ = some { ar := some (id, ⟨ver, 2, .inl (prs (l.set row (x, y)))⟩) } := by
  rw [storeRow_inl (l := [.int .i64 x, .int .i64 y]) (by rw [prs_length]; exact h1) rfl (by simp) rfl]
  have : over row 0 [.int .i64 x, .int .i64 y] (prs l) = prs (l.set row (x, y)) := by
    unfold over prs
    rw [List.map_set]
    congr 1
    obtain ⟨e, he⟩ : ∃ e, l[row]? = some e := ⟨l[row], by simp [h1]⟩
    simp [he]
  rw [this]
@[go_sem] theorem prs_take (l : List (Int × Int)) (n : Nat) : (prs l).take n = prs (l.take n) := by simp [prs]

/-- The first k of a list, and then others. -/
def partTo {α β : Type} (f : α → β) (y : β) (l : List α) (k : Nat) : List β := (l.take k).map f ++ List.replicate (l.length - k) y
theorem partTo_len {α β : Type} (f : α → β) (y : β) (l : List α) {k : Nat} (h : k ≤ l.length) : (partTo f y l k).length = l.length := by simp [partTo]; omega
theorem partTo_zero {α β : Type} (f : α → β) (y : β) (l : List α) : partTo f y l 0 = List.replicate l.length y := by simp [partTo]
theorem partTo_all {α β : Type} (f : α → β) (y : β) (l : List α) : partTo f y l l.length = l.map f := by simp [partTo]
theorem partTo_set {α β : Type} {f : α → β} {y : β} {l : List α} {k : Nat} {x : α} (h : l[k]? = some x) : (partTo f y l k).set k (f x) = partTo f y l (k + 1) := by
  have hk := (List.getElem?_eq_some_iff.1 h).1
  unfold partTo
  rw [List.set_append_right _ _ (by simp; omega), List.take_add_one, h]
  obtain ⟨m, hm⟩ : ∃ m, l.length - k = m + 1 := ⟨l.length - k - 1, by omega⟩
  have : l.length - (k + 1) = m := by omega
  rw [hm, this]
  simp [Nat.min_eq_left (Nat.le_of_lt hk), List.replicate_succ]

def swapP (x : Int × Int) : Int × Int := (x.2, x.1)
/-- The places with numbers that are not negative, among the first k. -/
def thereTo (l : List Int) (k : Nat) : List Int := ((List.range k).filter fun (v : Nat) => decide (0 ≤ l.getD v (-1))).map Int.ofNat
theorem thereTo_succ (l : List Int) (k : Nat) : thereTo l (k + 1) = if 0 ≤ l.getD k (-1) then thereTo l k ++ [(k : Int)] else thereTo l k := by
  unfold thereTo
  rw [List.range_succ, List.filter_append, List.map_append]
  by_cases h : 0 ≤ l.getD k (-1)
  · rw [if_pos h]
    have h' : 0 ≤ l[k]?.getD (-1) := by simpa using h
    simp [h']
  · rw [if_neg h]
    have h' : ¬ 0 ≤ l[k]?.getD (-1) := by simpa using h
    simp [h']
theorem thereTo_len (l : List Int) (k : Nat) : (thereTo l k).length ≤ k := by
  unfold thereTo
  rw [List.length_map]
  have := List.length_filter_le (fun (v : Nat) => decide (0 ≤ l.getD v (-1))) (List.range k)
  simpa using this
theorem thereTo_mem {l : List Int} {k : Nat} {x : Int} : x ∈ thereTo l k ↔ 0 ≤ x ∧ x < k ∧ 0 ≤ l.getD x.toNat (-1) := by
  unfold thereTo
  rw [List.mem_map]
  constructor
  · rintro ⟨v, hv, rfl⟩
    obtain ⟨h1, h2⟩ := List.mem_filter.1 hv
    have := List.mem_range.1 h1
    simp only [decide_eq_true_eq] at h2
    exact ⟨by simp, by simp; omega, h2⟩
  · rintro ⟨h1, h2, h3⟩
    exact ⟨x.toNat, List.mem_filter.2 ⟨List.mem_range.2 (by omega), by simpa using h3⟩, by simp; omega⟩
def there (l : List Int) : List Int := thereTo l l.length
end Go.Pv

/-
  Lists of lists that a call owns.
-/
namespace Go.Pv

/-- A value is a list of numbers, at home in these arrays (the first of which lies at 1). -/
def OwnL (ars : List Arr) (x : V) (l : List Int) : Prop :=
  ((x = .tl [] ∨ x = .pv (.lst 0 [])) ∧ l = []) ∨ ∃ id ver, x = .own (id + 1) ver 0 l.length ∧ l ≠ [] ∧ ars[id]? = some ⟨ver, 1, .inl (ints l)⟩
/-- Such values, none of them at home where another one is. -/
structure Lists (n : Nat) (s : List (List Int)) (xs : List V) (ars : List Arr) : Prop where
  xl : xs.length = n
  sl : s.length = n
  own : ∀ (v : Nat) (x : V) (l : List Int), xs[v]? = some x → s[v]? = some l → OwnL ars x l
  dis : ∀ (v w : Nat) (x y : V) (i : Nat), xs[v]? = some x → xs[w]? = some y → ownId x = some i → ownId y = some i → v = w
def rowsV (xs : List V) : List (List V) := xs.map fun x => [x]
@[go_sem] theorem rowsV_len (xs : List V) : (rowsV xs).length = xs.length := by simp [rowsV]
@[go_sem] theorem rowsV_get (xs : List V) (i : Nat) : (rowsV xs)[i]? = xs[i]?.map fun x => [x] := by simp [rowsV]
theorem rowsV_set (xs : List V) (i : Nat) (x : V) : (rowsV xs).set i [x] = rowsV (xs.set i x) := by simp [rowsV, List.map_set]
theorem rowsV_store {id row ver : Nat} {xs : List V} {y : V} (h1 : row < xs.length) (hc : y.calm = true) : storeRow id row 0 [y] ⟨ver, 1, .inr (rowsV xs)⟩ = some { ar := some (id, ⟨ver, 1, .inr (rowsV (xs.set row y))⟩) } := by
  have h2 : row < (⟨ver, 1, .inr (rowsV xs)⟩ : Arr).size := by simp [Arr.size, rowsV, h1]
  obtain ⟨z, hz⟩ : ∃ z, xs[row]? = some z := ⟨xs[row], by simp [h1]⟩
  have h3 : (rowsV xs).getD row [] = [z] := by simp [rowsV, hz]
  simp [storeRow, h2, hc, setBody, h3, ← rowsV_set]
  simp [rowsV, hz]
theorem rowsV_made (n : Nat) : sameRows n [.tl []] = .inr (rowsV (List.replicate n (.tl []))) := by
  simp [sameRows, mapO, V.purec, rowsV]
attribute [go_sem] rowsV_made

theorem rep_get {α : Type} {n i : Nat} {a x : α} (h : (List.replicate n a)[i]? = some x) : x = a := List.eq_of_mem_replicate (List.mem_of_getElem? h)
theorem Lists.start (n : Nat) : Lists n (List.replicate n []) (List.replicate n (.tl [])) [] where
  xl := by simp
  sl := by simp
  own v x l hx hl := .inl ⟨.inl (rep_get hx), rep_get hl⟩
  dis v w x y i hx _ hi _ := by
    rw [rep_get hx] at hi
    simp [ownId] at hi
theorem OwnL.id_lt {ars : List Arr} {x : V} {l : List Int} (h : OwnL ars x l) {i : Nat} (hi : ownId x = some i) : ∃ id ver, i = id + 1 ∧ x = .own (id + 1) ver 0 l.length ∧ ars[id]? = some ⟨ver, 1, .inl (ints l)⟩ := by
  rcases h with ⟨rfl | rfl, _⟩ | ⟨id, ver, rfl, _, h⟩
  · simp [ownId] at hi
  · simp [ownId] at hi
  · simp [ownId] at hi
    exact ⟨id, ver, hi.symm, rfl, h⟩
/-- A value at home elsewhere stays what it is. -/
theorem OwnL.set {ars : List Arr} {x : V} {l : List Int} (h : OwnL ars x l) {id : Nat} {a : Arr} (hne : ownId x ≠ some (id + 1)) : OwnL (ars.set id a) x l := by
  rcases h with h | ⟨j, ver, rfl, h1, h2⟩
  · exact .inl h
  · refine .inr ⟨j, ver, rfl, h1, ?_⟩
    rw [List.getElem?_set_ne]
    · exact h2
    · intro e
      exact hne (by rw [e]; rfl)
theorem OwnL.push {ars : List Arr} {x : V} {l : List Int} (h : OwnL ars x l) (a : List Arr) : OwnL (ars ++ a) x l := by
  rcases h with h | ⟨j, ver, rfl, h1, h2⟩
  · exact .inl h
  · exact .inr ⟨j, ver, rfl, h1, by rw [List.getElem?_append_left (List.getElem?_eq_some_iff.1 h2).1]; exact h2⟩

/-- One value replaced: by one whose home is its own. -/
theorem Lists.upd {n : Nat} {s : List (List Int)} {xs : List V} {ars ars' : List Arr} (h : Lists n s xs ars) {v : Nat} {x' : V} {l' : List Int} (hv : v < n) (hx : OwnL ars' x' l')
    (hk : ∀ (w : Nat) (y : V) (l : List Int), w ≠ v → xs[w]? = some y → s[w]? = some l → OwnL ars' y l) (hd : ∀ (w : Nat) (y : V) (i : Nat), w ≠ v → xs[w]? = some y → ownId y = some i → ownId x' ≠ some i) : Lists n (s.set v l') (xs.set v x') ars' where
  xl := by rw [List.length_set]; exact h.xl
  sl := by rw [List.length_set]; exact h.sl
  own w y l hy hl := by
    by_cases e : w = v
    · subst e
      rw [List.getElem?_set_self (by rw [h.xl]; exact hv)] at hy
      rw [List.getElem?_set_self (by rw [h.sl]; exact hv)] at hl
      cases hy
      cases hl
      exact hx
    · rw [List.getElem?_set_ne (Ne.symm e)] at hy hl
      exact hk w y l e hy hl
  dis w w' y y' i hy hy' hi hi' := by
    by_cases e : w = v
    · subst e
      rw [List.getElem?_set_self (by rw [h.xl]; exact hv)] at hy
      cases hy
      by_cases e' : w' = w
      · exact e'.symm
      · rw [List.getElem?_set_ne (Ne.symm e')] at hy'
        exact (hd w' y' i e' hy' hi' hi).elim
    · rw [List.getElem?_set_ne (Ne.symm e)] at hy
      by_cases e' : w' = v
      · subst e'
        rw [List.getElem?_set_self (by rw [h.xl]; exact hv)] at hy'
        cases hy'
        exact (hd w y i e hy hi hi').elim
      · rw [List.getElem?_set_ne (Ne.symm e')] at hy'
        exact h.dis w w' y y' i hy hy' hi hi'
theorem Lists.get {n : Nat} {s : List (List Int)} {xs : List V} {ars : List Arr} (h : Lists n s xs ars) {v : Nat} (hv : v < n) : ∃ x l, xs[v]? = some x ∧ s[v]? = some l ∧ OwnL ars x l := by
  have h1 : v < xs.length := by rw [h.xl]; exact hv
  have h2 : v < s.length := by rw [h.sl]; exact hv
  exact ⟨xs[v], s[v], by simp, by simp, h.own v _ _ (by simp) (by simp)⟩
theorem Lists.lt {n : Nat} {s : List (List Int)} {xs : List V} {ars : List Arr} (h : Lists n s xs ars) {v i : Nat} {x : V} (hx : xs[v]? = some x) (hi : ownId x = some i) : i ≤ ars.length := by
  have hv : v < n := by rw [← h.xl]; exact (List.getElem?_eq_some_iff.1 hx).1
  obtain ⟨x', l, h1, h2, h3⟩ := h.get hv
  rw [hx] at h1
  cases h1
  obtain ⟨id, ver, rfl, _, h4⟩ := h3.id_lt hi
  exact (List.getElem?_eq_some_iff.1 h4).1
/-- A list that was not there begins. -/
theorem Lists.first {n : Nat} {s : List (List Int)} {xs : List V} {ars : List Arr} (h : Lists n s xs ars) {v : Nat} {l : List Int} (hv : v < n) (hl : l ≠ []) : Lists n (s.set v l) (xs.set v (.own (ars.length + 1) 0 0 l.length)) (ars ++ [⟨0, 1, .inl (ints l)⟩]) :=
  h.upd hv (.inr ⟨ars.length, 0, rfl, hl, by simp⟩) (fun w y l _ hy hl => (h.own w y l hy hl).push _) fun w y i _ hy hi e => by
    have := h.lt hy hi
    simp only [ownId, Option.some.injEq] at e
    omega
/-- A list is another one, in the same place. -/
theorem Lists.same {n : Nat} {s : List (List Int)} {xs : List V} {ars : List Arr} (h : Lists n s xs ars) {v id ver ver' m : Nat} {l : List Int} (hv : v < n) (hx : xs[v]? = some (.own (id + 1) ver 0 m)) (hl : l ≠ []) : Lists n (s.set v l) (xs.set v (.own (id + 1) ver' 0 l.length)) (ars.set id ⟨ver', 1, .inl (ints l)⟩) := by
  have hlt := h.lt hx rfl
  refine h.upd hv (.inr ⟨id, ver', rfl, hl, by rw [List.getElem?_set_self (by omega)]⟩) (fun w y l hw hy hl => (h.own w y l hy hl).set fun e => hw (h.dis w v y _ (id + 1) hy hx e rfl)) fun w y i hw hy hi e => ?_
  simp only [ownId, Option.some.injEq] at e
  subst e
  exact hw (h.dis w v y _ (id + 1) hy hx hi rfl)
/-- A list is given away, and another one comes in its place. -/
theorem Lists.moved {n : Nat} {s : List (List Int)} {xs : List V} {ars : List Arr} (h : Lists n s xs ars) {v id ver m : Nat} {a : Arr} {l : List Int} (hv : v < n) (hx : xs[v]? = some (.own (id + 1) ver 0 m)) (hl : l ≠ []) : Lists n (s.set v l) (xs.set v (.own (ars.length + 1) 0 0 l.length)) (ars.set id a ++ [⟨0, 1, .inl (ints l)⟩]) := by
  refine h.upd hv (.inr ⟨ars.length, 0, rfl, hl, by rw [List.getElem?_append_right (by simp)]; simp⟩) (fun w y l hw hy hl => ((h.own w y l hy hl).set fun e => hw (h.dis w v y _ (id + 1) hy hx e rfl)).push _) fun w y i _ hy hi e => ?_
  have := h.lt hy hi
  simp only [ownId, Option.some.injEq] at e
  omega
/-- Nothing stays nothing. -/
theorem Lists.none {n : Nat} {s : List (List Int)} {xs : List V} {ars : List Arr} (h : Lists n s xs ars) {v : Nat} (hv : v < n) {x' : V} (hx : x' = .tl [] ∨ x' = .pv (.lst 0 [])) : Lists n (s.set v []) (xs.set v x') ars :=
  h.upd hv (.inl ⟨hx, rfl⟩) (fun w y l _ hy hl => h.own w y l hy hl) fun w y i _ _ _ e => by rcases hx with rfl | rfl <;> simp [ownId] at e

/-- Lists of numbers, each a row. -/
def lls (s : List (List Int)) : List (List PV) := s.map fun l => [.lst 0 (ints l)]
@[go_sem] theorem lls_len (s : List (List Int)) : (lls s).length = s.length := by simp [lls]
@[go_sem] theorem lls_get (s : List (List Int)) (i : Nat) : (lls s)[i]? = s[i]?.map fun l => [.lst 0 (ints l)] := by simp [lls]
theorem OwnL.keep {a0 : Arr} {ars : List Arr} {x : V} {l : List Int} (h : OwnL ars x l) (d : Nat) : keepc ⟨[], a0 :: ars, []⟩ (d + 1) x = some (.lst 0 (ints l)) := by
  rcases h with ⟨rfl | rfl, rfl⟩ | ⟨id, ver, rfl, _, h2⟩
  · rfl
  · rfl
  · have e1 : (ints l).length = l.length := ints_length l
    simp [keepc_own, ownArr, h2, keepRows, cutRows, List.take_of_length_le (Nat.le_of_eq e1)]
theorem Lists.keep {n : Nat} {s : List (List Int)} {xs : List V} {a0 : Arr} {ars : List Arr} (h : Lists n s xs ars) (d : Nat) : mapO (mapO (keepc ⟨[], a0 :: ars, []⟩ (d + 1))) (rowsV xs) = some (lls s) := by
  have key : ∀ (xs : List V) (s : List (List Int)), xs.length = s.length → (∀ (v : Nat) (x : V) (l : List Int), xs[v]? = some x → s[v]? = some l → OwnL ars x l) → mapO (mapO (keepc ⟨[], a0 :: ars, []⟩ (d + 1))) (rowsV xs) = some (lls s) := by
    intro xs
    induction xs with
    | nil =>
      intro s hl _
      have : s = [] := List.eq_nil_of_length_eq_zero hl.symm
      subst this
      rfl
    | cons x xs ih =>
      intro s hl ho
      match s, hl with
      | l :: s, hl =>
        have h1 := (ho 0 x l rfl rfl).keep (a0 := a0) d
        have h2 := ih s (by simpa using hl) fun v y m hy hm => ho (v + 1) y m (by simpa using hy) (by simpa using hm)
        show mapO (mapO (keepc ⟨[], a0 :: ars, []⟩ (d + 1))) ([x] :: rowsV xs) = some ([.lst 0 (ints l)] :: lls s)
        simp only [mapO, h1, h2]
  exact key xs s (h.xl.trans h.sl.symm) h.own

end Go.Pv

/-
  Successors.
-/
namespace Go.Pv

@[go_sem] theorem rowsV_store_own {id row ver a b c d : Nat} {xs : List V} (h1 : row < xs.length) : storeRow id row 0 [.own a b c d] ⟨ver, 1, .inr (rowsV xs)⟩ = some { ar := some (id, ⟨ver, 1, .inr (rowsV (xs.set row (.own a b c d)))⟩) } := rowsV_store h1 rfl
@[go_sem] theorem rowsV_store_pv {id row ver : Nat} {xs : List V} (h1 : row < xs.length) : storeRow id row 0 [.pv (.lst 0 [])] ⟨ver, 1, .inr (rowsV xs)⟩ = some { ar := some (id, ⟨ver, 1, .inr (rowsV (xs.set row (.pv (.lst 0 []))))⟩) } := rowsV_store h1 rfl
theorem not_set {xs : List V} {x y : V} {i : Nat} (h : x ∉ xs) (hy : x ≠ y) : x ∉ xs.set i y := fun hm => by
  rcases List.mem_or_eq_of_mem_set hm with hm | hm
  · exact h hm
  · exact hy hm
/-- Where the edges from a vertex lead. -/
def outP (es : List (Int × Int)) (v : Int) : List Int := (es.filter fun e => e.1 == v).map (·.2)
def succTo (n : Nat) (es : List (Int × Int)) (k : Nat) : List (List Int) := (List.range n).map fun (v : Nat) => outP (es.take k) v
theorem succTo_zero (n : Nat) (es : List (Int × Int)) : succTo n es 0 = List.replicate n [] := by
  apply List.ext_getElem?
  intro i
  unfold succTo outP
  rcases Nat.lt_or_ge i n with hi | hi
  · simp [hi]
  · simp [hi]
theorem succTo_get {n : Nat} {es : List (Int × Int)} {k v : Nat} (h : v < n) : (succTo n es k)[v]? = some (outP (es.take k) v) := by simp [succTo, h]
theorem succTo_succ {n : Nat} {es : List (Int × Int)} {k : Nat} {e : Int × Int} (he : es[k]? = some e) (h : 0 ≤ e.1 ∧ e.1 < n) : (succTo n es k).set e.1.toNat (outP (es.take k) e.1 ++ [e.2]) = succTo n es (k + 1) := by
  have ht : es.take (k + 1) = es.take k ++ [e] := by rw [List.take_add_one, he]; rfl
  apply List.ext_getElem?
  intro i
  rcases Nat.lt_or_ge i n with hi | hi
  · rw [succTo_get hi, ht]
    unfold outP
    rw [List.filter_append, List.map_append]
    by_cases hx : e.1.toNat = i
    · have hx' : e.1 = (i : Int) := by omega
      rw [hx, List.getElem?_set_self (by simp [succTo, hi])]
      simp [hx']
    · have hx' : ¬ e.1 = (i : Int) := by omega
      rw [List.getElem?_set_ne hx, succTo_get hi]
      simp [hx', outP]
  · rw [List.getElem?_eq_none (by simp [succTo, hi]), List.getElem?_eq_none (by simp [succTo, hi])]
theorem outP_len (es : List (Int × Int)) (v : Int) : (outP es v).length ≤ es.length := by
  unfold outP
  rw [List.length_map]
  exact List.length_filter_le _ _
/-- The successors of each vertex, ascending. -/
def succs (n : Nat) (es : List (Int × Int)) : List (List Int) := (List.range n).map fun (v : Nat) => uniqs (outP es v)
theorem succs_map (n : Nat) (es : List (Int × Int)) : (succTo n es es.length).map uniqs = succs n es := by
  unfold succTo succs
  rw [List.take_length, List.map_map]
  rfl
theorem uniqs_ne {l : List Int} (h : l ≠ []) : uniqs l ≠ [] := by
  obtain ⟨x, r, rfl⟩ := List.exists_cons_of_ne_nil h
  intro e
  have : x ∈ uniqs (x :: r) := uniqs_mem.2 (by simp)
  rw [e] at this
  cases this
/-- Edges of a graph with n vertices. -/
def inG (n : Nat) (es : List (Int × Int)) : Prop := ∀ e ∈ es, (0 ≤ e.1 ∧ e.1 < n) ∧ (0 ≤ e.2 ∧ e.2 < n)

end Go.Pv

/-
  Plain laws: levels.
-/
namespace Go.Pv

/-- A vertex is given a level, unless it has one. -/
def lvIn (d : Int) (s : List Int × List Int) (x : Int) : List Int × List Int := if s.1.getD x.toNat (-1) < 0 then (s.1.set x.toNat d, s.2 ++ [x]) else s
def lvRun (nx : Int → List Int) : Nat → Nat → List Int × List Int → List Int × List Int
  | 0, _, s => s
  | n + 1, i, s => match s.2[i]? with
    | none => s
    | some v => lvRun nx n (i + 1) ((nx v).foldl (lvIn (s.1.getD v.toNat (-1) + 1)) s)
/-- The levels and the vertices that have one. -/
structure LvOk (n : Nat) (s : List Int × List Int) : Prop where
  len : s.1.length = n
  nd : s.2.Nodup
  mem : ∀ x, x ∈ s.2 ↔ 0 ≤ x ∧ x < n ∧ 0 ≤ s.1.getD x.toNat (-1)
  top : ∀ v : Nat, s.1.getD v (-1) ≤ s.2.length
theorem getD_set' {l : List Int} {i j : Nat} {x y : Int} (hi : i < l.length) : (l.set i x).getD j y = if i = j then x else l.getD j y := by
  simp only [List.getD_eq_getElem?_getD, List.getElem?_set]
  by_cases h : i = j
  · subst h
    simp [hi]
  · simp [h]
theorem LvOk.start (n : Nat) : LvOk n (List.replicate n (-1), []) where
  len := by simp
  nd := by simp
  mem x := by
    simp only [List.not_mem_nil, false_iff, List.getD_eq_getElem?_getD, List.getElem?_replicate]
    intro ⟨_, _, h⟩
    split at h <;> simp at h
  top v := by
    simp only [List.getD_eq_getElem?_getD, List.getElem?_replicate]
    split <;> simp
theorem LvOk.step {n : Nat} {s : List Int × List Int} (h : LvOk n s) {x d : Int} (hx : 0 ≤ x ∧ x < n) (hd : 0 ≤ d ∧ d ≤ s.2.length + 1) : LvOk n (lvIn d s x) := by
  unfold lvIn
  split
  · rename_i hc
    have hxl : x.toNat < s.1.length := by rw [h.len]; omega
    have hxn : x ∉ s.2 := fun hm => by
      have := (h.mem x).1 hm
      omega
    refine ⟨by simpa using h.len, ?_, fun y => ?_, fun v => ?_⟩
    · rw [List.nodup_append]
      exact ⟨h.nd, by simp, fun a ha b hb => by
        rw [List.mem_singleton] at hb
        subst hb
        exact fun e => hxn (e ▸ ha)⟩
    · rw [List.mem_append, List.mem_singleton, h.mem, getD_set' hxl]
      by_cases e : y = x
      · subst e
        simp
        omega
      · simp only [e, or_false]
        by_cases hy : 0 ≤ y
        · rw [if_neg (by omega)]
        · exact ⟨fun h' => absurd h'.1 hy, fun h' => absurd h'.1 hy⟩
    · dsimp only
      rw [getD_set' hxl]
      have := h.top v
      rw [List.length_append]
      simp only [List.length_cons, List.length_nil]
      split <;> omega
  · exact h
theorem LvOk.bound {n : Nat} {s : List Int × List Int} (h : LvOk n s) : s.2.length ≤ n := nodup_bound h.nd fun x hx => by
  have := (h.mem x).1 hx
  omega
/-- The second part is what a search finds. -/
theorem lvIn_add {n : Nat} {s : List Int × List Int} (h : LvOk n s) {x d : Int} (hx : 0 ≤ x ∧ x < n) : (lvIn d s x).2 = addN s.2 x := by
  unfold lvIn addN
  by_cases hc : s.1.getD x.toNat (-1) < 0
  · rw [if_pos hc, if_neg (fun hm => by have := (h.mem x).1 hm; omega)]
  · rw [if_neg hc, if_pos ((h.mem x).2 ⟨hx.1, hx.2, by omega⟩)]
theorem lvIn_len {d : Int} {s : List Int × List Int} {x : Int} : s.2.length ≤ (lvIn d s x).2.length := by
  unfold lvIn
  split <;> simp
theorem lv_fold {n : Nat} {d : Int} : ∀ {l : List Int} {s : List Int × List Int}, LvOk n s → (∀ x ∈ l, 0 ≤ x ∧ x < n) → 0 ≤ d ∧ d ≤ s.2.length + 1 → LvOk n (l.foldl (lvIn d) s) ∧ (l.foldl (lvIn d) s).2 = addL s.2 l
  | [], s, h, _, _ => ⟨h, rfl⟩
  | x :: l, s, h, hl, hd => by
    have h1 := h.step (hl x (by simp)) hd
    have hlen := lvIn_len (d := d) (s := s) (x := x)
    obtain ⟨g1, g2⟩ := lv_fold (d := d) (l := l) h1 (fun y hy => hl y (List.mem_cons_of_mem _ hy)) ⟨hd.1, by omega⟩
    exact ⟨g1, by rw [List.foldl_cons, g2, lvIn_add h (hl x (by simp))]; rfl⟩
theorem lvRun_bfs {nx : Int → List Int} {n : Nat} (hn : ∀ v x, x ∈ nx v → 0 ≤ x ∧ x < n) : ∀ (m i : Nat) {s : List Int × List Int}, LvOk n s → LvOk n (lvRun nx m i s) ∧ (lvRun nx m i s).2 = bfs nx m i s.2
  | 0, _, s, h => ⟨h, rfl⟩
  | m + 1, i, s, h => by
    unfold lvRun bfs
    cases hv : s.2[i]? with
    | none => exact ⟨h, rfl⟩
    | some v =>
      have hm := (h.mem v).1 (List.mem_of_getElem? hv)
      have ht := h.top v.toNat
      obtain ⟨g1, g2⟩ := lv_fold (d := s.1.getD v.toNat (-1) + 1) h (fun x hx => hn v x hx) ⟨by omega, by omega⟩
      obtain ⟨f1, f2⟩ := lvRun_bfs hn m (i + 1) g1
      exact ⟨f1, by dsimp only; rw [f2, g2]⟩
/-- The levels from some vertices. -/
def levels (nx : Int → List Int) (n : Nat) (fr : List Int) : List Int := (lvRun nx n 0 (fr.foldl (lvIn 0) (List.replicate n (-1), []))).1
/-- What is reached from one of several. -/
theorem bfs_rchs {nx : Int → List Int} {n : Nat} (hn : ∀ v x, x ∈ nx v → 0 ≤ x ∧ x < n) {o : List Int} (hd : o.Nodup) (ho : ∀ x ∈ o, 0 ≤ x ∧ x < n) {v : Int} : v ∈ bfs nx n 0 o ↔ ∃ s ∈ o, Rch nx s v := by
  have hP : ∀ v, (0 ≤ v ∧ v < (n : Int)) → ∀ x ∈ nx v, 0 ≤ x ∧ x < (n : Int) := fun v _ x hx => hn v x hx
  have hN : ∀ q : List Int, q.Nodup → (∀ v ∈ q, 0 ≤ v ∧ v < (n : Int)) → q.length ≤ n := fun q h1 h2 => nodup_bound h1 h2
  constructor
  · exact bfs_all (P := fun v => ∃ s ∈ o, Rch nx s v) (fun v ⟨s, hs, h⟩ x hx => ⟨s, hs, .step h hx⟩) n 0 (fun v hv => ⟨v, hv, .refl⟩) v
  · have hc := bfs_done hP hN n 0 (o := o) (by omega) hd ho (fun j v hj => absurd hj (Nat.not_lt_zero _))
    rintro ⟨s, hs, h⟩
    induction h with
    | refl => exact (bfs_pre n 0 o).subset hs
    | step _ hx ih => exact hc _ ih _ hx
/-- Who has a level. -/
theorem levels_iff {nx : Int → List Int} {n : Nat} {fr : List Int} (hn : ∀ v x, x ∈ nx v → 0 ≤ x ∧ x < n) (hf : ∀ x ∈ fr, 0 ≤ x ∧ x < n) {v : Int} (hv : 0 ≤ v ∧ v < n) : 0 ≤ (levels nx n fr).getD v.toNat (-1) ↔ ∃ s ∈ fr, Rch nx s v := by
  obtain ⟨g1, g2⟩ := lv_fold (d := 0) (LvOk.start n) hf ⟨by omega, by omega⟩
  obtain ⟨f1, f2⟩ := lvRun_bfs hn n 0 g1
  have h1 := f1.mem v
  have : v ∈ (lvRun nx n 0 (fr.foldl (lvIn 0) (List.replicate n (-1), []))).2 ↔ 0 ≤ (levels nx n fr).getD v.toNat (-1) := by
    rw [h1]
    exact ⟨fun h => h.2.2, fun h => ⟨hv.1, hv.2, h⟩⟩
  have hd : (addL [] fr).Nodup := addL_nodup (by simp)
  rw [← this, f2, g2, bfs_rchs hn hd (fun x hx => hf x (by
    rcases addL_mem.1 hx with h | h
    · cases h
    · exact h))]
  constructor
  · rintro ⟨s, hs, h⟩
    rcases addL_mem.1 hs with h' | h'
    · cases h'
    · exact ⟨s, h', h⟩
  · rintro ⟨s, hs, h⟩
    exact ⟨s, addL_mem.2 (.inr hs), h⟩
theorem levels_len {nx : Int → List Int} {n : Nat} {fr : List Int} (hn : ∀ v x, x ∈ nx v → 0 ≤ x ∧ x < n) (hf : ∀ x ∈ fr, 0 ≤ x ∧ x < n) : (levels nx n fr).length = n := by
  obtain ⟨g1, _⟩ := lv_fold (d := 0) (LvOk.start n) hf ⟨by omega, by omega⟩
  exact (lvRun_bfs hn n 0 g1).1.len

end Go.Pv

/-
  Levels; vertices from which some can be reached.
-/
namespace Go.Pv

/-- The successors of a vertex. -/
def nxt (s : List (List Int)) (v : Int) : List Int := s.getD v.toNat []

end Go.Pv

/-
  Vertices from which some can be reached; proper automata.
-/
namespace Go.Pv

theorem inG_of {n : Nat} {es : List (Int × Int)} (h : es.any (badP n) = false) : inG n es := fun e he => by
  rw [List.any_eq_false] at h
  have := h e he
  simp only [badP, Bool.or_eq_true, decide_eq_true_eq, not_or] at this
  omega
theorem gErr_zero {n : Int} {es : List (Int × Int)} (h : gErr n es = 0) : 0 ≤ n ∧ n ≤ 2000 ∧ es.length ≤ 40000 ∧ inG n.toNat es := by
  unfold gErr at h
  split at h
  · cases h
  · split at h
    · cases h
    · rename_i h1 h2
      have h3 : 0 ≤ n := by omega
      refine ⟨h3, by omega, by omega, inG_of ?_⟩
      rw [show ((n.toNat : Nat) : Int) = n by omega]
      cases hb : es.any (badP n) with
      | false => rfl
      | true => exact (h2 (.inr hb)).elim
theorem gErrL_zero {n : Int} {es : List (Int × Int)} {l : List Int} (h : gErrL n es l = 0) : gErr n es = 0 ∧ ∀ x ∈ l, 0 ≤ x ∧ x < n := by
  unfold gErrL at h
  split at h
  · rename_i h1
    exact (h1 h).elim
  · split at h
    · cases h
    · rename_i h1 h2
      refine ⟨by omega, fun x hx => ?_⟩
      have h2' : (l.any fun x => decide (x < 0) || decide (n ≤ x)) = false := by simpa using h2
      rw [List.any_eq_false] at h2'
      have := h2' x hx
      simp only [Bool.or_eq_true, decide_eq_true_eq, not_or] at this
      omega
theorem inG_swap {n : Nat} {es : List (Int × Int)} (h : inG n es) : inG n (es.map swapP) := fun e he => by
  obtain ⟨x, hx, rfl⟩ := List.mem_map.1 he
  have := h x hx
  exact ⟨this.2, this.1⟩
theorem succs_len (n : Nat) (es : List (Int × Int)) : (succs n es).length = n := by simp [succs]
theorem outP_mem {es : List (Int × Int)} {v x : Int} : x ∈ outP es v ↔ (v, x) ∈ es := by
  unfold outP
  rw [List.mem_map]
  constructor
  · rintro ⟨e, he, rfl⟩
    obtain ⟨h1, h2⟩ := List.mem_filter.1 he
    simp only [beq_iff_eq] at h2
    rw [← h2]
    exact h1
  · exact fun h => ⟨_, List.mem_filter.2 ⟨h, by simp⟩, rfl⟩
theorem succs_ok {n : Nat} {es : List (Int × Int)} (h : inG n es) (hl : es.length ≤ 100000) : ∀ l ∈ succs n es, l.length ≤ 100000 ∧ ∀ x ∈ l, 0 ≤ x ∧ x < (n : Int) := fun l hl' => by
  obtain ⟨v, _, rfl⟩ := List.mem_map.1 hl'
  have h1 := uniqs_len (outP es v)
  have h2 := outP_len es v
  exact ⟨by omega, fun x hx => (h _ (outP_mem.1 (uniqs_mem.1 hx))).2⟩
theorem nxt_succs {n : Nat} {es : List (Int × Int)} (h : inG n es) {v x : Int} (hv : 0 ≤ v) : x ∈ nxt (succs n es) v ↔ (v, x) ∈ es := by
  unfold nxt
  rcases Nat.lt_or_ge v.toNat n with hn | hn
  · have : (succs n es)[v.toNat]? = some (uniqs (outP es v)) := by
      unfold succs
      rw [List.getElem?_map, List.getElem?_range hn]
      simp only [Option.map_some]
      rw [show ((v.toNat : Nat) : Int) = v by omega]
    simp only [List.getD_eq_getElem?_getD, this, Option.getD_some]
    rw [uniqs_mem, outP_mem]
  · have : (succs n es)[v.toNat]? = none := List.getElem?_eq_none (by rw [succs_len]; exact hn)
    simp only [List.getD_eq_getElem?_getD, this, Option.getD_none, List.not_mem_nil, false_iff]
    intro hm
    have := (h _ hm).1
    omega
theorem nxt_in {n : Nat} {s : List (List Int)} (hr : ∀ l ∈ s, l.length ≤ 100000 ∧ ∀ x ∈ l, 0 ≤ x ∧ x < (n : Int)) : ∀ v x, x ∈ nxt s v → 0 ≤ x ∧ x < (n : Int) := fun v x hx => by
  unfold nxt at hx
  cases hg : s[v.toNat]? with
  | none => simp [hg] at hx
  | some l =>
    simp only [List.getD_eq_getElem?_getD, hg, Option.getD_some] at hx
    exact (hr l (List.mem_of_getElem? hg)).2 x hx

/-- Backward -/
def backward (n : Nat) (es : List (Int × Int)) (to : List Int) : List Int := there (levels (nxt (succs n (es.map swapP))) n to)
theorem there_len (l : List Int) : (there l).length ≤ l.length := thereTo_len l l.length
def edgeP (e : Edge) : Int × Int := (e.fr, e.to)
theorem ends_mem {es : List Edge} {w : Int} : ∀ {k : Nat}, w ∈ endsTo es k ↔ 0 ≤ w ∧ w < k ∧ isEnd w es = true
  | 0 => by simp [endsTo]; omega
  | k + 1 => by
    unfold endsTo
    by_cases h : isEnd k es = true
    · rw [if_pos h, List.mem_append, List.mem_singleton, ends_mem]
      constructor
      · rintro (⟨a, b, c⟩ | rfl)
        · exact ⟨a, by omega, c⟩
        · exact ⟨by omega, by omega, h⟩
      · rintro ⟨a, b, c⟩
        by_cases e : w = k
        · exact .inr e
        · exact .inl ⟨a, by omega, c⟩
    · rw [if_neg h, ends_mem]
      constructor
      · rintro ⟨a, b, c⟩
        exact ⟨a, by omega, c⟩
      · rintro ⟨a, b, c⟩
        refine ⟨a, ?_, c⟩
        rcases Int.lt_or_eq_of_le (show w ≤ k by omega) with h' | h'
        · exact h'
        · rw [h'] at c
          exact (h c).elim
theorem Rch.rev {α : Type} {nx nx' : α → List α} (h : ∀ v x, x ∈ nx v → v ∈ nx' x) {s v : α} (hr : Rch nx s v) : Rch nx' v s := by
  induction hr with
  | refl => exact .refl
  | step _ hx ih => exact Rch.head (h _ _ hx) ih
theorem Rch.all {α : Type} {nx : α → List α} {P : α → Prop} (h : ∀ v, P v → ∀ x ∈ nx v, P x) {s v : α} (hs : P s) (hr : Rch nx s v) : P v := by
  induction hr with
  | refl => exact hs
  | step _ hx ih => exact h _ ih _ hx
theorem Rch.mono {α : Type} {nx nx' : α → List α} {P : α → Prop} (hP : ∀ v, P v → ∀ x ∈ nx v, P x) (h : ∀ v x, P v → x ∈ nx v → x ∈ nx' v) {s v : α} (hs : P s) (hr : Rch nx s v) : Rch nx' s v := by
  induction hr with
  | refl => exact .refl
  | step hr hx ih => exact .step ih (h _ _ (Rch.all hP hs hr) hx)
theorem Auto.Good.inG {a : Auto} (h : a.Good) : inG a.states.toNat (a.edges.map edgeP) := fun e he => by
  obtain ⟨x, hx, rfl⟩ := List.mem_map.1 he
  have := fits_iff.1 (h.fit x hx)
  simp only [edgeP]
  omega
/-- From where an end can be reached. -/
theorem Auto.Good.back_mem {a : Auto} (h : a.Good) {v : Int} (hv : a.inr v) : v ∈ backward a.states.toNat (a.edges.map edgeP) a.ends ↔ ∃ w, Rch (outs a.edges) v w ∧ isEnd w a.edges = true := by
  have hg := inG_swap h.inG
  have hl : ((a.edges.map edgeP).map swapP).length ≤ 100000 := by
    have := h.len
    simp
    omega
  have hok := succs_ok hg hl
  have hen : ∀ w, w ∈ a.ends ↔ a.inr w ∧ isEnd w a.edges = true := fun w => by
    unfold Auto.ends
    rw [if_pos h.mx, ends_mem]
    unfold Auto.inr
    constructor
    · rintro ⟨x, y, z⟩
      exact ⟨⟨x, by omega⟩, z⟩
    · rintro ⟨⟨x, y⟩, z⟩
      exact ⟨x, by omega, z⟩
  have hef : ∀ x ∈ a.ends, 0 ≤ x ∧ x < (a.states.toNat : Int) := fun x hx => by
    have := ((hen x).1 hx).1
    unfold Auto.inr at this
    omega
  have hnx : ∀ (v x : Int), 0 ≤ v → (x ∈ nxt (succs a.states.toNat ((a.edges.map edgeP).map swapP)) v ↔ v ∈ outs a.edges x) := fun v x hv => by
    rw [nxt_succs hg hv, outs_mem, List.mem_map]
    constructor
    · rintro ⟨e, he, hs⟩
      obtain ⟨d, hd, rfl⟩ := List.mem_map.1 he
      simp only [swapP, edgeP, Prod.mk.injEq] at hs
      exact ⟨d, hd, hs.2, hs.1⟩
    · rintro ⟨d, hd, h1, h2⟩
      exact ⟨edgeP d, List.mem_map_of_mem hd, by simp [swapP, edgeP, h1, h2]⟩
  have hll := levels_len (nx := nxt (succs a.states.toNat ((a.edges.map edgeP).map swapP))) (nxt_in hok) hef
  have hvr : 0 ≤ v ∧ v < (a.states.toNat : Int) := by
    unfold Auto.inr at hv
    omega
  unfold backward there
  rw [thereTo_mem, hll, levels_iff (nxt_in hok) hef hvr]
  constructor
  · rintro ⟨_, _, s, hs, hr⟩
    refine ⟨s, ?_, ((hen s).1 hs).2⟩
    have back : ∀ {s v : Int}, 0 ≤ s → Rch (nxt (succs a.states.toNat ((a.edges.map edgeP).map swapP))) s v → Rch (outs a.edges) v s := by
      intro s v hs hr
      induction hr with
      | refl => exact .refl
      | step hr hx ih => exact Rch.head ((hnx _ _ (Rch.all (P := fun v => 0 ≤ v) (fun v _ x hx => (nxt_in hok v x hx).1) hs hr)).1 hx) ih
    exact back ((hen s).1 hs).1.1 hr
  · rintro ⟨w, hr, hw⟩
    have hwi := Rch.all (P := a.inr) h.outs_in hv hr
    refine ⟨hvr.1, hvr.2, w, (hen w).2 ⟨hwi, hw⟩, ?_⟩
    have : ∀ {v w : Int}, a.inr v → Rch (outs a.edges) v w → Rch (nxt (succs a.states.toNat ((a.edges.map edgeP).map swapP))) w v := by
      intro v w hv hr
      induction hr with
      | refl => exact .refl
      | step hr hx ih =>
        have hi := Rch.all (P := a.inr) h.outs_in hv (.step hr hx)
        exact Rch.head ((hnx _ _ hi.1).2 hx) ih
    exact this hv hr

@[go_sem] theorem grow0p (bx : List (Nat × List V)) (mp : List (List (PV × PV))) (l : List (Int × Int)) (x y : Int) (hm : l.length + 1 ≤ 2147483648) :
    appendV ⟨bx, grA 2 (prs l), mp⟩ 2 (grV 0 (prs l)) (.tl [[.int .i64 x, .int .i64 y]]) = some (grV 0 (prs (l ++ [(x, y)])), grT 0 2 (prs l) [.int .i64 x, .int .i64 y]) := by
  rw [grow0 bx mp 2 (prs l) [.int .i64 x, .int .i64 y] rfl (by rw [prs_length]; exact hm), prs_snoc]
theorem Auto.Good.gok {a : Auto} (h : a.Good) : gErrL a.states (a.edges.map edgeP) a.ends = 0 := by
  have h1 : gErr a.states (a.edges.map edgeP) = 0 := by
    unfold gErr
    have := h.mx; have := h.len; have := h.st
    rw [if_neg (by simp; omega), if_neg]
    intro hc
    rcases hc with hc | hc
    · omega
    · rw [List.any_eq_true] at hc
      obtain ⟨x, hx, hb⟩ := hc
      obtain ⟨e, he, rfl⟩ := List.mem_map.1 hx
      have := fits_iff.1 (h.fit e he)
      unfold badP edgeP at hb
      simp only [Bool.or_eq_true, decide_eq_true_eq] at hb
      have h1 : min e.fr e.to < 0 ∨ a.states ≤ max e.fr e.to := hb
      omega
  unfold gErrL
  rw [if_neg (by simp [h1]), if_neg]
  intro hc
  rw [List.any_eq_true] at hc
  obtain ⟨x, hx, hb⟩ := hc
  unfold Auto.ends at hx
  rw [if_pos h.mx, ends_mem] at hx
  simp only [Bool.or_eq_true, decide_eq_true_eq] at hb
  omega
theorem Auto.Good.proper_eq {a : Auto} (h : a.Good) : (!a.order.any fun v => !decide (v ∈ backward a.states.toNat (a.edges.map edgeP) a.ends)) = a.proper := by
  rw [Bool.eq_iff_iff]
  unfold Auto.proper
  simp only [Bool.not_eq_true', List.any_eq_false, List.all_eq_true, List.any_eq_true, Bool.not_eq_true, Bool.not_eq_false', decide_eq_true_eq]
  constructor
  · intro hh v hv
    have hin := h.order_in v hv
    obtain ⟨w, hr, hw⟩ := (h.back_mem hin).1 (by simpa using hh v hv)
    exact ⟨w, (h.from_mem hin).2 hr, hw⟩
  · intro hh v hv
    have hin := h.order_in v hv
    obtain ⟨w, hr, hw⟩ := hh v hv
    have := (h.back_mem hin).2 ⟨w, (h.from_mem hin).1 hr, hw⟩
    simpa using this

end Go.Pv

/-
  The laws of the errors of automata, and of proper automata.
-/
namespace Go.Pv

theorem r15n : res A PrA 15 [.agg [.int .i64 0, .int .i64 0, .lst 0 []], .agg [.int .i64 0, .int .i64 0, .lst 0 []]] = some [.bool true] := by
  have h := r15e 0 0 0 0 0 0 [] [] (by simp) (by simp)
  rw [decide_eq_true rfl] at h
  exact h
end Go.Pv

/-
  Contracts: numbers of lists of actions.
-/
namespace Go.Pv

set_option maxHeartbeats 2000000 in
@[go_sem] theorem r23 (t : Nat) (a : Auto) (n : Int) (hl : a.edges.length ≤ 2 ^ 63 - 1) : res A PrA 23 [.agg [.int .i64 a.states, .int .i64 a.start, .lst t (a.edges.map Edge.c)], .int .i64 n] = some [.int .i64 (a.count n).1, .int .i64 (a.count n).2] := by
  refine res_of a23 rfl rfl ?_
  simp only [F23]
  simp (disch := omega) only [go_sem]
  refine Br.ofP (fun h1 => ?_) (fun h1 => ?_) <;> simp (disch := omega) only [go_sem, h1]
  case refine_2 => rw [Auto.count_err h1]
  refine Br.ofP (fun h2 => ?_) (fun h2 => ?_) <;> simp (disch := omega) only [go_sem, h2]
  · rw [Auto.count_range h1 (.inl h2)]
  refine Br.ofP (fun h3 => ?_) (fun h3 => ?_) <;> simp (disch := omega) only [go_sem, h3]
  · rw [Auto.count_range h1 (.inr h3)]
  obtain ⟨e1, e2, e3, e4, e5⟩ := Auto.err_zero h1
  have hfit := chk_fits e5
  simp (disch := omega) only [go_sem]
  refine W.upto a.states.toNat (fun k => ⟨[(1, .pv (.int .i64 n)), (2, .ptr 2 0), (7, .own 0 0 0 a.states.toNat), (27, .pv (.int .i64 a.states.toNat)), (28, .pv (.int .i64 k))], ⟨[(2, [.pv (.int .i64 a.states), .pv (.int .i64 a.start), .pv (.lst t (a.edges.map Edge.c))])], [⟨0, 1, .inl (ints (onesTo a.states.toNat k))⟩], []⟩⟩) (fun _ => True) (by rw [onesTo_zero]; rfl) trivial fun k hk _ => ?_
  simp (disch := omega) only [go_sem]
  refine Br.ofP (fun h => ?_) (fun h => ?_)
  · have ho := onesTo_len (n := a.states.toNat) (k := k) (by omega)
    simp (disch := omega) only [go_sem, onesTo_succ (show k < a.states.toNat by omega)]
    exact .of (by omega) rfl trivial
  obtain rfl : k = a.states.toNat := by omega
  clear h hk
  simp (disch := omega) only [go_sem, onesTo_all]
  refine W.upto n.toNat (fun k => ⟨[(2, .ptr 2 0), (7, .own k 0 0 a.states.toNat), (35, .pv (.int .i64 n)), (36, .pv (.int .i64 k))], ⟨[(2, [.pv (.int .i64 a.states), .pv (.int .i64 a.start), .pv (.lst t (a.edges.map Edge.c))])], cntA a.states.toNat a.edges k, []⟩⟩) (fun _ => True) rfl trivial fun k hk _ => ?_
  simp (disch := omega) only [go_sem]
  refine Br.ofP (fun h => ?_) (fun h => ?_)
  · simp (disch := omega) only [go_sem]
    refine W.upto a.edges.length (fun j => ⟨[(2, .ptr 2 0), (7, .own k 0 0 a.states.toNat), (9, .own (k + 1) 0 0 a.states.toNat), (35, .pv (.int .i64 n)), (36, .pv (.int .i64 k)), (42, .pv (.lst t (a.edges.map Edge.c))), (43, .pv (.int .i64 a.edges.length)), (44, .pv (.int .i64 j))], ⟨[(2, [.pv (.int .i64 a.states), .pv (.int .i64 a.start), .pv (.lst t (a.edges.map Edge.c))])], cntA a.states.toNat a.edges k ++ [⟨0, 1, .inl (ints (cntP a.states.toNat a.edges (cntN a.states.toNat a.edges k) j))⟩], []⟩⟩) (fun _ => True) rfl trivial fun j hj _ => ?_
    simp (disch := omega) only [go_sem]
    refine Br.ofP (fun g => ?_) (fun g => ?_)
    · obtain ⟨e, he⟩ := get_at (l := a.edges) (k := j) (by omega)
      have hf := fits_iff.1 (hfit e (List.mem_of_getElem? he))
      have hs := cntN_small a.states.toNat a.edges k
      have hx := getD_some (l := cntN a.states.toNat a.edges k) (i := e.to.toNat) (by rw [cntN_len]; omega)
      have hy := getD_some (l := cntP a.states.toNat a.edges (cntN a.states.toNat a.edges k) j) (i := e.fr.toNat) (by rw [cntP_len]; omega)
      have b1 := hs e.to.toNat
      have b2 := cntP_small (n := a.states.toNat) (es := a.edges) hs j e.fr.toNat
      have hp := cntP_len a.states.toNat a.edges (cntN a.states.toNat a.edges k) j
      have hq : cntP a.states.toNat a.edges (cntN a.states.toNat a.edges k) (j + 1) = _ := cntP_succ he
      unfold cntE at hq
      generalize cntP a.states.toNat a.edges (cntN a.states.toNat a.edges k) j = nx at hy b2 hp hq
      generalize (cntN a.states.toNat a.edges k).getD e.to.toNat 0 = x at hx b1 hq
      generalize nx.getD e.fr.toNat 0 = y at hy b2 hq
      simp (disch := omega) only [go_sem, he, cntA_new, cntA_old, cntA_set, hx, hy]
      rw [Int.min_comm] at hq
      refine .of (by omega) ?_ trivial
      show _ = St.mk _ _
      rw [hq]
      rfl
    · obtain rfl : j = a.edges.length := by omega
      simp (disch := omega) only [go_sem]
      refine .of (by omega) ?_ trivial
      rw [cntP_all (Nat.le_refl _), cntA_succ]
      rfl
  · obtain rfl : k = n.toNat := by omega
    have hx := getD_some (l := cntN a.states.toNat a.edges n.toNat) (i := a.start.toNat) (by rw [cntN_len]; omega)
    have hv := Auto.count_val h1 h2 h3 (v := (cntN a.states.toNat a.edges n.toNat).getD a.start.toNat 0) rfl
    generalize (cntN a.states.toNat a.edges n.toNat).getD a.start.toNat 0 = x at hx hv
    rw [hv]
    simp (disch := omega) only [go_sem, cntA_get, hx]
    refine Br.ofP (fun h4 => ?_) (fun h4 => ?_) <;> simp (disch := omega) only [go_sem, h4]
    simp (disch := omega) only [go_sem, cntA_get, hx, h4]

end Go.Pv

/-
  The law of numbers of lists of actions.
-/
namespace Go.Pv

def Auto.row (a : Auto) : List PV := [.int .i64 a.states, .int .i64 a.start, .lst 0 (a.edges.map Edge.c)]

theorem r9 (l : List Auto) (hl : l.length < 1000) : res A PrA 9 [.lst 0 (l.map Auto.row)] = some [.bool (l.all fun a => decide ((a.edges.length : Int) ≤ 110))] := by
  refine res_of a9 rfl rfl ?_
  simp only [F9]
  simp (disch := omega) only [go_sem]
  refine W.upto l.length (fun k => ⟨[(5, .pv (.lst 0 (l.map Auto.row))), (6, .pv (.int .i64 l.length)), (7, .pv (.int .i64 k))], ⟨[], [], []⟩⟩) (fun k => (l.all fun a => decide ((a.edges.length : Int) ≤ 110)) = ((l.drop k).all fun a => decide ((a.edges.length : Int) ≤ 110))) rfl rfl fun k hk hi => ?_
  simp (disch := omega) only [go_sem]
  refine Br.ofP (fun h => ?_) (fun h => ?_)
  · obtain ⟨a, ha⟩ := get_at (l := l) (k := k) (by omega)
    rw [drop_at ha, List.all_cons] at hi
    simp (disch := omega) only [go_sem, ha, Auto.row]
    refine Br.ofP (fun h2 => ?_) (fun h2 => ?_) <;> simp (disch := omega) only [go_sem]
    · rw [hi]
      have : ¬ (a.edges.length : Int) ≤ 110 := by omega
      simp [this]
    · refine .of (by omega) rfl ?_
      rw [hi]
      have : (a.edges.length : Int) ≤ 110 := by omega
      simp [this]
  · simp (disch := omega) only [go_sem]
    rw [hi, drop_end h]
    rfl

theorem r8 : res A PrA 8 [] = some [.bool true] := res_some.2 ⟨3000, by kernel_rfl⟩

theorem r9_one (a : Auto) : res A PrA 9 [.lst 0 [[.int .i64 a.states, .int .i64 a.start, .lst 0 (a.edges.map Edge.c)]]] = some [.bool (decide ((a.edges.length : Int) ≤ 110))] := by
  have := r9 [a] (by simp)
  simpa [Auto.row] using this

end Go.Pv

/-
  Classes of states: moves, lists that are equal.
-/
namespace Go.Pv

/-- What leads to a state: a direction, a label, a class. -/
structure Mv where
  send : Bool
  label : Int
  cls : Int
  deriving DecidableEq, Inhabited
def Mv.c (m : Mv) : List PV := [.bool m.send, .int .i64 m.label, .int .i64 m.cls]
def mvs (l : List Mv) : List (List PV) := l.map Mv.c
@[go_sem] theorem mvs_length (l : List Mv) : (mvs l).length = l.length := by simp [mvs]
@[go_sem] theorem mvs_nil : mvs [] = [] := rfl
@[go_sem] theorem mvs_get (l : List Mv) (i : Nat) : (mvs l)[i]? = l[i]?.map Mv.c := by simp [mvs]
@[go_sem] theorem Mv.c_eq (m : Mv) : m.c = [.bool m.send, .int .i64 m.label, .int .i64 m.cls] := rfl
theorem mvs_snoc (l : List Mv) (m : Mv) : mvs l ++ [m.c] = mvs (l ++ [m]) := by simp [mvs]
@[go_sem] theorem mvs_snocc (l : List Mv) (d : Bool) (x y : Int) : mvs l ++ [[.bool d, .int .i64 x, .int .i64 y]] = mvs (l ++ [⟨d, x, y⟩]) := by simp [mvs, Mv.c]
@[go_sem] theorem grow0m (bx : List (Nat × List V)) (mp : List (List (PV × PV))) (l : List Mv) (d : Bool) (x y : Int) (hm : l.length + 1 ≤ 2147483648) :
    appendV ⟨bx, grA 3 (mvs l), mp⟩ 3 (grV 0 (mvs l)) (.tl [[.bool d, .int .i64 x, .int .i64 y]]) = some (grV 0 (mvs (l ++ [⟨d, x, y⟩])), grT 0 3 (mvs l) (Mv.c ⟨d, x, y⟩)) := by
  rw [← mvs_snoc]
  exact grow0 bx mp 3 (mvs l) (Mv.c ⟨d, x, y⟩) rfl (by rw [mvs_length]; exact hm)
/-- The moves from a state. -/
def movesL (es : List Edge) (s : Int) (c : List Int) : List Mv := (es.filter fun e => e.fr == s).map fun e => ⟨e.send, e.label, c.getD e.to.toNat 0⟩
theorem movesL_len (es : List Edge) (s : Int) (c : List Int) : (movesL es s c).length ≤ es.length := by
  unfold movesL
  rw [List.length_map]
  exact List.length_filter_le _ _

set_option maxHeartbeats 1000000 in
@[go_sem] theorem r49 (t u : Nat) (n s0 s : Int) (es : List Edge) (c : List Int) (hl : es.length ≤ 2000000000) (hc : ∀ e ∈ es, 0 ≤ e.to ∧ e.to < c.length) :
    res A PrA 49 [.agg [.int .i64 n, .int .i64 s0, .lst t (es.map Edge.c)], .int .i64 s, .lst u (ints c)] = some [.lst 0 (mvs (movesL es s c))] := by
  refine res_of a49 rfl rfl ?_
  simp only [F49]
  simp (disch := omega) only [go_sem]
  refine W.fold es (fun o e => if (e.fr == s) = true then o ++ [⟨e.send, e.label, c.getD e.to.toNat 0⟩] else o) [] (fun k o => ⟨[(1, .pv (.int .i64 s)), (2, .pv (.lst u (ints c))), (7, grV 0 (mvs o)), (11, .pv (.lst t (es.map Edge.c))), (12, .pv (.int .i64 es.length)), (13, .pv (.int .i64 k))], ⟨[], grA 3 (mvs o), []⟩⟩) (fun k o => o.length ≤ k) rfl (Nat.le_refl _) (fun k e o he hk _ hi => ?_) (fun o ho hi => ?_)
  · obtain ⟨t0, t1⟩ := hc e (List.mem_of_getElem? he)
    have hg : c[e.to.toNat]? = some (c.getD e.to.toNat 0) := by
      have : e.to.toNat < c.length := by omega
      simp [this]
    simp (disch := omega) only [go_sem, he]
    refine Br.ofP (fun h => ?_) (fun h => (h (by omega)).elim)
    simp (disch := omega) only [go_sem, he]
    refine Br.ofP (fun f => ?_) (fun f => ?_) <;> simp (disch := omega) only [go_sem, f, idxR_int, hg]
    · have hf : (e.fr == s) = true := by simp [f]
      refine foldK.of ?_ (by rw [if_pos hf]; simp; omega)
      show _ = St.mk _ _
      rw [if_pos hf]
      rfl
    · have : (e.fr == s) = false := by simp [f]
      refine foldK.of ?_ (by rw [this]; simp; omega)
      show _ = St.mk _ _
      rw [this]
      rfl
  · have := fold_filter (fun e : Edge => e.fr == s) (fun e => (⟨e.send, e.label, c.getD e.to.toNat 0⟩ : Mv)) es []
    rw [List.nil_append] at this
    rw [this] at ho
    simp (disch := omega) only [go_sem]
    rw [ho]
    rfl
theorem mv_dec (a b : Mv) : (decide (a.send = b.send) && (decide (a.label = b.label) && decide (a.cls = b.cls))) = decide (a = b) := by
  obtain ⟨a1, a2, a3⟩ := a
  obtain ⟨b1, b2, b3⟩ := b
  by_cases h1 : a1 = b1 <;> by_cases h2 : a2 = b2 <;> by_cases h3 : a3 = b3 <;> simp [h1, h2, h3]
set_option maxHeartbeats 1000000 in
@[go_sem] theorem r48 (t u : Nat) (a b : List Mv) (ha : a.length ≤ 2 ^ 63 - 1) (hb : b.length ≤ 2 ^ 63 - 1) : res A PrA 48 [.lst t (mvs a), .lst u (mvs b)] = some [.bool (decide (a = b))] := by
  refine res_of a48 rfl rfl ?_
  simp only [F48]
  simp (disch := omega) only [go_sem]
  refine Br.ofP (fun h => ?_) (fun h => ?_) <;> simp (disch := omega) only [go_sem, h]
  case refine_2 =>
    have : ¬ a = b := fun e => h (by rw [e])
    simp [this]
  refine W.upto a.length (fun k => ⟨[(0, .pv (.lst t (mvs a))), (1, .pv (.lst u (mvs b))), (12, .pv (.int .i64 b.length)), (13, .pv (.int .i64 k))], ⟨[], [], []⟩⟩) (fun k => a.take k = b.take k) rfl rfl fun k hk hi => ?_
  simp (disch := omega) only [go_sem]
  refine Br.ofP (fun g => ?_) (fun g => ?_)
  · obtain ⟨x, hx⟩ := get_at (l := a) (k := k) (by omega)
    obtain ⟨y, hy⟩ := get_at (l := b) (k := k) (by omega)
    simp (disch := omega) only [go_sem, hx, hy, mv_dec]
    refine Br.ofP (fun f => ?_) (fun f => ?_) <;> simp (disch := omega) only [go_sem, f]
    · exact .of (by omega) rfl (take_step hx hy hi f)
    · have : ¬ a = b := fun e => f (by rw [e, hy] at hx; exact (Option.some.inj hx).symm)
      simp [this]
  · simp (disch := omega) only [go_sem]
    have := takes_all (k := k) (by omega) (by omega) hi
    simp [this]
set_option maxHeartbeats 1000000 in
@[go_sem] theorem r14 (t u : Nat) (a b : List Int) (ha : a.length ≤ 2 ^ 63 - 1) (hb : b.length ≤ 2 ^ 63 - 1) : res A PrA 14 [.lst t (ints a), .lst u (ints b)] = some [.bool (decide (a = b))] := by
  refine res_of a14 rfl rfl ?_
  simp only [F14]
  simp (disch := omega) only [go_sem]
  refine Br.ofP (fun h => ?_) (fun h => ?_) <;> simp (disch := omega) only [go_sem, h]
  case refine_2 =>
    have : ¬ a = b := fun e => h (by rw [e])
    simp [this]
  refine W.upto a.length (fun k => ⟨[(0, .pv (.lst t (ints a))), (1, .pv (.lst u (ints b))), (12, .pv (.int .i64 b.length)), (13, .pv (.int .i64 k))], ⟨[], [], []⟩⟩) (fun k => a.take k = b.take k) rfl rfl fun k hk hi => ?_
  simp (disch := omega) only [go_sem]
  refine Br.ofP (fun g => ?_) (fun g => ?_)
  · obtain ⟨x, hx⟩ := get_at (l := a) (k := k) (by omega)
    obtain ⟨y, hy⟩ := get_at (l := b) (k := k) (by omega)
    simp (disch := omega) only [go_sem, hx, hy]
    refine Br.ofP (fun f => ?_) (fun f => ?_) <;> simp (disch := omega) only [go_sem, f]
    · exact .of (by omega) rfl (take_step hx hy hi f)
    · have : ¬ a = b := fun e => f (by rw [e, hy] at hx; exact (Option.some.inj hx).symm)
      simp [this]
  · simp (disch := omega) only [go_sem]
    have := takes_all (k := k) (by omega) (by omega) hi
    simp [this]

/-- Are two states alike, as far as classes tell? -/
def simB (es : List Edge) (c : List Int) (k i : Nat) : Bool := decide (c.getD k 0 = c.getD i 0) && decide (movesL es (k : Int) c = movesL es (i : Int) c)
/-- The first state that is like another one. -/
def leastC (es : List Edge) (c : List Int) (i : Nat) : Nat := ((List.range i).find? fun k => simB es c k i).getD i
def stepC (n : Nat) (es : List Edge) (c : List Int) : List Int := (List.range n).map fun i => (leastC es c i : Int)
def cls (n : Nat) (es : List Edge) : Nat → List Int
  | 0 => List.replicate n 0
  | j + 1 => stepC n es (cls n es j)
theorem stepC_len (n : Nat) (es : List Edge) (c : List Int) : (stepC n es c).length = n := by simp [stepC]
theorem cls_len (n : Nat) (es : List Edge) : ∀ j, (cls n es j).length = n
  | 0 => by simp [cls]
  | j + 1 => stepC_len n es _

end Go.Pv

/-
  Classes of states: rounds.
-/
namespace Go.Pv

theorem leastC_found {es : List Edge} {c : List Int} {i k x : Nat} (h : Found (List.range i) (fun k => simB es c k i) k x) : leastC es c i = x := by
  unfold leastC
  rw [h.find]
  rfl
theorem leastC_no {es : List Edge} {c : List Int} {i : Nat} (h : Nowhere (List.range i) (fun k => simB es c k i)) : leastC es c i = i := by
  unfold leastC
  rw [h.find]
  rfl
theorem partTo_get {α β : Type} {f : α → β} {y : β} {l : List α} {k i : Nat} {x : α} (hi : i < k) (hx : l[i]? = some x) : (partTo f y l k)[i]? = some (f x) := by
  unfold partTo
  have hl := (List.getElem?_eq_some_iff.1 hx).1
  rw [List.getElem?_append_left (by simp; omega), List.getElem?_map, List.getElem?_take, if_pos hi, hx]
  rfl

/-- The first i places of a round. -/
def partC (n : Nat) (es : List Edge) (c : List Int) (i : Nat) : List Int := partTo (fun i => (leastC es c i : Int)) 0 (List.range n) i
theorem partC_zero (n : Nat) (es : List Edge) (c : List Int) : partC n es c 0 = List.replicate n 0 := by
  unfold partC
  rw [partTo_zero, List.length_range]
theorem partC_len {n i : Nat} (es : List Edge) (c : List Int) (h : i ≤ n) : (partC n es c i).length = n := by
  have := partTo_len (fun i => (leastC es c i : Int)) 0 (List.range n) (k := i) (by simpa using h)
  rw [List.length_range] at this
  exact this
theorem partC_set {n i : Nat} (es : List Edge) (c : List Int) (h : i < n) : (partC n es c i).set i (leastC es c i : Int) = partC n es c (i + 1) := partTo_set (f := fun i => (leastC es c i : Int)) (List.getElem?_range h)
theorem partC_all (n : Nat) (es : List Edge) (c : List Int) : partC n es c n = stepC n es c := by
  have := partTo_all (fun i => (leastC es c i : Int)) 0 (List.range n)
  rw [List.length_range] at this
  exact this

set_option maxHeartbeats 4000000 in
/-- classes -/
theorem r30 (t n J : Nat) (s0 : Int) (es : List Edge) (hn : n ≤ 2000) (hl : es.length ≤ 2000000000) (hc : ∀ e ∈ es, 0 ≤ e.to ∧ e.to < (n : Int)) (hJ : cls n es (J + 1) = cls n es J) (hb : ∀ j, j < J → cls n es (j + 1) ≠ cls n es j) :
    res A PrA 30 [.agg [.int .i64 (n : Int), .int .i64 s0, .lst t (es.map Edge.c)]] = some [.lst 0 (ints (cls n es J))] := by
  refine res_of a30 rfl rfl ?_
  simp only [F30]
  simp (disch := omega) only [go_sem]
  refine W.loop (α := Nat × List Arr) (fun x => ⟨[(1, .ptr 1 0), (3, .own x.1 0 0 n)], ⟨[(1, [.pv (.int .i64 (n : Int)), .pv (.int .i64 s0), .pv (.lst t (es.map Edge.c))])], x.2, []⟩⟩)
    (fun x => x.1 ≤ J ∧ x.2.length = x.1 + 1 ∧ x.2[x.1]? = some ⟨0, 1, .inl (ints (cls n es x.1))⟩) (fun x => J - x.1) (0, [⟨0, 1, .inl (ints (List.replicate n 0))⟩]) rfl ⟨Nat.zero_le _, rfl, rfl⟩ fun x hx => ?_
  obtain ⟨j, ars⟩ := x
  obtain ⟨h1, h2, h3⟩ := hx
  dsimp only at h1 h2 h3
  have hcl := cls_len n es j
  have hstep : cls n es (j + 1) = stepC n es (cls n es j) := rfl
  generalize hcj : cls n es j = c at h3 hcl hstep
  have hg1 : ∀ x : Arr, (ars ++ [x])[j]? = some ⟨0, 1, .inl (ints c)⟩ := fun x => by rw [List.getElem?_append_left (by omega)]; exact h3
  have hg2 : ∀ x : Arr, (ars ++ [x])[j + 1]? = some x := fun x => by rw [List.getElem?_append_right (by omega), h2]; simp
  have hg3 : ∀ x y : Arr, (ars ++ [x]).set (j + 1) y = ars ++ [y] := fun x y => by rw [List.set_append_right _ _ (by omega), h2]; simp
  have hct : c.take n = c := List.take_of_length_le (by omega)
  simp (disch := omega) only [go_sem, h2]
  refine W.upto n (fun i => ⟨[(1, .ptr 1 0), (3, .own j 0 0 n), (4, .own (j + 1) 0 0 n), (14, .pv (.int .i64 (n : Int))), (15, .pv (.int .i64 i))], ⟨[(1, [.pv (.int .i64 (n : Int)), .pv (.int .i64 s0), .pv (.lst t (es.map Edge.c))])], ars ++ [⟨0, 1, .inl (ints (partC n es c i))⟩], []⟩⟩) (fun _ => True) (by rw [partC_zero]; rfl) trivial fun i hi _ => ?_
  have hpl := partC_len es c hi
  simp (disch := omega) only [go_sem]
  refine Br.ofP (fun h => ?_) (fun h => ?_)
  · have hset : ∀ y : Int, ((partC n es c i).set i y).set i (leastC es c i : Int) = partC n es c (i + 1) := fun y => by
      rw [List.set_set]
      exact partC_set es c (by omega)
    have hpl2 : ∀ y : Int, ((partC n es c i).set i y).length = n := fun y => by rw [List.length_set]; exact hpl
    generalize partC n es c i = w at hpl hset hpl2
    simp (disch := omega) only [go_sem, hg2, hg3]
    have hpi := hpl2 i
    refine W.find (List.range i) (fun k => simB es c k i) (fun k => ⟨[(1, .ptr 1 0), (3, .own j 0 0 n), (4, .own (j + 1) 0 0 n), (5, .pv (.int .i64 i)), (14, .pv (.int .i64 (n : Int))), (15, .pv (.int .i64 i)), (22, .pv (.int .i64 i)), (23, .pv (.int .i64 k))], ⟨[(1, [.pv (.int .i64 (n : Int)), .pv (.int .i64 s0), .pv (.lst t (es.map Edge.c))])], ars ++ [⟨0, 1, .inl (ints (w.set i (i : Int)))⟩], []⟩⟩) rfl (fun k x hx hk hf => ?_) (fun hno => ?_)
    · rw [List.length_range] at hk
      rw [List.getElem?_range hk] at hx
      cases hx
      have hk1 : c[k]? = some (c.getD k 0) := by
        have : k < c.length := by omega
        simp [this]
      have hk2 : c[i]? = some (c.getD i 0) := by
        have : i < c.length := by omega
        simp [this]
      have hm1 := movesL_len es (k : Int) c
      have hm2 := movesL_len es (i : Int) c
      have h49 := fun s : Int => r49 t 1 n s0 s es c hl (by rw [hcl]; exact hc)
      simp (disch := omega) only [go_sem]
      refine Br.ofP (fun h => ?_) (fun h => (h (by omega)).elim)
      simp (disch := omega) only [go_sem, hg1, hk1, hk2]
      refine Br.ofP (fun f1 => ?_) (fun f1 => ?_) <;> simp (disch := omega) only [go_sem, f1, hg1, hct, h49]
      · refine Br.ofP (fun f2 => ?_) (fun f2 => ?_) <;> simp (disch := omega) only [go_sem, f2, hg2, hg3]
        · have hs : simB es c k i = true := by simp only [simB, f1, f2, decide_true, Bool.and_self]
          refine .of (by omega) ?_ trivial
          have hlk := leastC_found (hf hs)
          show _ = St.mk _ _
          have := hset (i : Int)
          rw [hlk] at this
          rw [this]
          rfl
        · exact findK.of (by simp only [simB, f2, decide_false, Bool.and_false]) rfl
      · exact findK.of (by simp only [simB, f1, decide_false, Bool.false_and]) rfl
    · have hlk := leastC_no hno
      rw [List.length_range]
      simp (disch := omega) only [go_sem]
      refine .of (by omega) ?_ trivial
      show _ = St.mk _ _
      have := hset (i : Int)
      rw [hlk, List.set_set] at this
      rw [this]
      rfl
  · obtain rfl : i = n := by omega
    have hall := partC_all i es c
    have hsl := stepC_len i es c
    have hst : (stepC i es c).take i = stepC i es c := List.take_of_length_le (by omega)
    rw [hall]
    simp (disch := omega) only [go_sem, hg1, hg2, hct, hst]
    refine Br.ofP (fun f => ?_) (fun f => ?_) <;> simp (disch := omega) only [go_sem, f, hg1, hct]
    · rw [← hcj] at f ⊢
      have hjJ : j = J := by
        rcases Nat.lt_or_ge j J with h | h
        · exact (hb j h f).elim
        · omega
      rw [hjJ]
    · have hjJ : j < J := by
        rcases Nat.lt_or_ge j J with h | h
        · exact h
        · have : j = J := by omega
          rw [← hcj, this] at f
          exact (f hJ).elim
      refine ⟨(j + 1, _), ⟨by dsimp only; omega, by dsimp only; rw [List.length_append, h2]; rfl, ?_⟩, by dsimp only; omega, rfl⟩
      dsimp only
      rw [hg2, hstep]

end Go.Pv

/-
  States that are told apart: by one action, by more.
-/
namespace Go.Pv

/-- The edges from a state. -/
def edgesOf (es : List Edge) (s : Int) : List Edge := es.filter fun e => e.fr == s
theorem edgesOf_len (es : List Edge) (s : Int) : (edgesOf es s).length ≤ es.length := List.length_filter_le _ _
theorem fold_filter0 {α : Type} (p : α → Bool) (l : List α) : l.foldl (fun o x => if p x = true then o ++ [x] else o) [] = l.filter p := by
  have := fold_filter p id l []
  simpa using this
set_option maxHeartbeats 1000000 in
@[go_sem] theorem r38 (t : Nat) (n s0 s : Int) (es : List Edge) (hl : es.length ≤ 2000000000) : res A PrA 38 [.agg [.int .i64 n, .int .i64 s0, .lst t (es.map Edge.c)], .int .i64 s] = some [.lst 0 (edgs (edgesOf es s))] := by
  refine res_of a38 rfl rfl ?_
  simp only [F38]
  simp (disch := omega) only [go_sem]
  refine W.fold es (fun o e => if (e.fr == s) = true then o ++ [e] else o) [] (fun k o => ⟨[(1, .pv (.int .i64 s)), (2, .ptr 2 0), (5, grV 0 (edgs o)), (6, .pv (.int .i64 k))], ⟨[(2, [.pv (.int .i64 n), .pv (.int .i64 s0), .pv (.lst t (es.map Edge.c))])], grA 4 (edgs o), []⟩⟩) (fun k o => o.length ≤ k) rfl (Nat.le_refl _) (fun k e o he hk _ hi => ?_) (fun o ho hi => ?_)
  · simp (disch := omega) only [go_sem, he]
    refine Br.ofP (fun h => ?_) (fun h => (h (by omega)).elim)
    simp (disch := omega) only [go_sem, he]
    refine Br.ofP (fun f => ?_) (fun f => ?_) <;> simp (disch := omega) only [go_sem, f, he]
    · have hf : (e.fr == s) = true := by simp [f]
      refine foldK.of ?_ (by rw [if_pos hf]; simp; omega)
      show _ = St.mk _ _
      rw [if_pos hf]
      have hee : (⟨s, e.send, e.label, e.to⟩ : Edge) = e := by rw [← f]
      rw [hee]
      rfl
    · have hf : (e.fr == s) = false := by simp [f]
      refine foldK.of ?_ (by rw [hf]; simp; omega)
      show _ = St.mk _ _
      rw [hf]
      rfl
  · rw [fold_filter0] at ho
    simp (disch := omega) only [go_sem]
    rw [ho]
    rfl

/-- An action that is possible in one state and not in the other. -/
def lackE (a b : List Edge) (p q : Int) : Option Edge := (edgesOf a p).find? fun e => !(nextE q e.send e.label b).isSome
def actOf : Option Edge → Bool × Int
  | some e => (e.send, e.label)
  | none => (false, 0)
set_option maxHeartbeats 1000000 in
@[go_sem] theorem r37 (t u : Nat) (n s n' s' p q : Int) (a b : List Edge) (ha : a.length ≤ 2000000000) (hb : b.length ≤ 2000000000) :
    res A PrA 37 [.agg [.int .i64 n, .int .i64 s, .lst t (a.map Edge.c)], .agg [.int .i64 n', .int .i64 s', .lst u (b.map Edge.c)], .int .i64 p, .int .i64 q] = some [.agg [.bool (actOf (lackE a b p q)).1, .int .i64 (actOf (lackE a b p q)).2], .bool (lackE a b p q).isSome] := by
  refine res_of a37 rfl rfl ?_
  simp only [F37]
  have hel := edgesOf_len a p
  have h39 := fun (d : Bool) (x : Int) => r39 u ⟨n', s', b⟩ q d x (show b.length ≤ 2 ^ 63 - 1 by omega)
  simp (disch := omega) only [go_sem]
  refine W.find (edgesOf a p) (fun e => !(nextE q e.send e.label b).isSome) (fun k => ⟨[(3, .pv (.int .i64 q)), (5, .ptr 5 0), (8, .ptr 8 0), (10, .pv (.lst 0 (edgs (edgesOf a p)))), (11, .pv (.int .i64 k))], ⟨[(5, [.pv (.int .i64 n'), .pv (.int .i64 s'), .pv (.lst u (b.map Edge.c))]), (8, [.pv (.bool false), .pv (.int .i64 0)])], [], []⟩⟩) rfl (fun k e he hk hf => ?_) (fun hno => ?_)
  · simp (disch := omega) only [go_sem]
    refine Br.ofP (fun h => ?_) (fun h => (h (by omega)).elim)
    simp (disch := omega) only [go_sem, he, h39]
    refine Br.of (fun f => ?_) (fun f => ?_) <;> simp (disch := omega) only [go_sem, he]
    · exact findK.of (by rw [f]; rfl) rfl
    · have := (hf (by rw [f]; rfl)).find
      have hle : lackE a b p q = some e := this
      rw [hle]
      rfl
  · simp (disch := omega) only [go_sem]
    have hle : lackE a b p q = none := hno.find
    rw [hle]
    rfl

/-- A matrix, each row with a tag. -/
def matG (g : List Int → Nat) (M : List (List Int)) : List (List PV) := M.map fun l => [.lst (g l) (ints l)]
@[go_sem] theorem matG_len (g : List Int → Nat) (M : List (List Int)) : (matG g M).length = M.length := by simp [matG]
@[go_sem] theorem matG_get (g : List Int → Nat) (M : List (List Int)) (i : Nat) : (matG g M)[i]? = M[i]?.map fun l => [.lst (g l) (ints l)] := by simp [matG]
/-- An entry. -/
def ent (M : List (List Int)) (p q : Int) : Int := (M.getD p.toNat []).getD q.toNat 0
/-- An edge that leads to a pair with an entry. -/
def nearP (b : List Edge) (M : List (List Int)) (q k : Int) (e : Edge) : Bool := match nextE q e.send e.label b with
  | some n => decide (ent M e.to n = k)
  | none => false
def nearE (a b : List Edge) (M : List (List Int)) (p q k : Int) : Option Edge := (edgesOf a p).find? (nearP b M q k)
/-- Of the sizes of automata. -/
structure MatOk (na nb : Nat) (M : List (List Int)) : Prop where
  len : M.length = na
  row : ∀ l ∈ M, l.length = nb
theorem MatOk.get {na nb : Nat} {M : List (List Int)} (h : MatOk na nb M) {p q : Int} (hp : 0 ≤ p ∧ p < na) (hq : 0 ≤ q ∧ q < nb) : ∃ l, M[p.toNat]? = some l ∧ l.length = nb ∧ l[q.toNat]? = some (ent M p q) := by
  have h1 : p.toNat < M.length := by rw [h.len]; omega
  have h2 : M[p.toNat]? = some M[p.toNat] := by simp
  have h3 := h.row _ (List.mem_of_getElem? h2)
  refine ⟨_, h2, h3, ?_⟩
  unfold ent
  have h4 : q.toNat < M[p.toNat].length := by omega
  simp [h1, h4]
set_option maxHeartbeats 1000000 in
@[go_sem] theorem r41 (t u v na nb : Nat) (g : List Int → Nat) (n s n' s' p q k : Int) (a b : List Edge) (M : List (List Int)) (ha : a.length ≤ 2000000000) (hb : b.length ≤ 2000000000) (hM : MatOk na nb M) (hta : ∀ e ∈ a, 0 ≤ e.to ∧ e.to < (na : Int)) (htb : ∀ e ∈ b, 0 ≤ e.to ∧ e.to < (nb : Int)) :
    res A PrA 41 [.agg [.int .i64 n, .int .i64 s, .lst t (a.map Edge.c)], .agg [.int .i64 n', .int .i64 s', .lst u (b.map Edge.c)], .int .i64 p, .int .i64 q, .lst v (matG g M), .int .i64 k] = some [.agg [.bool (actOf (nearE a b M p q k)).1, .int .i64 (actOf (nearE a b M p q k)).2], .bool (nearE a b M p q k).isSome] := by
  refine res_of a41 rfl rfl ?_
  simp only [F41]
  have hel := edgesOf_len a p
  have hml := hM.len
  have h39 := fun (d : Bool) (x : Int) => r39 u ⟨n', s', b⟩ q d x (show b.length ≤ 2 ^ 63 - 1 by omega)
  simp (disch := omega) only [go_sem]
  refine W.find (edgesOf a p) (nearP b M q k) (fun j => ⟨[(3, .pv (.int .i64 q)), (4, .pv (.lst v (matG g M))), (5, .pv (.int .i64 k)), (7, .ptr 7 0), (12, .ptr 12 0), (14, .pv (.lst 0 (edgs (edgesOf a p)))), (15, .pv (.int .i64 j))], ⟨[(7, [.pv (.int .i64 n'), .pv (.int .i64 s'), .pv (.lst u (b.map Edge.c))]), (12, [.pv (.bool false), .pv (.int .i64 0)])], [], []⟩⟩) rfl (fun j e he hj hf => ?_) (fun hno => ?_)
  · obtain ⟨t0, t1⟩ := hta e (List.mem_filter.1 (List.mem_of_getElem? he)).1
    simp (disch := omega) only [go_sem]
    refine Br.ofP (fun h => ?_) (fun h => (h (by omega)).elim)
    simp (disch := omega) only [go_sem, he, h39]
    cases hn : nextE q e.send e.label b with
    | none =>
      have hp : nearP b M q k e = false := by unfold nearP; rw [hn]
      simp (disch := omega) only [go_sem, he, Option.isSome_none]
      exact findK.of hp rfl
    | some m =>
      have hp : nearP b M q k e = decide (ent M e.to m = k) := by unfold nearP; rw [hn]
      have hmb : 0 ≤ m ∧ m < (nb : Int) := by
        have : ∀ {es : List Edge}, (∀ e ∈ es, 0 ≤ e.to ∧ e.to < (nb : Int)) → nextE q e.send e.label es = some m → 0 ≤ m ∧ m < (nb : Int) := by
          intro es
          induction es with
          | nil => intro _ hh; cases hh
          | cons x es ih =>
            intro hh h2
            unfold nextE at h2
            split at h2
            · cases h2
              exact hh x (by simp)
            · exact ih (fun y hy => hh y (by simp [hy])) h2
        exact this htb hn
      obtain ⟨l, g1, g2, g3⟩ := hM.get (p := e.to) (q := m) ⟨t0, t1⟩ hmb
      obtain ⟨m0, m1⟩ := hmb
      simp (disch := omega) only [go_sem, he, Option.isSome_some, Option.getD_some, idxR_int, g1, g3]
      refine Br.ofP (fun f => ?_) (fun f => ?_) <;> simp (disch := omega) only [go_sem, he]
      · have := (hf (by rw [hp]; simp [f])).find
        have hle : nearE a b M p q k = some e := this
        rw [hle]
        rfl
      · exact findK.of (by rw [hp]; simp [f]) rfl
  · simp (disch := omega) only [go_sem]
    have hle : nearE a b M p q k = none := hno.find
    rw [hle]
    rfl

end Go.Pv

/-
  The reference's table of differences.
-/
namespace Go.Pv

def ownRow (nb p : Nat) : V := .own (p + 1) 0 0 nb
/-- The rows made so far. -/
def xsTo (na nb m : Nat) : List V := partTo (ownRow nb) (.tl []) (List.range na) m
theorem xsTo_len {na nb m : Nat} (h : m ≤ na) : (xsTo na nb m).length = na := by
  have := partTo_len (ownRow nb) (.tl []) (List.range na) (k := m) (by simpa using h)
  rw [List.length_range] at this
  exact this
theorem xsTo_zero (na nb : Nat) : xsTo na nb 0 = List.replicate na (.tl []) := by
  unfold xsTo
  rw [partTo_zero, List.length_range]
theorem xsTo_set {na nb m : Nat} (h : m < na) : (xsTo na nb m).set m (.own (m + 1) 0 0 nb) = xsTo na nb (m + 1) := partTo_set (f := ownRow nb) (List.getElem?_range h)
theorem xsTo_get {na nb m i : Nat} (h : i < m) (hm : m ≤ na) : (xsTo na nb m)[i]? = some (.own (i + 1) 0 0 nb) := partTo_get (f := ownRow nb) h (List.getElem?_range (by omega))
def rowArr (r : List Int) : Arr := ⟨0, 1, .inl (ints r)⟩
def mAr (M : List (List Int)) : List Arr := M.map rowArr
@[go_sem] theorem mAr_len (M : List (List Int)) : (mAr M).length = M.length := by simp [mAr]
@[go_sem] theorem mAr_get (M : List (List Int)) (i : Nat) : (mAr M)[i]? = M[i]?.map fun r => ⟨0, 1, .inl (ints r)⟩ := by
  unfold mAr
  rw [List.getElem?_map]
  rfl
@[go_sem] theorem mAr_set (M : List (List Int)) (i : Nat) (r : List Int) : (mAr M).set i ⟨0, 1, .inl (ints r)⟩ = mAr (M.set i r) := by simp [mAr, rowArr, List.map_set]
@[go_sem] theorem mAr_snoc (M : List (List Int)) (r : List Int) : mAr M ++ [⟨0, 1, .inl (ints r)⟩] = mAr (M ++ [r]) := by simp [mAr, rowArr]
theorem xsTo_all (na nb : Nat) : xsTo na nb na = (List.range na).map (ownRow nb) := by
  have := partTo_all (ownRow nb) (.tl []) (List.range na)
  rw [List.length_range] at this
  exact this
theorem mat_rows {α : Type} {na nb : Nat} {M : List (List Int)} (hM : MatOk na nb M) (f : V → Option α) (g : List Int → α) (hf : ∀ p r, M[p]? = some r → f (.own (p + 1) 0 0 nb) = some (g r)) : mapO (mapO f) (rowsV (xsTo na nb na)) = some (M.map fun r => [g r]) := by
  rw [xsTo_all]
  have key : ∀ (k : Nat) (N : List (List Int)), N.length = k → (∀ p r, N[p]? = some r → f (.own (p + 1) 0 0 nb) = some (g r)) → mapO (mapO f) (rowsV ((List.range k).map (ownRow nb))) = some (N.map fun r => [g r]) := by
    intro k
    induction k with
    | zero =>
      intro N hN _
      have : N = [] := List.eq_nil_of_length_eq_zero hN
      subst this
      rfl
    | succ k ih =>
      intro N hN hf
      obtain ⟨N', r, rfl⟩ : ∃ N' r, N = N' ++ [r] := ⟨N.dropLast, N.getLast (by intro e; rw [e] at hN; simp at hN), (List.dropLast_concat_getLast _).symm⟩
      have hl : N'.length = k := by simpa using hN
      have h1 := ih N' hl fun p r hr => hf p r (by rw [List.getElem?_append_left (List.getElem?_eq_some_iff.1 hr).1]; exact hr)
      have h2 := hf k r (by rw [List.getElem?_append_right (by omega), hl]; simp)
      rw [List.range_succ, List.map_append]
      have happ : ∀ (a b : List (List V)) (ra rb : List (List α)), mapO (mapO f) a = some ra → mapO (mapO f) b = some rb → mapO (mapO f) (a ++ b) = some (ra ++ rb) := by
        intro a
        induction a with
        | nil => intro b ra rb h1 h2; cases h1; exact h2
        | cons x a ih =>
          intro b ra rb h1 h2
          simp only [mapO] at h1
          split at h1
          · rename_i y l' e1 e2
            cases h1
            simp only [List.cons_append, mapO, e1, ih b l' rb e2 h2]
          · cases h1
      have h3 : mapO (mapO f) (rowsV [ownRow nb k]) = some [[g r]] := by
        simp [rowsV, mapO, ownRow, h2]
      have h4 := happ _ _ _ _ h1 h3
      rw [List.map_append]
      show mapO (mapO f) (rowsV ((List.range k).map (ownRow nb) ++ [ownRow nb k])) = _
      unfold rowsV at h4 ⊢
      rw [List.map_append]
      exact h4
  exact key na M hM.len hf
theorem mat_lend {na nb : Nat} {M : List (List Int)} (hM : MatOk na nb M) (bx : List (Nat × List V)) (a0 : Arr) (d : Nat) : mapO (mapO (lendc ⟨bx, a0 :: mAr M, []⟩ (d + 1))) (rowsV (xsTo na nb na)) = some (matG (fun _ => 1) M) :=
  mat_rows hM (lendc ⟨bx, a0 :: mAr M, []⟩ (d + 1)) (fun r => PV.lst 1 (ints r)) fun p r hr => by
    have h1 := hM.row r (List.mem_of_getElem? hr)
    have h2 : (ints r).take nb = ints r := List.take_of_length_le (by rw [ints_length]; omega)
    simp [lendc, ownArr, mAr_get, hr, cutRows, h2]
theorem mat_keep {na nb : Nat} {M : List (List Int)} (hM : MatOk na nb M) (bx : List (Nat × List V)) (a0 : Arr) (d : Nat) : mapO (mapO (keepc ⟨bx, a0 :: mAr M, []⟩ (d + 1))) (rowsV (xsTo na nb na)) = some (lls M) :=
  mat_rows hM (keepc ⟨bx, a0 :: mAr M, []⟩ (d + 1)) (fun r => PV.lst 0 (ints r)) fun p r hr => by
    have h1 := hM.row r (List.mem_of_getElem? hr)
    have h2 : (ints r).take nb = ints r := List.take_of_length_le (by rw [ints_length]; omega)
    simp [keepc_own, ownArr, mAr_get, hr, cutRows, h2, keepRows]

end Go.Pv

/-
  Differ, of the reference.
-/
namespace Go.Pv

/-- Are two states told apart by one action? -/
def lkB (a b : List Edge) (p q : Int) : Bool := (lackE a b p q).isSome || (lackE b a q p).isSome
def b01 (c : Bool) : Int := if c = true then 1 else 0
def bTo (a b : List Edge) (nb p q : Nat) : List Int := partTo (fun (q : Nat) => b01 (lkB a b p q)) 0 (List.range nb) q
theorem bTo_len {a b : List Edge} {nb p q : Nat} (h : q ≤ nb) : (bTo a b nb p q).length = nb := by
  have := partTo_len (fun (q : Nat) => b01 (lkB a b p q)) 0 (List.range nb) (k := q) (by simpa using h)
  rw [List.length_range] at this
  exact this
theorem bTo_zero (a b : List Edge) (nb p : Nat) : bTo a b nb p 0 = List.replicate nb 0 := by
  unfold bTo
  rw [partTo_zero, List.length_range]
theorem bTo_set {a b : List Edge} {nb p q : Nat} (h : q < nb) : (bTo a b nb p q).set q (b01 (lkB a b p q)) = bTo a b nb p (q + 1) := partTo_set (f := fun (q : Nat) => b01 (lkB a b p q)) (List.getElem?_range h)
theorem partTo_same {α β : Type} {f : α → β} {y : β} {l : List α} {k : Nat} {x : α} (h : l[k]? = some x) (hf : f x = y) : partTo f y l (k + 1) = partTo f y l k := by
  have hk := (List.getElem?_eq_some_iff.1 h).1
  rw [← partTo_set h, hf]
  apply List.ext_getElem?
  intro i
  by_cases e : k = i
  · subst e
    rw [List.getElem?_set_self (by rw [partTo_len _ _ _ (by omega)]; exact hk)]
    unfold partTo
    rw [List.getElem?_append_right (by simp; omega), List.getElem?_replicate, if_pos (by simp; omega)]
  · rw [List.getElem?_set_ne e]
theorem bTo_same {a b : List Edge} {nb p q : Nat} (h : q < nb) (hf : lkB a b p q = false) : bTo a b nb p (q + 1) = bTo a b nb p q := partTo_same (f := fun (q : Nat) => b01 (lkB a b p q)) (List.getElem?_range h) (by simp [hf, b01])
/-- The first rows of the table at the start. -/
def baseM (a b : List Edge) (nb m : Nat) : List (List Int) := (List.range m).map fun p => bTo a b nb p nb
theorem baseM_len (a b : List Edge) (nb m : Nat) : (baseM a b nb m).length = m := by simp [baseM]
theorem baseM_succ (a b : List Edge) (nb m : Nat) : baseM a b nb (m + 1) = baseM a b nb m ++ [bTo a b nb m nb] := by simp [baseM, List.range_succ]
theorem baseM_ok (a b : List Edge) (nb m : Nat) : MatOk m nb (baseM a b nb m) := ⟨baseM_len a b nb m, fun l hl => by
  obtain ⟨p, _, rfl⟩ := List.mem_map.1 hl
  exact bTo_len (Nat.le_refl _)⟩
def setM (M : List (List Int)) (p q : Nat) (v : Int) : List (List Int) := M.set p ((M.getD p []).set q v)
theorem setM_ok {na nb p q : Nat} {M : List (List Int)} {v : Int} (h : MatOk na nb M) (hp : p < na) : MatOk na nb (setM M p q v) where
  len := by unfold setM; rw [List.length_set]; exact h.len
  row l hl := by
    rcases List.mem_or_eq_of_mem_set hl with hl | rfl
    · exact h.row l hl
    · rw [List.length_set]
      have : M[p]? = some (M.getD p []) := by
        have : p < M.length := by rw [h.len]; exact hp
        simp [this]
      exact h.row _ (List.mem_of_getElem? this)
def stepM (a b : List Edge) (k : Int) (p : Nat) (M : List (List Int)) (q : Nat) : List (List Int) := if (nearE a b M p q k).isSome = true ∧ ent M p q = 0 then setM M p q (k + 1) else M
def rowM (a b : List Edge) (nb : Nat) (k : Int) (M : List (List Int)) (p : Nat) : List (List Int) := (List.range nb).foldl (stepM a b k p) M
def roundM (a b : List Edge) (na nb : Nat) (k : Int) (M : List (List Int)) : List (List Int) := (List.range na).foldl (rowM a b nb k) M
def difM (a b : List Edge) (na nb : Nat) : Nat → List (List Int)
  | 0 => baseM a b nb na
  | j + 1 => roundM a b na nb ((j + 1 : Nat) : Int) (difM a b na nb j)
def differ (a b : Auto) : List (List Int) := difM a.edges b.edges a.states.toNat b.states.toNat (a.states.toNat * b.states.toNat)

set_option maxHeartbeats 8000000 in
@[go_sem] theorem r31 (t u : Nat) (a b : Auto) (hga : a.Good) (hgb : b.Good) :
    res A PrA 31 [.agg [.int .i64 a.states, .int .i64 a.start, .lst t (a.edges.map Edge.c)], .agg [.int .i64 b.states, .int .i64 b.start, .lst u (b.edges.map Edge.c)]] = some [.lst 0 (lls (differ a b))] := by
  refine res_of a31 rfl rfl ?_
  simp only [F31]
  have hfa : ∀ e ∈ a.edges, 0 ≤ e.to ∧ e.to < (a.states.toNat : Int) := fun e he => by have := fits_iff.1 (hga.fit e he); omega
  have hfb : ∀ e ∈ b.edges, 0 ≤ e.to ∧ e.to < (b.states.toNat : Int) := fun e he => by have := fits_iff.1 (hgb.fit e he); omega
  obtain ⟨sa, ma, la, _, _⟩ := hga
  obtain ⟨sb, mb, lb, _, _⟩ := hgb
  have hd : differ a b = difM a.edges b.edges a.states.toNat b.states.toNat (a.states.toNat * b.states.toNat) := rfl
  rw [hd]
  clear hd
  obtain ⟨za, ast, ae⟩ := a
  obtain ⟨zb, bst, be⟩ := b
  dsimp only at *
  obtain ⟨na, rfl⟩ := Int.eq_ofNat_of_zero_le (show 0 ≤ za by omega)
  obtain ⟨nb, rfl⟩ := Int.eq_ofNat_of_zero_le (show 0 ≤ zb by omega)
  simp only [Int.toNat_natCast] at hfa hfb ⊢
  have hN : (na : Int) * (nb : Int) = ((na * nb : Nat) : Int) := by simp
  have hNb : na * nb ≤ 144 := Nat.mul_le_mul (show na ≤ 12 by omega) (show nb ≤ 12 by omega)
  generalize hNN : na * nb = N at hN hNb
  simp (disch := omega) only [go_sem]
  refine W.upto na (fun m => ⟨[(2, .ptr 2 0), (3, .ptr 3 0), (5, .own 0 0 0 na), (6, .pv (.int .i64 m))], ⟨[(2, [.pv (.int .i64 (na : Int)), .pv (.int .i64 ast), .pv (.lst t (ae.map Edge.c))]), (3, [.pv (.int .i64 (nb : Int)), .pv (.int .i64 bst), .pv (.lst u (be.map Edge.c))])], ⟨0, 1, .inr (rowsV (xsTo na nb m))⟩ :: mAr (baseM ae be nb m), []⟩⟩) (fun _ => True) (by rw [xsTo_zero]; rfl) trivial fun m hm _ => ?_
  have hxl := xsTo_len (nb := nb) hm
  have hbl := baseM_len ae be nb m
  simp (disch := omega) only [go_sem]
  refine Br.ofP (fun h => ?_) (fun h => ?_)
  · have hxs := xsTo_set (na := na) (nb := nb) (m := m) (by omega)
    simp (disch := omega) only [go_sem, hbl, hxs]
    have hg1 : ∀ w : List Int, (baseM ae be nb m ++ [w])[m]? = some w := fun w => by rw [List.getElem?_append_right (by omega), hbl]; simp
    have hg2 : ∀ w w' : List Int, (baseM ae be nb m ++ [w]).set m w' = baseM ae be nb m ++ [w'] := fun w w' => by rw [List.set_append_right _ _ (by omega), hbl]; simp
    have hxg := xsTo_get (na := na) (nb := nb) (m := m + 1) (i := m) (by omega) (by omega)
    have hxl' := xsTo_len (na := na) (nb := nb) (m := m + 1) (by omega)
    refine W.upto nb (fun q => ⟨[(2, .ptr 2 0), (3, .ptr 3 0), (5, .own 0 0 0 na), (6, .pv (.int .i64 m)), (7, .pv (.int .i64 q))], ⟨[(2, [.pv (.int .i64 (na : Int)), .pv (.int .i64 ast), .pv (.lst t (ae.map Edge.c))]), (3, [.pv (.int .i64 (nb : Int)), .pv (.int .i64 bst), .pv (.lst u (be.map Edge.c))])], ⟨0, 1, .inr (rowsV (xsTo na nb (m + 1)))⟩ :: mAr (baseM ae be nb m ++ [bTo ae be nb m q]), []⟩⟩) (fun _ => True) ?_ trivial fun q hq _ => ?_
    · rw [bTo_zero]
      rfl
    have hbt := bTo_len (a := ae) (b := be) (p := m) hq
    simp (disch := omega) only [go_sem]
    refine Br.ofP (fun h => ?_) (fun h => ?_)
    · have hset := bTo_set (a := ae) (b := be) (p := m) (show q < nb by omega)
      have hsame := bTo_same (a := ae) (b := be) (p := m) (show q < nb by omega)
      have hset1 : lkB ae be m q = true → (bTo ae be nb m q).set q 1 = bTo ae be nb m (q + 1) := fun hc => by rw [← hset, hc]; rfl
      have hlk : lkB ae be m q = ((lackE ae be m q).isSome || (lackE be ae q m).isSome) := rfl
      simp (disch := omega) only [go_sem]
      refine Br.of (fun f1 => ?_) (fun f1 => ?_) <;> simp (disch := omega) only [go_sem, f1]
      · rw [f1, Bool.true_or] at hlk
        simp (disch := omega) only [go_sem, hxg, hg1, hg2, hset1 hlk]
        exact .of (by omega) rfl trivial
      · refine Br.of (fun f2 => ?_) (fun f2 => ?_) <;> simp (disch := omega) only [go_sem, f2]
        · rw [f1, f2, Bool.false_or] at hlk
          simp (disch := omega) only [go_sem, hxg, hg1, hg2, hset1 hlk]
          exact .of (by omega) rfl trivial
        · rw [f1, f2, Bool.false_or] at hlk
          refine .of (by omega) ?_ trivial
          show _ = St.mk _ _
          rw [hsame hlk]
          rfl
    · obtain rfl : q = nb := by omega
      simp (disch := omega) only [go_sem]
      refine .of (by omega) ?_ trivial
      show _ = St.mk _ _
      rw [baseM_succ]
      rfl
  · obtain rfl : m = na := by omega
    clear h hxl hbl
    simp (disch := omega) only [go_sem]
    refine W.upto N (fun j => ⟨[(2, .ptr 2 0), (3, .ptr 3 0), (5, .own 0 0 0 m), (12, .pv (.int .i64 (j + 1 : Nat)))], ⟨[(2, [.pv (.int .i64 (m : Int)), .pv (.int .i64 ast), .pv (.lst t (ae.map Edge.c))]), (3, [.pv (.int .i64 (nb : Int)), .pv (.int .i64 bst), .pv (.lst u (be.map Edge.c))])], ⟨0, 1, .inr (rowsV (xsTo m nb m))⟩ :: mAr (difM ae be m nb j), []⟩⟩) (fun j => MatOk m nb (difM ae be m nb j)) rfl (baseM_ok ae be nb m) fun j hj hM => ?_
    simp (disch := omega) only [go_sem, hN]
    refine Br.ofP (fun h => ?_) (fun h => ?_)
    · simp (disch := omega) only [go_sem]
      refine W.foldN m (rowM ae be nb ((j + 1 : Nat) : Int)) (difM ae be m nb j) (fun p M => ⟨[(2, .ptr 2 0), (3, .ptr 3 0), (5, .own 0 0 0 m), (12, .pv (.int .i64 (j + 1 : Nat))), (13, .pv (.int .i64 p))], ⟨[(2, [.pv (.int .i64 (m : Int)), .pv (.int .i64 ast), .pv (.lst t (ae.map Edge.c))]), (3, [.pv (.int .i64 (nb : Int)), .pv (.int .i64 bst), .pv (.lst u (be.map Edge.c))])], ⟨0, 1, .inr (rowsV (xsTo m nb m))⟩ :: mAr M, []⟩⟩) (fun _ M => MatOk m nb M) rfl hM (fun p M hp _ hM => ?_) (fun M hMe hM => ?_)
      · simp (disch := omega) only [go_sem]
        refine Br.ofP (fun h => ?_) (fun h => (h (by omega)).elim)
        simp (disch := omega) only [go_sem]
        refine W.foldN nb (stepM ae be ((j + 1 : Nat) : Int) p) M (fun q M => ⟨[(2, .ptr 2 0), (3, .ptr 3 0), (5, .own 0 0 0 m), (12, .pv (.int .i64 (j + 1 : Nat))), (13, .pv (.int .i64 p)), (14, .pv (.int .i64 q))], ⟨[(2, [.pv (.int .i64 (m : Int)), .pv (.int .i64 ast), .pv (.lst t (ae.map Edge.c))]), (3, [.pv (.int .i64 (nb : Int)), .pv (.int .i64 bst), .pv (.lst u (be.map Edge.c))])], ⟨0, 1, .inr (rowsV (xsTo m nb m))⟩ :: mAr M, []⟩⟩) (fun _ M => MatOk m nb M) rfl hM (fun q M hq _ hM => ?_) (fun M hMe hM => ?_)
        · obtain ⟨l, e1, e2, e3⟩ := hM.get (p := (p : Int)) (q := (q : Int)) (by omega) (by omega)
          rw [Int.toNat_natCast] at e1 e3
          have hrt : (rowsV (xsTo m nb m)).take m = rowsV (xsTo m nb m) := List.take_of_length_le (by rw [rowsV_len, xsTo_len (Nat.le_refl _)]; exact Nat.le_refl _)
          have hld := mat_lend hM
          have h41 := r41 t u 2 m nb (fun _ => 1) (m : Int) ast (nb : Int) bst (p : Int) (q : Int) ((j + 1 : Nat) : Int) ae be M (by omega) (by omega) hM hfa hfb
          have hxg := xsTo_get (na := m) (nb := nb) (m := m) (i := p) (by omega) (by omega)
          have hxl := xsTo_len (na := m) (nb := nb) (Nat.le_refl _)
          simp (disch := omega) only [go_sem]
          refine Br.ofP (fun h => ?_) (fun h => (h (by omega)).elim)
          simp (disch := omega) only [go_sem, hrt, hld, h41]
          have hsok := setM_ok (q := q) (v := ((j + 1 : Nat) : Int) + 1) hM hp
          have hset : M.set p (l.set q (((j + 1 : Nat) : Int) + 1)) = setM M p q (((j + 1 : Nat) : Int) + 1) := by
            unfold setM
            rw [List.getD_eq_getElem?_getD, e1]
            rfl
          refine Br.of (fun f1 => ?_) (fun f1 => ?_) <;> simp (disch := omega) only [go_sem, f1, hxg, e1, e3]
          · refine Br.ofP (fun f2 => ?_) (fun f2 => ?_) <;> simp (disch := omega) only [go_sem, f2, hxg, e1, e3, hset]
            · have hst : stepM ae be ((j + 1 : Nat) : Int) p M q = setM M p q (((j + 1 : Nat) : Int) + 1) := if_pos ⟨f1, f2⟩
              rw [hst]
              exact foldK.of rfl hsok
            · have hst : stepM ae be ((j + 1 : Nat) : Int) p M q = M := if_neg (fun hc => f2 hc.2)
              rw [hst]
              exact foldK.of rfl hM
          · have hst : stepM ae be ((j + 1 : Nat) : Int) p M q = M := if_neg (fun hc => by rw [f1] at hc; cases hc.1)
            rw [hst]
            exact foldK.of rfl hM
        · simp (disch := omega) only [go_sem]
          have hr : rowM ae be nb ((j + 1 : Nat) : Int) _ p = M := hMe.symm
          rw [hr]
          exact foldK.of rfl hM
      · simp (disch := omega) only [go_sem]
        have hr : difM ae be m nb (j + 1) = M := hMe.symm
        refine .of (by omega) ?_ (by rw [hr]; exact hM)
        show _ = St.mk _ _
        rw [hr]
        rfl
    · obtain rfl : j = N := by omega
      have hrt : (rowsV (xsTo m nb m)).take m = rowsV (xsTo m nb m) := List.take_of_length_le (by rw [rowsV_len, xsTo_len (Nat.le_refl _)]; exact Nat.le_refl _)
      have hkp := mat_keep hM
      simp (disch := omega) only [go_sem, hrt, hkp]

end Go.Pv

/-
  Plain laws: states that are alike for so many actions.
-/
namespace Go.Pv

def OptR (R : Int → Int → Prop) : Option Int → Option Int → Prop
  | none, none => True
  | some x, some y => R x y
  | _, _ => False
theorem OptR.mono {R S : Int → Int → Prop} {x y : Option Int} (h : ∀ a b, x = some a → y = some b → R a b → S a b) (hr : OptR R x y) : OptR S x y := by
  cases x <;> cases y <;> simp_all [OptR]
/-- The same lists of up to so many actions are possible. -/
def Ev (a b : List Edge) : Nat → Int → Int → Prop
  | 0, _, _ => True
  | j + 1, p, q => ∀ d x, OptR (Ev a b j) (nextE p d x a) (nextE q d x b)
theorem Ev.down {a b : List Edge} : ∀ {j : Nat} {p q : Int}, Ev a b (j + 1) p q → Ev a b j p q
  | 0, _, _, _ => trivial
  | j + 1, p, q, h => fun d x => (h d x).mono fun _ _ _ _ hr => Ev.down hr
theorem Ev.le {a b : List Edge} {j k : Nat} {p q : Int} (hk : k ≤ j) (h : Ev a b j p q) : Ev a b k p q := by
  induction j with
  | zero =>
    obtain rfl : k = 0 := by omega
    exact h
  | succ j ih =>
    rcases Nat.lt_or_ge j k with h1 | h1
    · obtain rfl : k = j + 1 := by omega
      exact h
    · exact ih h1 h.down
theorem Ev.refl (a : List Edge) : ∀ (j : Nat) (p : Int), Ev a a j p p
  | 0, _ => trivial
  | j + 1, p => fun d x => by
    cases nextE p d x a with
    | none => trivial
    | some t => exact Ev.refl a j t
theorem Ev.symm {a b : List Edge} : ∀ {j : Nat} {p q : Int}, Ev a b j p q → Ev b a j q p
  | 0, _, _, _ => trivial
  | j + 1, p, q, h => fun d x => by
    have := h d x
    cases hp : nextE p d x a <;> cases hq : nextE q d x b <;> simp only [hp, hq, OptR] at this ⊢
    exact Ev.symm this
theorem Ev.trans {a b c : List Edge} : ∀ {j : Nat} {p q r : Int}, Ev a b j p q → Ev b c j q r → Ev a c j p r
  | 0, _, _, _, _, _ => trivial
  | j + 1, p, q, r, h, h2 => fun d x => by
    have h3 := h d x
    have h4 := h2 d x
    cases hp : nextE p d x a <;> cases hq : nextE q d x b <;> cases hr : nextE r d x c <;> simp only [hp, hq, hr, OptR] at h3 h4 ⊢
    exact Ev.trans h3 h4

/-- In the range of an automaton. -/
theorem Auto.Good.next_in {a : Auto} (h : a.Good) {p t : Int} {d : Bool} {x : Int} (hn : nextE p d x a.edges = some t) : a.inr t := by
  have := fits_iff.1 (h.fit _ ((nextE_some h.apt).1 hn))
  exact ⟨this.2.2.1, this.2.2.2.1⟩
theorem filter_len {α : Type} {p q : α → Bool} : ∀ {l : List α}, (∀ x ∈ l, q x = true → p x = true) → (l.filter q).length ≤ (l.filter p).length ∧ ((l.filter q).length = (l.filter p).length → ∀ x ∈ l, p x = true → q x = true)
  | [], _ => ⟨Nat.le_refl _, fun _ x hx => by cases hx⟩
  | y :: l, h => by
    obtain ⟨h1, h2⟩ := filter_len (l := l) fun x hx => h x (by simp [hx])
    have hy := h y (by simp)
    cases hq : q y <;> cases hp : p y <;> simp only [List.filter_cons, hq, hp, if_true, if_false, Bool.false_eq_true, List.length_cons]
    · refine ⟨h1, fun he x hx hpx => ?_⟩
      rcases List.mem_cons.1 hx with rfl | hx
      · rw [hp] at hpx; cases hpx
      · exact h2 he x hx hpx
    · exact ⟨by omega, fun he => by omega⟩
    · rw [hq, hp] at hy
      cases hy rfl
    · refine ⟨by omega, fun he x hx hpx => ?_⟩
      rcases List.mem_cons.1 hx with rfl | hx
      · exact hq
      · exact h2 (by omega) x hx hpx
open Classical in
/-- After as many rounds as there are pairs nothing changes. -/
theorem Ev.stable {a b : Auto} (ha : a.Good) (hb : b.Good) {p q : Int} (hp : a.inr p) (hq : b.inr q) (h : Ev a.edges b.edges (a.states.toNat * b.states.toNat) p q) : ∀ j, Ev a.edges b.edges j p q := by
  let prsL : List (Int × Int) := (iota a.states.toNat).flatMap fun p => (iota b.states.toNat).map fun q => (p, q)
  have hlen : prsL.length = a.states.toNat * b.states.toNat := by
    have : ∀ l : List Int, (l.flatMap fun p => (iota b.states.toNat).map fun q => (p, q)).length = l.length * b.states.toNat := by
      intro l
      induction l with
      | nil => simp
      | cons x l ih => rw [List.flatMap_cons, List.length_append, ih]; simp [iota]; rw [Nat.add_mul]; omega
    have h2 := this (iota a.states.toNat)
    rw [show (iota a.states.toNat).length = a.states.toNat by simp [iota]] at h2
    exact h2
  have hmem : ∀ {p q : Int}, a.inr p → b.inr q → (p, q) ∈ prsL := fun {p q} hp hq => by
    rw [List.mem_flatMap]
    unfold Auto.inr at hp hq
    exact ⟨p, iota_mem.2 (by omega), List.mem_map.2 ⟨q, iota_mem.2 (by omega), rfl⟩⟩
  let S : Nat → List (Int × Int) := fun j => prsL.filter fun x => decide (Ev a.edges b.edges j x.1 x.2)
  have hS : ∀ j, (S (j + 1)).length ≤ (S j).length ∧ ((S (j + 1)).length = (S j).length → ∀ x ∈ prsL, Ev a.edges b.edges j x.1 x.2 → Ev a.edges b.edges (j + 1) x.1 x.2) := fun j => by
    obtain ⟨h1, h2⟩ := filter_len (l := prsL) (p := fun x => decide (Ev a.edges b.edges j x.1 x.2)) (q := fun x => decide (Ev a.edges b.edges (j + 1) x.1 x.2)) (fun x _ hx => by
      simp only [decide_eq_true_eq] at hx ⊢
      exact hx.down)
    refine ⟨h1, fun he x hx hv => ?_⟩
    have := h2 he x hx (by simpa using hv)
    simpa using this
  have h0 : (S 0).length ≤ a.states.toNat * b.states.toNat := by
    rw [← hlen]
    exact List.length_filter_le _ _
  obtain ⟨j, hj, hje⟩ : ∃ j, j ≤ a.states.toNat * b.states.toNat ∧ (S (j + 1)).length = (S j).length := by
    apply Classical.byContradiction
    intro hno
    have hall : ∀ j, j ≤ a.states.toNat * b.states.toNat + 1 → (S j).length + j ≤ a.states.toNat * b.states.toNat := by
      intro j
      induction j with
      | zero => intro _; simpa using h0
      | succ j ih =>
        intro hj
        have h1 := ih (by omega)
        have h2 := (hS j).1
        have h3 : (S (j + 1)).length ≠ (S j).length := fun e => hno ⟨j, by omega, e⟩
        omega
    have := hall (a.states.toNat * b.states.toNat + 1) (Nat.le_refl _)
    omega
  have hst : ∀ k, ∀ {p q : Int}, a.inr p → b.inr q → Ev a.edges b.edges j p q → Ev a.edges b.edges (j + k) p q := by
    intro k
    induction k with
    | zero => intro p q _ _ h; exact h
    | succ k ih =>
      intro p q hp hq h
      have h1 := (hS j).2 hje (p, q) (hmem hp hq) h
      intro d x
      exact (h1 d x).mono fun s t hs ht hr => ih (ha.next_in hs) (hb.next_in ht) hr
  intro k
  rcases Nat.lt_or_ge k j with hk | hk
  · exact h.le (by omega)
  · have := hst (k - j) hp hq (h.le hj)
    rwa [show j + (k - j) = k by omega] at this
/-- Once a round changes nothing, no later one does. -/
theorem Ev.fix {a b : Auto} (ha : a.Good) (hb : b.Good) {j : Nat} (hj : ∀ p q, a.inr p → b.inr q → Ev a.edges b.edges j p q → Ev a.edges b.edges (j + 1) p q) {p q : Int} (hp : a.inr p) (hq : b.inr q) (h : Ev a.edges b.edges j p q) : ∀ k, Ev a.edges b.edges k p q := by
  have hst : ∀ k, ∀ {p q : Int}, a.inr p → b.inr q → Ev a.edges b.edges j p q → Ev a.edges b.edges (j + k) p q := by
    intro k
    induction k with
    | zero => intro p q _ _ h; exact h
    | succ k ih =>
      intro p q hp hq h
      have h1 := hj p q hp hq h
      intro d x
      exact (h1 d x).mono fun s t hs ht hr => ih (ha.next_in hs) (hb.next_in ht) hr
  intro k
  rcases Nat.lt_or_ge k j with hk | hk
  · exact h.le (by omega)
  · have := hst (k - j) hp hq h
    rwa [show j + (k - j) = k by omega] at this

open Classical in
/-- The length of the shortest list that only one of two states can do, if it is no longer than so much; 0 if there is none. -/
noncomputable def lst (a b : List Edge) : Nat → Int → Int → Nat
  | 0, _, _ => 0
  | k + 1, p, q => if lst a b k p q ≠ 0 then lst a b k p q else if Ev a b (k + 1) p q then 0 else k + 1
theorem lst_zero {a b : List Edge} : ∀ {k : Nat} {p q : Int}, lst a b k p q = 0 ↔ Ev a b k p q
  | 0, _, _ => by simp [lst, Ev]
  | k + 1, p, q => by
    have ih := lst_zero (a := a) (b := b) (k := k) (p := p) (q := q)
    unfold lst
    by_cases h : lst a b k p q = 0
    · rw [if_neg (by simp [h])]
      by_cases h2 : Ev a b (k + 1) p q
      · simp [h2]
      · simp [h2]
    · rw [if_pos h]
      exact ⟨fun h' => (h h').elim, fun h' => (h (ih.2 h'.down)).elim⟩
theorem lst_succ {a b : List Edge} {m : Nat} {p q : Int} : ∀ {k : Nat}, lst a b k p q = m + 1 ↔ m + 1 ≤ k ∧ Ev a b m p q ∧ ¬ Ev a b (m + 1) p q
  | 0 => by simp [lst]
  | k + 1 => by
    have ih := lst_succ (a := a) (b := b) (m := m) (p := p) (q := q) (k := k)
    have hz := lst_zero (a := a) (b := b) (k := k) (p := p) (q := q)
    unfold lst
    by_cases h : lst a b k p q = 0
    · rw [if_neg (by simp [h])]
      have hk := hz.1 h
      by_cases h2 : Ev a b (k + 1) p q
      · rw [if_pos h2]
        constructor
        · intro h'; cases h'
        · rintro ⟨h3, h4, h5⟩
          exact (h5 (h2.le h3)).elim
      · rw [if_neg h2]
        constructor
        · intro h'
          obtain rfl : k = m := by omega
          exact ⟨Nat.le_refl _, hk, h2⟩
        · rintro ⟨h3, h4, h5⟩
          rcases Nat.lt_or_ge m k with h6 | h6
          · exact (h5 (hk.le h6)).elim
          · omega
    · rw [if_pos h, ih]
      constructor
      · rintro ⟨h3, h4, h5⟩
        exact ⟨by omega, h4, h5⟩
      · rintro ⟨h3, h4, h5⟩
        refine ⟨?_, h4, h5⟩
        rcases Nat.lt_or_ge m k with h6 | h6
        · exact h6
        · obtain rfl : m = k := by omega
          exact (h (hz.2 h4)).elim

end Go.Pv

/-
  What the table of differences holds.
-/
namespace Go.Pv

theorem edgesOf_mem {es : List Edge} {p : Int} {e : Edge} : e ∈ edgesOf es p ↔ e ∈ es ∧ e.fr = p := by simp [edgesOf]
theorem lackE_iff {a b : List Edge} (ha : a.Pairwise (apt Edge.lt)) {p q : Int} : (lackE a b p q).isSome = true ↔ ∃ d x t, nextE p d x a = some t ∧ nextE q d x b = none := by
  unfold lackE
  rw [List.find?_isSome]
  constructor
  · rintro ⟨e, he, hn⟩
    obtain ⟨h1, rfl⟩ := edgesOf_mem.1 he
    exact ⟨e.send, e.label, e.to, (nextE_some ha).2 h1, by simpa using hn⟩
  · rintro ⟨d, x, t, h1, h2⟩
    exact ⟨⟨p, d, x, t⟩, edgesOf_mem.2 ⟨(nextE_some ha).1 h1, rfl⟩, by simp [h2]⟩
theorem lkB_iff {a b : List Edge} (ha : a.Pairwise (apt Edge.lt)) (hb : b.Pairwise (apt Edge.lt)) {p q : Int} : lkB a b p q = true ↔ ¬ Ev a b 1 p q := by
  unfold lkB
  rw [Bool.or_eq_true, lackE_iff ha, lackE_iff hb]
  constructor
  · rintro (⟨d, x, t, h1, h2⟩ | ⟨d, x, t, h1, h2⟩) h
    · have := h d x
      rw [h1, h2] at this
      exact this
    · have := h d x
      rw [h1, h2] at this
      exact this
  · intro h
    apply Classical.byContradiction
    intro hno
    apply h
    intro d x
    cases h1 : nextE p d x a with
    | none =>
      cases h2 : nextE q d x b with
      | none => trivial
      | some t => exact (hno (.inr ⟨d, x, t, h2, h1⟩)).elim
    | some t =>
      cases h2 : nextE q d x b with
      | none => exact (hno (.inl ⟨d, x, t, h1, h2⟩)).elim
      | some u => trivial
theorem nearE_iff {a b : List Edge} (ha : a.Pairwise (apt Edge.lt)) {M : List (List Int)} {p q k : Int} : (nearE a b M p q k).isSome = true ↔ ∃ d x t u, nextE p d x a = some t ∧ nextE q d x b = some u ∧ ent M t u = k := by
  unfold nearE
  rw [List.find?_isSome]
  constructor
  · rintro ⟨e, he, hn⟩
    obtain ⟨h1, rfl⟩ := edgesOf_mem.1 he
    unfold nearP at hn
    split at hn
    · rename_i u hu
      exact ⟨e.send, e.label, e.to, u, (nextE_some ha).2 h1, hu, by simpa using hn⟩
    · cases hn
  · rintro ⟨d, x, t, u, h1, h2, h3⟩
    exact ⟨⟨p, d, x, t⟩, edgesOf_mem.2 ⟨(nextE_some ha).1 h1, rfl⟩, by simp [nearP, h2, h3]⟩

theorem ent_set {na nb p q p' q' : Nat} {M : List (List Int)} {v : Int} (h : MatOk na nb M) (hp : p < na) (hq : q < nb) (hp' : p' < na) : ent (setM M p q v) p' q' = if p = p' ∧ q = q' then v else ent M p' q' := by
  have hl : p < M.length := by rw [h.len]; exact hp
  have hr : (M.getD p []).length = nb := h.row _ (by
    have : M[p]? = some (M.getD p []) := by simp [hl]
    exact List.mem_of_getElem? this)
  have hgs : ∀ r : List Int, (M.set p r).getD p' [] = if p = p' then r else M.getD p' [] := fun r => by
    simp only [List.getD_eq_getElem?_getD, List.getElem?_set]
    by_cases e : p = p'
    · subst e
      simp [hl]
    · simp [e]
  unfold ent setM
  simp only [Int.toNat_natCast]
  rw [hgs]
  by_cases e : p = p'
  · subst e
    rw [if_pos rfl, getD_set' (by rw [hr]; exact hq)]
    simp
  · simp [e]
/-- What a round writes. -/
noncomputable def newE (a b : List Edge) (M : List (List Int)) (k : Int) (p q : Nat) : Int := if (nearE a b M p q k).isSome = true ∧ ent M p q = 0 then k + 1 else ent M p q
theorem near_same {a b : Auto} (ha : a.Good) (hb : b.Good) {M M' : List (List Int)} {k p q : Int} (h : ∀ s t : Int, a.inr s → b.inr t → (ent M' s t = k ↔ ent M s t = k)) : (nearE a.edges b.edges M' p q k).isSome = (nearE a.edges b.edges M p q k).isSome := by
  rw [Bool.eq_iff_iff, nearE_iff ha.apt, nearE_iff ha.apt]
  constructor
  · rintro ⟨d, x, t, u, h1, h2, h3⟩
    exact ⟨d, x, t, u, h1, h2, (h t u (ha.next_in h1) (hb.next_in h2)).1 h3⟩
  · rintro ⟨d, x, t, u, h1, h2, h3⟩
    exact ⟨d, x, t, u, h1, h2, (h t u (ha.next_in h1) (hb.next_in h2)).2 h3⟩
theorem newE_same {a b : List Edge} {M : List (List Int)} {k : Int} (hk : 1 ≤ k) {p q : Nat} : newE a b M k p q = k ↔ ent M p q = k := by
  unfold newE
  split
  · rename_i h
    rw [h.2]
    omega
  · rfl

/-- One round, entry by entry. -/
theorem round_ent {a b : Auto} (ha : a.Good) (hb : b.Good) {M : List (List Int)} {k : Int} (hk : 1 ≤ k) (hM : MatOk a.states.toNat b.states.toNat M) : MatOk a.states.toNat b.states.toNat (roundM a.edges b.edges a.states.toNat b.states.toNat k M) ∧
    ∀ p q : Nat, p < a.states.toNat → q < b.states.toNat → ent (roundM a.edges b.edges a.states.toNat b.states.toNat k M) p q = newE a.edges b.edges M k p q := by
  let Inv : Nat → Nat → List (List Int) → Prop := fun P Q M' => MatOk a.states.toNat b.states.toNat M' ∧ ∀ p q : Nat, p < a.states.toNat → q < b.states.toNat → ent M' p q = if p < P ∨ (p = P ∧ q < Q) then newE a.edges b.edges M k p q else ent M p q
  have hin : ∀ P, P < a.states.toNat → ∀ Q, Q ≤ b.states.toNat → ∀ M', Inv P 0 M' → Inv P Q ((List.range Q).foldl (stepM a.edges b.edges k P) M') := by
    intro P hP Q
    induction Q with
    | zero => intro _ M' h; exact h
    | succ Q ih =>
      intro hQ M' h
      rw [List.range_succ, List.foldl_append]
      obtain ⟨h1, h2⟩ := ih (by omega) M' h
      generalize (List.range Q).foldl (stepM a.edges b.edges k P) M' = N at h1 h2
      have hsame : (nearE a.edges b.edges N P Q k).isSome = (nearE a.edges b.edges M P Q k).isSome := near_same ha hb fun s t hs ht => by
        unfold Auto.inr at hs ht
        have := h2 s.toNat t.toNat (by omega) (by omega)
        rw [show ((s.toNat : Nat) : Int) = s by omega, show ((t.toNat : Nat) : Int) = t by omega] at this
        rw [this]
        split
        · have h3 := newE_same (a := a.edges) (b := b.edges) (M := M) hk (p := s.toNat) (q := t.toNat)
          rw [show ((s.toNat : Nat) : Int) = s by omega, show ((t.toNat : Nat) : Int) = t by omega] at h3
          exact h3
        · rfl
      have hent : ent N P Q = ent M P Q := by
        rw [h2 P Q hP (by omega), if_neg (by omega)]
      show Inv P (Q + 1) (stepM a.edges b.edges k P N Q)
      have hnew : newE a.edges b.edges M k P Q = if (nearE a.edges b.edges N P Q k).isSome = true ∧ ent N P Q = 0 then k + 1 else ent M P Q := by
        unfold newE
        rw [hsame, hent]
      unfold stepM
      split
      · rename_i hc
        rw [if_pos hc] at hnew
        refine ⟨setM_ok h1 hP, fun p q hp hq => ?_⟩
        rw [ent_set h1 hP (by omega) hp]
        by_cases e : P = p ∧ Q = q
        · obtain ⟨rfl, rfl⟩ := e
          rw [if_pos ⟨rfl, rfl⟩, if_pos (by omega), hnew]
        · rw [if_neg e, h2 p q hp hq]
          by_cases h3 : p < P ∨ (p = P ∧ q < Q)
          · rw [if_pos h3, if_pos (by omega)]
          · rw [if_neg h3, if_neg (by omega)]
      · rename_i hc
        rw [if_neg hc] at hnew
        refine ⟨h1, fun p q hp hq => ?_⟩
        rw [h2 p q hp hq]
        by_cases e : P = p ∧ Q = q
        · obtain ⟨rfl, rfl⟩ := e
          rw [if_neg (by omega), if_pos (by omega), hnew]
        · by_cases h3 : p < P ∨ (p = P ∧ q < Q)
          · rw [if_pos h3, if_pos (by omega)]
          · rw [if_neg h3, if_neg (by omega)]
  have hout : ∀ P, P ≤ a.states.toNat → Inv P 0 ((List.range P).foldl (rowM a.edges b.edges b.states.toNat k) M) := by
    intro P
    induction P with
    | zero => exact fun _ => ⟨hM, fun p q _ _ => by rw [if_neg (by omega)]; rfl⟩
    | succ P ih =>
      intro hP
      rw [List.range_succ, List.foldl_append]
      obtain ⟨h1, h2⟩ := hin P (by omega) b.states.toNat (Nat.le_refl _) _ (ih (by omega))
      refine ⟨h1, fun p q hp hq => ?_⟩
      have := h2 p q hp hq
      refine this.trans ?_
      by_cases h3 : p < P ∨ (p = P ∧ q < b.states.toNat)
      · rw [if_pos h3, if_pos (by omega)]
      · rw [if_neg h3, if_neg (by omega)]
  obtain ⟨h1, h2⟩ := hout a.states.toNat (Nat.le_refl _)
  refine ⟨h1, fun p q hp hq => ?_⟩
  exact (h2 p q hp hq).trans (by rw [if_pos (by omega)])

/-- The table after so many rounds. -/
theorem difM_ent {a b : Auto} (ha : a.Good) (hb : b.Good) : ∀ j, MatOk a.states.toNat b.states.toNat (difM a.edges b.edges a.states.toNat b.states.toNat j) ∧
    ∀ p q : Nat, p < a.states.toNat → q < b.states.toNat → ent (difM a.edges b.edges a.states.toNat b.states.toNat j) p q = (lst a.edges b.edges (j + 1) p q : Int)
  | 0 => by
    refine ⟨baseM_ok _ _ _ _, fun p q hp hq => ?_⟩
    have hbl : bTo a.edges b.edges b.states.toNat p b.states.toNat = (List.range b.states.toNat).map fun (q : Nat) => b01 (lkB a.edges b.edges p q) := by
      have := partTo_all (fun (q : Nat) => b01 (lkB a.edges b.edges p q)) 0 (List.range b.states.toNat)
      rw [List.length_range] at this
      exact this
    have he : ent (difM a.edges b.edges a.states.toNat b.states.toNat 0) p q = b01 (lkB a.edges b.edges p q) := by
      unfold ent difM baseM
      simp only [Int.toNat_natCast, List.getD_eq_getElem?_getD, List.getElem?_map, List.getElem?_range hp, Option.map_some, Option.getD_some, hbl, List.getElem?_range hq]
    rw [he]
    have h1 := lst_zero (a := a.edges) (b := b.edges) (k := 1) (p := p) (q := q)
    have h2 := lst_succ (a := a.edges) (b := b.edges) (m := 0) (k := 1) (p := p) (q := q)
    by_cases hl : lkB a.edges b.edges p q = true
    · have := h2.2 ⟨Nat.le_refl _, trivial, (lkB_iff ha.apt hb.apt).1 hl⟩
      rw [this, hl]
      rfl
    · have hz := h1.2 (Classical.byContradiction fun hn => hl ((lkB_iff ha.apt hb.apt).2 hn))
      rw [hz]
      simp [b01, hl]
  | j + 1 => by
    obtain ⟨h1, h2⟩ := difM_ent ha hb j
    obtain ⟨g1, g2⟩ := round_ent ha hb (k := ((j + 1 : Nat) : Int)) (by omega) h1
    refine ⟨g1, fun p q hp hq => ?_⟩
    have hg := g2 p q hp hq
    have hd : difM a.edges b.edges a.states.toNat b.states.toNat (j + 1) = roundM a.edges b.edges a.states.toNat b.states.toNat ((j + 1 : Nat) : Int) (difM a.edges b.edges a.states.toNat b.states.toNat j) := rfl
    rw [hd, hg]
    unfold newE
    rw [h2 p q hp hq]
    by_cases h0 : lst a.edges b.edges (j + 1) p q = 0
    · have hev := lst_zero.1 h0
      have hn : (nearE a.edges b.edges (difM a.edges b.edges a.states.toNat b.states.toNat j) p q ((j + 1 : Nat) : Int)).isSome = true ↔ ¬ Ev a.edges b.edges (j + 2) p q := by
        rw [nearE_iff ha.apt]
        constructor
        · rintro ⟨d, x, t, u, e1, e2, e3⟩ hc
          have ht := ha.next_in e1
          have hu := hb.next_in e2
          unfold Auto.inr at ht hu
          have h3 := h2 t.toNat u.toNat (by omega) (by omega)
          rw [show ((t.toNat : Nat) : Int) = t by omega, show ((u.toNat : Nat) : Int) = u by omega] at h3
          rw [h3] at e3
          have h4 := (lst_succ (m := j)).1 (show lst a.edges b.edges (j + 1) t u = j + 1 by omega)
          have h5 := hc d x
          rw [e1, e2] at h5
          exact h4.2.2 h5
        · intro hc
          apply Classical.byContradiction
          intro hno
          apply hc
          intro d x
          have h6 := hev d x
          cases e1 : nextE p d x a.edges with
          | none =>
            cases e2 : nextE q d x b.edges with
            | none => trivial
            | some u => rw [e1, e2] at h6; exact h6
          | some t =>
            cases e2 : nextE q d x b.edges with
            | none => rw [e1, e2] at h6; exact h6
            | some u =>
              rw [e1, e2] at h6
              show Ev a.edges b.edges (j + 1) t u
              apply Classical.byContradiction
              intro h7
              apply hno
              have ht := ha.next_in e1
              have hu := hb.next_in e2
              unfold Auto.inr at ht hu
              have h3 := h2 t.toNat u.toNat (by omega) (by omega)
              rw [show ((t.toNat : Nat) : Int) = t by omega, show ((u.toNat : Nat) : Int) = u by omega] at h3
              exact ⟨d, x, t, u, e1, e2, by rw [h3, (lst_succ (m := j)).2 ⟨Nat.le_refl _, h6, h7⟩]⟩
      by_cases hE : Ev a.edges b.edges (j + 2) p q
      · rw [if_neg (fun hc => (hn.1 hc.1) hE), h0, lst_zero.2 hE]
      · rw [if_pos ⟨hn.2 hE, by rw [h0]; rfl⟩, (lst_succ (m := j + 1)).2 ⟨Nat.le_refl _, hev, hE⟩]
        omega
    · have hne : ¬ ((lst a.edges b.edges (j + 1) p q : Int) = 0) := by omega
      rw [if_neg (fun hc => hne hc.2)]
      congr 1
      obtain ⟨m, hm⟩ : ∃ m, lst a.edges b.edges (j + 1) p q = m + 1 := ⟨lst a.edges b.edges (j + 1) p q - 1, by omega⟩
      obtain ⟨k1, k2, k3⟩ := lst_succ.1 hm
      rw [hm]
      exact (lst_succ.2 ⟨by omega, k2, k3⟩).symm

/-- Where the table is empty, nothing tells two states apart. -/
theorem differ_zero {a b : Auto} (ha : a.Good) (hb : b.Good) {p q : Int} (hp : a.inr p) (hq : b.inr q) : ent (differ a b) p q = 0 ↔ ∀ j, Ev a.edges b.edges j p q := by
  have hp' := hp
  have hq' := hq
  unfold Auto.inr at hp' hq'
  have h := (difM_ent ha hb (a.states.toNat * b.states.toNat)).2 p.toNat q.toNat (by omega) (by omega)
  rw [show ((p.toNat : Nat) : Int) = p by omega, show ((q.toNat : Nat) : Int) = q by omega] at h
  unfold differ
  rw [h]
  constructor
  · intro h0
    exact Ev.stable ha hb hp hq ((lst_zero.1 (show lst a.edges b.edges _ p q = 0 by omega)).down)
  · intro hall
    rw [lst_zero.2 (hall _)]
    rfl

end Go.Pv

/-
  Classes of states: the program's and the reference's.
-/
namespace Go.Pv

theorem leastC_spec (es : List Edge) (c : List Int) (i : Nat) : (leastC es c i = i ∨ simB es c (leastC es c i) i = true) ∧ leastC es c i ≤ i ∧ ∀ k, k < leastC es c i → simB es c k i = false := by
  unfold leastC
  cases h : (List.range i).find? fun k => simB es c k i with
  | none =>
    rw [List.find?_eq_none] at h
    exact ⟨.inl rfl, Nat.le_refl _, fun k hk => by simpa using h k (List.mem_range.2 hk)⟩
  | some l =>
    rw [List.find?_eq_some_iff_getElem] at h
    obtain ⟨h1, j, hj, h2, h3⟩ := h
    simp only [List.getElem_range] at h2 h3
    simp only [List.length_range] at hj
    subst h2
    exact ⟨.inr (by simpa using h1), by simp; omega, fun k hk => by simpa using h3 k hk⟩

theorem movesL_mem {es : List Edge} {s : Int} {c : List Int} {m : Mv} : m ∈ movesL es s c ↔ ∃ t, (⟨s, m.send, m.label, t⟩ : Edge) ∈ es ∧ m.cls = c.getD t.toNat 0 := by
  unfold movesL
  rw [List.mem_map]
  constructor
  · rintro ⟨e, he, rfl⟩
    obtain ⟨h1, h2⟩ := List.mem_filter.1 he
    simp only [beq_iff_eq] at h2
    subst h2
    exact ⟨e.to, h1, rfl⟩
  · rintro ⟨t, h1, h2⟩
    refine ⟨_, List.mem_filter.2 ⟨h1, by simp⟩, ?_⟩
    cases m
    simp_all
def Mv.lt (a b : Mv) : Bool := if a.send ≠ b.send then b.send else decide (a.label < b.label)
theorem movesL_pw {es : List Edge} (h : es.Pairwise (fun x y => Edge.lt x y = true)) (s : Int) (c : List Int) : (movesL es s c).Pairwise (fun x y => Mv.lt x y = true) := by
  unfold movesL
  rw [List.pairwise_map]
  refine List.Pairwise.imp_of_mem (fun {x y} hx hy hxy => ?_) (h.filter _)
  have hx' := (List.mem_filter.1 hx).2
  have hy' := (List.mem_filter.1 hy).2
  simp only [beq_iff_eq] at hx' hy'
  unfold Edge.lt at hxy
  rw [hx', hy'] at hxy
  simpa [Mv.lt] using hxy
theorem movesL_eq {es : List Edge} (h : es.Pairwise (fun x y => Edge.lt x y = true)) {p q : Int} {c : List Int} : movesL es p c = movesL es q c ↔ ∀ d x, (nextE p d x es).map (fun t => c.getD t.toNat 0) = (nextE q d x es).map (fun t => c.getD t.toNat 0) := by
  have ha : es.Pairwise (apt Edge.lt) := h.imp .inl
  have key : ∀ {p q : Int}, movesL es p c = movesL es q c → ∀ d x t, nextE p d x es = some t → ∃ u, nextE q d x es = some u ∧ c.getD u.toNat 0 = c.getD t.toNat 0 := fun {p q} he d x t ht => by
    have hm : (⟨d, x, c.getD t.toNat 0⟩ : Mv) ∈ movesL es p c := movesL_mem.2 ⟨t, (nextE_some ha).1 ht, rfl⟩
    rw [he] at hm
    obtain ⟨u, h1, h2⟩ := movesL_mem.1 hm
    exact ⟨u, (nextE_some ha).2 h1, h2.symm⟩
  constructor
  · intro he d x
    cases hp : nextE p d x es with
    | none =>
      cases hq : nextE q d x es with
      | none => rfl
      | some u =>
        obtain ⟨t, h1, _⟩ := key he.symm d x u hq
        rw [hp] at h1
        cases h1
    | some t =>
      obtain ⟨u, h1, h2⟩ := key he d x t hp
      rw [h1]
      simp only [Option.map_some, h2]
  · intro hh
    refine pw_ext (r := fun x y => Mv.lt x y = true) (fun x => by simp [Mv.lt]) (fun x y z h1 h2 => ?_) (movesL_pw h p c) (movesL_pw h q c) fun m => ?_
    · unfold Mv.lt at *
      by_cases b1 : x.send = y.send <;> by_cases b2 : y.send = z.send <;> simp_all <;> (try omega)
    · have half : ∀ {p q : Int}, (∀ d x, (nextE p d x es).map (fun t => c.getD t.toNat 0) = (nextE q d x es).map (fun t => c.getD t.toNat 0)) → m ∈ movesL es p c → m ∈ movesL es q c := fun {p q} hh hm => by
        obtain ⟨t, h1, h2⟩ := movesL_mem.1 hm
        have h3 := hh m.send m.label
        rw [(nextE_some ha).2 h1] at h3
        cases hq : nextE q m.send m.label es with
        | none => rw [hq] at h3; cases h3
        | some u =>
          rw [hq] at h3
          simp only [Option.map_some, Option.some.injEq] at h3
          exact movesL_mem.2 ⟨u, (nextE_some ha).1 hq, h2.trans h3⟩
      exact ⟨half hh, half fun d x => (hh d x).symm⟩

/-- The least one to which something is related. -/
structure Lst (R : Nat → Nat → Prop) (p l : Nat) : Prop where
  rel : R l p
  min : ∀ k, k < l → ¬ R k p
theorem Lst.uniq {R S : Nat → Nat → Prop} {p l m : Nat} (h : Lst R p l) (h2 : Lst S p m) (hl : R l p → S l p) (hm : S m p → R m p) : l = m := by
  rcases Nat.lt_trichotomy l m with h3 | h3 | h3
  · exact (h2.min l h3 (hl h.rel)).elim
  · exact h3
  · exact (h.min m h3 (hm h2.rel)).elim

theorem cls_spec {a : Auto} (ha : a.Good) : ∀ j,
    (∀ p q : Nat, p < a.states.toNat → q < a.states.toNat → ((cls a.states.toNat a.edges j).getD p 0 = (cls a.states.toNat a.edges j).getD q 0 ↔ Ev a.edges a.edges j p q)) ∧
    (∀ p : Nat, p < a.states.toNat → leastC a.edges (cls a.states.toNat a.edges j) p ≤ p ∧ Lst (fun k i => Ev a.edges a.edges (j + 1) k i) p (leastC a.edges (cls a.states.toNat a.edges j) p)) := by
  have second : ∀ j, (∀ p q : Nat, p < a.states.toNat → q < a.states.toNat → ((cls a.states.toNat a.edges j).getD p 0 = (cls a.states.toNat a.edges j).getD q 0 ↔ Ev a.edges a.edges j p q)) →
      ∀ p : Nat, p < a.states.toNat → leastC a.edges (cls a.states.toNat a.edges j) p ≤ p ∧ Lst (fun k i => Ev a.edges a.edges (j + 1) k i) p (leastC a.edges (cls a.states.toNat a.edges j) p) := by
    intro j hj p hp
    have hsim : ∀ k i : Nat, k < a.states.toNat → i < a.states.toNat → (simB a.edges (cls a.states.toNat a.edges j) k i = true ↔ Ev a.edges a.edges (j + 1) k i) := fun k i hk hi => by
      unfold simB
      rw [Bool.and_eq_true, decide_eq_true_eq, decide_eq_true_eq, hj k i hk hi, movesL_eq ha.asc]
      have hcl : ∀ {t u : Int}, a.inr t → a.inr u → ((cls a.states.toNat a.edges j).getD t.toNat 0 = (cls a.states.toNat a.edges j).getD u.toNat 0 ↔ Ev a.edges a.edges j t u) := fun {t u} ht hu => by
        unfold Auto.inr at ht hu
        have := hj t.toNat u.toNat (by omega) (by omega)
        rw [show ((t.toNat : Nat) : Int) = t by omega, show ((u.toNat : Nat) : Int) = u by omega] at this
        exact this
      constructor
      · rintro ⟨_, h2⟩ d x
        have h3 := h2 d x
        cases e1 : nextE k d x a.edges <;> cases e2 : nextE i d x a.edges <;> rw [e1, e2] at h3 <;> first | trivial | cases h3 | skip
        simp only [Option.map_some, Option.some.injEq] at h3
        exact (hcl (ha.next_in e1) (ha.next_in e2)).1 h3
      · intro h
        refine ⟨h.down, fun d x => ?_⟩
        have h3 := h d x
        cases e1 : nextE k d x a.edges <;> cases e2 : nextE i d x a.edges <;> rw [e1, e2] at h3 <;> first | rfl | (exact h3.elim) | skip
        simp only [Option.map_some, Option.some.injEq]
        exact (hcl (ha.next_in e1) (ha.next_in e2)).2 h3
    obtain ⟨h1, h2, h3⟩ := leastC_spec a.edges (cls a.states.toNat a.edges j) p
    refine ⟨h2, ?_, fun k hk hE => ?_⟩
    · rcases h1 with h1 | h1
      · rw [h1]
        exact Ev.refl _ _ _
      · exact (hsim _ p (by omega) hp).1 h1
    · have := h3 k hk
      rw [(hsim k p (by omega) hp).2 hE] at this
      cases this
  intro j
  induction j with
  | zero =>
    have h0 : ∀ p q : Nat, p < a.states.toNat → q < a.states.toNat → ((cls a.states.toNat a.edges 0).getD p 0 = (cls a.states.toNat a.edges 0).getD q 0 ↔ Ev a.edges a.edges 0 p q) := fun p q hp hq => by
      simp [cls, Ev, hp, hq]
    exact ⟨h0, second 0 h0⟩
  | succ j ih =>
    have hget : ∀ p : Nat, p < a.states.toNat → (cls a.states.toNat a.edges (j + 1)).getD p 0 = (leastC a.edges (cls a.states.toNat a.edges j) p : Int) := fun p hp => by
      show (stepC _ _ _).getD p 0 = _
      unfold stepC
      simp [hp]
    have h0 : ∀ p q : Nat, p < a.states.toNat → q < a.states.toNat → ((cls a.states.toNat a.edges (j + 1)).getD p 0 = (cls a.states.toNat a.edges (j + 1)).getD q 0 ↔ Ev a.edges a.edges (j + 1) p q) := fun p q hp hq => by
      rw [hget p hp, hget q hq]
      obtain ⟨hp1, hp2⟩ := ih.2 p hp
      obtain ⟨hq1, hq2⟩ := ih.2 q hq
      constructor
      · intro he
        have he' : leastC a.edges (cls a.states.toNat a.edges j) p = leastC a.edges (cls a.states.toNat a.edges j) q := by omega
        have h1 := hp2.rel
        rw [he'] at h1
        exact Ev.trans (Ev.symm h1) hq2.rel
      · intro hE
        have h1 : ¬ leastC a.edges (cls a.states.toNat a.edges j) p < leastC a.edges (cls a.states.toNat a.edges j) q := fun hlt => hq2.min _ hlt (Ev.trans hp2.rel hE)
        have h2 : ¬ leastC a.edges (cls a.states.toNat a.edges j) q < leastC a.edges (cls a.states.toNat a.edges j) p := fun hlt => hp2.min _ hlt (Ev.trans hq2.rel (Ev.symm hE))
        omega
    exact ⟨h0, second (j + 1) h0⟩
theorem cls_get (n : Nat) (es : List Edge) (j : Nat) {p : Nat} (hp : p < n) : (cls n es (j + 1))[p]? = some (leastC es (cls n es j) p : Int) := by
  show (stepC _ _ _)[p]? = _
  unfold stepC
  simp [hp]
theorem least_exists {P : Nat → Prop} : ∀ {n : Nat}, P n → ∃ m, P m ∧ ∀ k, k < m → ¬ P k := by
  intro n
  induction n using Nat.strongRecOn with
  | _ n ih =>
    intro h
    by_cases hk : ∃ k, k < n ∧ P k
    · obtain ⟨k, h1, h2⟩ := hk
      exact ih k h1 h2
    · exact ⟨n, h, fun k h1 h2 => hk ⟨k, h1, h2⟩⟩
/-- The classes come to rest. -/
theorem cls_rest {a : Auto} (ha : a.Good) : ∃ J, cls a.states.toNat a.edges (J + 1) = cls a.states.toNat a.edges J ∧ ∀ j, j < J → cls a.states.toNat a.edges (j + 1) ≠ cls a.states.toNat a.edges j := by
  refine least_exists (P := fun J => cls a.states.toNat a.edges (J + 1) = cls a.states.toNat a.edges J) (n := a.states.toNat * a.states.toNat + 1) ?_
  apply List.ext_getElem?
  intro p
  rcases Nat.lt_or_ge p a.states.toNat with hp | hp
  · rw [cls_get _ _ _ hp, cls_get _ _ _ hp]
    have h1 := ((cls_spec ha (a.states.toNat * a.states.toNat + 1)).2 p hp)
    have h2 := ((cls_spec ha (a.states.toNat * a.states.toNat)).2 p hp)
    congr 2
    refine h1.2.uniq h2.2 (fun h => h.down) fun h => ?_
    refine Ev.stable ha ha ?_ ?_ h.down _
    · unfold Auto.inr; omega
    · unfold Auto.inr; omega
  · rw [List.getElem?_eq_none (by rw [cls_len]; exact hp), List.getElem?_eq_none (by rw [cls_len]; exact hp)]

/-- The least state from which the reference's table tells none apart. -/
def leastR (D : List (List Int)) (n : Nat) (p : Nat) : Nat := ((List.range n).find? fun (q : Nat) => decide (ent D p q = 0)).getD 0
def Auto.classes (a : Auto) : List Int := (List.range a.states.toNat).map fun p => (leastR (differ a a) a.states.toNat p : Int)
theorem classes_len (a : Auto) : a.classes.length = a.states.toNat := by simp [Auto.classes]
theorem leastR_spec {a : Auto} (ha : a.Good) {p : Nat} (hp : p < a.states.toNat) : leastR (differ a a) a.states.toNat p ≤ p ∧ Lst (fun k i => ∀ j, Ev a.edges a.edges j k i) p (leastR (differ a a) a.states.toNat p) ∧ ent (differ a a) p (leastR (differ a a) a.states.toNat p : Nat) = 0 ∧ ∀ k, k < leastR (differ a a) a.states.toNat p → ent (differ a a) p k ≠ 0 := by
  have hz : ∀ q : Nat, q < a.states.toNat → (ent (differ a a) p q = 0 ↔ ∀ j, Ev a.edges a.edges j q p) := fun q hq => by
    rw [differ_zero ha ha (by unfold Auto.inr; omega) (by unfold Auto.inr; omega)]
    exact ⟨fun h j => (h j).symm, fun h j => (h j).symm⟩
  unfold leastR
  cases h : (List.range a.states.toNat).find? fun (q : Nat) => decide (ent (differ a a) p q = 0) with
  | none =>
    rw [List.find?_eq_none] at h
    have := h p (List.mem_range.2 hp)
    exact (this (by simpa using (hz p hp).2 fun j => Ev.refl _ j _)).elim
  | some l =>
    rw [List.find?_eq_some_iff_getElem] at h
    obtain ⟨h1, j, hj, h2, h3⟩ := h
    simp only [List.getElem_range] at h2 h3
    simp only [List.length_range] at hj
    subst h2
    simp only [Option.getD_some]
    have h1' : ent (differ a a) p j = 0 := by simpa using h1
    have h3' : ∀ k, k < j → ent (differ a a) p k ≠ 0 := fun k hk => by simpa using h3 k hk
    refine ⟨?_, ⟨(hz j hj).1 h1', fun k hk hE => h3' k hk ((hz k (by omega)).2 hE)⟩, h1', h3'⟩
    rcases Nat.lt_or_ge p j with h4 | h4
    · exact (h3' p h4 ((hz p hp).2 fun j => Ev.refl _ j _)).elim
    · exact h4
/-- Both find the same classes. -/
theorem cls_classes {a : Auto} (ha : a.Good) {J : Nat} (hJ : cls a.states.toNat a.edges (J + 1) = cls a.states.toNat a.edges J) : cls a.states.toNat a.edges J = a.classes := by
  rw [← hJ]
  apply List.ext_getElem?
  intro p
  rcases Nat.lt_or_ge p a.states.toNat with hp | hp
  · rw [cls_get _ _ _ hp]
    unfold Auto.classes
    rw [List.getElem?_map, List.getElem?_range hp]
    simp only [Option.map_some]
    congr 2
    obtain ⟨h1, h2⟩ := (cls_spec ha J).2 p hp
    obtain ⟨g1, g2, _⟩ := leastR_spec ha hp
    refine h2.uniq g2 (fun h => ?_) fun h => h _
    refine Ev.fix ha ha (j := J) (fun s t hs ht hE => ?_) (by unfold Auto.inr; omega) (by unfold Auto.inr; omega) h.down
    unfold Auto.inr at hs ht
    have e1 := (cls_spec ha J).1 s.toNat t.toNat (by omega) (by omega)
    have e2 := (cls_spec ha (J + 1)).1 s.toNat t.toNat (by omega) (by omega)
    rw [show ((s.toNat : Nat) : Int) = s by omega, show ((t.toNat : Nat) : Int) = t by omega] at e1 e2
    rw [hJ] at e2
    exact e2.1 (e1.2 hE)
  · rw [List.getElem?_eq_none (by rw [cls_len]; exact hp), List.getElem?_eq_none (by rw [classes_len]; exact hp)]

end Go.Pv

/-
  Classes and minimized automata.
-/
namespace Go.Pv

/-- Classes. -/
@[go_sem] theorem r10 (t : Nat) (a : Auto) (hl : a.edges.length ≤ 2000000000) : res A PrA 10 [.agg [.int .i64 a.states, .int .i64 a.start, .lst t (a.edges.map Edge.c)]] = some (if a.err = 0 then [.lst 0 (ints a.classes), .int .i64 0] else [.lst 0 [], .int .i64 a.err]) := by
  refine res_of a10 rfl rfl ?_
  simp only [F10]
  simp (disch := omega) only [go_sem]
  refine Br.ofP (fun h1 => ?_) (fun h1 => ?_) <;> simp (disch := omega) only [go_sem, h1]
  have hg := Auto.good_iff.1 h1
  have hmx := hg.mx
  have hst := hg.st
  obtain ⟨J, hJ, hb⟩ := cls_rest hg
  have hto : ∀ e ∈ a.edges, 0 ≤ e.to ∧ e.to < (a.states.toNat : Int) := fun e he => by have := fits_iff.1 (hg.fit e he); omega
  have h30 := r30 t a.states.toNat J a.start a.edges (by omega) hl hto hJ hb
  rw [cls_classes hg hJ, show ((a.states.toNat : Nat) : Int) = a.states by omega] at h30
  simp (disch := omega) only [go_sem, h30]
  rw [if_pos h1]

/-- The automaton of the classes. -/
def Auto.cl (a : Auto) (v : Int) : Int := a.classes.getD v.toNat 0
def Auto.merged (a : Auto) : Auto := ⟨a.states, a.cl a.start, (a.edges.filter fun e => a.cl e.fr == e.fr).map fun e => ⟨e.fr, e.send, e.label, a.cl e.to⟩⟩
def Auto.mini (a : Auto) : Auto := a.merged.trim
theorem Auto.Good.cl_in {a : Auto} (h : a.Good) {v : Int} (hv : a.inr v) : a.classes[v.toNat]? = some (a.cl v) ∧ a.inr (a.cl v) ∧ a.cl v ≤ v := by
  unfold Auto.inr at hv
  have hvn : v.toNat < a.states.toNat := by omega
  obtain ⟨e1, _⟩ := leastR_spec h hvn
  have hcg : a.classes[v.toNat]? = some (leastR (differ a a) a.states.toNat v.toNat : Int) := by
    unfold Auto.classes
    rw [List.getElem?_map, List.getElem?_range hvn]
    rfl
  have hc : a.cl v = (leastR (differ a a) a.states.toNat v.toNat : Int) := by
    unfold Auto.cl
    rw [List.getD_eq_getElem?_getD, hcg]
    rfl
  unfold Auto.inr
  exact ⟨by rw [hcg, hc], by omega, by omega⟩
theorem Auto.Good.merged {a : Auto} (h : a.Good) : a.merged.Good where
  st := (h.cl_in h.st).2.1
  mx := h.mx
  len := by
    show ((a.edges.filter _).map _).length ≤ 100
    rw [List.length_map]
    have := List.length_filter_le (fun e : Edge => a.cl e.fr == e.fr) a.edges
    have := h.len
    omega
  fit x hx := by
    obtain ⟨e, he, rfl⟩ := List.mem_map.1 hx
    have hf := fits_iff.1 (h.fit e (List.mem_filter.1 he).1)
    have := (h.cl_in (v := e.to) ⟨hf.2.2.1, hf.2.2.2.1⟩).2.1
    rw [fits_iff]
    exact ⟨hf.1, hf.2.1, this.1, this.2, hf.2.2.2.2⟩
  asc := by
    show ((a.edges.filter _).map _).Pairwise _
    rw [List.pairwise_map]
    exact (h.asc.filter _).imp fun {x y} hxy => hxy

end Go.Pv

/-
  Minimized automata; the law of classes.
-/
namespace Go.Pv

theorem merged_fold (a : Auto) : a.edges.foldl (fun o e => if a.cl e.fr = e.fr then o ++ [(⟨e.fr, e.send, e.label, a.cl e.to⟩ : Edge)] else o) [] = a.merged.edges := by
  have h := fold_filter (fun e : Edge => a.cl e.fr == e.fr) (fun e => (⟨e.fr, e.send, e.label, a.cl e.to⟩ : Edge)) a.edges []
  rw [List.nil_append] at h
  rw [← show _ = a.merged.edges from h]
  congr 1
  funext o e
  by_cases hc : a.cl e.fr = e.fr
  · simp [hc]
  · simp [hc]

set_option maxHeartbeats 4000000 in
/-- Minimize. -/
@[go_sem] theorem r12 (t : Nat) (a : Auto) (hl : a.edges.length ≤ 2000000000) : res A PrA 12 [.agg [.int .i64 a.states, .int .i64 a.start, .lst t (a.edges.map Edge.c)]] = some (if a.err = 0 then [.agg [.int .i64 a.mini.states, .int .i64 0, .lst 0 (edgs a.mini.edges)], .int .i64 0] else [.agg [.int .i64 0, .int .i64 0, .lst 0 []], .int .i64 a.err]) := by
  refine res_of a12 rfl rfl ?_
  simp only [F12]
  by_cases h1 : a.err = 0
  case neg => simp (disch := omega) only [go_sem, h1]
  have hg := Auto.good_iff.1 h1
  have hst := hg.st
  have hmx := hg.mx
  obtain ⟨c1, c2, c3⟩ := hg.cl_in hg.st
  have hcl := classes_len a
  simp (disch := omega) only [go_sem, h1, idxR_int, c1]
  refine W.fold a.edges (fun o e => if a.cl e.fr = e.fr then o ++ [(⟨e.fr, e.send, e.label, a.cl e.to⟩ : Edge)] else o) [] (fun k o => ⟨[(2, .ptr 2 0), (4, .pv (.lst 0 (ints a.classes))), (6, .ptr 6 0), (27, .pv (.lst t (a.edges.map Edge.c))), (28, .pv (.int .i64 a.edges.length)), (29, .pv (.int .i64 k))], ⟨[(2, [.pv (.int .i64 0), .pv (.int .i64 0), .tl []]), (6, [.pv (.int .i64 a.states), .pv (.int .i64 (a.cl a.start)), grV 0 (edgs o)])], grA 4 (edgs o), []⟩⟩) (fun k o => o.length ≤ k) rfl (Nat.le_refl _) (fun k e o he hk _ hi => ?_) (fun o ho hi => ?_)
  · have hf := fits_iff.1 (hg.fit e (List.mem_of_getElem? he))
    obtain ⟨d1, d2, d3⟩ := hg.cl_in (v := e.fr) ⟨hf.1, hf.2.1⟩
    obtain ⟨e1, e2, e3⟩ := hg.cl_in (v := e.to) ⟨hf.2.2.1, hf.2.2.2.1⟩
    simp (disch := omega) only [go_sem, he]
    refine Br.ofP (fun h => ?_) (fun h => (h (by omega)).elim)
    simp (disch := omega) only [go_sem, he, idxR_int, d1]
    refine Br.ofP (fun f => ?_) (fun f => ?_) <;> simp (disch := omega) only [go_sem, f, idxR_int, e1]
    · refine foldK.of ?_ (by rw [if_pos f]; simp; omega)
      show _ = St.mk _ _
      rw [if_pos f]
      rfl
    · refine foldK.of ?_ (by rw [if_neg f]; omega)
      show _ = St.mk _ _
      rw [if_neg f]
      rfl
  · rw [merged_fold] at ho
    subst ho
    have hm := hg.merged
    have hme := Auto.good_iff.2 hm
    have hml := hm.len
    have hmm : (⟨a.states, a.cl a.start, a.merged.edges⟩ : Auto) = a.merged := rfl
    simp (disch := omega) only [go_sem, hmm, hme]
    rw [if_pos h1]
    rfl
end Go.Pv

/-
  The law of classes.
-/
namespace Go.Pv

theorem r14n : res A PrA 14 [.lst 0 [], .lst 0 []] = some [.bool true] := by
  have h := r14 0 0 [] [] (by simp) (by simp)
  rw [decide_eq_true rfl] at h
  exact h
theorem r15n' : res A PrA 15 [.agg [.int .i64 0, .int .i64 0, .lst 0 []], .agg [.int .i64 0, .int .i64 0, .lst 0 []]] = some [.bool true] := by
  have h := r15e 0 0 0 0 0 0 [] [] (by simp) (by simp)
  rw [decide_eq_true rfl] at h
  exact h
end Go.Pv

