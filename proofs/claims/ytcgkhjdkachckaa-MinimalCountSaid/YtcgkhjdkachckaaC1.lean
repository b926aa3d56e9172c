/-
  What the functions of the law give.
-/
import Derived.Test.YtcgkhjdkachckaaTab
set_option linter.unusedSimpArgs false
set_option linter.unusedVariables false
/-
  Contracts: comparisons of the library, the order of edges.
-/
namespace Go.Pv

theorem r66 {Pr : Prims} (x : Int) : res A Pr 66 [.int .i64 x] = some [.bool false] := by
  refine res_of a66 rfl rfl ?_
  simp only [F66]
  simp (disch := omega) only [go_sem]

theorem r60 {Pr : Prims} (hp : Pr 66 = none) (x y : Int) : res A Pr 60 [.int .i64 x, .int .i64 y] = some [.int .i64 (cmpI x y)] := by
  refine res_of a60 rfl rfl ?_
  simp only [F60]
  simp (disch := omega) only [go_sem, CW_CN hp tk66, r66]
  unfold cmpI
  refine Br.ofP (fun h => ?_) (fun h => ?_) <;> simp (disch := omega) only [go_sem, h]
  refine Br.ofP (fun h2 => ?_) (fun h2 => ?_) <;> simp (disch := omega) only [go_sem, h, h2]

theorem r58 {Pr : Prims} (a : Edge) : res A Pr 58 [.agg a.c] = some [.int .i64 a.side] := by
  refine res_of a58 rfl rfl ?_
  simp only [F58]
  simp (disch := omega) only [go_sem]
  unfold Edge.side
  refine Br.of (fun h => ?_) (fun h => ?_) <;> simp (disch := omega) only [go_sem, h]

/-- The first that is not zero. -/
def orI : List Int → Int
  | [] => 0
  | x :: r => if x ≠ 0 then x else orI r

/-- The list from a place on. -/
theorem drop_at {α : Type} {l : List α} {k : Nat} {x : α} (h : l[k]? = some x) : l.drop k = x :: l.drop (k + 1) := by
  obtain ⟨h1, h2⟩ := List.getElem?_eq_some_iff.1 h
  rw [List.drop_eq_getElem_cons h1, h2]
theorem get_at {α : Type} {l : List α} {k : Nat} (h : k < l.length) : ∃ x, l[k]? = some x := ⟨_, List.getElem?_eq_getElem h⟩
theorem drop_end {α : Type} {l : List α} {k : Nat} (h : ¬ (k : Int) < l.length) : l.drop k = [] := List.drop_eq_nil_of_le (by omega)

theorem r59 {Pr : Prims} (t : Nat) (l : List Int) (hl : l.length < 1000) : res A Pr 59 [.lst t (ints l)] = some [.int .i64 (orI l)] := by
  refine res_of a59 rfl rfl ?_
  simp only [F59]
  simp (disch := omega) only [go_sem]
  refine W.upto l.length (fun k => ⟨[(3, .pv (.int .i64 0)), (6, .pv (.lst t (ints l))), (7, .pv (.int .i64 l.length)), (8, .pv (.int .i64 k))], ⟨[], [], []⟩⟩) (fun k => orI l = orI (l.drop k)) rfl rfl fun k hk hi => ?_
  simp (disch := omega) only [go_sem]
  refine Br.ofP (fun h => ?_) (fun h => ?_)
  · obtain ⟨x, hx⟩ := get_at (l := l) (k := k) (by omega)
    rw [drop_at hx, orI] at hi
    simp (disch := omega) only [go_sem, hx]
    refine Br.ofP (fun h1 => ?_) (fun h1 => ?_) <;> simp (disch := omega) only [go_sem]
    · exact .of (by omega) rfl (by simpa [h1] using hi)
    · simp [hi, h1]
  · simp (disch := omega) only [go_sem]
    simp [hi, drop_end h, orI]

theorem r47 {Pr : Prims} (h66 : Pr 66 = none) (h60 : Pr 60 = none) (h59 : Pr 59 = none) (h58 : Pr 58 = none) (a b : Edge) : res A Pr 47 [.agg a.c, .agg b.c] = some [.int .i64 (Edge.cmp a b)] := by
  refine res_of a47 rfl rfl ?_
  simp only [F47]
  have e59 := fun x y z => r59 (Pr := Pr) 0 [x, y, z] (by simp)
  simp only [ints, List.map_cons, List.map_nil] at e59
  have e58 := fun x => r58 (Pr := Pr) x
  simp only [Edge.c] at e58
  simp (disch := omega) only [go_sem, CW_CN h60 tk60, CW_CN h59 tk59, CW_CN h58 tk58, r60 h66, e58 a, e58 b, e59]
  by_cases h : cmpI a.label b.label = 0 <;> simp [orI, Edge.cmp, h]

end Go.Pv

/-
  Contracts: errors of automata.
-/
namespace Go.Pv

@[go_sem] theorem r44 (a b : Edge) : res A PrA 44 [.agg [.int .i64 a.fr, .bool a.send, .int .i64 a.label, .int .i64 a.to], .agg [.int .i64 b.fr, .bool b.send, .int .i64 b.label, .int .i64 b.to]] = some [.bool (Edge.lt a b)] := by
  refine res_of a44 rfl rfl ?_
  simp only [F44]
  simp (disch := omega) only [go_sem]
  unfold Edge.lt
  by_cases h : a.fr = b.fr <;> by_cases h2 : a.send = b.send <;> simp (disch := omega) only [go_sem, h, h2, ne_eq, not_true_eq_false, not_false_eq_true]

theorem Auto.err_ok {a : Auto} (h1 : a.states ≤ 12) (h2 : a.edges.length ≤ 100) (h3 : 0 ≤ a.start ∧ a.start < a.states) : a.err = if chk a.states none a.edges = true then 0 else 1 := by
  unfold Auto.err
  rw [if_neg (by omega), if_pos h3]
theorem Auto.err_start {a : Auto} (h1 : a.states ≤ 12) (h2 : a.edges.length ≤ 100) (h3 : ¬ (0 ≤ a.start ∧ a.start < a.states)) : a.err = 1 := by
  unfold Auto.err
  rw [if_neg (by omega), if_neg h3]
theorem Auto.err_large {a : Auto} (h : 12 < a.states ∨ 100 < a.edges.length) : a.err = 3 := by
  unfold Auto.err
  rw [if_pos h]
theorem chk_no {n : Int} {p : Option Edge} {e : Edge} {r : List Edge} (h : e.fits n = false) : chk n p (e :: r) = false := by simp [chk, h]

set_option maxHeartbeats 1000000 in
@[go_sem] theorem r26 (t : Nat) (a : Auto) (hl : a.edges.length ≤ 2 ^ 63 - 1) : res A PrA 26 [.agg [.int .i64 a.states, .int .i64 a.start, .lst t (a.edges.map Edge.c)]] = some [.int .i64 a.err] := by
  refine res_of a26 rfl rfl ?_
  simp only [F26]
  simp (disch := omega) only [go_sem]
  refine Br.ofP (fun h1 => ?_) (fun h1 => ?_) <;> simp (disch := omega) only [go_sem, h1]
  · rw [Auto.err_large (.inl h1)]
  refine Br.ofP (fun h2 => ?_) (fun h2 => ?_) <;> simp (disch := omega) only [go_sem, h2]
  · rw [Auto.err_large (.inr (by omega))]
  refine Br.ofP (fun h3 => ?_) (fun h3 => ?_) <;> simp (disch := omega) only [go_sem, h3]
  · rw [Auto.err_start (by omega) (by omega) (by omega)]
  refine Br.ofP (fun h4 => ?_) (fun h4 => ?_) <;> simp (disch := omega) only [go_sem, h4]
  · rw [Auto.err_start (by omega) (by omega) (by omega)]
  refine Br.ofP (fun h5 => ?_) (fun h5 => ?_) <;> simp (disch := omega) only [go_sem, h5]
  · rw [Auto.err_start (by omega) (by omega) (by omega)]
  rw [Auto.err_ok (by omega) (by omega) (by omega)]
  refine W.upto a.edges.length (fun k => ⟨[(1, .ptr 1 0), (3, .pv (.int .i64 k))], ⟨[(1, [.pv (.int .i64 a.states), .pv (.int .i64 a.start), .pv (.lst t (a.edges.map Edge.c))])], [], []⟩⟩) (fun k => chk a.states none a.edges = chk a.states (ahead1 a.edges k) (a.edges.drop k)) rfl rfl fun k hk hi => ?_
  simp (disch := omega) only [go_sem]
  refine Br.ofP (fun h => ?_) (fun h => ?_)
  · obtain ⟨e, he⟩ := get_at (l := a.edges) (k := k) (by omega)
    rw [drop_at he] at hi
    have bad : e.fits a.states = false → chk a.states none a.edges = false := fun hb => hi.trans (chk_no hb)
    simp (disch := omega) only [go_sem, he]
    refine Br.ofP (fun g1 => ?_) (fun g1 => ?_) <;> simp (disch := omega) only [go_sem, g1]
    · rw [bad (by simp [Edge.fits]; omega)]; rfl
    refine Br.ofP (fun g2 => ?_) (fun g2 => ?_) <;> simp (disch := omega) only [go_sem, g2]
    · rw [bad (by simp [Edge.fits]; omega)]; rfl
    refine Br.ofP (fun g3 => ?_) (fun g3 => ?_) <;> simp (disch := omega) only [go_sem, g3]
    · rw [bad (by simp [Edge.fits]; omega)]; rfl
    refine Br.ofP (fun g4 => ?_) (fun g4 => ?_) <;> simp (disch := omega) only [go_sem, g4]
    · rw [bad (by simp [Edge.fits]; omega)]; rfl
    refine Br.ofP (fun g5 => ?_) (fun g5 => ?_) <;> simp (disch := omega) only [go_sem, g5]
    · rw [bad (by simp [Edge.fits]; omega)]; rfl
    refine Br.ofP (fun g6 => ?_) (fun g6 => ?_) <;> simp (disch := omega) only [go_sem, g6]
    · rw [bad (by simp [Edge.fits]; omega)]; rfl
    have fit : e.fits a.states = true := by simp [Edge.fits]; omega
    refine Br.ofP (fun g7 => ?_) (fun g7 => ?_) <;> simp (disch := omega) only [go_sem, g7]
    · obtain ⟨j, rfl⟩ : ∃ j, k = j + 1 := ⟨k - 1, by omega⟩
      obtain ⟨d, hd⟩ := get_at (l := a.edges) (k := j) (by omega)
      have hj : ((j + 1 : Nat) : Int) - 1 = (j : Int) := by omega
      rw [ahead1_succ, hd] at hi
      simp (disch := omega) only [go_sem, hj, hd]
      refine Br.of (fun g8 => ?_) (fun g8 => ?_) <;> simp (disch := omega) only [go_sem]
      · exact .of (by omega) rfl (by rw [hi, ahead1_succ, he]; simp [chk, fit, g8])
      · rw [hi]; simp [chk, g8]
    · obtain rfl : k = 0 := by omega
      exact .of (by omega) rfl (by rw [hi, ahead1_succ, he]; simp [chk, fit, ahead1])
  · simp (disch := omega) only [go_sem]
    rw [hi, drop_end h]
    rfl

@[go_sem] theorem r47a (a b : Edge) : res A PrA 47 [.agg [.int .i64 a.fr, .bool a.send, .int .i64 a.label, .int .i64 a.to], .agg [.int .i64 b.fr, .bool b.send, .int .i64 b.label, .int .i64 b.to]] = some [.int .i64 (Edge.cmp a b)] :=
  r47 (by kernel_rfl) (by kernel_rfl) (by kernel_rfl) (by kernel_rfl) a b

@[go_sem] theorem r46 (n s : Int) (t : Nat) (cs : List PV) : res A PrA 46 [.int .i64 n, .ro t (.int .i64 s :: cs)] = some [.bool (decide (0 ≤ n) && decide (n < s))] := by
  refine res_of a46 rfl rfl ?_
  simp only [F46]
  simp (disch := omega) only [go_sem]
  refine Br.ofP (fun h1 => ?_) (fun h1 => ?_) <;> simp (disch := omega) only [go_sem, h1]

theorem fits_of {e : Edge} {n : Int} : e.fits n = (((decide (0 ≤ e.fr) && decide (e.fr < n)) && (decide (0 ≤ e.to) && decide (e.to < n))) && (decide (1 ≤ e.label) && decide (e.label ≤ 1000))) := by
  simp [Edge.fits, Bool.and_assoc]

set_option maxHeartbeats 2000000 in
@[go_sem] theorem r29 (t : Nat) (a : Auto) (hl : a.edges.length ≤ 2 ^ 63 - 1) : res A PrA 29 [.agg [.int .i64 a.states, .int .i64 a.start, .lst t (a.edges.map Edge.c)]] = some [.int .i64 a.err] := by
  refine res_of a29 rfl rfl ?_
  simp only [F29]
  simp (disch := omega) only [go_sem]
  refine Br.ofP (fun h1 => ?_) (fun h1 => ?_) <;> simp (disch := omega) only [go_sem, h1]
  · rw [Auto.err_large (.inl h1)]
  refine Br.ofP (fun h2 => ?_) (fun h2 => ?_) <;> simp (disch := omega) only [go_sem, h2]
  · rw [Auto.err_large (.inr (by omega))]
  refine Br.of (fun h3 => ?_) (fun h3 => ?_) <;> simp at h3 <;> simp (disch := omega) only [go_sem]
  case refine_2 => rw [Auto.err_start (by omega) (by omega) (by omega)]
  rw [Auto.err_ok (by omega) (by omega) (by omega)]
  refine W.upto a.edges.length (fun k => ⟨[(1, .ptr 1 0), (3, .func 46 [.ptr 1 0]), (22, .pv (.lst t (a.edges.map Edge.c))), (23, .pv (.int .i64 a.edges.length)), (24, .pv (.int .i64 k))], ⟨[(1, [.pv (.int .i64 a.states), .pv (.int .i64 a.start), .pv (.lst t (a.edges.map Edge.c))])], [], []⟩⟩) (fun k => chk a.states none a.edges = chk a.states (ahead1 a.edges k) (a.edges.drop k)) rfl rfl fun k hk hi => ?_
  simp (disch := omega) only [go_sem]
  refine Br.ofP (fun h => ?_) (fun h => ?_)
  · obtain ⟨e, he⟩ := get_at (l := a.edges) (k := k) (by omega)
    rw [drop_at he] at hi
    have bad : e.fits a.states = false → chk a.states none a.edges = false := fun hb => hi.trans (chk_no hb)
    rw [fits_of] at bad
    simp (disch := omega) only [go_sem, he]
    refine Br.of (fun g1 => ?_) (fun g1 => ?_) <;> simp (disch := omega) only [go_sem, g1]
    case refine_2 => rw [bad (by rw [g1]; rfl)]; rfl
    refine Br.of (fun g2 => ?_) (fun g2 => ?_) <;> simp (disch := omega) only [go_sem, g2]
    case refine_2 => rw [bad (by rw [g1, g2]; rfl)]; rfl
    refine Br.ofP (fun g3 => ?_) (fun g3 => ?_) <;> simp (disch := omega) only [go_sem, g3]
    · rw [bad (by simp; omega)]; rfl
    refine Br.ofP (fun g4 => ?_) (fun g4 => ?_) <;> simp (disch := omega) only [go_sem, g4]
    · rw [bad (by simp; omega)]; rfl
    have fit : e.fits a.states = true := by rw [fits_of, g1, g2]; simp; omega
    refine Br.ofP (fun g7 => ?_) (fun g7 => ?_) <;> simp (disch := omega) only [go_sem, g7]
    · obtain ⟨j, rfl⟩ : ∃ j, k = j + 1 := ⟨k - 1, by omega⟩
      obtain ⟨d, hd⟩ := get_at (l := a.edges) (k := j) (by omega)
      have hj : ((j + 1 : Nat) : Int) - 1 = (j : Int) := by omega
      rw [ahead1_succ, hd] at hi
      simp (disch := omega) only [go_sem, hj, hd, Edge.cmp_ge]
      refine Br.of (fun g8 => ?_) (fun g8 => ?_) <;> simp (disch := omega) only [go_sem]
      · exact .of (by omega) rfl (by rw [hi, ahead1_succ, he]; simp [chk, fit, g8])
      · rw [hi]; simp [chk, g8]
    · obtain rfl : k = 0 := by omega
      exact .of (by omega) rfl (by rw [hi, ahead1_succ, he]; simp [chk, fit, ahead1])
  · simp (disch := omega) only [go_sem]
    rw [hi, drop_end h]
    rfl

end Go.Pv

/-
  Contracts: numbers of lists of actions.
-/
namespace Go.Pv

set_option maxHeartbeats 2000000 in
@[go_sem] theorem r23 (t : Nat) (a : Auto) (n : Int) (hl : a.edges.length ≤ 2 ^ 63 - 1) : res A PrA 23 [.agg [.int .i64 a.states, .int .i64 a.start, .lst t (a.edges.map Edge.c)], .int .i64 n] = some [.int .i64 (a.count n).1, .int .i64 (a.count n).2] := by
  refine res_of a23 rfl rfl ?_
  simp only [F23]
  simp (disch := omega) only [go_sem]
  refine Br.ofP (fun h1 => ?_) (fun h1 => ?_) <;> simp (disch := omega) only [go_sem, h1]
  case refine_2 => rw [Auto.count_err h1]
  refine Br.ofP (fun h2 => ?_) (fun h2 => ?_) <;> simp (disch := omega) only [go_sem, h2]
  · rw [Auto.count_range h1 (.inl h2)]
  refine Br.ofP (fun h3 => ?_) (fun h3 => ?_) <;> simp (disch := omega) only [go_sem, h3]
  · rw [Auto.count_range h1 (.inr h3)]
  obtain ⟨e1, e2, e3, e4, e5⟩ := Auto.err_zero h1
  have hfit := chk_fits e5
  simp (disch := omega) only [go_sem]
  refine W.upto a.states.toNat (fun k => ⟨[(1, .pv (.int .i64 n)), (2, .ptr 2 0), (7, .own 0 0 0 a.states.toNat), (27, .pv (.int .i64 a.states.toNat)), (28, .pv (.int .i64 k))], ⟨[(2, [.pv (.int .i64 a.states), .pv (.int .i64 a.start), .pv (.lst t (a.edges.map Edge.c))])], [⟨0, 1, .inl (ints (onesTo a.states.toNat k))⟩], []⟩⟩) (fun _ => True) (by rw [onesTo_zero]; rfl) trivial fun k hk _ => ?_
  simp (disch := omega) only [go_sem]
  refine Br.ofP (fun h => ?_) (fun h => ?_)
  · have ho := onesTo_len (n := a.states.toNat) (k := k) (by omega)
    simp (disch := omega) only [go_sem, onesTo_succ (show k < a.states.toNat by omega)]
    exact .of (by omega) rfl trivial
  obtain rfl : k = a.states.toNat := by omega
  clear h hk
  simp (disch := omega) only [go_sem, onesTo_all]
  refine W.upto n.toNat (fun k => ⟨[(2, .ptr 2 0), (7, .own k 0 0 a.states.toNat), (35, .pv (.int .i64 n)), (36, .pv (.int .i64 k))], ⟨[(2, [.pv (.int .i64 a.states), .pv (.int .i64 a.start), .pv (.lst t (a.edges.map Edge.c))])], cntA a.states.toNat a.edges k, []⟩⟩) (fun _ => True) rfl trivial fun k hk _ => ?_
  simp (disch := omega) only [go_sem]
  refine Br.ofP (fun h => ?_) (fun h => ?_)
  · simp (disch := omega) only [go_sem]
    refine W.upto a.edges.length (fun j => ⟨[(2, .ptr 2 0), (7, .own k 0 0 a.states.toNat), (9, .own (k + 1) 0 0 a.states.toNat), (35, .pv (.int .i64 n)), (36, .pv (.int .i64 k)), (42, .pv (.lst t (a.edges.map Edge.c))), (43, .pv (.int .i64 a.edges.length)), (44, .pv (.int .i64 j))], ⟨[(2, [.pv (.int .i64 a.states), .pv (.int .i64 a.start), .pv (.lst t (a.edges.map Edge.c))])], cntA a.states.toNat a.edges k ++ [⟨0, 1, .inl (ints (cntP a.states.toNat a.edges (cntN a.states.toNat a.edges k) j))⟩], []⟩⟩) (fun _ => True) rfl trivial fun j hj _ => ?_
    simp (disch := omega) only [go_sem]
    refine Br.ofP (fun g => ?_) (fun g => ?_)
    · obtain ⟨e, he⟩ := get_at (l := a.edges) (k := j) (by omega)
      have hf := fits_iff.1 (hfit e (List.mem_of_getElem? he))
      have hs := cntN_small a.states.toNat a.edges k
      have hx := getD_some (l := cntN a.states.toNat a.edges k) (i := e.to.toNat) (by rw [cntN_len]; omega)
      have hy := getD_some (l := cntP a.states.toNat a.edges (cntN a.states.toNat a.edges k) j) (i := e.fr.toNat) (by rw [cntP_len]; omega)
      have b1 := hs e.to.toNat
      have b2 := cntP_small (n := a.states.toNat) (es := a.edges) hs j e.fr.toNat
      have hp := cntP_len a.states.toNat a.edges (cntN a.states.toNat a.edges k) j
      have hq : cntP a.states.toNat a.edges (cntN a.states.toNat a.edges k) (j + 1) = _ := cntP_succ he
      unfold cntE at hq
      generalize cntP a.states.toNat a.edges (cntN a.states.toNat a.edges k) j = nx at hy b2 hp hq
      generalize (cntN a.states.toNat a.edges k).getD e.to.toNat 0 = x at hx b1 hq
      generalize nx.getD e.fr.toNat 0 = y at hy b2 hq
      simp (disch := omega) only [go_sem, he, cntA_new, cntA_old, cntA_set, hx, hy]
      rw [Int.min_comm] at hq
      refine .of (by omega) ?_ trivial
      show _ = St.mk _ _
      rw [hq]
      rfl
    · obtain rfl : j = a.edges.length := by omega
      simp (disch := omega) only [go_sem]
      refine .of (by omega) ?_ trivial
      rw [cntP_all (Nat.le_refl _), cntA_succ]
      rfl
  · obtain rfl : k = n.toNat := by omega
    have hx := getD_some (l := cntN a.states.toNat a.edges n.toNat) (i := a.start.toNat) (by rw [cntN_len]; omega)
    have hv := Auto.count_val h1 h2 h3 (v := (cntN a.states.toNat a.edges n.toNat).getD a.start.toNat 0) rfl
    generalize (cntN a.states.toNat a.edges n.toNat).getD a.start.toNat 0 = x at hx hv
    rw [hv]
    simp (disch := omega) only [go_sem, cntA_get, hx]
    refine Br.ofP (fun h4 => ?_) (fun h4 => ?_) <;> simp (disch := omega) only [go_sem, h4]
    simp (disch := omega) only [go_sem, cntA_get, hx, h4]

set_option maxHeartbeats 2000000 in
@[go_sem] theorem r24 (t : Nat) (a : Auto) (n : Int) (hl : a.edges.length ≤ 2 ^ 63 - 1) : res A PrA 24 [.agg [.int .i64 a.states, .int .i64 a.start, .lst t (a.edges.map Edge.c)], .int .i64 n] = some [.int .i64 (a.count n).1, .int .i64 (a.count n).2] := by
  refine res_of a24 rfl rfl ?_
  simp only [F24]
  simp (disch := omega) only [go_sem]
  refine Br.ofP (fun h1 => ?_) (fun h1 => ?_) <;> simp (disch := omega) only [go_sem, h1]
  case refine_2 => rw [Auto.count_err h1]
  refine Br.ofP (fun h2 => ?_) (fun h2 => ?_) <;> simp (disch := omega) only [go_sem, h2]
  · rw [Auto.count_range h1 (.inl h2)]
  refine Br.ofP (fun h3 => ?_) (fun h3 => ?_) <;> simp (disch := omega) only [go_sem, h3]
  · rw [Auto.count_range h1 (.inr h3)]
  obtain ⟨e1, e2, e3, e4, e5⟩ := Auto.err_zero h1
  have hfit := chk_fits e5
  simp (disch := omega) only [go_sem]
  refine W.upto a.states.toNat (fun k => ⟨[(1, .pv (.int .i64 n)), (2, .ptr 2 0), (7, .own 0 0 0 a.states.toNat), (8, .pv (.int .i64 k))], ⟨[(2, [.pv (.int .i64 a.states), .pv (.int .i64 a.start), .pv (.lst t (a.edges.map Edge.c))])], [⟨0, 1, .inl (ints (onesTo a.states.toNat k))⟩], []⟩⟩) (fun _ => True) (by rw [onesTo_zero]; rfl) trivial fun k hk _ => ?_
  simp (disch := omega) only [go_sem]
  refine Br.ofP (fun h => ?_) (fun h => ?_)
  · have ho := onesTo_len (n := a.states.toNat) (k := k) (by omega)
    simp (disch := omega) only [go_sem, onesTo_succ (show k < a.states.toNat by omega)]
    exact .of (by omega) rfl trivial
  obtain rfl : k = a.states.toNat := by omega
  clear h hk
  simp (disch := omega) only [go_sem, onesTo_all]
  refine W.upto n.toNat (fun k => ⟨[(1, .pv (.int .i64 n)), (2, .ptr 2 0), (7, .own k 0 0 a.states.toNat), (9, .pv (.int .i64 k))], ⟨[(2, [.pv (.int .i64 a.states), .pv (.int .i64 a.start), .pv (.lst t (a.edges.map Edge.c))])], cntA a.states.toNat a.edges k, []⟩⟩) (fun _ => True) rfl trivial fun k hk _ => ?_
  simp (disch := omega) only [go_sem]
  refine Br.ofP (fun h => ?_) (fun h => ?_)
  · simp (disch := omega) only [go_sem]
    refine W.upto a.edges.length (fun j => ⟨[(1, .pv (.int .i64 n)), (2, .ptr 2 0), (7, .own k 0 0 a.states.toNat), (9, .pv (.int .i64 k)), (10, .own (k + 1) 0 0 a.states.toNat), (11, .pv (.int .i64 j))], ⟨[(2, [.pv (.int .i64 a.states), .pv (.int .i64 a.start), .pv (.lst t (a.edges.map Edge.c))])], cntA a.states.toNat a.edges k ++ [⟨0, 1, .inl (ints (cntP a.states.toNat a.edges (cntN a.states.toNat a.edges k) j))⟩], []⟩⟩) (fun _ => True) rfl trivial fun j hj _ => ?_
    simp (disch := omega) only [go_sem]
    refine Br.ofP (fun g => ?_) (fun g => ?_)
    · obtain ⟨e, he⟩ := get_at (l := a.edges) (k := j) (by omega)
      have hf := fits_iff.1 (hfit e (List.mem_of_getElem? he))
      have hs := cntN_small a.states.toNat a.edges k
      have hx := getD_some (l := cntN a.states.toNat a.edges k) (i := e.to.toNat) (by rw [cntN_len]; omega)
      have hy := getD_some (l := cntP a.states.toNat a.edges (cntN a.states.toNat a.edges k) j) (i := e.fr.toNat) (by rw [cntP_len]; omega)
      have b1 := hs e.to.toNat
      have b2 := cntP_small (n := a.states.toNat) (es := a.edges) hs j e.fr.toNat
      have hp := cntP_len a.states.toNat a.edges (cntN a.states.toNat a.edges k) j
      have hq : cntP a.states.toNat a.edges (cntN a.states.toNat a.edges k) (j + 1) = _ := cntP_succ he
      unfold cntE at hq
      generalize cntP a.states.toNat a.edges (cntN a.states.toNat a.edges k) j = nx at hy b2 hp hq
      generalize (cntN a.states.toNat a.edges k).getD e.to.toNat 0 = x at hx b1 hq
      generalize nx.getD e.fr.toNat 0 = y at hy b2 hq
      simp (disch := omega) only [go_sem, he, cntA_new, cntA_old, cntA_set, hx, hy]
      refine .of (by omega) ?_ trivial
      show _ = St.mk _ _
      rw [hq]
      rfl
    · obtain rfl : j = a.edges.length := by omega
      simp (disch := omega) only [go_sem]
      refine .of (by omega) ?_ trivial
      rw [cntP_all (Nat.le_refl _), cntA_succ]
      rfl
  · obtain rfl : k = n.toNat := by omega
    have hx := getD_some (l := cntN a.states.toNat a.edges n.toNat) (i := a.start.toNat) (by rw [cntN_len]; omega)
    have hv := Auto.count_val h1 h2 h3 (v := (cntN a.states.toNat a.edges n.toNat).getD a.start.toNat 0) rfl
    generalize (cntN a.states.toNat a.edges n.toNat).getD a.start.toNat 0 = x at hx hv
    rw [hv]
    simp (disch := omega) only [go_sem, cntA_get, hx]
    refine Br.ofP (fun h4 => ?_) (fun h4 => ?_) <;> simp (disch := omega) only [go_sem, h4]
    simp (disch := omega) only [go_sem, cntA_get, hx, h4]

end Go.Pv

/-
  The law of numbers of lists of actions.
-/
namespace Go.Pv

def Auto.row (a : Auto) : List PV := [.int .i64 a.states, .int .i64 a.start, .lst 0 (a.edges.map Edge.c)]

theorem r9 (l : List Auto) (hl : l.length < 1000) : res A PrA 9 [.lst 0 (l.map Auto.row)] = some [.bool (l.all fun a => decide ((a.edges.length : Int) ≤ 110))] := by
  refine res_of a9 rfl rfl ?_
  simp only [F9]
  simp (disch := omega) only [go_sem]
  refine W.upto l.length (fun k => ⟨[(5, .pv (.lst 0 (l.map Auto.row))), (6, .pv (.int .i64 l.length)), (7, .pv (.int .i64 k))], ⟨[], [], []⟩⟩) (fun k => (l.all fun a => decide ((a.edges.length : Int) ≤ 110)) = ((l.drop k).all fun a => decide ((a.edges.length : Int) ≤ 110))) rfl rfl fun k hk hi => ?_
  simp (disch := omega) only [go_sem]
  refine Br.ofP (fun h => ?_) (fun h => ?_)
  · obtain ⟨a, ha⟩ := get_at (l := l) (k := k) (by omega)
    rw [drop_at ha, List.all_cons] at hi
    simp (disch := omega) only [go_sem, ha, Auto.row]
    refine Br.ofP (fun h2 => ?_) (fun h2 => ?_) <;> simp (disch := omega) only [go_sem]
    · rw [hi]
      have : ¬ (a.edges.length : Int) ≤ 110 := by omega
      simp [this]
    · refine .of (by omega) rfl ?_
      rw [hi]
      have : (a.edges.length : Int) ≤ 110 := by omega
      simp [this]
  · simp (disch := omega) only [go_sem]
    rw [hi, drop_end h]
    rfl

theorem r8 : res A PrA 8 [] = some [.bool true] := res_some.2 ⟨3000, by kernel_rfl⟩

theorem r9_one (a : Auto) : res A PrA 9 [.lst 0 [[.int .i64 a.states, .int .i64 a.start, .lst 0 (a.edges.map Edge.c)]]] = some [.bool (decide ((a.edges.length : Int) ≤ 110))] := by
  have := r9 [a] (by simp)
  simpa [Auto.row] using this

/-- MinimalCount. -/
theorem r3 (a : Auto) (n : Int) (hl : a.edges.length ≤ 2 ^ 63 - 1) : res A PrA 3 [.agg [.int .i64 a.states, .int .i64 a.start, .lst 0 (a.edges.map Edge.c)], .int .i64 n] = some [.bool true] := by
  refine res_of a3 rfl rfl ?_
  simp only [F3]
  simp (disch := omega) only [go_sem, r8, r9_one]
  refine Br.ofP (fun h1 => ?_) (fun h1 => ?_) <;> simp (disch := omega) only [go_sem, r8]

end Go.Pv

