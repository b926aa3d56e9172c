/-
  What the functions of the law give.
-/
import Derived.Test.YthpgcipmnblhpaaDoorTab
set_option linter.unusedSimpArgs false
set_option linter.unusedVariables false
/-
  Plain laws: ascending lists; breadth-first searches.
-/
namespace Go.Pv

theorem nodup_bound {l : List Int} {n : Nat} (hn : l.Nodup) (h : ∀ x ∈ l, 0 ≤ x ∧ x < n) : l.length ≤ n := by
  have := List.Nodup.length_le_of_subset (l₂ := (List.range n).map Int.ofNat) hn (fun x hx => by
    have := h x hx
    rw [List.mem_map]
    exact ⟨x.toNat, List.mem_range.2 (by omega), by simp; omega⟩)
  simpa using this

section
variable {α : Type} [DecidableEq α]

def addN (o : List α) (x : α) : List α := if x ∈ o then o else o ++ [x]
def addL (o : List α) (l : List α) : List α := l.foldl addN o
def bfs (nx : α → List α) : Nat → Nat → List α → List α
  | 0, _, o => o
  | n + 1, i, o => match o[i]? with
    | none => o
    | some v => bfs nx n (i + 1) (addL o (nx v))

inductive Rch (nx : α → List α) (s : α) : α → Prop
  | refl : Rch nx s s
  | step {v x : α} : Rch nx s v → x ∈ nx v → Rch nx s x
omit [DecidableEq α] in
theorem Rch.trans {nx : α → List α} {s v x : α} (h : Rch nx s v) (h2 : Rch nx v x) : Rch nx s x := by
  induction h2 with
  | refl => exact h
  | step _ hx ih => exact .step ih hx
section
variable {β : Type} [DecidableEq β]
end
end

end Go.Pv

/-
  Plain laws: sorts, insertion from the end.
-/
namespace Go.Pv

section
variable {α : Type} [Inhabited α]

def apt (lt : α → α → Bool) (x y : α) : Prop := lt x y = true ∨ lt y x = true
omit [Inhabited α] in
theorem apt.symm {lt : α → α → Bool} {x y : α} (h : apt lt x y) : apt lt y x := h.elim .inr .inl

def bub (lt : α → α → Bool) (x : α) (l : List α) : Nat → Nat
  | 0 => 0
  | p + 1 => if lt x (l.getD p default) = true then bub lt x l p else p + 1
def putA (x : α) (l : List α) (p : Nat) : List α := l.take p ++ x :: l.drop p
def insB (lt : α → α → Bool) (x : α) (l : List α) : List α := putA x l (bub lt x l l.length)
omit [Inhabited α] in
theorem putA_perm (x : α) (l : List α) (p : Nat) : (putA x l p).Perm (x :: l) := by
  unfold putA
  refine (List.perm_middle).trans ?_
  rw [List.take_append_drop]
theorem insB_perm (lt : α → α → Bool) (x : α) (l : List α) : (insB lt x l).Perm (x :: l) := putA_perm x l _

def sortB (lt : α → α → Bool) (l : List α) : List α := l.foldl (fun o x => insB lt x o) []
theorem foldB_perm (lt : α → α → Bool) : ∀ (l o : List α), (l.foldl (fun o x => insB lt x o) o).Perm (o ++ l)
  | [], o => by simp
  | x :: l, o => by
    rw [List.foldl_cons]
    refine (foldB_perm lt l _).trans ?_
    refine ((insB_perm lt x o).append_right l).trans ?_
    exact (List.perm_middle (a := x) (l₁ := o) (l₂ := l)).symm
theorem sortB_perm (lt : α → α → Bool) (l : List α) : (sortB lt l).Perm l := foldB_perm lt l []
omit [Inhabited α] in
theorem rising_of {lt : α → α → Bool} : ∀ {l : List α}, l.Pairwise (fun a b => lt a b = true) → rising lt l = true
  | [], _ => rfl
  | [_], _ => rfl
  | x :: y :: r, h => by
    obtain ⟨h1, h2⟩ := List.pairwise_cons.1 h
    simp only [rising, Bool.and_eq_true]
    exact ⟨h1 y (by simp), rising_of h2⟩
end

end Go.Pv

/-
  Contracts: comparisons of the library, the order of edges.
-/
namespace Go.Pv

theorem r66 {Pr : Prims} (x : Int) : res A Pr 66 [.int .i64 x] = some [.bool false] := by
  refine res_of a66 rfl rfl ?_
  simp only [F66]
  simp (disch := omega) only [go_sem]

theorem r60 {Pr : Prims} (hp : Pr 66 = none) (x y : Int) : res A Pr 60 [.int .i64 x, .int .i64 y] = some [.int .i64 (cmpI x y)] := by
  refine res_of a60 rfl rfl ?_
  simp only [F60]
  simp (disch := omega) only [go_sem, CW_CN (by kernel_rfl) hp tk66, r66]
  unfold cmpI
  refine Br.ofP (fun h => ?_) (fun h => ?_) <;> simp (disch := omega) only [go_sem, h]
  refine Br.ofP (fun h2 => ?_) (fun h2 => ?_) <;> simp (disch := omega) only [go_sem, h, h2]

theorem r58 {Pr : Prims} (a : Edge) : res A Pr 58 [.agg a.c] = some [.int .i64 a.side] := by
  refine res_of a58 rfl rfl ?_
  simp only [F58]
  simp (disch := omega) only [go_sem]
  unfold Edge.side
  refine Br.of (fun h => ?_) (fun h => ?_) <;> simp (disch := omega) only [go_sem, h]

def orI : List Int → Int
  | [] => 0
  | x :: r => if x ≠ 0 then x else orI r

theorem drop_at {α : Type} {l : List α} {k : Nat} {x : α} (h : l[k]? = some x) : l.drop k = x :: l.drop (k + 1) := by
  obtain ⟨h1, h2⟩ := List.getElem?_eq_some_iff.1 h
  rw [List.drop_eq_getElem_cons h1, h2]
theorem get_at {α : Type} {l : List α} {k : Nat} (h : k < l.length) : ∃ x, l[k]? = some x := ⟨_, List.getElem?_eq_getElem h⟩
theorem drop_end {α : Type} {l : List α} {k : Nat} (h : ¬ (k : Int) < l.length) : l.drop k = [] := List.drop_eq_nil_of_le (by omega)

theorem r59 {Pr : Prims} (t : Nat) (l : List Int) (hl : l.length < 1000) : res A Pr 59 [.lst t (ints l)] = some [.int .i64 (orI l)] := by
  refine res_of a59 rfl rfl ?_
  simp only [F59]
  simp (disch := omega) only [go_sem]
  refine W.upto l.length (fun k => ⟨[(3, .pv (.int .i64 0)), (6, .pv (.lst t (ints l))), (7, .pv (.int .i64 l.length)), (8, .pv (.int .i64 k))], ⟨[], [], []⟩⟩) (fun k => orI l = orI (l.drop k)) rfl rfl fun k hk hi => ?_
  simp (disch := omega) only [go_sem]
  refine Br.ofP (fun h => ?_) (fun h => ?_)
  · obtain ⟨x, hx⟩ := get_at (l := l) (k := k) (by omega)
    rw [drop_at hx, orI] at hi
    simp (disch := omega) only [go_sem, hx]
    refine Br.ofP (fun h1 => ?_) (fun h1 => ?_) <;> simp (disch := omega) only [go_sem]
    · exact .of (by omega) rfl (by simpa [h1] using hi)
    · simp [hi, h1]
  · simp (disch := omega) only [go_sem]
    simp [hi, drop_end h, orI]

theorem r47 {Pr : Prims} (h66 : Pr 66 = none) (h60 : Pr 60 = none) (h59 : Pr 59 = none) (h58 : Pr 58 = none) (a b : Edge) : res A Pr 47 [.agg a.c, .agg b.c] = some [.int .i64 (Edge.cmp a b)] := by
  refine res_of a47 rfl rfl ?_
  simp only [F47]
  have e59 := fun x y z => r59 (Pr := Pr) 0 [x, y, z] (by simp)
  simp only [ints, List.map_cons, List.map_nil] at e59
  have e58 := fun x => r58 (Pr := Pr) x
  simp only [Edge.c] at e58
  simp (disch := omega) only [go_sem, CW_CN (by kernel_rfl) h60 tk60, CW_CN (by kernel_rfl) h59 tk59, CW_CN (by kernel_rfl) h58 tk58, r60 h66, e58 a, e58 b, e59]
  by_cases h : cmpI a.label b.label = 0 <;> simp [orI, Edge.cmp, h]

end Go.Pv

/-
  Contracts: errors of automata.
-/
namespace Go.Pv

@[go_sem] theorem r44 (a b : Edge) : res A PrA 44 [.agg [.int .i64 a.fr, .bool a.send, .int .i64 a.label, .int .i64 a.to], .agg [.int .i64 b.fr, .bool b.send, .int .i64 b.label, .int .i64 b.to]] = some [.bool (Edge.lt a b)] := by
  refine res_of a44 rfl rfl ?_
  simp only [F44]
  simp (disch := omega) only [go_sem]
  unfold Edge.lt
  by_cases h : a.fr = b.fr <;> by_cases h2 : a.send = b.send <;> simp (disch := omega) only [go_sem, h, h2, ne_eq, not_true_eq_false, not_false_eq_true]

theorem Auto.err_ok {a : Auto} (h1 : a.states ≤ 12) (h2 : a.edges.length ≤ 100) (h3 : 0 ≤ a.start ∧ a.start < a.states) : a.err = if chk a.states none a.edges = true then 0 else 1 := by
  unfold Auto.err
  rw [if_neg (by omega), if_pos h3]
theorem Auto.err_start {a : Auto} (h1 : a.states ≤ 12) (h2 : a.edges.length ≤ 100) (h3 : ¬ (0 ≤ a.start ∧ a.start < a.states)) : a.err = 1 := by
  unfold Auto.err
  rw [if_neg (by omega), if_neg h3]
theorem Auto.err_large {a : Auto} (h : 12 < a.states ∨ 100 < a.edges.length) : a.err = 3 := by
  unfold Auto.err
  rw [if_pos h]
theorem chk_no {n : Int} {p : Option Edge} {e : Edge} {r : List Edge} (h : e.fits n = false) : chk n p (e :: r) = false := by simp [chk, h]

set_option maxHeartbeats 1000000 in
@[go_sem] theorem r26 (t : Nat) (a : Auto) (hl : a.edges.length ≤ 2 ^ 63 - 1) : res A PrA 26 [.agg [.int .i64 a.states, .int .i64 a.start, .lst t (a.edges.map Edge.c)]] = some [.int .i64 a.err] := by
  refine res_of a26 rfl rfl ?_
  simp only [F26]
  simp (disch := omega) only [go_sem]
  refine Br.ofP (fun h1 => ?_) (fun h1 => ?_) <;> simp (disch := omega) only [go_sem, h1]
  · rw [Auto.err_large (.inl h1)]
  refine Br.ofP (fun h2 => ?_) (fun h2 => ?_) <;> simp (disch := omega) only [go_sem, h2]
  · rw [Auto.err_large (.inr (by omega))]
  refine Br.ofP (fun h3 => ?_) (fun h3 => ?_) <;> simp (disch := omega) only [go_sem, h3]
  · rw [Auto.err_start (by omega) (by omega) (by omega)]
  refine Br.ofP (fun h4 => ?_) (fun h4 => ?_) <;> simp (disch := omega) only [go_sem, h4]
  · rw [Auto.err_start (by omega) (by omega) (by omega)]
  refine Br.ofP (fun h5 => ?_) (fun h5 => ?_) <;> simp (disch := omega) only [go_sem, h5]
  · rw [Auto.err_start (by omega) (by omega) (by omega)]
  rw [Auto.err_ok (by omega) (by omega) (by omega)]
  refine W.upto a.edges.length (fun k => ⟨[(1, .ptr 1 0), (3, .pv (.int .i64 k))], ⟨[(1, [.pv (.int .i64 a.states), .pv (.int .i64 a.start), .pv (.lst t (a.edges.map Edge.c))])], [], []⟩⟩) (fun k => chk a.states none a.edges = chk a.states (ahead1 a.edges k) (a.edges.drop k)) rfl rfl fun k hk hi => ?_
  simp (disch := omega) only [go_sem]
  refine Br.ofP (fun h => ?_) (fun h => ?_)
  · obtain ⟨e, he⟩ := get_at (l := a.edges) (k := k) (by omega)
    rw [drop_at he] at hi
    have bad : e.fits a.states = false → chk a.states none a.edges = false := fun hb => hi.trans (chk_no hb)
    simp (disch := omega) only [go_sem, he]
    refine Br.ofP (fun g1 => ?_) (fun g1 => ?_) <;> simp (disch := omega) only [go_sem, g1]
    · rw [bad (by simp [Edge.fits]; omega)]; rfl
    refine Br.ofP (fun g2 => ?_) (fun g2 => ?_) <;> simp (disch := omega) only [go_sem, g2]
    · rw [bad (by simp [Edge.fits]; omega)]; rfl
    refine Br.ofP (fun g3 => ?_) (fun g3 => ?_) <;> simp (disch := omega) only [go_sem, g3]
    · rw [bad (by simp [Edge.fits]; omega)]; rfl
    refine Br.ofP (fun g4 => ?_) (fun g4 => ?_) <;> simp (disch := omega) only [go_sem, g4]
    · rw [bad (by simp [Edge.fits]; omega)]; rfl
    refine Br.ofP (fun g5 => ?_) (fun g5 => ?_) <;> simp (disch := omega) only [go_sem, g5]
    · rw [bad (by simp [Edge.fits]; omega)]; rfl
    refine Br.ofP (fun g6 => ?_) (fun g6 => ?_) <;> simp (disch := omega) only [go_sem, g6]
    · rw [bad (by simp [Edge.fits]; omega)]; rfl
    have fit : e.fits a.states = true := by simp [Edge.fits]; omega
    refine Br.ofP (fun g7 => ?_) (fun g7 => ?_) <;> simp (disch := omega) only [go_sem, g7]
    · obtain ⟨j, rfl⟩ : ∃ j, k = j + 1 := ⟨k - 1, by omega⟩
      obtain ⟨d, hd⟩ := get_at (l := a.edges) (k := j) (by omega)
      have hj : ((j + 1 : Nat) : Int) - 1 = (j : Int) := by omega
      rw [ahead1_succ, hd] at hi
      simp (disch := omega) only [go_sem, hj, hd]
      refine Br.of (fun g8 => ?_) (fun g8 => ?_) <;> simp (disch := omega) only [go_sem]
      · exact .of (by omega) rfl (by rw [hi, ahead1_succ, he]; simp [chk, fit, g8])
      · rw [hi]; simp [chk, g8]
    · obtain rfl : k = 0 := by omega
      exact .of (by omega) rfl (by rw [hi, ahead1_succ, he]; simp [chk, fit, ahead1])
  · simp (disch := omega) only [go_sem]
    rw [hi, drop_end h]
    rfl

@[go_sem] theorem r47a (a b : Edge) : res A PrA 47 [.agg [.int .i64 a.fr, .bool a.send, .int .i64 a.label, .int .i64 a.to], .agg [.int .i64 b.fr, .bool b.send, .int .i64 b.label, .int .i64 b.to]] = some [.int .i64 (Edge.cmp a b)] :=
  r47 (by kernel_rfl) (by kernel_rfl) (by kernel_rfl) (by kernel_rfl) a b

@[go_sem] theorem r46 (n s : Int) (t : Nat) (cs : List PV) : res A PrA 46 [.int .i64 n, .ro t (.int .i64 s :: cs)] = some [.bool (decide (0 ≤ n) && decide (n < s))] := by
  refine res_of a46 rfl rfl ?_
  simp only [F46]
  simp (disch := omega) only [go_sem]
  refine Br.ofP (fun h1 => ?_) (fun h1 => ?_) <;> simp (disch := omega) only [go_sem, h1]

theorem fits_of {e : Edge} {n : Int} : e.fits n = (((decide (0 ≤ e.fr) && decide (e.fr < n)) && (decide (0 ≤ e.to) && decide (e.to < n))) && (decide (1 ≤ e.label) && decide (e.label ≤ 1000))) := by
  simp [Edge.fits, Bool.and_assoc]

set_option maxHeartbeats 2000000 in
@[go_sem] theorem r29 (t : Nat) (a : Auto) (hl : a.edges.length ≤ 2 ^ 63 - 1) : res A PrA 29 [.agg [.int .i64 a.states, .int .i64 a.start, .lst t (a.edges.map Edge.c)]] = some [.int .i64 a.err] := by
  refine res_of a29 rfl rfl ?_
  simp only [F29]
  simp (disch := omega) only [go_sem]
  refine Br.ofP (fun h1 => ?_) (fun h1 => ?_) <;> simp (disch := omega) only [go_sem, h1]
  · rw [Auto.err_large (.inl h1)]
  refine Br.ofP (fun h2 => ?_) (fun h2 => ?_) <;> simp (disch := omega) only [go_sem, h2]
  · rw [Auto.err_large (.inr (by omega))]
  refine Br.of (fun h3 => ?_) (fun h3 => ?_) <;> simp at h3 <;> simp (disch := omega) only [go_sem]
  case refine_2 => rw [Auto.err_start (by omega) (by omega) (by omega)]
  rw [Auto.err_ok (by omega) (by omega) (by omega)]
  refine W.upto a.edges.length (fun k => ⟨[(1, .ptr 1 0), (3, .func 46 [.ptr 1 0]), (22, .pv (.lst t (a.edges.map Edge.c))), (23, .pv (.int .i64 a.edges.length)), (24, .pv (.int .i64 k))], ⟨[(1, [.pv (.int .i64 a.states), .pv (.int .i64 a.start), .pv (.lst t (a.edges.map Edge.c))])], [], []⟩⟩) (fun k => chk a.states none a.edges = chk a.states (ahead1 a.edges k) (a.edges.drop k)) rfl rfl fun k hk hi => ?_
  simp (disch := omega) only [go_sem]
  refine Br.ofP (fun h => ?_) (fun h => ?_)
  · obtain ⟨e, he⟩ := get_at (l := a.edges) (k := k) (by omega)
    rw [drop_at he] at hi
    have bad : e.fits a.states = false → chk a.states none a.edges = false := fun hb => hi.trans (chk_no hb)
    rw [fits_of] at bad
    simp (disch := omega) only [go_sem, he]
    refine Br.of (fun g1 => ?_) (fun g1 => ?_) <;> simp (disch := omega) only [go_sem, g1]
    case refine_2 => rw [bad (by rw [g1]; rfl)]; rfl
    refine Br.of (fun g2 => ?_) (fun g2 => ?_) <;> simp (disch := omega) only [go_sem, g2]
    case refine_2 => rw [bad (by rw [g1, g2]; rfl)]; rfl
    refine Br.ofP (fun g3 => ?_) (fun g3 => ?_) <;> simp (disch := omega) only [go_sem, g3]
    · rw [bad (by simp; omega)]; rfl
    refine Br.ofP (fun g4 => ?_) (fun g4 => ?_) <;> simp (disch := omega) only [go_sem, g4]
    · rw [bad (by simp; omega)]; rfl
    have fit : e.fits a.states = true := by rw [fits_of, g1, g2]; simp; omega
    refine Br.ofP (fun g7 => ?_) (fun g7 => ?_) <;> simp (disch := omega) only [go_sem, g7]
    · obtain ⟨j, rfl⟩ : ∃ j, k = j + 1 := ⟨k - 1, by omega⟩
      obtain ⟨d, hd⟩ := get_at (l := a.edges) (k := j) (by omega)
      have hj : ((j + 1 : Nat) : Int) - 1 = (j : Int) := by omega
      rw [ahead1_succ, hd] at hi
      simp (disch := omega) only [go_sem, hj, hd, Edge.cmp_ge]
      refine Br.of (fun g8 => ?_) (fun g8 => ?_) <;> simp (disch := omega) only [go_sem]
      · exact .of (by omega) rfl (by rw [hi, ahead1_succ, he]; simp [chk, fit, g8])
      · rw [hi]; simp [chk, g8]
    · obtain rfl : k = 0 := by omega
      exact .of (by omega) rfl (by rw [hi, ahead1_succ, he]; simp [chk, fit, ahead1])
  · simp (disch := omega) only [go_sem]
    rw [hi, drop_end h]
    rfl

end Go.Pv

/-
  Next states.
-/
namespace Go.Pv

def nextE (s : Int) (d : Bool) (x : Int) : List Edge → Option Int
  | [] => none
  | e :: r => if e.fr = s ∧ e.send = d ∧ e.label = x then some e.to else nextE s d x r

@[go_sem] theorem r45 (t : Nat) (a : Auto) (s : Int) (d : Bool) (x : Int) (hl : a.edges.length ≤ 2 ^ 63 - 1) :
    res A PrA 45 [.agg [.int .i64 a.states, .int .i64 a.start, .lst t (a.edges.map Edge.c)], .int .i64 s, .bool d, .int .i64 x] = some [.int .i64 ((nextE s d x a.edges).getD 0), .bool (nextE s d x a.edges).isSome] := by
  refine res_of a45 rfl rfl ?_
  simp only [F45]
  simp (disch := omega) only [go_sem]
  refine W.upto a.edges.length (fun k => ⟨[(1, .pv (.int .i64 s)), (2, .pv (.bool d)), (3, .pv (.int .i64 x)), (13, .pv (.lst t (a.edges.map Edge.c))), (14, .pv (.int .i64 a.edges.length)), (15, .pv (.int .i64 k))], ⟨[], [], []⟩⟩) (fun k => nextE s d x a.edges = nextE s d x (a.edges.drop k)) rfl rfl fun k hk hi => ?_
  simp (disch := omega) only [go_sem]
  refine Br.ofP (fun h => ?_) (fun h => ?_)
  · obtain ⟨e, he⟩ := get_at (l := a.edges) (k := k) (by omega)
    rw [drop_at he] at hi
    have no : ¬ (e.fr = s ∧ e.send = d ∧ e.label = x) → nextE s d x a.edges = nextE s d x (a.edges.drop (k + 1)) := fun hn => hi.trans (by simp only [nextE, if_neg hn])
    have yes : (e.fr = s ∧ e.send = d ∧ e.label = x) → nextE s d x a.edges = some e.to := fun hn => hi.trans (by simp only [nextE, if_pos hn])
    simp (disch := omega) only [go_sem, he]
    refine Br.ofP (fun g1 => ?_) (fun g1 => ?_) <;> simp (disch := omega) only [go_sem, g1]
    · refine Br.ofP (fun g2 => ?_) (fun g2 => ?_) <;> simp (disch := omega) only [go_sem, g2]
      · refine Br.ofP (fun g3 => ?_) (fun g3 => ?_) <;> simp (disch := omega) only [go_sem, g3]
        · rw [yes ⟨g1, g2, g3⟩]
          rfl
        · exact .of (by omega) rfl (no (fun hn => g3 hn.2.2))
      · exact .of (by omega) rfl (no (fun hn => g2 hn.2.1))
    · exact .of (by omega) rfl (no (fun hn => g1 hn.1))
  · simp (disch := omega) only [go_sem]
    rw [hi, drop_end h]
    rfl

@[go_sem] theorem r39 (t : Nat) (a : Auto) (s : Int) (d : Bool) (x : Int) (hl : a.edges.length ≤ 2 ^ 63 - 1) :
    res A PrA 39 [.agg [.int .i64 a.states, .int .i64 a.start, .lst t (a.edges.map Edge.c)], .int .i64 s, .bool d, .int .i64 x] = some [.int .i64 ((nextE s d x a.edges).getD 0), .bool (nextE s d x a.edges).isSome] := by
  refine res_of a39 rfl rfl ?_
  simp only [F39]
  simp (disch := omega) only [go_sem]
  refine W.upto a.edges.length (fun k => ⟨[(1, .pv (.int .i64 s)), (2, .pv (.bool d)), (3, .pv (.int .i64 x)), (4, .ptr 4 0), (10, .pv (.int .i64 k))], ⟨[(4, [.pv (.int .i64 a.states), .pv (.int .i64 a.start), .pv (.lst t (a.edges.map Edge.c))])], [], []⟩⟩) (fun k => nextE s d x a.edges = nextE s d x (a.edges.drop k)) rfl rfl fun k hk hi => ?_
  simp (disch := omega) only [go_sem]
  refine Br.ofP (fun h => ?_) (fun h => ?_)
  · obtain ⟨e, he⟩ := get_at (l := a.edges) (k := k) (by omega)
    rw [drop_at he] at hi
    have no : ¬ (e.fr = s ∧ e.send = d ∧ e.label = x) → nextE s d x a.edges = nextE s d x (a.edges.drop (k + 1)) := fun hn => hi.trans (by simp only [nextE, if_neg hn])
    have yes : (e.fr = s ∧ e.send = d ∧ e.label = x) → nextE s d x a.edges = some e.to := fun hn => hi.trans (by simp only [nextE, if_pos hn])
    simp (disch := omega) only [go_sem, he]
    refine Br.ofP (fun g1 => ?_) (fun g1 => ?_) <;> simp (disch := omega) only [go_sem, g1]
    · refine Br.ofP (fun g2 => ?_) (fun g2 => ?_) <;> simp (disch := omega) only [go_sem, g2]
      · refine Br.ofP (fun g3 => ?_) (fun g3 => ?_) <;> simp (disch := omega) only [go_sem, g3]
        · rw [yes ⟨g1, g2, g3⟩]
          rfl
        · exact .of (by omega) rfl (no (fun hn => g3 hn.2.2))
      · exact .of (by omega) rfl (no (fun hn => g2 hn.2.1))
    · exact .of (by omega) rfl (no (fun hn => g1 hn.1))
  · simp (disch := omega) only [go_sem]
    rw [hi, drop_end h]
    rfl
end Go.Pv

/-
  Lists that grow by appending.
-/
namespace Go.Pv
variable {A : Nat → Option AFunc} {Pr : Prims}

def grV (n : Nat) : List (List PV) → V
  | [] => .tl []
  | _ :: r => .own n r.length 0 (r.length + 1)
def grA (k : Nat) : List (List PV) → List Arr
  | [] => []
  | x :: r => [⟨r.length, k, .inl (x :: r)⟩]
def grT (n k : Nat) (rows : List (List PV)) (r : List PV) : Tn :=
  match rows with
  | [] => { push := [⟨0, k, .inl [r]⟩], base := n }
  | x :: q => { ar := some (n, ⟨q.length + 1, k, .inl (x :: q ++ [r])⟩) }

theorem grow (bx : List (Nat × List V)) (mp : List (List (PV × PV))) (pre : List Arr) (k : Nat) (rows : List (List PV)) (r : List PV) (hr : r.length = k) (hm : rows.length + 1 ≤ 2147483648) :
    appendV ⟨bx, pre ++ grA k rows, mp⟩ k (grV pre.length rows) (.tl [r]) = some (grV pre.length (rows ++ [r]), grT pre.length k rows r) := by
  cases rows with
  | nil => simp [appendV, grV, grA, grT, srcRows, rowsFit, rowsLen, hr, catRows, mostRows]
  | cons x q =>
    have h1 : ownArr ⟨bx, pre ++ grA k (x :: q), mp⟩ pre.length q.length = some ⟨q.length, k, .inl (x :: q)⟩ := by simp [ownArr, grA]
    have h2 : (⟨q.length, k, .inl (x :: q)⟩ : Arr).size = q.length + 1 := rfl
    have h3 : ((x :: q).drop 0).take (q.length + 1) = x :: q := by simp
    simp only [List.length_cons] at hm
    simp [appendV, grV, grT, srcRows, rowsFit, rowsLen, hr, h1, h2, catRows, cutRows, mostRows]
    omega

theorem grT_apply (bx : List (Nat × List V)) (mp : List (List (PV × PV))) (pre : List Arr) (k : Nat) (rows : List (List PV)) (r : List PV) :
    (grT pre.length k rows r).apply ⟨bx, pre ++ grA k rows, mp⟩ = ⟨bx, pre ++ grA k (rows ++ [r]), mp⟩ := by
  cases rows with
  | nil => simp [grT, Tn.apply, grA]
  | cons x q => simp [grT, Tn.apply, grA]

@[go_sem] theorem grow0 (bx : List (Nat × List V)) (mp : List (List (PV × PV))) (k : Nat) (rows : List (List PV)) (r : List PV) (hr : r.length = k) (hm : rows.length + 1 ≤ 2147483648) :
    appendV ⟨bx, grA k rows, mp⟩ k (grV 0 rows) (.tl [r]) = some (grV 0 (rows ++ [r]), grT 0 k rows r) := grow bx mp [] k rows r hr hm
@[go_sem] theorem grow1 (bx : List (Nat × List V)) (mp : List (List (PV × PV))) (a : Arr) (k : Nat) (rows : List (List PV)) (r : List PV) (hr : r.length = k) (hm : rows.length + 1 ≤ 2147483648) :
    appendV ⟨bx, a :: grA k rows, mp⟩ k (grV 1 rows) (.tl [r]) = some (grV 1 (rows ++ [r]), grT 1 k rows r) := grow bx mp [a] k rows r hr hm
@[go_sem] theorem grow2 (bx : List (Nat × List V)) (mp : List (List (PV × PV))) (a b : Arr) (k : Nat) (rows : List (List PV)) (r : List PV) (hr : r.length = k) (hm : rows.length + 1 ≤ 2147483648) :
    appendV ⟨bx, a :: b :: grA k rows, mp⟩ k (grV 2 rows) (.tl [r]) = some (grV 2 (rows ++ [r]), grT 2 k rows r) := grow bx mp [a, b] k rows r hr hm
@[go_sem] theorem grT_apply0 (bx : List (Nat × List V)) (mp : List (List (PV × PV))) (k : Nat) (rows : List (List PV)) (r : List PV) :
    (grT 0 k rows r).apply ⟨bx, grA k rows, mp⟩ = ⟨bx, grA k (rows ++ [r]), mp⟩ := grT_apply bx mp [] k rows r
@[go_sem] theorem grT_apply1 (bx : List (Nat × List V)) (mp : List (List (PV × PV))) (a : Arr) (k : Nat) (rows : List (List PV)) (r : List PV) :
    (grT 1 k rows r).apply ⟨bx, a :: grA k rows, mp⟩ = ⟨bx, a :: grA k (rows ++ [r]), mp⟩ := grT_apply bx mp [a] k rows r
@[go_sem] theorem grT_apply2 (bx : List (Nat × List V)) (mp : List (List (PV × PV))) (a b : Arr) (k : Nat) (rows : List (List PV)) (r : List PV) :
    (grT 2 k rows r).apply ⟨bx, a :: b :: grA k rows, mp⟩ = ⟨bx, a :: b :: grA k (rows ++ [r]), mp⟩ := grT_apply bx mp [a, b] k rows r

@[go_sem] theorem lenV_gr (h : Heap) (n : Nat) (rows : List (List PV)) : lenV h 0 (grV n rows) = some (rows.length, {}) := by cases rows <;> rfl
@[go_sem] theorem cells_gr (n : Nat) (rows : List (List PV)) : V.cells (grV n rows) = [grV n rows] := by cases rows <;> rfl
@[go_sem] theorem calm_gr (n : Nat) (rows : List (List PV)) : V.calm (grV n rows) = true := by cases rows <;> rfl
@[go_sem] theorem sized_gr (n : Nat) (rows : List (List PV)) : V.sized (grV n rows) = true := by cases rows <;> rfl
@[go_sem] theorem scrub_gr (kb : List Nat) (n : Nat) (rows : List (List PV)) : scrub kb (grV n rows) = grV n rows := by cases rows <;> rfl
@[go_sem] theorem okc_gr (kb : List Nat) (n : Nat) (rows : List (List PV)) : okc kb (grV n rows) = true := by cases rows <;> rfl
@[go_sem] theorem purec_gr (n : Nat) (rows : List (List PV)) : V.purec (grV n rows) = none := by cases rows <;> rfl

theorem own_gr (bx : List (Nat × List V)) (mp : List (List (PV × PV))) (pre post : List Arr) (k : Nat) (x : List PV) (q : List (List PV)) : ownArr ⟨bx, pre ++ (grA k (x :: q) ++ post), mp⟩ pre.length q.length = some ⟨q.length, k, .inl (x :: q)⟩ := by simp [ownArr, grA]
theorem keepc_gr (bx : List (Nat × List V)) (mp : List (List (PV × PV))) (pre : List Arr) (k d : Nat) (rows : List (List PV)) : keepc ⟨bx, pre ++ grA k rows, mp⟩ (d + 1) (grV pre.length rows) = some (.lst 0 rows) := by
  cases rows with
  | nil => rfl
  | cons x q =>
    have := own_gr bx mp pre [] k x q
    rw [List.append_nil] at this
    simp [grV, keepc_own, this, keepRows, cutRows]
@[go_sem] theorem keepc_gr0 (bx : List (Nat × List V)) (mp : List (List (PV × PV))) (k : Nat) (rows : List (List PV)) : keepc ⟨bx, grA k rows, mp⟩ 4 (grV 0 rows) = some (.lst 0 rows) := keepc_gr bx mp [] k 3 rows
@[go_sem] theorem keepc_gr1 (bx : List (Nat × List V)) (mp : List (List (PV × PV))) (a : Arr) (k : Nat) (rows : List (List PV)) : keepc ⟨bx, a :: grA k rows, mp⟩ 4 (grV 1 rows) = some (.lst 0 rows) := keepc_gr bx mp [a] k 3 rows
@[go_sem] theorem keepc_gr2 (bx : List (Nat × List V)) (mp : List (List (PV × PV))) (a b : Arr) (k : Nat) (rows : List (List PV)) : keepc ⟨bx, a :: b :: grA k rows, mp⟩ 4 (grV 2 rows) = some (.lst 0 rows) := keepc_gr bx mp [a, b] k 3 rows
@[go_sem] theorem keep_gr (h : Heap) (n : Nat) (rows : List (List PV)) : keep h false (grV n rows) = keepc h 4 (grV n rows) := by cases rows <;> rfl

def grG : List (List PV) → Nat
  | [] => 0
  | _ => 1
theorem lendc_gr (bx : List (Nat × List V)) (mp : List (List (PV × PV))) (pre : List Arr) (k d : Nat) (rows : List (List PV)) : lendc ⟨bx, pre ++ grA k rows, mp⟩ (d + 1) (grV pre.length rows) = some (.lst (grG rows) rows) := by
  cases rows with
  | nil => rfl
  | cons x q =>
    have := own_gr bx mp pre [] k x q
    rw [List.append_nil] at this
    simp [grV, lendc, this, cutRows, grG]
@[go_sem] theorem lendc_gr0 (bx : List (Nat × List V)) (mp : List (List (PV × PV))) (k : Nat) (rows : List (List PV)) : lendc ⟨bx, grA k rows, mp⟩ 4 (grV 0 rows) = some (.lst (grG rows) rows) := lendc_gr bx mp [] k 3 rows
@[go_sem] theorem lendc_gr1 (bx : List (Nat × List V)) (mp : List (List (PV × PV))) (a : Arr) (k : Nat) (rows : List (List PV)) : lendc ⟨bx, a :: grA k rows, mp⟩ 4 (grV 1 rows) = some (.lst (grG rows) rows) := lendc_gr bx mp [a] k 3 rows
@[go_sem] theorem lendc_gr2 (bx : List (Nat × List V)) (mp : List (List (PV × PV))) (a b : Arr) (k : Nat) (rows : List (List PV)) : lendc ⟨bx, a :: b :: grA k rows, mp⟩ 4 (grV 2 rows) = some (.lst (grG rows) rows) := lendc_gr bx mp [a, b] k 3 rows
@[go_sem] theorem lend_gr (h : Heap) (n : Nat) (rows : List (List PV)) : lend h (grV n rows) = lendc h 4 (grV n rows) := by cases rows <;> rfl
theorem grV_own {i n : Nat} {rows : List (List PV)} (h : rows.length = n + 1) : grV i rows = .own i n 0 (n + 1) := by
  match rows, h with
  | x :: q, h =>
    simp at h
    simp [grV, h]
theorem grA_own {k n : Nat} {rows : List (List PV)} (h : rows.length = n + 1) : grA k rows = [⟨n, k, .inl rows⟩] := by
  match rows, h with
  | x :: q, h =>
    simp at h
    simp [grA, h]

def chkR {α : Type} (i : Int) (len : Nat) (v : α) : Option α := if 0 ≤ i ∧ i ≤ len then some v else none
@[go_sem] theorem chkR_ok {α : Type} {i : Int} {len : Nat} {v : α} (h0 : 0 ≤ i) (h1 : i ≤ (len : Int)) : chkR i len v = some v := if_pos ⟨h0, h1⟩
@[go_sem] theorem sl_from (g : Opd → V) (h : Heap) (k id ver off len : Nat) (lo : Opd) :
    sliceV g h k (.own id ver off len) (some lo) none none = (ownArr h id ver).bind fun a => (intOf (g lo)).bind fun i => if a.k = k then chkR i len (.own id ver (off + i.toNat) (len - i.toNat), { ra := some id }) else none := by
  cases ho : ownArr h id ver with
  | none => simp [sliceV, ho]
  | some a =>
    cases hi : intOf (g lo) with
    | none => simp [sliceV, ho, bounds, bound, hi]
    | some i => by_cases hk : a.k = k <;> by_cases h0 : 0 ≤ i ∧ i ≤ len <;> simp [sliceV, ho, bounds, bound, hi, hk, h0, chkR]
@[go_sem] theorem sl_to (g : Opd → V) (h : Heap) (k id ver off len : Nat) (hi : Opd) :
    sliceV g h k (.own id ver off len) none (some hi) none = (ownArr h id ver).bind fun a => (intOf (g hi)).bind fun i => if a.k = k then chkR i len (.own id ver off i.toNat, { ra := some id }) else none := by
  cases ho : ownArr h id ver with
  | none => simp [sliceV, ho]
  | some a =>
    cases hj : intOf (g hi) with
    | none => simp [sliceV, ho, bounds, bound, hj]
    | some i => by_cases hk : a.k = k <;> by_cases h0 : 0 ≤ i ∧ i ≤ len <;> simp [sliceV, ho, bounds, bound, hj, hk, h0, chkR]

end Go.Pv

/-
  Lists of numbers and of edges that grow by appending.
-/
namespace Go.Pv

@[go_sem] theorem ints_nil : ints [] = [] := rfl
@[go_sem] theorem ints_snoc (l : List Int) (x : Int) : ints l ++ [[.int .i64 x]] = ints (l ++ [x]) := by simp [ints]
def edgs (l : List Edge) : List (List PV) := l.map Edge.c
@[go_sem] theorem edgs_length (l : List Edge) : (edgs l).length = l.length := by simp [edgs]
@[go_sem] theorem edgs_nil : edgs [] = [] := rfl
@[go_sem] theorem edgs_get (l : List Edge) (i : Nat) : (edgs l)[i]? = l[i]?.map Edge.c := by simp [edgs]
theorem edgs_snoc (l : List Edge) (e : Edge) : edgs l ++ [e.c] = edgs (l ++ [e]) := by simp [edgs]
@[go_sem] theorem grow0i (bx : List (Nat × List V)) (mp : List (List (PV × PV))) (l : List Int) (x : Int) (hm : l.length + 1 ≤ 2147483648) :
    appendV ⟨bx, grA 1 (ints l), mp⟩ 1 (grV 0 (ints l)) (.tl [[.int .i64 x]]) = some (grV 0 (ints (l ++ [x])), grT 0 1 (ints l) [.int .i64 x]) := by
  rw [grow0 bx mp  1 (ints l) [.int .i64 x] rfl (by rw [ints_length]; exact hm), ints_snoc]
@[go_sem] theorem grow0e (bx : List (Nat × List V)) (mp : List (List (PV × PV))) (l : List Edge) (f : Int) (s : Bool) (x t : Int) (hm : l.length + 1 ≤ 2147483648) :
    appendV ⟨bx, grA 4 (edgs l), mp⟩ 4 (grV 0 (edgs l)) (.tl [[.int .i64 f, .bool s, .int .i64 x, .int .i64 t]]) = some (grV 0 (edgs (l ++ [⟨f, s, x, t⟩])), grT 0 4 (edgs l) (Edge.c ⟨f, s, x, t⟩)) := by
  rw [← edgs_snoc]
  exact grow0 bx mp  4 (edgs l) (Edge.c ⟨f, s, x, t⟩) rfl (by rw [edgs_length]; exact hm)
@[go_sem] theorem grow1i (bx : List (Nat × List V)) (mp : List (List (PV × PV))) (a : Arr) (l : List Int) (x : Int) (hm : l.length + 1 ≤ 2147483648) :
    appendV ⟨bx, a :: grA 1 (ints l), mp⟩ 1 (grV 1 (ints l)) (.tl [[.int .i64 x]]) = some (grV 1 (ints (l ++ [x])), grT 1 1 (ints l) [.int .i64 x]) := by
  rw [grow1 bx mp a 1 (ints l) [.int .i64 x] rfl (by rw [ints_length]; exact hm), ints_snoc]
@[go_sem] theorem grow1e (bx : List (Nat × List V)) (mp : List (List (PV × PV))) (a : Arr) (l : List Edge) (f : Int) (s : Bool) (x t : Int) (hm : l.length + 1 ≤ 2147483648) :
    appendV ⟨bx, a :: grA 4 (edgs l), mp⟩ 4 (grV 1 (edgs l)) (.tl [[.int .i64 f, .bool s, .int .i64 x, .int .i64 t]]) = some (grV 1 (edgs (l ++ [⟨f, s, x, t⟩])), grT 1 4 (edgs l) (Edge.c ⟨f, s, x, t⟩)) := by
  rw [← edgs_snoc]
  exact grow1 bx mp a 4 (edgs l) (Edge.c ⟨f, s, x, t⟩) rfl (by rw [edgs_length]; exact hm)
@[go_sem] theorem grow2i (bx : List (Nat × List V)) (mp : List (List (PV × PV))) (a b : Arr) (l : List Int) (x : Int) (hm : l.length + 1 ≤ 2147483648) :
    appendV ⟨bx, a :: b :: grA 1 (ints l), mp⟩ 1 (grV 2 (ints l)) (.tl [[.int .i64 x]]) = some (grV 2 (ints (l ++ [x])), grT 2 1 (ints l) [.int .i64 x]) := by
  rw [grow2 bx mp a b 1 (ints l) [.int .i64 x] rfl (by rw [ints_length]; exact hm), ints_snoc]
@[go_sem] theorem grow2e (bx : List (Nat × List V)) (mp : List (List (PV × PV))) (a b : Arr) (l : List Edge) (f : Int) (s : Bool) (x t : Int) (hm : l.length + 1 ≤ 2147483648) :
    appendV ⟨bx, a :: b :: grA 4 (edgs l), mp⟩ 4 (grV 2 (edgs l)) (.tl [[.int .i64 f, .bool s, .int .i64 x, .int .i64 t]]) = some (grV 2 (edgs (l ++ [⟨f, s, x, t⟩])), grT 2 4 (edgs l) (Edge.c ⟨f, s, x, t⟩)) := by
  rw [← edgs_snoc]
  exact grow2 bx mp a b 4 (edgs l) (Edge.c ⟨f, s, x, t⟩) rfl (by rw [edgs_length]; exact hm)

def bools (l : List Bool) : List (List PV) := l.map fun b => [.bool b]
@[go_sem] theorem bools_length (l : List Bool) : (bools l).length = l.length := by simp [bools]
@[go_sem] theorem bools_get (l : List Bool) (i : Nat) : (bools l)[i]? = l[i]?.map fun b => [.bool b] := by simp [bools]
theorem bools_set (l : List Bool) (i : Nat) (b : Bool) : (bools l).set i [.bool b] = bools (l.set i b) := by simp [bools, List.map_set]
@[go_sem] theorem bools_store {id row ver : Nat} {b : Bool} {l : List Bool} (h1 : row < l.length) : storeRow id row 0 [.pv (.bool b)] ⟨ver, 1, .inl (bools l)⟩ = some { ar := some (id, ⟨ver, 1, .inl (bools (l.set row b))⟩) } := by
  rw [storeRow_one (by rw [bools_length]; exact h1) rfl (.inr ⟨.bool l[row], by simp [bools, h1]⟩) rfl, bools_set]
@[go_sem] theorem bools_made (n : Nat) (b : Bool) : sameRows n [.pv (.bool b)] = .inl (bools (List.replicate n b)) := by
  simp [sameRows, mapO, V.purec, PV.perm, bools]

end Go.Pv

/-
  Ends.
-/
namespace Go.Pv


def isEnd (s : Int) : List Edge → Bool
  | [] => true
  | e :: r => if e.fr = s then false else isEnd s r

@[go_sem] theorem r106 (t : Nat) (a : Auto) (s : Int) (hl : a.edges.length ≤ 2 ^ 63 - 1) :
    res A PrA 106 [.agg [.int .i64 a.states, .int .i64 a.start, .lst t (a.edges.map Edge.c)], .int .i64 s] = some [.bool (isEnd s a.edges)] := by
  refine res_of a106 rfl rfl ?_
  simp only [F106]
  simp (disch := omega) only [go_sem]
  refine W.upto a.edges.length (fun k => ⟨[(1, .pv (.int .i64 s)), (2, .ptr 2 0), (5, .pv (.int .i64 k))], ⟨[(2, [.pv (.int .i64 a.states), .pv (.int .i64 a.start), .pv (.lst t (a.edges.map Edge.c))])], [], []⟩⟩) (fun k => isEnd s a.edges = isEnd s (a.edges.drop k)) rfl rfl fun k hk hi => ?_
  simp (disch := omega) only [go_sem]
  refine Br.ofP (fun h => ?_) (fun h => ?_)
  · obtain ⟨e, he⟩ := get_at (l := a.edges) (k := k) (by omega)
    rw [drop_at he] at hi
    simp (disch := omega) only [go_sem, he]
    refine Br.ofP (fun g1 => ?_) (fun g1 => ?_) <;> simp (disch := omega) only [go_sem, g1]
    · rw [hi]
      simp only [isEnd, if_pos g1]
    · exact .of (by omega) rfl (hi.trans (by simp only [isEnd, if_neg g1]))
  · simp (disch := omega) only [go_sem]
    rw [hi, drop_end h]
    rfl

def endsTo (es : List Edge) : Nat → List Int
  | 0 => []
  | k + 1 => if isEnd k es then endsTo es k ++ [(k : Int)] else endsTo es k
def Auto.ends (a : Auto) : List Int := if a.states ≤ 12 then endsTo a.edges a.states.toNat else []

end Go.Pv

/-
  Places of numbers in lists; labels.
-/
namespace Go.Pv

def atFrom (x : Int) : Nat → List Int → Int
  | _, [] => -1
  | k, y :: r => if y = x then k else atFrom x (k + 1) r
def atL (x : Int) (l : List Int) : Int := atFrom x 0 l

end Go.Pv

/-
  Labels.
-/
namespace Go.Pv

end Go.Pv

/-
  slices.Compact of numbers that the caller gives away.
-/
namespace Go.Pv

@[go_sem] theorem ownIds_one (a b c d : Nat) : distinct (ownIds [.own a b c d]) = true := rfl
@[go_sem] theorem fresh_ints (bx : List (Nat × List V)) (mp : List (List (PV × PV))) (ar : List Arr) (v n : Nat) (l : List Int) : keep ⟨bx, ⟨v, 1, .inl (ints l)⟩ :: ar, mp⟩ true (.own 0 v 0 n) = some (.fr 1 (ints (l.take n))) := by
  simp [keep, freshc, ownArr, ints]

@[go_sem] theorem clr_ints (bx : List (Nat × List V)) (mp : List (List (PV × PV))) (ar : List Arr) (v off len : Nat) (l : List Int) (h : off + len ≤ l.length) : clrV ⟨bx, ⟨v, 1, .inl (ints l)⟩ :: ar, mp⟩ 1 [.pv (.int .i64 0)] (.own 0 v off len) =
    some (.tup [], { ar := some (0, ⟨v, 1, .inl (ints (l.take off ++ List.replicate len 0 ++ l.drop (off + len)))⟩) }) := by
  simp [clrV, ownArr, mapO, V.purec, PV.perm, ints, h]

end Go.Pv

/-
  Appending to arrays that are given in full; two lists of numbers that grow side by side.
-/
namespace Go.Pv

def apI (id ver off len : Nat) (x : Int) (a : Arr) : Option (V × Tn) :=
  if off + len ≤ a.size ∧ a.k = 1 ∧ len + 1 ≤ mostRows then some (.own id (ver + 1) 0 (len + 1), { ar := some (id, ⟨ver + 1, 1, catRows (cutRows off len a.body) (.inl [[.int .i64 x]])⟩) }) else none
@[go_sem] theorem app_own (h : Heap) (id ver off len : Nat) (x : Int) : appendV h 1 (.own id ver off len) (.tl [[.int .i64 x]]) = (ownArr h id ver).bind (apI id ver off len x) := by
  cases ho : ownArr h id ver with
  | none => simp [appendV, srcRows, rowsFit, ho]
  | some a =>
    simp only [appendV, srcRows, rowsFit, ho, rowsLen, apI, List.all_cons, List.all_nil, List.length_cons, List.length_nil, Option.bind_some]
    by_cases h1 : off + len ≤ a.size <;> by_cases h2 : a.k = 1 <;> by_cases h3 : len + 1 ≤ mostRows <;> simp [h1, h2, h3]
@[go_sem] theorem apI_ok {id ver len : Nat} {x : Int} {l : List Int} (h1 : len = l.length) (h2 : l.length + 1 ≤ 2147483648) : apI id ver 0 len x ⟨ver, 1, .inl (ints l)⟩ = some (.own id (ver + 1) 0 (len + 1), { ar := some (id, ⟨ver + 1, 1, .inl (ints (l ++ [x]))⟩) }) := by
  subst h1
  unfold apI
  rw [if_pos ⟨by simp [Arr.size, ints], rfl, h2⟩]
  have : List.take l.length (List.map (fun x => [PV.int IntKind.i64 x]) l) = List.map (fun x => [PV.int IntKind.i64 x]) l := List.take_of_length_le (by simp)
  simp [catRows, cutRows, ints, this]
@[go_sem] theorem app_tl (h : Heap) (x : Int) : appendV h 1 (.tl []) (.tl [[.int .i64 x]]) = some (.own h.ar.length 0 0 1, { push := [⟨0, 1, .inl (ints [x])⟩], base := h.ar.length }) := by
  simp [appendV, srcRows, rowsFit, rowsLen, mostRows, catRows, ints]

end Go.Pv

/-
  Loops over lists: folds and searches.
-/
namespace Go.Pv
variable {A : Nat → Option AFunc} {Pr : Prims}

def foldK {σ : Type} (S : Nat → σ → St) (I : Nat → σ → Prop) (k : Nat) (acc : σ) (Q : Ex → St → Prop) (_t : Tie (S, I, k, acc, Q) := .mk) : Ex → St → Prop
  | .normal, s => s = S k acc ∧ I k acc
  | .exit i, s => Q (.exit i) s
  | .ret, s => Q .ret s
@[congr] theorem foldK_congr {σ : Type} {S : Nat → σ → St} {I : Nat → σ → Prop} {k : Nat} {acc : σ} {Q : Ex → St → Prop} {e e' : Ex} {s s' : St} (he : e = e') (hs : s = s') : foldK S I k acc Q .mk e s = foldK S I k acc Q .mk e' s' := by rw [he, hs]
@[go_sem] theorem foldK_exit {σ : Type} (S : Nat → σ → St) (I : Nat → σ → Prop) (k : Nat) (acc : σ) (Q : Ex → St → Prop) (i : Nat) (s : St) : foldK S I k acc Q .mk (.exit i) s = Q (.exit i) s := rfl
@[go_sem] theorem foldK_ret {σ : Type} (S : Nat → σ → St) (I : Nat → σ → Prop) (k : Nat) (acc : σ) (Q : Ex → St → Prop) (s : St) : foldK S I k acc Q .mk .ret s = Q .ret s := rfl
theorem foldK.of {σ : Type} {S : Nat → σ → St} {I : Nat → σ → Prop} {k : Nat} {acc : σ} {Q : Ex → St → Prop} {s : St} (h : s = S k acc) (h2 : I k acc) : foldK S I k acc Q .mk .normal s := ⟨h, h2⟩

def exitK (Q : Ex → St → Prop) (_t : Tie Q := .mk) : Ex → St → Prop
  | .normal, _ => False
  | .exit i, s => Q (.exit i) s
  | .ret, s => Q .ret s
@[congr] theorem exitK_congr {Q : Ex → St → Prop} {e e' : Ex} {s s' : St} (he : e = e') (hs : s = s') : exitK Q .mk e s = exitK Q .mk e' s' := by rw [he, hs]
@[go_sem] theorem exitK_exit (Q : Ex → St → Prop) (i : Nat) (s : St) : exitK Q .mk (.exit i) s = Q (.exit i) s := rfl
@[go_sem] theorem exitK_ret (Q : Ex → St → Prop) (s : St) : exitK Q .mk .ret s = Q .ret s := rfl

theorem W.fold {σ α : Type} {a : AC} {s : St} {Q : Ex → St → Prop} (l : List α) (f : σ → α → σ) (x0 : σ) (S : Nat → σ → St) (I : Nat → σ → Prop) (hs : s = S 0 x0) (h0 : I 0 x0)
    (hr : ∀ k x acc, l[k]? = some x → k < l.length → acc = (l.take k).foldl f x0 → I k acc → W A Pr a (S k acc) (foldK S I (k + 1) (f acc x) Q))
    (he : ∀ acc, acc = l.foldl f x0 → I l.length acc → W A Pr a (S l.length acc) (exitK Q)) : W A Pr (.loop a) s Q := by
  refine W.upto l.length (fun k => S k ((l.take k).foldl f x0)) (fun k => I k ((l.take k).foldl f x0)) (by simpa using hs) (by simpa using h0) fun k hk hi => ?_
  rcases Nat.lt_or_ge k l.length with h | h
  · obtain ⟨x, hx⟩ : ∃ x, l[k]? = some x := ⟨l[k], by simp [h]⟩
    obtain ⟨ex, s', h1, h2⟩ := hr k x _ hx h rfl hi
    have ht : (l.take (k + 1)).foldl f x0 = f ((l.take k).foldl f x0) x := by rw [List.take_add_one, hx]; simp [List.foldl_append]
    refine ⟨ex, s', h1, ?_⟩
    cases ex with
    | normal => exact .of h (by rw [ht]; exact h2.1) (by rw [ht]; exact h2.2)
    | exit i => exact h2
    | ret => exact h2
  · obtain rfl : k = l.length := by omega
    rw [List.take_length] at hi ⊢
    obtain ⟨ex, s', h1, h2⟩ := he _ rfl hi
    refine ⟨ex, s', h1, ?_⟩
    cases ex with
    | normal => exact h2.elim
    | exit i => exact h2
    | ret => exact h2

def findK (S : Nat → St) (k : Nat) (p : Bool) (Q : Ex → St → Prop) (_t : Tie (S, k, p, Q) := .mk) : Ex → St → Prop
  | .normal, s => p = false ∧ s = S k
  | .exit i, s => Q (.exit i) s
  | .ret, s => Q .ret s
@[congr] theorem findK_congr {S : Nat → St} {k : Nat} {p : Bool} {Q : Ex → St → Prop} {e e' : Ex} {s s' : St} (he : e = e') (hs : s = s') : findK S k p Q .mk e s = findK S k p Q .mk e' s' := by rw [he, hs]
@[go_sem] theorem findK_exit (S : Nat → St) (k : Nat) (p : Bool) (Q : Ex → St → Prop) (i : Nat) (s : St) : findK S k p Q .mk (.exit i) s = Q (.exit i) s := rfl
@[go_sem] theorem findK_ret (S : Nat → St) (k : Nat) (p : Bool) (Q : Ex → St → Prop) (s : St) : findK S k p Q .mk .ret s = Q .ret s := rfl
theorem findK.of {S : Nat → St} {k : Nat} {p : Bool} {Q : Ex → St → Prop} {s : St} (h : p = false) (h2 : s = S k) : findK S k p Q .mk .normal s := ⟨h, h2⟩

structure Found {α : Type} (l : List α) (p : α → Bool) (k : Nat) (x : α) : Prop where
  any : l.any p = true
  all : l.all (fun y => !p y) = false
  find : l.find? p = some x
  idx : l.findIdx? p = some k
structure Nowhere {α : Type} (l : List α) (p : α → Bool) : Prop where
  any : l.any p = false
  all : l.all (fun y => !p y) = true
  find : l.find? p = none
  idx : l.findIdx? p = none

theorem found_of {α : Type} {l : List α} {p : α → Bool} {k : Nat} {x : α} (hb : ∀ j, j < k → ∀ y, l[j]? = some y → p y = false) (hx : l[k]? = some x) (hp : p x = true) : Found l p k x := by
  obtain ⟨hk, rfl⟩ := List.getElem?_eq_some_iff.1 hx
  have hi : l.findIdx? p = some k := by
    rw [List.findIdx?_eq_some_iff_getElem]
    exact ⟨hk, hp, fun j hj => by simpa using hb j hj _ (by rw [List.getElem?_eq_getElem (by omega)])⟩
  refine ⟨List.any_eq_true.2 ⟨_, List.getElem_mem hk, hp⟩, ?_, ?_, hi⟩
  · rw [List.all_eq_false]
    exact ⟨_, List.getElem_mem hk, by simp [hp]⟩
  · rw [List.find?_eq_some_iff_getElem]
    exact ⟨hp, k, hk, rfl, fun j hj => by simpa using hb j hj _ (by rw [List.getElem?_eq_getElem (by omega)])⟩

theorem nowhere_of {α : Type} {l : List α} {p : α → Bool} (hb : ∀ j, j < l.length → ∀ y, l[j]? = some y → p y = false) : Nowhere l p := by
  have hm : ∀ x ∈ l, p x = false := fun x hx => by
    obtain ⟨j, hj, rfl⟩ := List.getElem_of_mem hx
    exact hb j hj _ (by rw [List.getElem?_eq_getElem])
  exact ⟨by rw [List.any_eq_false]; intro x hx; simp [hm x hx], by rw [List.all_eq_true]; intro x hx; simp [hm x hx], by rw [List.find?_eq_none]; intro x hx; simp [hm x hx], by rw [List.findIdx?_eq_none_iff]; exact hm⟩

theorem W.find {α : Type} {a : AC} {s : St} {Q : Ex → St → Prop} (l : List α) (p : α → Bool) (S : Nat → St) (hs : s = S 0)
    (hr : ∀ k x, l[k]? = some x → k < l.length → (p x = true → Found l p k x) → W A Pr a (S k) (findK S (k + 1) (p x) Q))
    (he : Nowhere l p → W A Pr a (S l.length) (exitK Q)) : W A Pr (.loop a) s Q := by
  refine W.upto l.length S (fun k => ∀ j, j < k → ∀ y, l[j]? = some y → p y = false) hs (fun j hj => absurd hj (Nat.not_lt_zero _)) fun k hk hi => ?_
  rcases Nat.lt_or_ge k l.length with h | h
  · obtain ⟨x, hx⟩ : ∃ x, l[k]? = some x := ⟨l[k], by simp [h]⟩
    obtain ⟨ex, s', h1, h2⟩ := hr k x hx h (fun hp => found_of hi hx hp)
    refine ⟨ex, s', h1, ?_⟩
    cases ex with
    | normal =>
      refine .of h h2.2 fun j hj y hy => ?_
      rcases Nat.lt_or_ge j k with g | g
      · exact hi j g y hy
      · obtain rfl : j = k := by omega
        rw [hx] at hy
        cases hy
        exact h2.1
    | exit i => exact h2
    | ret => exact h2
  · obtain rfl : k = l.length := by omega
    obtain ⟨ex, s', h1, h2⟩ := he (nowhere_of hi)
    refine ⟨ex, s', h1, ?_⟩
    cases ex with
    | normal => exact h2.elim
    | exit i => exact h2
    | ret => exact h2

def againK (A : Nat → Option AFunc) (Pr : Prims) (a : AC) (Q : Ex → St → Prop) (_t : Tie (a, Q) := .mk) : Ex → St → Prop
  | .normal, s => W A Pr (.loop a) s Q
  | .exit i, s => Q (.exit i) s
  | .ret, s => Q .ret s
@[congr] theorem againK_congr {a : AC} {Q : Ex → St → Prop} {e e' : Ex} {s s' : St} (he : e = e') (hs : s = s') : againK A Pr a Q .mk e s = againK A Pr a Q .mk e' s' := by rw [he, hs]
@[go_sem] theorem againK_normal (a : AC) (Q : Ex → St → Prop) (s : St) : againK A Pr a Q .mk .normal s = W A Pr (.loop a) s Q := rfl
@[go_sem] theorem againK_exit (a : AC) (Q : Ex → St → Prop) (i : Nat) (s : St) : againK A Pr a Q .mk (.exit i) s = Q (.exit i) s := rfl
@[go_sem] theorem againK_ret (a : AC) (Q : Ex → St → Prop) (s : St) : againK A Pr a Q .mk .ret s = Q .ret s := rfl
end Go.Pv

/-
  Labels, as the program finds them.
-/
namespace Go.Pv

inductive Two where
  | e
  | a (x : Int) (l : List Int)
  | b (x : Int) (l : List Int)
  | ab (x : Int) (l : List Int) (y : Int) (r : List Int)
  | ba (x : Int) (l : List Int) (y : Int) (r : List Int)

def ao (x : Int) (l : List Int) : Arr := ⟨l.length, 1, .inl (ints (x :: l))⟩
def Two.ar : Two → List Arr
  | .e => []
  | .a x l | .b x l => [ao x l]
  | .ab x l y r => [ao x l, ao y r]
  | .ba x l y r => [ao y r, ao x l]
def Two.l0 : Two → List Int
  | .e | .b _ _ => []
  | .a x l | .ab x l _ _ | .ba x l _ _ => x :: l
def Two.l1 : Two → List Int
  | .e | .a _ _ => []
  | .b x l | .ab _ _ x l | .ba _ _ x l => x :: l
def Two.put (s : Bool) (z : Int) : Two → Two
  | .e => if s then .b z [] else .a z []
  | .a x l => if s then .ab x l z [] else .a x (l ++ [z])
  | .b x l => if s then .b x (l ++ [z]) else .ba z [] x l
  | .ab x l y r => if s then .ab x l y (r ++ [z]) else .ab x (l ++ [z]) y r
  | .ba x l y r => if s then .ba x l y (r ++ [z]) else .ba x (l ++ [z]) y r

def Two.len (t : Two) : Nat := t.l0.length + t.l1.length
def sortI1 (id ver off len : Nat) (a : Arr) : Option (V × Tn) :=
  if len = 0 then some (.tup [], { ra := some id }) else (match a.body with
        | .inl rows => if a.k = 1 ∧ off + len ≤ rows.length ∧ len ≤ mostRows then (match mapO intDec ((rows.drop off).take len) with
          | some l => some (.tup [], { ar := some (id, ⟨ver, 1, .inl (rows.take off ++ (isort ltI l).map (fun x => [.int .i64 x]) ++ rows.drop (off + len))⟩) })
          | none => none) else none
        | .inr _ => none)
@[go_sem] theorem sortIP_tl (h : Heap) : sortIP [.tl []] h = some (.tup [], {}) := rfl
@[go_sem] theorem sortIP_own (h : Heap) (id ver off len : Nat) : sortIP [.own id ver off len] h = (ownArr h id ver).bind (sortI1 id ver off len) := by
  simp only [sortIP]
  cases ownArr h id ver <;> rfl
theorem ints_dec (l : List Int) : mapO intDec (ints l) = some l := by
  induction l with
  | nil => rfl
  | cons x l ih =>
    show mapO intDec ([.int .i64 x] :: ints l) = _
    simp only [mapO, intDec, ih]
@[go_sem] theorem sortI1_ints {id ver n : Nat} {l : List Int} (hn : n = l.length) (h0 : n ≠ 0) (hm : n ≤ 2147483648) : sortI1 id ver 0 n ⟨ver, 1, .inl (ints l)⟩ = some (.tup [], { ar := some (id, ⟨ver, 1, .inl (ints (isort ltI l))⟩) }) := by
  subst hn
  have e1 : (ints l).length = l.length := ints_length l
  simp [sortI1, h0, e1, mostRows, hm, ints_dec, List.take_of_length_le (Nat.le_of_eq e1), List.drop_eq_nil_of_le (Nat.le_of_eq e1)]
  rfl
@[go_sem] theorem lendAll_tl (h : Heap) : lendAll h true [.tl []] = some ([.lst 0 []], none) := rfl
def lendA (id ver len : Nat) (a : Arr) : Option (List PV × Option (Nat × Arr)) :=
  if a.size = len ∧ a.k ≠ 0 then (match a.body with
      | .inl rows => some ([.fr a.k rows], some (id, ⟨ver + 1, 0, .inl []⟩))
      | .inr _ => none) else none
@[go_sem] theorem lendAll_own (h : Heap) (id ver len : Nat) : lendAll h true [.own id ver 0 len] = (ownArr h id ver).bind (lendA id ver len) := by
  simp only [lendAll, lendTake]
  cases ownArr h id ver with
  | none => rfl
  | some a =>
    simp only [Option.bind_some, if_true, lendA]
    by_cases hc : a.size = len ∧ a.k ≠ 0
    · cases hb : a.body <;> simp [hc, mapO]
    · simp [hc]
@[go_sem] theorem lendA_ints {id ver v len : Nat} {l : List Int} (hn : len = l.length) : lendA id ver len ⟨v, 1, .inl (ints l)⟩ = some ([.fr 1 (ints l)], some (id, ⟨ver + 1, 0, .inl []⟩)) := by
  subst hn
  simp [lendA, Arr.size, ints_length]

@[go_sem] theorem isort_len (l : List Int) : (isort ltI l).length = l.length := (isort_perm ltI l).length_eq

end Go.Pv

/-
  Plain laws: labels of automata.
-/
namespace Go.Pv

end Go.Pv

/-
  Plain laws: valid automata, their duals, what can be reached, trimmed automata.
-/
namespace Go.Pv

structure Auto.Good (a : Auto) : Prop where
  st : 0 ≤ a.start ∧ a.start < a.states
  mx : a.states ≤ 12
  len : a.edges.length ≤ 100
  fit : ∀ e ∈ a.edges, e.fits a.states = true
  asc : a.edges.Pairwise (fun x y => Edge.lt x y = true)

theorem Edge.lt_tr (x y z : Edge) (h1 : Edge.lt x y = true) (h2 : Edge.lt y z = true) : Edge.lt x z = true := by
  unfold Edge.lt at *
  by_cases a1 : x.fr = y.fr <;> by_cases a2 : y.fr = z.fr <;> by_cases b1 : x.send = y.send <;> by_cases b2 : y.send = z.send <;> simp_all <;> (try omega)
  all_goals (try (have : ¬ x.fr = z.fr := by omega); simp_all; omega)
theorem Edge.apt_iff {x y : Edge} : apt Edge.lt x y ↔ ¬ (x.fr = y.fr ∧ x.send = y.send ∧ x.label = y.label) := by
  unfold apt Edge.lt
  by_cases a1 : x.fr = y.fr
  · cases h1 : x.send <;> cases h2 : y.send <;> simp [a1] <;> omega
  · have : ¬ y.fr = x.fr := fun h => a1 h.symm
    simp [a1, this]
    omega

theorem chk_asc {n : Int} : ∀ {p : Option Edge} {l : List Edge}, chk n p l = true → l.Pairwise (fun x y => Edge.lt x y = true) ∧ ∀ q, p = some q → ∀ e ∈ l, Edge.lt q e = true
  | _, [], _ => ⟨List.Pairwise.nil, fun _ _ e he => absurd he (by simp)⟩
  | p, x :: r, h => by
    simp only [chk, Bool.and_eq_true] at h
    obtain ⟨h1, h2⟩ := chk_asc h.2
    refine ⟨List.pairwise_cons.2 ⟨h2 x rfl, h1⟩, fun q hq e he => ?_⟩
    subst hq
    have hx : Edge.lt q x = true := h.1.2
    rcases List.mem_cons.1 he with rfl | he
    · exact hx
    · exact Edge.lt_tr _ _ _ hx (h2 x rfl e he)
theorem chk_of {n : Int} : ∀ {p : Option Edge} {l : List Edge}, l.Pairwise (fun x y => Edge.lt x y = true) → (∀ e ∈ l, e.fits n = true) → (∀ q, p = some q → ∀ e ∈ l, Edge.lt q e = true) → chk n p l = true
  | _, [], _, _, _ => rfl
  | p, x :: r, h1, h2, h3 => by
    obtain ⟨g1, g2⟩ := List.pairwise_cons.1 h1
    simp only [chk, Bool.and_eq_true]
    refine ⟨⟨h2 x (by simp), ?_⟩, chk_of g2 (fun e he => h2 e (by simp [he])) fun q hq e he => ?_⟩
    · cases p with
      | none => rfl
      | some q => exact h3 q rfl x (by simp)
    · cases hq
      exact g1 e he
theorem Auto.good_iff {a : Auto} : a.err = 0 ↔ a.Good := by
  unfold Auto.err
  constructor
  · intro h
    split at h
    · cases h
    · split at h
      · split at h
        · rename_i h1 h2 h3
          exact ⟨h2, by omega, by omega, chk_fits h3, (chk_asc h3).1⟩
        · cases h
      · cases h
  · intro h
    have := h.mx; have := h.len
    rw [if_neg (by omega), if_pos h.st, if_pos (chk_of h.asc h.fit (fun q hq => by cases hq))]

theorem nextE_some {s : Int} {d : Bool} {x t : Int} : ∀ {es : List Edge}, es.Pairwise (apt Edge.lt) → (nextE s d x es = some t ↔ ⟨s, d, x, t⟩ ∈ es)
  | [], _ => by simp [nextE]
  | e :: r, h => by
    obtain ⟨h1, h2⟩ := List.pairwise_cons.1 h
    unfold nextE
    split
    · rename_i hc
      constructor
      · intro h
        cases h
        obtain ⟨rfl, rfl, rfl⟩ := hc
        exact List.mem_cons_self ..
      · intro hm
        rcases List.mem_cons.1 hm with hm | hm
        · rw [← hm]
        · exact (Edge.apt_iff.1 (h1 _ hm) hc).elim
    · rename_i hc
      rw [nextE_some h2, List.mem_cons]
      refine ⟨.inr, fun h => h.elim (fun h => ?_) id⟩
      rw [← h] at hc
      exact (hc ⟨rfl, rfl, rfl⟩).elim
theorem Auto.Good.apt {a : Auto} (h : a.Good) : a.edges.Pairwise (apt Edge.lt) := h.asc.imp .inl

def outs (es : List Edge) (v : Int) : List Int := (es.filter fun e => e.fr == v).map (·.to)
def Auto.from (a : Auto) (s : Int) : List Int := bfs (outs a.edges) a.states.toNat 0 [s]
def Auto.order (a : Auto) : List Int := a.from a.start
def Auto.inr (a : Auto) (v : Int) : Prop := 0 ≤ v ∧ v < a.states
theorem Auto.bound {a : Auto} : ∀ o : List Int, o.Nodup → (∀ v ∈ o, a.inr v) → o.length ≤ a.states.toNat := fun o hd ho => nodup_bound hd fun x hx => by
  have := ho x hx
  unfold Auto.inr at this
  omega
def Edge.ren (o : List Int) (e : Edge) : Edge := ⟨atL e.fr o, e.send, e.label, atL e.to o⟩
def kept (o : List Int) (es : List Edge) : List Edge := (es.filter fun e => decide (e.fr ∈ o)).map (Edge.ren o)
def Auto.proper (a : Auto) : Bool := a.order.all fun v => (a.from v).any fun w => isEnd w a.edges
end Go.Pv

/-
  Contracts: numbers of lists of actions.
-/
namespace Go.Pv

end Go.Pv

/-
  The law of the errors of automata.
-/
namespace Go.Pv

end Go.Pv

/-
  Lists that begin as a literal and grow by appending; rows of arrays of the call's own.
-/
namespace Go.Pv

def glV (n b : Nat) (rows : List (List PV)) : V := if rows.length ≤ b then .tl rows else .own n (rows.length - b - 1) 0 rows.length
def glA (k b : Nat) (rows : List (List PV)) : List Arr := if rows.length ≤ b then [] else [⟨rows.length - b - 1, k, .inl rows⟩]
theorem app_tlr (h : Heap) (k : Nat) (rows : List (List PV)) (r : List PV) (hr : r.length = k) (hk : ∀ x ∈ rows, x.length = k) (hm : rows.length + 1 ≤ 2147483648) : appendV h k (.tl rows) (.tl [r]) = some (.own h.ar.length 0 0 (rows.length + 1), { push := [⟨0, k, .inl (rows ++ [r])⟩], base := h.ar.length }) := by
  have : (rows.all fun x => x.length == k) = true := by simpa using hk
  simp [appendV, srcRows, rowsFit, rowsLen, mostRows, catRows, hr, this, hm]
@[go_sem] theorem app_tli (h : Heap) (l : List Int) (x : Int) (hm : l.length + 1 ≤ 2147483648) : appendV h 1 (.tl (ints l)) (.tl [[.int .i64 x]]) = some (.own h.ar.length 0 0 (l.length + 1), { push := [⟨0, 1, .inl (ints (l ++ [x]))⟩], base := h.ar.length }) := by
  rw [app_tlr h 1 (ints l) [.int .i64 x] rfl (by simp [ints]) (by rw [ints_length]; exact hm), ints_length, ints_snoc]

@[go_sem] theorem lenV_gl (h : Heap) (n b : Nat) (rows : List (List PV)) : lenV h 0 (glV n b rows) = some (rows.length, {}) := by unfold glV; split <;> rfl
@[go_sem] theorem cells_gl (n b : Nat) (rows : List (List PV)) : V.cells (glV n b rows) = [glV n b rows] := by unfold glV; split <;> rfl
@[go_sem] theorem calm_gl (n b : Nat) (rows : List (List PV)) : V.calm (glV n b rows) = true := by unfold glV; split <;> rfl
@[go_sem] theorem sized_gl (n b : Nat) (rows : List (List PV)) : V.sized (glV n b rows) = true := by unfold glV; split <;> rfl
@[go_sem] theorem scrub_gl (kb : List Nat) (n b : Nat) (rows : List (List PV)) : scrub kb (glV n b rows) = glV n b rows := by unfold glV; split <;> rfl
@[go_sem] theorem okc_gl (kb : List Nat) (n b : Nat) (rows : List (List PV)) : okc kb (glV n b rows) = true := by unfold glV; split <;> rfl
@[go_sem] theorem keep_gl (h : Heap) (n b : Nat) (rows : List (List PV)) : keep h false (glV n b rows) = keepc h 4 (glV n b rows) := by unfold glV; split <;> rfl
@[go_sem] theorem lend_gl (h : Heap) (n b : Nat) (rows : List (List PV)) : lend h (glV n b rows) = lendc h 4 (glV n b rows) := by unfold glV; split <;> rfl
def glG (b : Nat) (rows : List (List PV)) : Nat := if rows.length ≤ b then 0 else 1
theorem keepc_gl (bx : List (Nat × List V)) (mp : List (List (PV × PV))) (pre : List Arr) (k b d : Nat) (rows : List (List PV)) : keepc ⟨bx, pre ++ glA k b rows, mp⟩ (d + 1) (glV pre.length b rows) = some (.lst 0 rows) := by
  unfold glV glA
  split
  · rfl
  · simp [keepc_own, ownArr, keepRows, cutRows]
theorem lendc_gl (bx : List (Nat × List V)) (mp : List (List (PV × PV))) (pre : List Arr) (k b d : Nat) (rows : List (List PV)) : lendc ⟨bx, pre ++ glA k b rows, mp⟩ (d + 1) (glV pre.length b rows) = some (.lst (glG b rows) rows) := by
  unfold glV glA glG
  split
  · rfl
  · simp [lendc, ownArr, cutRows]
@[go_sem] theorem keepc_gl0 (bx : List (Nat × List V)) (mp : List (List (PV × PV))) (k b : Nat) (rows : List (List PV)) : keepc ⟨bx, glA k b rows, mp⟩ 4 (glV 0 b rows) = some (.lst 0 rows) := keepc_gl bx mp [] k b 3 rows
@[go_sem] theorem keepc_gl1 (bx : List (Nat × List V)) (mp : List (List (PV × PV))) (a : Arr) (k b : Nat) (rows : List (List PV)) : keepc ⟨bx, a :: glA k b rows, mp⟩ 4 (glV 1 b rows) = some (.lst 0 rows) := keepc_gl bx mp [a] k b 3 rows
@[go_sem] theorem lendc_gl0 (bx : List (Nat × List V)) (mp : List (List (PV × PV))) (k b : Nat) (rows : List (List PV)) : lendc ⟨bx, glA k b rows, mp⟩ 4 (glV 0 b rows) = some (.lst (glG b rows) rows) := lendc_gl bx mp [] k b 3 rows
@[go_sem] theorem lendc_gl1 (bx : List (Nat × List V)) (mp : List (List (PV × PV))) (a : Arr) (k b : Nat) (rows : List (List PV)) : lendc ⟨bx, a :: glA k b rows, mp⟩ 4 (glV 1 b rows) = some (.lst (glG b rows) rows) := lendc_gl bx mp [a] k b 3 rows

attribute [go_sem] Int.lt_irrefl

end Go.Pv

/-
  Lists that are equal; beginnings of lists.
-/
namespace Go.Pv

theorem take_step {α : Type} {a b : List α} {k : Nat} {x y : α} (hx : a[k]? = some x) (hy : b[k]? = some y) (h : a.take k = b.take k) (e : x = y) : a.take (k + 1) = b.take (k + 1) := by
  rw [List.take_add_one, List.take_add_one, hx, hy, h, e]
theorem takes_all {α : Type} {a b : List α} {k : Nat} (ha : a.length ≤ k) (hb : b.length ≤ k) (h : a.take k = b.take k) : a = b := by
  rwa [List.take_of_length_le ha, List.take_of_length_le hb] at h

end Go.Pv

/-
  Edges put in order by the reference.
-/
namespace Go.Pv

@[go_sem] theorem edgs_snocc (l : List Edge) (f : Int) (d : Bool) (x t : Int) : edgs l ++ [[.int .i64 f, .bool d, .int .i64 x, .int .i64 t]] = edgs (l ++ [⟨f, d, x, t⟩]) := by simp [edgs, Edge.c]
@[go_sem] theorem edgs_store {id row ver : Nat} {f x t : Int} {d : Bool} {l : List Edge} (h1 : row < l.length) : storeRow id row 0 [.pv (.int .i64 f), .pv (.bool d), .pv (.int .i64 x), .pv (.int .i64 t)] ⟨ver, 4, .inl (edgs l)⟩ = some { ar := some (id, ⟨ver, 4, .inl (edgs (l.set row ⟨f, d, x, t⟩))⟩) } := by
  rw [storeRow_inl (l := [.int .i64 f, .bool d, .int .i64 x, .int .i64 t]) (by rw [edgs_length]; exact h1) rfl (by simp) rfl]
  have : over row 0 [.int .i64 f, .bool d, .int .i64 x, .int .i64 t] (edgs l) = edgs (l.set row ⟨f, d, x, t⟩) := by
    unfold over edgs
    rw [List.map_set]
    congr 1
    obtain ⟨e, he⟩ : ∃ e, l[row]? = some e := ⟨l[row], by simp [h1]⟩
    simp [he, Edge.c]
  rw [this]

end Go.Pv

/-
  Duals.
-/
namespace Go.Pv

@[go_sem] theorem edgs_store1 {id row ver : Nat} {d : Bool} {l : List Edge} {e : Edge} (h : l[row]? = some e) : storeRow id row 1 [.pv (.bool d)] ⟨ver, 4, .inl (edgs l)⟩ = some { ar := some (id, ⟨ver, 4, .inl (edgs (l.set row ⟨e.fr, d, e.label, e.to⟩))⟩) } := by
  have hk := (List.getElem?_eq_some_iff.1 h).1
  rw [storeRow_inl (l := [.bool d]) (by rw [edgs_length]; exact hk) rfl (by simp) rfl]
  have : over row 1 [.bool d] (edgs l) = edgs (l.set row ⟨e.fr, d, e.label, e.to⟩) := by
    unfold over edgs
    rw [List.map_set]
    congr 1
    simp [h, Edge.c]
  rw [this]
@[go_sem] theorem sortP_tl (k g : Nat) (f : List (List PV) → Option (List (List PV))) (h : Heap) : sortP k f g [.tl [], .func g []] h = some (.tup [], {}) := by simp [sortP]
end Go.Pv

/-
  Automata that are equal.
-/
namespace Go.Pv

@[go_sem] theorem r39e (t : Nat) (n s0 : Int) (l : List Edge) (s : Int) (d : Bool) (x : Int) (hl : l.length ≤ 2 ^ 63 - 1) :
    res A PrA 39 [.agg [.int .i64 n, .int .i64 s0, .lst t (edgs l)], .int .i64 s, .bool d, .int .i64 x] = some [.int .i64 ((nextE s d x l).getD 0), .bool (nextE s d x l).isSome] := r39 t ⟨n, s0, l⟩ s d x hl
@[go_sem] theorem r45e (t : Nat) (n s0 : Int) (l : List Edge) (s : Int) (d : Bool) (x : Int) (hl : l.length ≤ 2 ^ 63 - 1) :
    res A PrA 45 [.agg [.int .i64 n, .int .i64 s0, .lst t (edgs l)], .int .i64 s, .bool d, .int .i64 x] = some [.int .i64 ((nextE s d x l).getD 0), .bool (nextE s d x l).isSome] := r45 t ⟨n, s0, l⟩ s d x hl
@[go_sem] theorem r26e (t : Nat) (n s : Int) (l : List Edge) (hl : l.length ≤ 2 ^ 63 - 1) : res A PrA 26 [.agg [.int .i64 n, .int .i64 s, .lst t (edgs l)]] = some [.int .i64 (⟨n, s, l⟩ : Auto).err] := r26 t ⟨n, s, l⟩ hl
@[go_sem] theorem r29e (t : Nat) (n s : Int) (l : List Edge) (hl : l.length ≤ 2 ^ 63 - 1) : res A PrA 29 [.agg [.int .i64 n, .int .i64 s, .lst t (edgs l)]] = some [.int .i64 (⟨n, s, l⟩ : Auto).err] := r29 t ⟨n, s, l⟩ hl
end Go.Pv

/-
  Plain laws: automata of drafts.
-/
namespace Go.Pv

structure Arc where
  fr : Int
  act : Int
  to : Int
  deriving DecidableEq, Inhabited
structure Draft where
  n : Int
  arcs : List Arc
  deriving DecidableEq, Inhabited
def Arc.c (x : Arc) : List PV := [.int .u8 x.fr, .int .u8 x.act, .int .u8 x.to]
def Arc.ok (x : Arc) : Prop := (0 ≤ x.fr ∧ x.fr ≤ 255) ∧ (0 ≤ x.act ∧ x.act ≤ 255) ∧ (0 ≤ x.to ∧ x.to ≤ 255)
def Draft.ok (d : Draft) : Prop := (0 ≤ d.n ∧ d.n ≤ 255) ∧ d.arcs.length ≤ 2 ^ 63 - 1 ∧ ∀ x ∈ d.arcs, x.ok
def Arc.edge (st : Int) (x : Arc) : Edge := ⟨x.fr % st, decide (x.act % 2 = 1), 1 + x.act / 2 % 3, x.to % st⟩
def addE (es : List Edge) (e : Edge) : List Edge := if (nextE e.fr e.send e.label es).isSome = true then es else es ++ [e]
def Draft.raw (d : Draft) : List Edge := (d.arcs.take 12).foldl (fun es x => addE es (x.edge (1 + d.n % 4))) []
def Draft.auto (d : Draft) : Auto := ⟨1 + d.n % 4, 0, sortB Edge.lt d.raw⟩

theorem nextE_none {s : Int} {d : Bool} {x : Int} : ∀ {es : List Edge}, (nextE s d x es).isSome = false ↔ ∀ e ∈ es, ¬ (e.fr = s ∧ e.send = d ∧ e.label = x)
  | [] => by simp [nextE]
  | e :: r => by
    unfold nextE
    split
    · rename_i h
      simp [h]
    · rename_i h
      rw [nextE_none]
      simp only [List.mem_cons]
      exact ⟨fun hh y hy => hy.elim (fun e => e ▸ h) (hh y), fun hh y hy => hh y (.inr hy)⟩
theorem addE_apt {es : List Edge} {e : Edge} (h : es.Pairwise (apt Edge.lt)) : (addE es e).Pairwise (apt Edge.lt) := by
  unfold addE
  split
  · exact h
  · rename_i hn
    have hn' := nextE_none.1 (by simpa using hn)
    rw [List.pairwise_append]
    refine ⟨h, List.pairwise_singleton _ _, fun a ha b hb => ?_⟩
    rw [List.mem_singleton] at hb
    subst hb
    rw [Edge.apt_iff]
    exact hn' a ha
theorem addE_len (es : List Edge) (e : Edge) : (addE es e).length ≤ es.length + 1 := by
  unfold addE
  split <;> simp
theorem addE_mem {es : List Edge} {e x : Edge} (h : x ∈ addE es e) : x ∈ es ∨ x = e := by
  unfold addE at h
  split at h
  · exact .inl h
  · simpa using h
theorem raw_spec {st : Int} (hs : 1 ≤ st ∧ st ≤ 4) : ∀ (l : List Arc) (es : List Edge), (∀ x ∈ l, x.ok) → es.Pairwise (apt Edge.lt) → (∀ e ∈ es, e.fits st = true) →
    (l.foldl (fun es x => addE es (x.edge st)) es).Pairwise (apt Edge.lt) ∧ (∀ e ∈ l.foldl (fun es x => addE es (x.edge st)) es, e.fits st = true) ∧ (l.foldl (fun es x => addE es (x.edge st)) es).length ≤ es.length + l.length
  | [], es, _, h1, h2 => ⟨h1, h2, by simp⟩
  | x :: l, es, hx, h1, h2 => by
    have hxo := hx x (by simp)
    have hf : (x.edge st).fits st = true := by
      rw [fits_iff]
      have a1 := Int.emod_nonneg x.fr (b := st) (by omega)
      have a2 := Int.emod_lt_of_pos x.fr (b := st) (by omega)
      have a3 := Int.emod_nonneg x.to (b := st) (by omega)
      have a4 := Int.emod_lt_of_pos x.to (b := st) (by omega)
      simp only [Arc.edge]
      omega
    obtain ⟨g1, g2, g3⟩ := raw_spec hs l (addE es (x.edge st)) (fun y hy => hx y (by simp [hy])) (addE_apt h1) fun e he => by
      rcases addE_mem he with h | h
      · exact h2 e h
      · exact h ▸ hf
    have := addE_len es (x.edge st)
    exact ⟨g1, g2, by simp only [List.foldl_cons, List.length_cons]; omega⟩
theorem Draft.st {d : Draft} : 1 ≤ 1 + d.n % 4 ∧ 1 + d.n % 4 ≤ 4 := by omega
theorem Draft.raw_ok {d : Draft} (h : d.ok) : d.raw.Pairwise (apt Edge.lt) ∧ (∀ e ∈ d.raw, e.fits (1 + d.n % 4) = true) ∧ d.raw.length ≤ 12 := by
  obtain ⟨h1, h2, h3⟩ := raw_spec d.st (d.arcs.take 12) [] (fun x hx => h.2.2 x (List.mem_of_mem_take hx)) List.Pairwise.nil (fun e he => absurd he (by simp))
  refine ⟨h1, h2, ?_⟩
  have : (d.arcs.take 12).length ≤ 12 := by simp; omega
  simp only [List.length_nil] at h3
  unfold Draft.raw
  omega
theorem Draft.len {d : Draft} (h : d.ok) : d.auto.edges.length ≤ 12 := by
  have := (sortB_perm Edge.lt d.raw).length_eq
  have := d.raw_ok h
  show (sortB Edge.lt d.raw).length ≤ 12
  omega
end Go.Pv

/-
  Automata of drafts.
-/
namespace Go.Pv

@[go_sem] theorem binV_rem_pos {k : IntKind} {a b : Int} (ha : 0 ≤ a) (hb : 0 < b) : binV .rem (.pv (.int k a)) (.pv (.int k b)) = some (.pv (.int k (a % b))) := by
  rw [binV_rem (by omega), Int.tmod_eq_emod_of_nonneg ha]
@[go_sem] theorem binV_quo_u8 {a b : Int} (ha : 0 ≤ a) (hb : 0 < b) (h2 : a ≤ 255) : binV .quo (.pv (.int .u8 a)) (.pv (.int .u8 b)) = some (.pv (.int .u8 (a / b))) := by
  rw [binV_quo (by omega), Int.tdiv_eq_ediv_of_nonneg ha, wrap_u8]
  · exact Int.ediv_nonneg ha (by omega)
  · exact Int.le_trans (Int.ediv_le_self b ha) h2
attribute [go_sem] wrap_u8

end Go.Pv

/-
  What can be reached, as the reference finds it.
-/
namespace Go.Pv

end Go.Pv

/-
  What can be reached, as the program finds it.
-/
namespace Go.Pv

end Go.Pv

/-
  Trimmed automata, runs, proper automata (of the reference).
-/
namespace Go.Pv

def srtT (l : List Edge) : Tn := if l.length = 0 then {} else { ar := some (0, ⟨l.length - 1, 4, .inl (edgs (isort Edge.lt l))⟩) }
@[go_sem] theorem srtT_apply (bx : List (Nat × List V)) (mp : List (List (PV × PV))) (l : List Edge) : (srtT l).apply ⟨bx, grA 4 (edgs l), mp⟩ = ⟨bx, grA 4 (edgs (isort Edge.lt l)), mp⟩ := by
  have hp := (isort_perm Edge.lt l).length_eq
  rcases Nat.eq_zero_or_pos l.length with h | h
  · have : l = [] := List.eq_nil_of_length_eq_zero h
    subst this
    simp [srtT, edgs, isort, Tn.apply, grA]
  · obtain ⟨m, hm'⟩ : ∃ m, (edgs l).length = m + 1 := ⟨l.length - 1, by rw [edgs_length]; omega⟩
    have hm2 : (edgs (isort Edge.lt l)).length = m + 1 := by rw [edgs_length, hp, ← edgs_length]; exact hm'
    rw [grA_own hm', grA_own hm2]
    rw [edgs_length] at hm'
    simp [srtT, Tn.apply, hm']
end Go.Pv

/-
  Runs.
-/
namespace Go.Pv

def actC (x : Bool × Int) : List PV := [.bool x.1, .int .i64 x.2]
@[go_sem] theorem actC_eq (x : Bool × Int) : actC x = [.bool x.1, .int .i64 x.2] := rfl
def acts (l : List (Bool × Int)) : List (List PV) := l.map actC
@[go_sem] theorem acts_length (l : List (Bool × Int)) : (acts l).length = l.length := by simp [acts]
@[go_sem] theorem acts_get (l : List (Bool × Int)) (i : Nat) : (acts l)[i]? = l[i]?.map actC := by simp [acts]
end Go.Pv

/-
  Searches of the library; the errors of graphs.
-/
namespace Go.Pv

def idxP {α : Type} (p : α → Bool) (l : List α) : Int := match l.findIdx? p with
  | some k => k
  | none => -1
theorem idxP_pos {α : Type} {p : α → Bool} {l : List α} : decide (0 ≤ idxP p l) = l.any p := by
  unfold idxP
  cases h : l.findIdx? p with
  | none =>
    rw [List.findIdx?_eq_none_iff] at h
    have : l.any p = false := by rw [List.any_eq_false]; intro x hx; simp [h x hx]
    simp [this]
  | some k =>
    rw [List.findIdx?_eq_some_iff_getElem] at h
    obtain ⟨hk, hp, _⟩ := h
    have : l.any p = true := List.any_eq_true.2 ⟨_, List.getElem_mem hk, hp⟩
    simp [this]
theorem Found.idxP {α : Type} {l : List α} {p : α → Bool} {k : Nat} {x : α} (h : Found l p k x) : idxP p l = k := by
  unfold Pv.idxP
  rw [h.idx]
theorem Nowhere.idxP {α : Type} {l : List α} {p : α → Bool} (h : Nowhere l p) : idxP p l = -1 := by
  unfold Pv.idxP
  rw [h.idx]

def prs (l : List (Int × Int)) : List (List PV) := l.map fun x => [.int .i64 x.1, .int .i64 x.2]
@[go_sem] theorem prs_length (l : List (Int × Int)) : (prs l).length = l.length := by simp [prs]
@[go_sem] theorem prs_nil : prs [] = [] := rfl
@[go_sem] theorem prs_get (l : List (Int × Int)) (i : Nat) : (prs l)[i]? = l[i]?.map fun x => [.int .i64 x.1, .int .i64 x.2] := by simp [prs]
@[go_sem] theorem prs_snoc (l : List (Int × Int)) (a b : Int) : prs l ++ [[.int .i64 a, .int .i64 b]] = prs (l ++ [(a, b)]) := by simp [prs]
end Go.Pv

/-
  Parts of graphs: repeated numbers, reversed edges, vertices with a level.
-/
namespace Go.Pv

@[go_sem] theorem prs_made (n : Nat) (x y : Int) : sameRows n [.pv (.int .i64 x), .pv (.int .i64 y)] = .inl (prs (List.replicate n (x, y))) := by
  simp [sameRows, mapO, V.purec, PV.perm, prs]
@[go_sem] theorem prs_store {id row ver : Nat} {x y : Int} {l : List (Int × Int)} (h1 : row < l.length) : storeRow id row 0 [.pv (.int .i64 x), .pv (.int .i64 y)] ⟨ver, 2, .inl (prs l)⟩ = some { ar := some (id, ⟨ver, 2, .inl (prs (l.set row (x, y)))⟩) } := by
  rw [storeRow_inl (l := [.int .i64 x, .int .i64 y]) (by rw [prs_length]; exact h1) rfl (by simp) rfl]
  have : over row 0 [.int .i64 x, .int .i64 y] (prs l) = prs (l.set row (x, y)) := by
    unfold over prs
    rw [List.map_set]
    congr 1
    obtain ⟨e, he⟩ : ∃ e, l[row]? = some e := ⟨l[row], by simp [h1]⟩
    simp [he]
  rw [this]
@[go_sem] theorem prs_take (l : List (Int × Int)) (n : Nat) : (prs l).take n = prs (l.take n) := by simp [prs]

def partTo {α β : Type} (f : α → β) (y : β) (l : List α) (k : Nat) : List β := (l.take k).map f ++ List.replicate (l.length - k) y
end Go.Pv

/-
  Lists of lists that a call owns.
-/
namespace Go.Pv

def OwnL (ars : List Arr) (x : V) (l : List Int) : Prop :=
  ((x = .tl [] ∨ x = .pv (.lst 0 [])) ∧ l = []) ∨ ∃ id ver, x = .own (id + 1) ver 0 l.length ∧ l ≠ [] ∧ ars[id]? = some ⟨ver, 1, .inl (ints l)⟩
structure Lists (n : Nat) (s : List (List Int)) (xs : List V) (ars : List Arr) : Prop where
  xl : xs.length = n
  sl : s.length = n
  own : ∀ (v : Nat) (x : V) (l : List Int), xs[v]? = some x → s[v]? = some l → OwnL ars x l
  dis : ∀ (v w : Nat) (x y : V) (i : Nat), xs[v]? = some x → xs[w]? = some y → ownId x = some i → ownId y = some i → v = w
def rowsV (xs : List V) : List (List V) := xs.map fun x => [x]
@[go_sem] theorem rowsV_len (xs : List V) : (rowsV xs).length = xs.length := by simp [rowsV]
@[go_sem] theorem rowsV_get (xs : List V) (i : Nat) : (rowsV xs)[i]? = xs[i]?.map fun x => [x] := by simp [rowsV]
theorem rowsV_set (xs : List V) (i : Nat) (x : V) : (rowsV xs).set i [x] = rowsV (xs.set i x) := by simp [rowsV, List.map_set]
theorem rowsV_store {id row ver : Nat} {xs : List V} {y : V} (h1 : row < xs.length) (hc : y.calm = true) : storeRow id row 0 [y] ⟨ver, 1, .inr (rowsV xs)⟩ = some { ar := some (id, ⟨ver, 1, .inr (rowsV (xs.set row y))⟩) } := by
  have h2 : row < (⟨ver, 1, .inr (rowsV xs)⟩ : Arr).size := by simp [Arr.size, rowsV, h1]
  obtain ⟨z, hz⟩ : ∃ z, xs[row]? = some z := ⟨xs[row], by simp [h1]⟩
  have h3 : (rowsV xs).getD row [] = [z] := by simp [rowsV, hz]
  simp [storeRow, h2, hc, setBody, ← rowsV_set]
  simp [rowsV, hz]
theorem rowsV_made (n : Nat) : sameRows n [.tl []] = .inr (rowsV (List.replicate n (.tl []))) := by
  simp [sameRows, mapO, V.purec, rowsV]
attribute [go_sem] rowsV_made

theorem rep_get {α : Type} {n i : Nat} {a x : α} (h : (List.replicate n a)[i]? = some x) : x = a := List.eq_of_mem_replicate (List.mem_of_getElem? h)
theorem Lists.start (n : Nat) : Lists n (List.replicate n []) (List.replicate n (.tl [])) [] where
  xl := by simp
  sl := by simp
  own v x l hx hl := .inl ⟨.inl (rep_get hx), rep_get hl⟩
  dis v w x y i hx _ hi _ := by
    rw [rep_get hx] at hi
    simp [ownId] at hi
theorem OwnL.id_lt {ars : List Arr} {x : V} {l : List Int} (h : OwnL ars x l) {i : Nat} (hi : ownId x = some i) : ∃ id ver, i = id + 1 ∧ x = .own (id + 1) ver 0 l.length ∧ ars[id]? = some ⟨ver, 1, .inl (ints l)⟩ := by
  rcases h with ⟨rfl | rfl, _⟩ | ⟨id, ver, rfl, _, h⟩
  · simp [ownId] at hi
  · simp [ownId] at hi
  · simp [ownId] at hi
    exact ⟨id, ver, hi.symm, rfl, h⟩
theorem OwnL.set {ars : List Arr} {x : V} {l : List Int} (h : OwnL ars x l) {id : Nat} {a : Arr} (hne : ownId x ≠ some (id + 1)) : OwnL (ars.set id a) x l := by
  rcases h with h | ⟨j, ver, rfl, h1, h2⟩
  · exact .inl h
  · refine .inr ⟨j, ver, rfl, h1, ?_⟩
    rw [List.getElem?_set_ne]
    · exact h2
    · intro e
      exact hne (by rw [e]; rfl)
theorem OwnL.push {ars : List Arr} {x : V} {l : List Int} (h : OwnL ars x l) (a : List Arr) : OwnL (ars ++ a) x l := by
  rcases h with h | ⟨j, ver, rfl, h1, h2⟩
  · exact .inl h
  · exact .inr ⟨j, ver, rfl, h1, by rw [List.getElem?_append_left (List.getElem?_eq_some_iff.1 h2).1]; exact h2⟩

theorem Lists.upd {n : Nat} {s : List (List Int)} {xs : List V} {ars ars' : List Arr} (h : Lists n s xs ars) {v : Nat} {x' : V} {l' : List Int} (hv : v < n) (hx : OwnL ars' x' l')
    (hk : ∀ (w : Nat) (y : V) (l : List Int), w ≠ v → xs[w]? = some y → s[w]? = some l → OwnL ars' y l) (hd : ∀ (w : Nat) (y : V) (i : Nat), w ≠ v → xs[w]? = some y → ownId y = some i → ownId x' ≠ some i) : Lists n (s.set v l') (xs.set v x') ars' where
  xl := by rw [List.length_set]; exact h.xl
  sl := by rw [List.length_set]; exact h.sl
  own w y l hy hl := by
    by_cases e : w = v
    · subst e
      rw [List.getElem?_set_self (by rw [h.xl]; exact hv)] at hy
      rw [List.getElem?_set_self (by rw [h.sl]; exact hv)] at hl
      cases hy
      cases hl
      exact hx
    · rw [List.getElem?_set_ne (Ne.symm e)] at hy hl
      exact hk w y l e hy hl
  dis w w' y y' i hy hy' hi hi' := by
    by_cases e : w = v
    · subst e
      rw [List.getElem?_set_self (by rw [h.xl]; exact hv)] at hy
      cases hy
      by_cases e' : w' = w
      · exact e'.symm
      · rw [List.getElem?_set_ne (Ne.symm e')] at hy'
        exact (hd w' y' i e' hy' hi' hi).elim
    · rw [List.getElem?_set_ne (Ne.symm e)] at hy
      by_cases e' : w' = v
      · subst e'
        rw [List.getElem?_set_self (by rw [h.xl]; exact hv)] at hy'
        cases hy'
        exact (hd w y i e hy hi hi').elim
      · rw [List.getElem?_set_ne (Ne.symm e')] at hy'
        exact h.dis w w' y y' i hy hy' hi hi'
theorem Lists.get {n : Nat} {s : List (List Int)} {xs : List V} {ars : List Arr} (h : Lists n s xs ars) {v : Nat} (hv : v < n) : ∃ x l, xs[v]? = some x ∧ s[v]? = some l ∧ OwnL ars x l := by
  have h1 : v < xs.length := by rw [h.xl]; exact hv
  have h2 : v < s.length := by rw [h.sl]; exact hv
  exact ⟨xs[v], s[v], by simp, by simp, h.own v _ _ (by simp) (by simp)⟩
theorem Lists.lt {n : Nat} {s : List (List Int)} {xs : List V} {ars : List Arr} (h : Lists n s xs ars) {v i : Nat} {x : V} (hx : xs[v]? = some x) (hi : ownId x = some i) : i ≤ ars.length := by
  have hv : v < n := by rw [← h.xl]; exact (List.getElem?_eq_some_iff.1 hx).1
  obtain ⟨x', l, h1, h2, h3⟩ := h.get hv
  rw [hx] at h1
  cases h1
  obtain ⟨id, ver, rfl, _, h4⟩ := h3.id_lt hi
  exact (List.getElem?_eq_some_iff.1 h4).1
theorem Lists.first {n : Nat} {s : List (List Int)} {xs : List V} {ars : List Arr} (h : Lists n s xs ars) {v : Nat} {l : List Int} (hv : v < n) (hl : l ≠ []) : Lists n (s.set v l) (xs.set v (.own (ars.length + 1) 0 0 l.length)) (ars ++ [⟨0, 1, .inl (ints l)⟩]) :=
  h.upd hv (.inr ⟨ars.length, 0, rfl, hl, by simp⟩) (fun w y l _ hy hl => (h.own w y l hy hl).push _) fun w y i _ hy hi e => by
    have := h.lt hy hi
    simp only [ownId, Option.some.injEq] at e
    omega
theorem Lists.same {n : Nat} {s : List (List Int)} {xs : List V} {ars : List Arr} (h : Lists n s xs ars) {v id ver ver' m : Nat} {l : List Int} (hv : v < n) (hx : xs[v]? = some (.own (id + 1) ver 0 m)) (hl : l ≠ []) : Lists n (s.set v l) (xs.set v (.own (id + 1) ver' 0 l.length)) (ars.set id ⟨ver', 1, .inl (ints l)⟩) := by
  have hlt := h.lt hx rfl
  refine h.upd hv (.inr ⟨id, ver', rfl, hl, by rw [List.getElem?_set_self (by omega)]⟩) (fun w y l hw hy hl => (h.own w y l hy hl).set fun e => hw (h.dis w v y _ (id + 1) hy hx e rfl)) fun w y i hw hy hi e => ?_
  simp only [ownId, Option.some.injEq] at e
  subst e
  exact hw (h.dis w v y _ (id + 1) hy hx hi rfl)
theorem Lists.none {n : Nat} {s : List (List Int)} {xs : List V} {ars : List Arr} (h : Lists n s xs ars) {v : Nat} (hv : v < n) {x' : V} (hx : x' = .tl [] ∨ x' = .pv (.lst 0 [])) : Lists n (s.set v []) (xs.set v x') ars :=
  h.upd hv (.inl ⟨hx, rfl⟩) (fun w y l _ hy hl => h.own w y l hy hl) fun w y i _ _ _ e => by rcases hx with rfl | rfl <;> simp [ownId] at e

def lls (s : List (List Int)) : List (List PV) := s.map fun l => [.lst 0 (ints l)]
@[go_sem] theorem lls_len (s : List (List Int)) : (lls s).length = s.length := by simp [lls]
@[go_sem] theorem lls_get (s : List (List Int)) (i : Nat) : (lls s)[i]? = s[i]?.map fun l => [.lst 0 (ints l)] := by simp [lls]
theorem OwnL.keep {a0 : Arr} {ars : List Arr} {x : V} {l : List Int} (h : OwnL ars x l) (d : Nat) : keepc ⟨[], a0 :: ars, []⟩ (d + 1) x = some (.lst 0 (ints l)) := by
  rcases h with ⟨rfl | rfl, rfl⟩ | ⟨id, ver, rfl, _, h2⟩
  · rfl
  · rfl
  · have e1 : (ints l).length = l.length := ints_length l
    simp [keepc_own, ownArr, h2, keepRows, cutRows, List.take_of_length_le (Nat.le_of_eq e1)]
theorem Lists.keep {n : Nat} {s : List (List Int)} {xs : List V} {a0 : Arr} {ars : List Arr} (h : Lists n s xs ars) (d : Nat) : mapO (mapO (keepc ⟨[], a0 :: ars, []⟩ (d + 1))) (rowsV xs) = some (lls s) := by
  have key : ∀ (xs : List V) (s : List (List Int)), xs.length = s.length → (∀ (v : Nat) (x : V) (l : List Int), xs[v]? = some x → s[v]? = some l → OwnL ars x l) → mapO (mapO (keepc ⟨[], a0 :: ars, []⟩ (d + 1))) (rowsV xs) = some (lls s) := by
    intro xs
    induction xs with
    | nil =>
      intro s hl _
      have : s = [] := List.eq_nil_of_length_eq_zero hl.symm
      subst this
      rfl
    | cons x xs ih =>
      intro s hl ho
      match s, hl with
      | l :: s, hl =>
        have h1 := (ho 0 x l rfl rfl).keep (a0 := a0) d
        have h2 := ih s (by simpa using hl) fun v y m hy hm => ho (v + 1) y m (by simpa using hy) (by simpa using hm)
        show mapO (mapO (keepc ⟨[], a0 :: ars, []⟩ (d + 1))) ([x] :: rowsV xs) = some ([.lst 0 (ints l)] :: lls s)
        simp only [mapO, h1, h2]
  exact key xs s (h.xl.trans h.sl.symm) h.own

end Go.Pv

/-
  Successors.
-/
namespace Go.Pv

@[go_sem] theorem rowsV_store_own {id row ver a b c d : Nat} {xs : List V} (h1 : row < xs.length) : storeRow id row 0 [.own a b c d] ⟨ver, 1, .inr (rowsV xs)⟩ = some { ar := some (id, ⟨ver, 1, .inr (rowsV (xs.set row (.own a b c d)))⟩) } := rowsV_store h1 rfl
@[go_sem] theorem rowsV_store_pv {id row ver : Nat} {xs : List V} (h1 : row < xs.length) : storeRow id row 0 [.pv (.lst 0 [])] ⟨ver, 1, .inr (rowsV xs)⟩ = some { ar := some (id, ⟨ver, 1, .inr (rowsV (xs.set row (.pv (.lst 0 []))))⟩) } := rowsV_store h1 rfl
end Go.Pv

/-
  Plain laws: levels.
-/
namespace Go.Pv

def lvIn (d : Int) (s : List Int × List Int) (x : Int) : List Int × List Int := if s.1.getD x.toNat (-1) < 0 then (s.1.set x.toNat d, s.2 ++ [x]) else s
def lvRun (nx : Int → List Int) : Nat → Nat → List Int × List Int → List Int × List Int
  | 0, _, s => s
  | n + 1, i, s => match s.2[i]? with
    | none => s
    | some v => lvRun nx n (i + 1) ((nx v).foldl (lvIn (s.1.getD v.toNat (-1) + 1)) s)
structure LvOk (n : Nat) (s : List Int × List Int) : Prop where
  len : s.1.length = n
  nd : s.2.Nodup
  mem : ∀ x, x ∈ s.2 ↔ 0 ≤ x ∧ x < n ∧ 0 ≤ s.1.getD x.toNat (-1)
  top : ∀ v : Nat, s.1.getD v (-1) ≤ s.2.length
theorem getD_set' {l : List Int} {i j : Nat} {x y : Int} (hi : i < l.length) : (l.set i x).getD j y = if i = j then x else l.getD j y := by
  simp only [List.getD_eq_getElem?_getD, List.getElem?_set]
  by_cases h : i = j
  · subst h
    simp [hi]
  · simp [h]
theorem LvOk.start (n : Nat) : LvOk n (List.replicate n (-1), []) where
  len := by simp
  nd := by simp
  mem x := by
    simp only [List.not_mem_nil, false_iff, List.getD_eq_getElem?_getD, List.getElem?_replicate]
    intro ⟨_, _, h⟩
    split at h <;> simp at h
  top v := by
    simp only [List.getD_eq_getElem?_getD, List.getElem?_replicate]
    split <;> simp
theorem LvOk.step {n : Nat} {s : List Int × List Int} (h : LvOk n s) {x d : Int} (hx : 0 ≤ x ∧ x < n) (hd : 0 ≤ d ∧ d ≤ s.2.length + 1) : LvOk n (lvIn d s x) := by
  unfold lvIn
  split
  · rename_i hc
    have hxl : x.toNat < s.1.length := by rw [h.len]; omega
    have hxn : x ∉ s.2 := fun hm => by
      have := (h.mem x).1 hm
      omega
    refine ⟨by simpa using h.len, ?_, fun y => ?_, fun v => ?_⟩
    · rw [List.nodup_append]
      exact ⟨h.nd, by simp, fun a ha b hb => by
        rw [List.mem_singleton] at hb
        subst hb
        exact fun e => hxn (e ▸ ha)⟩
    · rw [List.mem_append, List.mem_singleton, h.mem, getD_set' hxl]
      by_cases e : y = x
      · subst e
        simp
        omega
      · simp only [e, or_false]
        by_cases hy : 0 ≤ y
        · rw [if_neg (by omega)]
        · exact ⟨fun h' => absurd h'.1 hy, fun h' => absurd h'.1 hy⟩
    · dsimp only
      rw [getD_set' hxl]
      have := h.top v
      rw [List.length_append]
      simp only [List.length_cons, List.length_nil]
      split <;> omega
  · exact h
theorem LvOk.bound {n : Nat} {s : List Int × List Int} (h : LvOk n s) : s.2.length ≤ n := nodup_bound h.nd fun x hx => by
  have := (h.mem x).1 hx
  omega
def levels (nx : Int → List Int) (n : Nat) (fr : List Int) : List Int := (lvRun nx n 0 (fr.foldl (lvIn 0) (List.replicate n (-1), []))).1
end Go.Pv

/-
  Levels; vertices from which some can be reached.
-/
namespace Go.Pv

end Go.Pv

/-
  The law of next states, ends and labels.
-/
namespace Go.Pv

end Go.Pv

/-
  Vertices from which some can be reached; proper automata.
-/
namespace Go.Pv

theorem Rch.all {α : Type} {nx : α → List α} {P : α → Prop} (h : ∀ v, P v → ∀ x ∈ nx v, P x) {s v : α} (hs : P s) (hr : Rch nx s v) : P v := by
  induction hr with
  | refl => exact hs
  | step _ hx ih => exact h _ ih _ hx
theorem Rch.mono {α : Type} {nx nx' : α → List α} {P : α → Prop} (hP : ∀ v, P v → ∀ x ∈ nx v, P x) (h : ∀ v x, P v → x ∈ nx v → x ∈ nx' v) {s v : α} (hs : P s) (hr : Rch nx s v) : Rch nx' s v := by
  induction hr with
  | refl => exact .refl
  | step hr hx ih => exact .step ih (h _ _ (Rch.all hP hs hr) hx)
@[go_sem] theorem grow0p (bx : List (Nat × List V)) (mp : List (List (PV × PV))) (l : List (Int × Int)) (x y : Int) (hm : l.length + 1 ≤ 2147483648) :
    appendV ⟨bx, grA 2 (prs l), mp⟩ 2 (grV 0 (prs l)) (.tl [[.int .i64 x, .int .i64 y]]) = some (grV 0 (prs (l ++ [(x, y)])), grT 0 2 (prs l) [.int .i64 x, .int .i64 y]) := by
  rw [grow0 bx mp 2 (prs l) [.int .i64 x, .int .i64 y] rfl (by rw [prs_length]; exact hm), prs_snoc]
end Go.Pv

/-
  The law of duals.
-/
namespace Go.Pv

end Go.Pv

/-
  The law of trimmed automata.
-/
namespace Go.Pv

def Draft.from (d : Draft) (s : Int) : Auto := ⟨1 + d.n % 4, s % (1 + d.n % 4), d.auto.edges⟩
end Go.Pv

/-
  The law of runs.
-/
namespace Go.Pv

end Go.Pv

/-
  The laws of the errors of automata, and of proper automata.
-/
namespace Go.Pv

end Go.Pv

/-
  Classes of states: moves, lists that are equal.
-/
namespace Go.Pv

structure Mv where
  send : Bool
  label : Int
  cls : Int
  deriving DecidableEq, Inhabited
def Mv.c (m : Mv) : List PV := [.bool m.send, .int .i64 m.label, .int .i64 m.cls]
def mvs (l : List Mv) : List (List PV) := l.map Mv.c
@[go_sem] theorem mvs_length (l : List Mv) : (mvs l).length = l.length := by simp [mvs]
@[go_sem] theorem mvs_nil : mvs [] = [] := rfl
@[go_sem] theorem mvs_get (l : List Mv) (i : Nat) : (mvs l)[i]? = l[i]?.map Mv.c := by simp [mvs]
@[go_sem] theorem Mv.c_eq (m : Mv) : m.c = [.bool m.send, .int .i64 m.label, .int .i64 m.cls] := rfl
theorem mvs_snoc (l : List Mv) (m : Mv) : mvs l ++ [m.c] = mvs (l ++ [m]) := by simp [mvs]
@[go_sem] theorem mvs_snocc (l : List Mv) (d : Bool) (x y : Int) : mvs l ++ [[.bool d, .int .i64 x, .int .i64 y]] = mvs (l ++ [⟨d, x, y⟩]) := by simp [mvs, Mv.c]
@[go_sem] theorem grow0m (bx : List (Nat × List V)) (mp : List (List (PV × PV))) (l : List Mv) (d : Bool) (x y : Int) (hm : l.length + 1 ≤ 2147483648) :
    appendV ⟨bx, grA 3 (mvs l), mp⟩ 3 (grV 0 (mvs l)) (.tl [[.bool d, .int .i64 x, .int .i64 y]]) = some (grV 0 (mvs (l ++ [⟨d, x, y⟩])), grT 0 3 (mvs l) (Mv.c ⟨d, x, y⟩)) := by
  rw [← mvs_snoc]
  exact grow0 bx mp 3 (mvs l) (Mv.c ⟨d, x, y⟩) rfl (by rw [mvs_length]; exact hm)
def movesL (es : List Edge) (s : Int) (c : List Int) : List Mv := (es.filter fun e => e.fr == s).map fun e => ⟨e.send, e.label, c.getD e.to.toNat 0⟩
def simB (es : List Edge) (c : List Int) (k i : Nat) : Bool := decide (c.getD k 0 = c.getD i 0) && decide (movesL es (k : Int) c = movesL es (i : Int) c)
def leastC (es : List Edge) (c : List Int) (i : Nat) : Nat := ((List.range i).find? fun k => simB es c k i).getD i
def stepC (n : Nat) (es : List Edge) (c : List Int) : List Int := (List.range n).map fun i => (leastC es c i : Int)
def cls (n : Nat) (es : List Edge) : Nat → List Int
  | 0 => List.replicate n 0
  | j + 1 => stepC n es (cls n es j)
end Go.Pv

/-
  Classes of states: rounds.
-/
namespace Go.Pv

end Go.Pv

/-
  States that are told apart: by one action, by more.
-/
namespace Go.Pv

def edgesOf (es : List Edge) (s : Int) : List Edge := es.filter fun e => e.fr == s
def lackE (a b : List Edge) (p q : Int) : Option Edge := (edgesOf a p).find? fun e => !(nextE q e.send e.label b).isSome
def matG (g : List Int → Nat) (M : List (List Int)) : List (List PV) := M.map fun l => [.lst (g l) (ints l)]
@[go_sem] theorem matG_len (g : List Int → Nat) (M : List (List Int)) : (matG g M).length = M.length := by simp [matG]
@[go_sem] theorem matG_get (g : List Int → Nat) (M : List (List Int)) (i : Nat) : (matG g M)[i]? = M[i]?.map fun l => [.lst (g l) (ints l)] := by simp [matG]
def ent (M : List (List Int)) (p q : Int) : Int := (M.getD p.toNat []).getD q.toNat 0
def nearP (b : List Edge) (M : List (List Int)) (q k : Int) (e : Edge) : Bool := match nextE q e.send e.label b with
  | some n => decide (ent M e.to n = k)
  | none => false
def nearE (a b : List Edge) (M : List (List Int)) (p q k : Int) : Option Edge := (edgesOf a p).find? (nearP b M q k)
structure MatOk (na nb : Nat) (M : List (List Int)) : Prop where
  len : M.length = na
  row : ∀ l ∈ M, l.length = nb
theorem MatOk.get {na nb : Nat} {M : List (List Int)} (h : MatOk na nb M) {p q : Int} (hp : 0 ≤ p ∧ p < na) (hq : 0 ≤ q ∧ q < nb) : ∃ l, M[p.toNat]? = some l ∧ l.length = nb ∧ l[q.toNat]? = some (ent M p q) := by
  have h1 : p.toNat < M.length := by rw [h.len]; omega
  have h2 : M[p.toNat]? = some M[p.toNat] := by simp
  have h3 := h.row _ (List.mem_of_getElem? h2)
  refine ⟨_, h2, h3, ?_⟩
  unfold ent
  have h4 : q.toNat < M[p.toNat].length := by omega
  simp [h1, h4]
end Go.Pv

/-
  The reference's table of differences.
-/
namespace Go.Pv

def rowArr (r : List Int) : Arr := ⟨0, 1, .inl (ints r)⟩
def mAr (M : List (List Int)) : List Arr := M.map rowArr
@[go_sem] theorem mAr_len (M : List (List Int)) : (mAr M).length = M.length := by simp [mAr]
@[go_sem] theorem mAr_get (M : List (List Int)) (i : Nat) : (mAr M)[i]? = M[i]?.map fun r => ⟨0, 1, .inl (ints r)⟩ := by
  unfold mAr
  rw [List.getElem?_map]
  rfl
@[go_sem] theorem mAr_set (M : List (List Int)) (i : Nat) (r : List Int) : (mAr M).set i ⟨0, 1, .inl (ints r)⟩ = mAr (M.set i r) := by simp [mAr, rowArr, List.map_set]
@[go_sem] theorem mAr_snoc (M : List (List Int)) (r : List Int) : mAr M ++ [⟨0, 1, .inl (ints r)⟩] = mAr (M ++ [r]) := by simp [mAr, rowArr]
end Go.Pv

/-
  Differ, of the reference.
-/
namespace Go.Pv

def lkB (a b : List Edge) (p q : Int) : Bool := (lackE a b p q).isSome || (lackE b a q p).isSome
def b01 (c : Bool) : Int := if c = true then 1 else 0
def bTo (a b : List Edge) (nb p q : Nat) : List Int := partTo (fun (q : Nat) => b01 (lkB a b p q)) 0 (List.range nb) q
def baseM (a b : List Edge) (nb m : Nat) : List (List Int) := (List.range m).map fun p => bTo a b nb p nb
def setM (M : List (List Int)) (p q : Nat) (v : Int) : List (List Int) := M.set p ((M.getD p []).set q v)
def stepM (a b : List Edge) (k : Int) (p : Nat) (M : List (List Int)) (q : Nat) : List (List Int) := if (nearE a b M p q k).isSome = true ∧ ent M p q = 0 then setM M p q (k + 1) else M
def rowM (a b : List Edge) (nb : Nat) (k : Int) (M : List (List Int)) (p : Nat) : List (List Int) := (List.range nb).foldl (stepM a b k p) M
def roundM (a b : List Edge) (na nb : Nat) (k : Int) (M : List (List Int)) : List (List Int) := (List.range na).foldl (rowM a b nb k) M
def difM (a b : List Edge) (na nb : Nat) : Nat → List (List Int)
  | 0 => baseM a b nb na
  | j + 1 => roundM a b na nb ((j + 1 : Nat) : Int) (difM a b na nb j)
def differ (a b : Auto) : List (List Int) := difM a.edges b.edges a.states.toNat b.states.toNat (a.states.toNat * b.states.toNat)

end Go.Pv

/-
  Plain laws: states that are alike for so many actions.
-/
namespace Go.Pv

def OptR (R : Int → Int → Prop) : Option Int → Option Int → Prop
  | none, none => True
  | some x, some y => R x y
  | _, _ => False
theorem OptR.mono {R S : Int → Int → Prop} {x y : Option Int} (h : ∀ a b, x = some a → y = some b → R a b → S a b) (hr : OptR R x y) : OptR S x y := by
  cases x <;> cases y <;> simp_all [OptR]
def Ev (a b : List Edge) : Nat → Int → Int → Prop
  | 0, _, _ => True
  | j + 1, p, q => ∀ d x, OptR (Ev a b j) (nextE p d x a) (nextE q d x b)
theorem Ev.down {a b : List Edge} : ∀ {j : Nat} {p q : Int}, Ev a b (j + 1) p q → Ev a b j p q
  | 0, _, _, _ => trivial
  | _j + 1, _p, _q, h => fun d x => (h d x).mono fun _ _ _ _ hr => Ev.down hr
theorem Ev.le {a b : List Edge} {j k : Nat} {p q : Int} (hk : k ≤ j) (h : Ev a b j p q) : Ev a b k p q := by
  induction j with
  | zero =>
    obtain rfl : k = 0 := by omega
    exact h
  | succ j ih =>
    rcases Nat.lt_or_ge j k with h1 | h1
    · obtain rfl : k = j + 1 := by omega
      exact h
    · exact ih h1 h.down
theorem Ev.refl (a : List Edge) : ∀ (j : Nat) (p : Int), Ev a a j p p
  | 0, _ => trivial
  | j + 1, p => fun d x => by
    cases nextE p d x a with
    | none => trivial
    | some t => exact Ev.refl a j t
theorem Ev.symm {a b : List Edge} : ∀ {j : Nat} {p q : Int}, Ev a b j p q → Ev b a j q p
  | 0, _, _, _ => trivial
  | j + 1, p, q, h => fun d x => by
    have := h d x
    cases hp : nextE p d x a <;> cases hq : nextE q d x b <;> simp only [hp, hq, OptR] at this ⊢
    exact Ev.symm this
theorem Ev.trans {a b c : List Edge} : ∀ {j : Nat} {p q r : Int}, Ev a b j p q → Ev b c j q r → Ev a c j p r
  | 0, _, _, _, _, _ => trivial
  | j + 1, p, q, r, h, h2 => fun d x => by
    have h3 := h d x
    have h4 := h2 d x
    cases hp : nextE p d x a <;> cases hq : nextE q d x b <;> cases hr : nextE r d x c <;> simp only [hp, hq, hr, OptR] at h3 h4 ⊢
    exact Ev.trans h3 h4

open Classical in
open Classical in
noncomputable def lst (a b : List Edge) : Nat → Int → Int → Nat
  | 0, _, _ => 0
  | k + 1, p, q => if lst a b k p q ≠ 0 then lst a b k p q else if Ev a b (k + 1) p q then 0 else k + 1
end Go.Pv

/-
  What the table of differences holds.
-/
namespace Go.Pv

end Go.Pv

/-
  Classes of states: the program's and the reference's.
-/
namespace Go.Pv

def Mv.lt (a b : Mv) : Bool := if a.send ≠ b.send then b.send else decide (a.label < b.label)
def leastR (D : List (List Int)) (n : Nat) (p : Nat) : Nat := ((List.range n).find? fun (q : Nat) => decide (ent D p q = 0)).getD 0
def Auto.classes (a : Auto) : List Int := (List.range a.states.toNat).map fun p => (leastR (differ a a) a.states.toNat p : Int)
end Go.Pv

