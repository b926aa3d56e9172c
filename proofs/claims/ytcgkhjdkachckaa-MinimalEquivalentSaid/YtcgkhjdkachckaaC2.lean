/-
  What the functions of the law give.
-/
import Derived.Test.YtcgkhjdkachckaaC1
set_option linter.unusedSimpArgs false
set_option linter.unusedVariables false
/-
  Edges of a state, as the program finds them.
-/
namespace Go.Pv

@[go_sem] theorem r65 (e : Edge) (u : Nat) (s : Int) (cs : List PV) : res A PrA 65 [.agg [.int .i64 e.fr, .bool e.send, .int .i64 e.label, .int .i64 e.to], .ro u (.int .i64 s :: cs)] = some [.bool (!decide (e.fr = s))] := by
  refine res_of a65 rfl rfl ?_
  simp only [F65]
  simp (disch := omega) only [go_sem]
theorem r77 (g t u : Nat) (cs : List PV) (l : List Edge) (p : Edge → Bool) (hl : l.length ≤ 2 ^ 63 - 1) (hp : PrA g = none) (ht : takes A g = false) (hf : ∀ x ∈ l, res A PrA g [.agg [.int .i64 x.fr, .bool x.send, .int .i64 x.label, .int .i64 x.to], .ro u cs] = some [.bool (p x)]) : res A PrA 77 [.lst t (edgs l), .func g [.ro u cs]] = some [.int .i64 (idxP p l)] := by
  refine res_of a77 rfl rfl ?_
  simp only [F77]
  simp (disch := omega) only [go_sem]
  refine W.find l p (fun k => ⟨[(0, .pv (.lst t (edgs l))), (1, .pv (.func g [.ro u cs])), (7, .pv (.int .i64 l.length)), (8, .pv (.int .i64 k))], ⟨[], [], []⟩⟩) rfl (fun k x hx hk hfd => ?_) (fun hn => ?_)
  · have hfx := hf x (List.mem_of_getElem? hx)
    simp (disch := omega) only [go_sem]
    refine Br.ofP (fun h => ?_) (fun h => (h (by omega)).elim)
    simp (disch := omega) only [go_sem, hx, CW_none hp ht, hfx]
    refine Br.of (fun h2 => ?_) (fun h2 => ?_) <;> simp (disch := omega) only [go_sem]
    · rw [(hfd h2).idxP]
    · exact findK.of h2 rfl
  · simp (disch := omega) only [go_sem]
    rw [hn.idxP]

theorem filter_step {α : Type} {p : α → Bool} {l : List α} {k : Nat} {x : α} (h : l[k]? = some x) : (l.take (k + 1)).filter p = if p x = true then (l.take k).filter p ++ [x] else (l.take k).filter p := by
  rw [List.take_add_one, h, List.filter_append]
  by_cases hp : p x = true <;> simp [hp]
theorem set_putE (c l : List Edge) (v : Edge) (h : c.length < l.length) : (c ++ l.drop c.length).set c.length v = (c ++ [v]) ++ l.drop (c ++ [v]).length := by
  rw [List.set_append_right _ _ (Nat.le_refl _), Nat.sub_self, List.append_assoc]
  have : (c ++ [v]).length = c.length + 1 := by simp
  rw [this, List.drop_eq_getElem_cons h]
  rfl
@[go_sem] theorem fresh_edgs (bx : List (Nat × List V)) (mp : List (List (PV × PV))) (ar : List Arr) (v n : Nat) (l : List Edge) : keep ⟨bx, ⟨v, 4, .inl (edgs l)⟩ :: ar, mp⟩ true (.own 0 v 0 n) = some (.fr 4 (edgs (l.take n))) := by
  simp [keep, freshc, ownArr, edgs]
theorem clr_edgs (bx : List (Nat × List V)) (mp : List (List (PV × PV))) (ar : List Arr) (v off len : Nat) (l : List Edge) (h : off + len ≤ l.length) : clrV ⟨bx, ⟨v, 4, .inl (edgs l)⟩ :: ar, mp⟩ 4 [.pv (.int .i64 0), .pv (.bool false), .pv (.int .i64 0), .pv (.int .i64 0)] (.own 0 v off len) =
    some (.tup [], { ar := some (0, ⟨v, 4, .inl (edgs (l.take off ++ List.replicate len ⟨0, false, 0, 0⟩ ++ l.drop (off + len)))⟩) }) := by
  simp [clrV, ownArr, mapO, V.purec, PV.perm, edgs, h, Edge.c]
@[go_sem] theorem lendA_edgs {id ver v len : Nat} {l : List Edge} (hn : len = l.length) : lendA id ver len ⟨v, 4, .inl (edgs l)⟩ = some ([.fr 4 (edgs l)], some (id, ⟨ver + 1, 0, .inl []⟩)) := by
  subst hn
  simp [lendA, Arr.size, edgs_length]
@[go_sem] theorem edgs_take (l : List Edge) (n : Nat) : (edgs l).take n = edgs (l.take n) := by simp [edgs]
@[go_sem] theorem edgs_drop (l : List Edge) (n : Nat) : (edgs l).drop n = edgs (l.drop n) := by simp [edgs]

set_option maxHeartbeats 4000000 in
/-- DeleteFunc: the edges of a state are left. -/
@[go_sem] theorem r63 (l : List Edge) (s : Int) (hl : l.length ≤ 2000000000) : res A PrA 63 [.fr 4 (edgs l), .func 65 [.ro 2 [.int .i64 s]]] = some [.fr 4 (edgs (edgesOf l s))] := by
  refine res_of a63 rfl rfl ?_
  simp only [F63]
  have h77 := fun t : Nat => r77 65 t 2 [.int .i64 s] l (fun e => !decide (e.fr = s)) (by omega) (by kernel_rfl) (by kernel_rfl) (fun x _ => r65 x 2 s [])
  have hlt : l.take l.length = l := List.take_length
  cases hfi : l.findIdx? (fun e => !decide (e.fr = s)) with
  | none =>
    have hix : idxP (fun e => !decide (e.fr = s)) l = -1 := by unfold idxP; rw [hfi]
    rw [List.findIdx?_eq_none_iff] at hfi
    have hall : edgesOf l s = l := by
      unfold edgesOf
      rw [List.filter_eq_self]
      intro e he
      have := hfi e he
      simpa using this
    simp (disch := omega) only [go_sem, h77, hlt, hix, hall]
  | some k =>
    have hix : idxP (fun e => !decide (e.fr = s)) l = (k : Int) := by unfold idxP; rw [hfi]
    rw [List.findIdx?_eq_some_iff_getElem] at hfi
    obtain ⟨hk, hp, hbefore⟩ := hfi
    have hne : ¬ (k : Int) = -1 := by omega
    have hpre : edgesOf (l.take (k + 1)) s = l.take k := by
      unfold edgesOf
      rw [filter_step (List.getElem?_eq_getElem hk), if_neg (by simpa using hp), List.filter_eq_self]
      intro e he
      obtain ⟨j, hj, rfl⟩ := List.getElem_of_mem he
      rw [List.length_take] at hj
      have := hbefore j (by omega)
      simpa using this
    simp (disch := omega) only [go_sem, h77, hlt, hix, hne]
    refine W.upto (l.length - (k + 1)) (fun j => ⟨[(0, .own 0 0 0 l.length), (1, .pv (.func 65 [.ro 2 [.int .i64 s]])), (5, .pv (.int .i64 (edgesOf (l.take (k + 1 + j)) s).length)), (6, .pv (.int .i64 (k + 1 + j : Nat)))], ⟨[], [⟨0, 4, .inl (edgs (edgesOf (l.take (k + 1 + j)) s ++ l.drop (edgesOf (l.take (k + 1 + j)) s).length))⟩], []⟩⟩) (fun j => (edgesOf (l.take (k + 1 + j)) s).length ≤ k + j) ?_ ?_ fun j hj hw => ?_
    · simp only [Nat.add_zero, hpre, List.length_take, Nat.min_eq_left (Nat.le_of_lt hk)]
      rw [List.take_append_drop]
      rfl
    · simp only [Nat.add_zero, hpre, List.length_take]
      omega
    have hkeep : ∀ q, (edgesOf (l.take (k + 1 + j)) s).length ≤ q → (edgesOf (l.take (k + 1 + j)) s ++ l.drop (edgesOf (l.take (k + 1 + j)) s).length)[q]? = l[q]? := fun q hq => by
      rw [List.getElem?_append_right hq, List.getElem?_drop]
      congr 1
      omega
    have hln : (edgesOf (l.take (k + 1 + j)) s ++ l.drop (edgesOf (l.take (k + 1 + j)) s).length).length = l.length := by simp; omega
    simp (disch := omega) only [go_sem]
    refine Br.ofP (fun h => ?_) (fun h => ?_)
    · obtain ⟨x, hx⟩ := get_at (l := l) (k := k + 1 + j) (by omega)
      have h65 := r65 x 2 s []
      have hst : edgesOf (l.take (k + 1 + (j + 1))) s = if (x.fr == s) = true then edgesOf (l.take (k + 1 + j)) s ++ [x] else edgesOf (l.take (k + 1 + j)) s := filter_step hx
      simp (disch := omega) only [go_sem, hkeep, hx, h65]
      refine Br.ofP (fun g => ?_) (fun g => ?_) <;> simp (disch := omega) only [go_sem, g, edge_eta]
      · rw [if_pos (by simp [g])] at hst
        have hxe : (⟨s, x.send, x.label, x.to⟩ : Edge) = x := by rw [← g]
        refine .of (by omega) ?_ ?_
        · show _ = St.mk _ _
          rw [hst, hxe, set_putE _ _ _ (by omega), List.length_append]
          rfl
        · show (edgesOf _ s).length ≤ _
          rw [hst, List.length_append]
          simp
          omega
      · rw [if_neg (by simp [g])] at hst
        refine .of (by omega) ?_ ?_
        · show _ = St.mk _ _
          rw [hst]
          rfl
        · show (edgesOf _ s).length ≤ _
          rw [hst]
          omega
    · have hall : l.take (k + 1 + j) = l := List.take_of_length_le (by omega)
      rw [hall] at hln hw ⊢
      simp (disch := omega) only [go_sem]
      rw [clr_edgs _ _ _ _ _ _ _ (by omega)]
      have hl3 : (edgesOf l s ++ List.replicate (l.length - (edgesOf l s).length) (⟨0, false, 0, 0⟩ : Edge)).length = l.length := by simp; omega
      have e1 : List.take (edgesOf l s).length (edgesOf l s ++ List.drop (edgesOf l s).length l) = edgesOf l s := by
        rw [List.take_append_of_le_length (Nat.le_refl _), List.take_length]
      have e2 : List.drop ((edgesOf l s).length + (l.length - (edgesOf l s).length)) (edgesOf l s ++ List.drop (edgesOf l s).length l) = [] := List.drop_eq_nil_of_le (by rw [hln]; omega)
      rw [e1, e2]
      simp (disch := omega) only [go_sem]
      have e3 : List.take (edgesOf l s).length (edgesOf l s ++ List.replicate (l.length - (edgesOf l s).length) (⟨0, false, 0, 0⟩ : Edge)) = edgesOf l s := by
        rw [List.take_append_of_le_length (Nat.le_refl _), List.take_length]
      rw [e3]
@[go_sem] theorem r63n (s : Int) : res A PrA 63 [.lst 0 [], .func 65 [.ro 2 [.int .i64 s]]] = some [.lst 0 []] := by
  refine res_of a63 rfl rfl ?_
  simp only [F63]
  have h77 := r77 65 0 2 [.int .i64 s] [] (fun e => !decide (e.fr = s)) (by simp) (by kernel_rfl) (by kernel_rfl) (fun x hx => by cases hx)
  have hix : idxP (fun e : Edge => !decide (e.fr = s)) [] = -1 := rfl
  rw [hix] at h77
  have h77' : res A PrA 77 [.lst 0 [], .func 65 [.ro 2 [.int .i64 s]]] = some [.int .i64 (-1)] := h77
  simp (disch := omega) only [go_sem, h77']
  rfl

end Go.Pv

/-
  Edges and actions of a state.
-/
namespace Go.Pv

@[go_sem] theorem lendAll_tl2 (h : Heap) (v : V) : lendAll h true [.tl [], v] = (lend h v).bind fun q => some ([.lst 0 [], q], none) := by
  simp only [lendAll, lendTake, if_true, mapO]
  cases lend h v <;> rfl
/-- The second argument is lent, the first one has gone. -/
def lendB (h : Heap) (v : V) : List PV × Option (Nat × Arr) → Option (List PV × Option (Nat × Arr))
  | ([p], some (i, a)) => (lend { h with ar := h.ar.set i a } v).bind fun q => some ([p, q], some (i, a))
  | _ => none
@[go_sem] theorem lendB_mk (bx : List (Nat × List V)) (ar : List Arr) (mp : List (List (PV × PV))) (v : V) (p : PV) (i : Nat) (a : Arr) : lendB ⟨bx, ar, mp⟩ v ([p], some (i, a)) = (lend ⟨bx, ar.set i a, mp⟩ v).bind fun q => some ([p, q], some (i, a)) := rfl
@[go_sem] theorem lendAll_own2 (h : Heap) (id ver len : Nat) (v : V) : lendAll h true [.own id ver 0 len, v] = (ownArr h id ver).bind fun a => (lendA id ver len a).bind (lendB h v) := by
  simp only [lendAll, lendTake]
  cases ownArr h id ver with
  | none => rfl
  | some a =>
    simp only [Option.bind_some, if_true, lendA]
    by_cases hc : a.size = len ∧ a.k ≠ 0
    · cases hb : a.body with
      | inl rows =>
        simp only [hc, ne_eq, not_false_eq_true, and_self, if_true, Option.bind_some, lendB, mapO]
        cases lend { h with ar := h.ar.set id ⟨ver + 1, 0, .inl []⟩ } v <;> rfl
      | inr rows => simp [hc]
    · simp [hc]
@[go_sem] theorem r54 (t : Nat) (n s0 s : Int) (es : List Edge) (ht : t ≤ 1) (hl : es.length ≤ 2000000000) : res A PrA 54 [.agg [.int .i64 n, .int .i64 s0, .lst t (es.map Edge.c)], .int .i64 s] = some [.lst 0 (edgs (edgesOf es s))] := by
  refine res_of a54 rfl rfl ?_
  simp only [F54]
  by_cases h0 : es.length = 0
  · have he : es = [] := List.eq_nil_of_length_eq_zero h0
    simp (disch := omega) only [go_sem, cloneP_edgs, h0]
    rw [he]
    rfl
  · have hel := edgesOf_len es s
    simp (disch := omega) only [go_sem, cloneP_edgs, h0, List.take_length]
def lessE (a b : Edge) : Bool := if a.send = b.send then decide (a.label < b.label) else b.send
@[go_sem] theorem r55 (a b : Edge) : res A PrA 55 [.agg [.int .i64 a.fr, .bool a.send, .int .i64 a.label, .int .i64 a.to], .agg [.int .i64 b.fr, .bool b.send, .int .i64 b.label, .int .i64 b.to]] = some [.bool (lessE a b)] := by
  refine res_of a55 rfl rfl ?_
  simp only [F55]
  simp (disch := omega) only [go_sem]
  unfold lessE
  refine Br.ofP (fun h => ?_) (fun h => ?_) <;> simp (disch := omega) only [go_sem, h]
@[go_sem] theorem r56 (a : Edge) : res A PrA 56 [.agg [.int .i64 a.fr, .bool a.send, .int .i64 a.label, .int .i64 a.to]] = some [.agg [.bool a.send, .int .i64 a.label]] := by
  refine res_of a56 rfl rfl ?_
  simp only [F56]
  simp (disch := omega) only [go_sem]

/-- The first action that is possible in only one of two states. -/
def mrg (only : Bool) : List Edge → List Edge → Option (Edge × Int)
  | [], [] => none
  | x :: _, [] => some (x, 0)
  | [], y :: m => if only then mrg only [] m else some (y, 1)
  | x :: l, y :: m => if lessE x y = true then some (x, 0) else if lessE y x = true then (if only then mrg only (x :: l) m else some (y, 1)) else mrg only l m
termination_by l m => l.length + m.length

/-- A pair of states, and how it is reached. -/
structure Nd where
  x : Int
  y : Int
  path : List (Bool × Int)
  deriving DecidableEq, Inhabited
def Edge.act (e : Edge) : Bool × Int := (e.send, e.label)
/-- One more pair, unless it has been seen. -/
def addD (b : List Edge) (n : Nd) (s : List (Int × Int) × List Nd) (e : Edge) : List (Int × Int) × List Nd :=
  match nextE n.y e.send e.label b with
  | some y => if (e.to, y) ∈ s.1 then s else (s.1 ++ [(e.to, y)], s.2 ++ [⟨e.to, y, n.path ++ [e.act]⟩])
  | none => s
/-- The search: pairs that were seen, pairs that wait. -/
def dif (a b : List Edge) (only : Bool) : Nat → List (Int × Int) × List Nd → Option (List (Bool × Int) × Int)
  | 0, _ => none
  | k + 1, (seen, q) => match q with
    | [] => none
    | n :: q => match mrg only (edgesOf a n.x) (edgesOf b n.y) with
      | some (e, w) => some (n.path ++ [e.act], w)
      | none => dif a b only k ((edgesOf a n.x).foldl (addD b n) (seen, q))

end Go.Pv

/-
  What the search for a difference keeps.
-/
namespace Go.Pv

def prK (p : Int × Int) : PV := .agg [.int .i64 p.1, .int .i64 p.2]
def seenM (s : List (Int × Int)) : List (PV × PV) := s.map fun p => (prK p, .bool true)
theorem keyEq_pr (p q : Int × Int) : keyEq true [1, 1] (prK p) (prK q) = some (decide (p = q)) := by
  obtain ⟨a, b⟩ := p
  obtain ⟨c, d⟩ := q
  simp only [keyEq, prK, if_true]
  simp only [go_sem]
  by_cases h1 : a = c <;> by_cases h2 : b = d <;> simp [h1, h2]
theorem seen_no {p : Int × Int} : ∀ {s : List (Int × Int)} {i : Nat}, p ∉ s → findKey true [1, 1] (prK p) (seenM s) i = some none
  | [], i, _ => by simp [seenM, findKey, keyEq_pr]
  | q :: s, i, h => by
    simp only [List.mem_cons, not_or] at h
    show findKey true [1, 1] (prK p) ((prK q, .bool true) :: seenM s) i = _
    simp only [findKey, keyEq_pr, h.1, decide_false]
    exact seen_no h.2
theorem seen_in {p : Int × Int} : ∀ {s : List (Int × Int)} {i : Nat}, p ∈ s → ∃ j, findKey true [1, 1] (prK p) (seenM s) i = some (some (j, .bool true))
  | [], i, h => by cases h
  | q :: s, i, h => by
    show ∃ j, findKey true [1, 1] (prK p) ((prK q, .bool true) :: seenM s) i = _
    simp only [findKey, keyEq_pr]
    by_cases e : p = q
    · exact ⟨i, by simp [e]⟩
    · simp only [e, decide_false]
      exact seen_in ((List.mem_cons.1 h).resolve_left e)
@[go_sem] theorem foundV_some (z : V) (j : Nat) (p : PV) : foundV z false (some (j, p)) = .pv p := rfl
@[go_sem] theorem foundV_none (z : V) : foundV z false none = z := rfl
theorem updM_new {ag : Bool} {ks : List Nat} {q p : PV} {id : Nat} {l : List (PV × PV)} (h : findKey ag ks q l 0 = some none) : updM ag ks q p id l = some { mp := some (id, l ++ [(q, p)]) } := by
  simp only [updM, h]
theorem seenM_snoc (s : List (Int × Int)) (p : Int × Int) : seenM s ++ [(prK p, .bool true)] = seenM (s ++ [p]) := by simp [seenM]

/-- A value is a list of actions, at home in these arrays (the first of which lies at 1). -/
def PathV (ars : List Arr) (v : V) (l : List (Bool × Int)) : Prop := (v = .tl [] ∧ l = []) ∨ ∃ id ver, v = .own (id + 1) ver 0 l.length ∧ l ≠ [] ∧ ars[id]? = some ⟨ver, 2, .inl (acts l)⟩
theorem PathV.more {ars : List Arr} {v : V} {l : List (Bool × Int)} (h : PathV ars v l) (x : List Arr) : PathV (ars ++ x) v l := by
  rcases h with h | ⟨id, ver, h1, h2, h3⟩
  · exact .inl h
  · exact .inr ⟨id, ver, h1, h2, by rw [List.getElem?_append_left (List.getElem?_eq_some_iff.1 h3).1]; exact h3⟩
theorem PathV.fresh {ars : List Arr} {l : List (Bool × Int)} (hl : l ≠ []) (ver : Nat) (x : List Arr) : PathV (ars ++ ⟨ver, 2, .inl (acts l)⟩ :: x) (.own (ars.length + 1) ver 0 l.length) l :=
  .inr ⟨ars.length, ver, rfl, hl, by rw [List.getElem?_append_right (Nat.le_refl _)]; simp⟩
theorem PathV.calm {ars : List Arr} {v : V} {l : List (Bool × Int)} (h : PathV ars v l) : v.calm = true ∧ v.sized = true ∧ v.purec = none ∧ v.cells = [v] := by
  rcases h with ⟨rfl, _⟩ | ⟨id, ver, rfl, _, _⟩ <;> exact ⟨rfl, rfl, rfl, rfl⟩
/-- The pairs that wait. -/
structure QRep (off : Nat) (q : List Nd) (rows : List (List V)) (ars : List Arr) : Prop where
  len : rows.length = off + q.length
  row : ∀ (i : Nat) (n : Nd), q[i]? = some n → ∃ v, rows[off + i]? = some [.pv (.int .i64 n.x), .pv (.int .i64 n.y), v] ∧ PathV ars v n.path
theorem QRep.pop {off : Nat} {n : Nd} {q : List Nd} {rows : List (List V)} {ars : List Arr} (h : QRep off (n :: q) rows ars) : QRep (off + 1) q rows ars where
  len := by rw [h.len]; simp; omega
  row i m hi := by
    obtain ⟨v, h1, h2⟩ := h.row (i + 1) m (by simpa using hi)
    exact ⟨v, by rw [show off + 1 + i = off + (i + 1) by omega]; exact h1, h2⟩
theorem QRep.more {off : Nat} {q : List Nd} {rows : List (List V)} {ars : List Arr} (h : QRep off q rows ars) (x : List Arr) : QRep off q rows (ars ++ x) where
  len := h.len
  row i n hi := by
    obtain ⟨v, h1, h2⟩ := h.row i n hi
    exact ⟨v, h1, h2.more x⟩
/-- One more, behind the others. -/
theorem QRep.push {off : Nat} {q : List Nd} {rows : List (List V)} {ars : List Arr} (h : QRep off q rows ars) {n : Nd} {v : V} (hv : PathV ars v n.path) : QRep 0 (q ++ [n]) ((rows.drop off).take q.length ++ [[.pv (.int .i64 n.x), .pv (.int .i64 n.y), v]]) ars where
  len := by
    have := h.len
    simp
    omega
  row i m hi := by
    have hl := h.len
    rw [Nat.zero_add]
    rcases Nat.lt_or_ge i q.length with hlt | hge
    · rw [List.getElem?_append_left hlt] at hi
      obtain ⟨u, h1, h2⟩ := h.row i m hi
      refine ⟨u, ?_, h2⟩
      rw [List.getElem?_append_left (by simp; omega), List.getElem?_take, if_pos hlt, List.getElem?_drop]
      exact h1
    · rw [List.getElem?_append_right hge] at hi
      have h0 : i - q.length = 0 := by
        have := (List.getElem?_eq_some_iff.1 hi).1
        simp at this
        omega
      rw [h0] at hi
      simp only [List.getElem?_cons_zero, Option.some.injEq] at hi
      subst hi
      refine ⟨v, ?_, hv⟩
      rw [List.getElem?_append_right (by simp; omega)]
      have : i - ((rows.drop off).take q.length).length = 0 := by simp; omega
      rw [this]
      rfl
theorem pairs_bound {l : List (Int × Int)} {n m : Nat} (hn : l.Nodup) (h : ∀ p ∈ l, (0 ≤ p.1 ∧ p.1 < n) ∧ (0 ≤ p.2 ∧ p.2 < m)) : l.length ≤ n * m := by
  have h1 := List.Nodup.length_le_of_subset (l₂ := (iota n).flatMap fun p => (iota m).map fun q => (p, q)) hn (fun p hp => by
    have := h p hp
    rw [List.mem_flatMap]
    exact ⟨p.1, iota_mem.2 this.1, List.mem_map.2 ⟨p.2, iota_mem.2 this.2, rfl⟩⟩)
  have h2 : ∀ l : List Int, (l.flatMap fun p => (iota m).map fun q => (p, q)).length = l.length * m := by
    intro l
    induction l with
    | nil => simp
    | cons x l ih => rw [List.flatMap_cons, List.length_append, ih]; simp [iota]; rw [Nat.add_mul]; omega
  rw [h2, show (iota n).length = n by simp [iota]] at h1
  exact h1

@[go_sem] theorem acts_snoc (l : List (Bool × Int)) (d : Bool) (x : Int) : acts l ++ [[.bool d, .int .i64 x]] = acts (l ++ [(d, x)]) := by simp [acts, actC]
@[go_sem] theorem app_acts_tl (h : Heap) (d : Bool) (x : Int) : appendV h 2 (.tl []) (.tl [[.bool d, .int .i64 x]]) = some (.own h.ar.length 0 0 1, { push := [⟨0, 2, .inl (acts [(d, x)])⟩], base := h.ar.length }) := by
  have := app_tlr h 2 [] [.bool d, .int .i64 x] rfl (fun x hx => by cases hx) (by simp)
  exact this
@[go_sem] theorem app_acts_own (h : Heap) (id ver off len : Nat) (d : Bool) (x : Int) : appendV h 2 (.own id ver off len) (.tl [[.bool d, .int .i64 x]]) = (ownArr h id ver).bind (apR id ver off len 2 [.bool d, .int .i64 x]) := app_ownr h id ver off len 2 _ rfl
@[go_sem] theorem apR_acts {id ver len : Nat} {d : Bool} {x : Int} {l : List (Bool × Int)} (h1 : len = l.length) (h2 : l.length + 1 ≤ 2147483648) : apR id ver 0 len 2 [.bool d, .int .i64 x] ⟨ver, 2, .inl (acts l)⟩ = some (.own id (ver + 1) 0 (len + 1), { ar := some (id, ⟨ver + 1, 2, .inl (acts (l ++ [(d, x)]))⟩) }) := by
  rw [apR_ok (by rw [acts_length]; exact h1) (by rw [acts_length]; exact h2), acts_snoc]
@[go_sem] theorem acts_take (l : List (Bool × Int)) (n : Nat) : (acts l).take n = acts (l.take n) := by simp [acts]
@[go_sem] theorem acts_drop (l : List (Bool × Int)) (n : Nat) : (acts l).drop n = acts (l.drop n) := by simp [acts]
@[go_sem] theorem cloneP_tl (h : Heap) (k : Nat) : cloneP k [.tl []] h = some (.tl [], {}) := by simp [cloneP, srcRows, rowsFit]
/-- Actions copied. -/
def clnA (h : Heap) (id n : Nat) (a : Arr) : Option (V × Tn) := match a.body with
  | .inl rows => if (rows.take n).all (·.length == 2) = true ∧ (rows.take n).length ≤ mostRows then (if (rows.take n).length = 0 then some (.tl [], { ra := some id }) else some (.own h.ar.length 0 0 (rows.take n).length, { push := [⟨0, 2, .inl (rows.take n)⟩], ra := some id, base := h.ar.length })) else none
  | .inr _ => none
@[go_sem] theorem cloneP_own (h : Heap) (id ver n : Nat) : cloneP 2 [.own id ver 0 n] h = (ownArr h id ver).bind (clnA h id n) := by
  simp only [cloneP, srcRows]
  cases ownArr h id ver with
  | none => rfl
  | some a =>
    cases hb : a.body <;> simp [cutRows, clnA, hb, rowsFit]
@[go_sem] theorem clnA_acts {h : Heap} {id n ver : Nat} {l : List (Bool × Int)} (hn : n = l.length) (h0 : l.length ≠ 0) (hm : l.length ≤ 2147483648) : clnA h id n ⟨ver, 2, .inl (acts l)⟩ = some (.own h.ar.length 0 0 l.length, { push := [⟨0, 2, .inl (acts l)⟩], ra := some id, base := h.ar.length }) := by
  subst hn
  have e1 : (acts l).take l.length = acts l := List.take_of_length_le (by rw [acts_length]; exact Nat.le_refl _)
  have e2 : ((acts l).all fun x => x.length == 2) = true := by simp [acts, actC]
  simp [clnA, e1, e2, acts_length, mostRows, hm, h0]

end Go.Pv

/-
  Loops whose rounds leave more than the next round takes.
-/
namespace Go.Pv
variable {A : Nat → Option AFunc} {Pr : Prims}

/-- What a round comes to: the next round takes what is written here. -/
def rndM {α : Type} (kt kb : List Nat) (S : α → St) (P : α → Prop) (m : α → Nat) (x : α) (Q : Ex → St → Prop) (_t : Tie (kt, kb, S, P, m, x, Q) := .mk) : Ex → St → Prop
  | .normal, s => ∃ y, P y ∧ m y < m x ∧ s.mask kt kb = S y
  | .exit i, s => Q (.exit i) s
  | .ret, s => Q .ret s
@[go_sem] theorem rndM_exit {α : Type} (kt kb : List Nat) (S : α → St) (P : α → Prop) (m : α → Nat) (x : α) (Q : Ex → St → Prop) (i : Nat) (s : St) : rndM kt kb S P m x Q .mk (.exit i) s = Q (.exit i) s := rfl
@[go_sem] theorem rndM_ret {α : Type} (kt kb : List Nat) (S : α → St) (P : α → Prop) (m : α → Nat) (x : α) (Q : Ex → St → Prop) (s : St) : rndM kt kb S P m x Q .mk .ret s = Q .ret s := rfl
@[congr] theorem rndM_congr {α : Type} {kt kb : List Nat} {S : α → St} {P : α → Prop} {m : α → Nat} {x : α} {Q : Ex → St → Prop} {e e' : Ex} {s s' : St} (he : e = e') (hs : s = s') : rndM kt kb S P m x Q .mk e s = rndM kt kb S P m x Q .mk e' s' := by rw [he, hs]

theorem W.loopM {α : Type} {a : AC} {kt kb : List Nat} {s : St} {Q : Ex → St → Prop} (S : α → St) (P : α → Prop) (m : α → Nat) (x0 : α) (hs : s.mask kt kb = S x0) (h0 : P x0) (hr : ∀ x, P x → W A Pr a (S x) (rndM kt kb S P m x Q)) : W A Pr (.loop (.mask kt kb a)) s Q := by
  have key : ∀ n x s, m x ≤ n → s.mask kt kb = S x → P x → W A Pr (.loop (.mask kt kb a)) s Q := by
    intro n
    induction n with
    | zero =>
      intro x s hm hs hp
      obtain ⟨ex, s', h1, h2⟩ := hr x hp
      rw [← hs] at h1
      have h1 := Runs.mask h1
      cases ex with
      | normal => obtain ⟨y, _, h3, _⟩ := h2; omega
      | exit i => exact ⟨_, _, Runs.loop_out h1 (by simp), h2⟩
      | ret => exact ⟨_, _, Runs.loop_out h1 (by simp), h2⟩
    | succ n ih =>
      intro x s hm hs hp
      obtain ⟨ex, s', h1, h2⟩ := hr x hp
      rw [← hs] at h1
      have h1 := Runs.mask h1
      cases ex with
      | normal =>
        obtain ⟨y, hy, h3, h6⟩ := h2
        obtain ⟨e2, s2, h4, h5⟩ := ih y s' (by omega) h6 hy
        exact ⟨e2, s2, Runs.loop_step h1 h4, h5⟩
      | exit i => exact ⟨_, _, Runs.loop_out h1 (by simp), h2⟩
      | ret => exact ⟨_, _, Runs.loop_out h1 (by simp), h2⟩
  exact key _ x0 s (Nat.le_refl _) hs h0

end Go.Pv

/-
  The search for a difference.
-/
namespace Go.Pv

def difR : Option (List (Bool × Int) × Int) → List PV
  | none => [.lst 0 [], .int .i64 0, .bool false]
  | some (p, w) => [.lst 0 (acts p), .int .i64 w, .bool true]

theorem mrg_nn (o : Bool) : mrg o [] [] = none := by rw [mrg]
theorem mrg_cn (o : Bool) (x : Edge) (l : List Edge) : mrg o (x :: l) [] = some (x, 0) := by rw [mrg]
theorem mrg_nc (o : Bool) (y : Edge) (m : List Edge) : mrg o [] (y :: m) = if o then mrg o [] m else some (y, 1) := by rw [mrg]
theorem mrg_cc (o : Bool) (x y : Edge) (l m : List Edge) : mrg o (x :: l) (y :: m) = if lessE x y = true then some (x, 0) else if lessE y x = true then (if o then mrg o (x :: l) m else some (y, 1)) else mrg o l m := by rw [mrg]
/-- One more row, behind the rows that wait. -/
theorem app_q {bx : List (Nat × List V)} {mp : List (List (PV × PV))} {ver off len m : Nat} {rows : List (List V)} {r : List V} {ar : List Arr} (h1 : ar[m]? = some ⟨0, 3, .inr [r]⟩) (h2 : r.length = 3) (h3 : rows.length = off + len) (h4 : len + 1 ≤ 2147483648) :
    appendV ⟨bx, ⟨ver, 3, .inr rows⟩ :: ar, mp⟩ 3 (.own 0 ver off len) (.own (m + 1) 0 0 1) = some (.own 0 (ver + 1) 0 (len + 1), { ar := some (0, ⟨ver + 1, 3, .inr ((rows.drop off).take len ++ [r])⟩), ra := some (m + 1) }) := by
  simp [appendV, srcRows, ownArr, h1, cutRows, rowsFit, rowsLen, h2, Arr.size, h3, mostRows, h4, catRows]
/-- Where the search stands. -/
structure DifOk (a b : Auto) (k : Nat) (seen : List (Int × Int)) (q : List Nd) : Prop where
  nodup : seen.Nodup
  mem : ∀ p ∈ seen, (0 ≤ p.1 ∧ p.1 < a.states) ∧ (0 ≤ p.2 ∧ p.2 < b.states)
  count : k + seen.length = a.states.toNat * b.states.toNat + 1 + q.length
  node : ∀ n ∈ q, (0 ≤ n.x ∧ n.x < a.states) ∧ (0 ≤ n.y ∧ n.y < b.states) ∧ n.path.length < seen.length
  le : k ≤ 145
theorem DifOk.push {a b : Auto} {k : Nat} {seen : List (Int × Int)} {q : List Nd} (h : DifOk a b k seen q) {x y : Int} {p : List (Bool × Int)} (hn : (x, y) ∉ seen) (hr : (0 ≤ x ∧ x < a.states) ∧ (0 ≤ y ∧ y < b.states)) (hp : p.length ≤ seen.length) : DifOk a b k (seen ++ [(x, y)]) (q ++ [⟨x, y, p⟩]) where
  nodup := by
    rw [List.nodup_append]
    exact ⟨h.nodup, by simp, fun u hu v hv e => hn (by rw [List.mem_singleton] at hv; subst hv; subst e; exact hu)⟩
  mem u hu := by
    rw [List.mem_append, List.mem_singleton] at hu
    rcases hu with hu | rfl
    · exact h.mem u hu
    · exact hr
  count := by
    have := h.count
    simp
    omega
  node n hm := by
    rw [List.mem_append, List.mem_singleton] at hm
    rcases hm with hm | rfl
    · obtain ⟨h1, h2, h3⟩ := h.node n hm
      exact ⟨h1, h2, by simp; omega⟩
    · exact ⟨hr.1, hr.2, by simp; omega⟩
  le := h.le
def difS (t u : Nat) (a b : Auto) (only : Bool) (ver off : Nat) (q : List Nd) (rows : List (List V)) (ars : List Arr) (seen : List (Int × Int)) : St :=
  ⟨[(2, .pv (.bool only)), (3, .ptr 3 0), (4, .ptr 4 0), (9, .own 0 ver off q.length), (10, .map 0)], ⟨[(3, [.pv (.int .i64 a.states), .pv (.int .i64 a.start), .pv (.lst t (a.edges.map Edge.c))]), (4, [.pv (.int .i64 b.states), .pv (.int .i64 b.start), .pv (.lst u (b.edges.map Edge.c))])], ⟨ver, 3, .inr rows⟩ :: ars, [seenM seen]⟩⟩

set_option maxHeartbeats 4000000 in
@[go_sem] theorem r35 (t u : Nat) (a b : Auto) (only : Bool) (ht : t ≤ 1) (hu : u ≤ 1) (ha : a.Good) (hb : b.Good) : res A PrA 35 [.agg [.int .i64 a.states, .int .i64 a.start, .lst t (a.edges.map Edge.c)], .agg [.int .i64 b.states, .int .i64 b.start, .lst u (b.edges.map Edge.c)], .bool only] = some (difR (dif a.edges b.edges only (a.states.toNat * b.states.toNat + 1) ([(a.start, b.start)], [⟨a.start, b.start, []⟩]))) := by
  refine res_of a35 rfl rfl ?_
  simp only [F35]
  have hal := ha.len
  have hbl := hb.len
  have hst := ha.st
  have hst' := hb.st
  have hmx := ha.mx
  have hmx' := hb.mx
  have hu0 : updM true [1, 1] (PV.agg [PV.int IntKind.i64 a.start, PV.int IntKind.i64 b.start]) (PV.bool true) 0 [] = some { mp := some (0, seenM [(a.start, b.start)]) } := rfl
  simp (disch := omega) only [go_sem, hu0]
  generalize hN : a.states.toNat * b.states.toNat + 1 = N
  have hNb : N ≤ 145 := by
    have := Nat.mul_le_mul (show a.states.toNat ≤ 12 by omega) (show b.states.toNat ≤ 12 by omega)
    omega
  refine W.loopM (α := Nat × Nat × Nat × List Nd × List (List V) × List Arr × List (Int × Int)) (fun x => difS t u a b only x.2.1 x.2.2.1 x.2.2.2.1 x.2.2.2.2.1 x.2.2.2.2.2.1 x.2.2.2.2.2.2)
    (fun x => DifOk a b x.1 x.2.2.2.2.2.2 x.2.2.2.1 ∧ QRep x.2.2.1 x.2.2.2.1 x.2.2.2.2.1 x.2.2.2.2.2.1 ∧ dif a.edges b.edges only x.1 (x.2.2.2.2.2.2, x.2.2.2.1) = dif a.edges b.edges only N ([(a.start, b.start)], [⟨a.start, b.start, []⟩])) (fun x => x.1) (N, 0, 0, [⟨a.start, b.start, []⟩], [[.pv (.int .i64 a.start), .pv (.int .i64 b.start), .tl []]], [], [(a.start, b.start)]) rfl ⟨⟨by simp, by simp; omega, by simp; omega, by simp; omega, hNb⟩, ⟨rfl, fun i n hi => ?_⟩, rfl⟩ fun x hx => ?_
  · cases i with
    | zero =>
      cases hi
      exact ⟨.tl [], rfl, .inl ⟨rfl, rfl⟩⟩
    | succ i => simp at hi
  obtain ⟨k, ver, off, q, rows, ars, seen⟩ := x
  obtain ⟨hD, hQ, hres⟩ := hx
  dsimp only at hD hQ hres
  unfold difS
  dsimp only
  rw [← hres]
  have hsb := pairs_bound hD.nodup (n := a.states.toNat) (m := b.states.toNat) (fun p hp => by
    have := hD.mem p hp
    omega)
  have hcnt := hD.count
  rw [hN] at hcnt
  cases q with
  | nil =>
    simp (disch := omega) only [go_sem]
    refine Br.ofP (fun h => absurd h (by omega)) (fun h => ?_)
    simp (disch := omega) only [go_sem]
    cases k <;> rfl
  | cons n q =>
    obtain ⟨k, rfl⟩ : ∃ k', k = k' + 1 := ⟨k - 1, by simp at hcnt; omega⟩
    obtain ⟨v, hv, hpv⟩ := hQ.row 0 n rfl
    have hrl := hQ.len
    obtain ⟨⟨x0, x1⟩, ⟨y0, y1⟩, hpl⟩ := hD.node n (List.mem_cons_self ..)
    obtain ⟨c1, c2, c3, c4⟩ := hpv.calm
    have hoff : off < rows.length := by simp at hrl; omega
    rw [Nat.add_zero] at hv
    simp (disch := omega) only [go_sem]
    refine Br.ofP (fun h => ?_) (fun h => (h (by omega)).elim)
    simp (disch := omega) only [go_sem, hv, c1, c2, c3, c4]
    rw [Nat.add_sub_cancel]
    have hla := edgesOf_len a.edges n.x
    have hlb := edgesOf_len b.edges n.y
    generalize hA : edgesOf a.edges n.x = la at hla ⊢
    generalize hB : edgesOf b.edges n.y = lb at hlb ⊢
    have hdif : dif a.edges b.edges only (k + 1) (seen, n :: q) = match mrg only la lb with
      | some (e, w) => some (n.path ++ [e.act], w)
      | none => dif a.edges b.edges only k (la.foldl (addD b.edges n) (seen, q)) := by rw [← hA, ← hB]; rfl
    rw [hdif]
    refine W.loop (α := Nat × Nat) (fun x => ⟨[(2, .pv (.bool only)), (3, .ptr 3 0), (4, .ptr 4 0), (9, .own 0 ver (off + 1) q.length), (10, .map 0), (11, .ptr 11 0), (12, .pv (.lst 0 (edgs la))), (13, .pv (.lst 0 (edgs lb))), (14, .pv (.int .i64 x.1)), (15, .pv (.int .i64 x.2))], ⟨[(3, [.pv (.int .i64 a.states), .pv (.int .i64 a.start), .pv (.lst t (a.edges.map Edge.c))]), (4, [.pv (.int .i64 b.states), .pv (.int .i64 b.start), .pv (.lst u (b.edges.map Edge.c))]), (11, [.pv (.int .i64 n.x), .pv (.int .i64 n.y), v])], ⟨ver, 3, .inr rows⟩ :: ars, [seenM seen]⟩⟩)
      (fun x => x.1 ≤ la.length ∧ x.2 ≤ lb.length ∧ mrg only (la.drop x.1) (lb.drop x.2) = mrg only la lb) (fun x => (la.length - x.1) + (lb.length - x.2)) (0, 0) rfl ⟨Nat.zero_le _, Nat.zero_le _, rfl⟩ fun x hx => ?_
    obtain ⟨i, j⟩ := x
    obtain ⟨hi, hj, hm⟩ := hx
    dsimp only at hi hj hm
    rw [← hm]
    dsimp only
    rcases Nat.lt_or_ge i la.length with hi' | hi'
    · obtain ⟨x, hx⟩ := get_at hi'
      rw [drop_at hx]
      rcases Nat.lt_or_ge j lb.length with hj' | hj'
      · obtain ⟨y, hy⟩ := get_at hj'
        rw [drop_at hy, mrg_cc]
        simp (disch := omega) only [go_sem]
        refine Br.ofP (fun h => ?_) (fun h => (h (by omega)).elim)
        simp (disch := omega) only [go_sem, h]
        refine Br.ofP (fun h => absurd h (by omega)) (fun h => ?_)
        simp (disch := omega) only [go_sem, h]
        refine Br.ofP (fun h => ?_) (fun h => (h (by omega)).elim)
        simp (disch := omega) only [go_sem, h, hx, hy]
        refine Br.of (fun l1 => ?_) (fun l1 => ?_) <;> simp (disch := omega) only [go_sem, l1, hx, hy]
        · rw [if_pos l1]
          rcases hpv with ⟨rfl, hp⟩ | ⟨id, pv, rfl, hne, hid⟩
          · simp (disch := omega) only [go_sem]
            simp [keepRows, cutRows, difR, Edge.act, hp, acts]
          · simp (disch := omega) only [go_sem, hid]
            have hlt := (List.getElem?_eq_some_iff.1 hid).1
            rw [List.getElem?_set_self hlt]
            simp [keepRows, cutRows, difR, Edge.act, acts, List.take_of_length_le]
        rw [if_neg (by simp [l1])]
        refine Br.ofP (fun h => absurd h (by omega)) (fun h => ?_)
        simp (disch := omega) only [go_sem, h, l1, hx, hy]
        refine Br.of (fun l2 => ?_) (fun l2 => ?_) <;> simp (disch := omega) only [go_sem, l2, hx, hy]
        · rw [if_pos l2]
          cases only with
          | true =>
            simp (disch := omega) only [go_sem, hx, hy]
            refine ⟨(i, j + 1), ⟨hi, by dsimp only; omega, ?_⟩, by dsimp only; omega, rfl⟩
            dsimp only
            rw [if_pos rfl, drop_at hx]
          | false =>
            simp (disch := omega) only [go_sem, hx, hy]
            rcases hpv with ⟨rfl, hp⟩ | ⟨id, pv, rfl, hne, hid⟩
            · simp (disch := omega) only [go_sem]
              simp [keepRows, cutRows, difR, Edge.act, hp, acts]
            · simp (disch := omega) only [go_sem, hid]
              have hlt := (List.getElem?_eq_some_iff.1 hid).1
              rw [List.getElem?_set_self hlt]
              simp [keepRows, cutRows, difR, Edge.act, acts, List.take_of_length_le]
        · rw [if_neg (by simp [l2])]
          exact ⟨(i + 1, j + 1), ⟨by dsimp only; omega, by dsimp only; omega, rfl⟩, by dsimp only; omega, rfl⟩
      · obtain rfl : j = lb.length := by omega
        rw [List.drop_of_length_le hj', mrg_cn]
        simp (disch := omega) only [go_sem]
        refine Br.ofP (fun h => ?_) (fun h => (h (by omega)).elim)
        simp (disch := omega) only [go_sem, h, hx]
        rcases hpv with ⟨rfl, hp⟩ | ⟨id, pv, rfl, hne, hid⟩
        · simp (disch := omega) only [go_sem]
          simp [keepRows, cutRows, difR, Edge.act, hp, acts]
        · simp (disch := omega) only [go_sem, hid]
          have hlt := (List.getElem?_eq_some_iff.1 hid).1
          rw [List.getElem?_set_self hlt]
          simp [keepRows, cutRows, difR, Edge.act, acts, List.take_of_length_le]
    · obtain rfl : i = la.length := by omega
      rw [List.drop_of_length_le hi']
      rcases Nat.lt_or_ge j lb.length with hj' | hj'
      · obtain ⟨y, hy⟩ := get_at hj'
        rw [drop_at hy, mrg_nc]
        simp (disch := omega) only [go_sem]
        refine Br.ofP (fun h => ?_) (fun h => (h (by omega)).elim)
        simp (disch := omega) only [go_sem, h]
        refine Br.ofP (fun h => absurd h (by omega)) (fun h => ?_)
        simp (disch := omega) only [go_sem, h, hy]
        cases only with
        | true =>
          simp (disch := omega) only [go_sem, hy]
          refine ⟨(la.length, j + 1), ⟨hi, by dsimp only; omega, ?_⟩, by dsimp only; omega, rfl⟩
          dsimp only
          rw [if_pos rfl, List.drop_of_length_le hi']
        | false =>
          simp (disch := omega) only [go_sem, hy]
          rcases hpv with ⟨rfl, hp⟩ | ⟨id, pv, rfl, hne, hid⟩
          · simp (disch := omega) only [go_sem]
            simp [keepRows, cutRows, difR, Edge.act, hp, acts]
          · simp (disch := omega) only [go_sem, hid]
            have hlt := (List.getElem?_eq_some_iff.1 hid).1
            rw [List.getElem?_set_self hlt]
            simp [keepRows, cutRows, difR, Edge.act, acts, List.take_of_length_le]
      · obtain rfl : j = lb.length := by omega
        rw [List.drop_of_length_le hj', mrg_nn]
        simp (disch := omega) only [go_sem]
        refine W.loopM (α := Nat × Nat × Nat × List Nd × List (List V) × List Arr × List (Int × Int)) (fun x => ⟨[(2, .pv (.bool only)), (3, .ptr 3 0), (4, .ptr 4 0), (9, .own 0 x.2.1 x.2.2.1 x.2.2.2.1.length), (10, .map 0), (11, .ptr 11 0), (124, .pv (.lst 0 (edgs la))), (125, .pv (.int .i64 la.length)), (126, .pv (.int .i64 x.1))], ⟨[(3, [.pv (.int .i64 a.states), .pv (.int .i64 a.start), .pv (.lst t (a.edges.map Edge.c))]), (4, [.pv (.int .i64 b.states), .pv (.int .i64 b.start), .pv (.lst u (b.edges.map Edge.c))]), (11, [.pv (.int .i64 n.x), .pv (.int .i64 n.y), v])], ⟨x.2.1, 3, .inr x.2.2.2.2.1⟩ :: x.2.2.2.2.2.1, [seenM x.2.2.2.2.2.2]⟩⟩)
          (fun x => x.1 ≤ la.length ∧ DifOk a b k x.2.2.2.2.2.2 x.2.2.2.1 ∧ QRep x.2.2.1 x.2.2.2.1 x.2.2.2.2.1 x.2.2.2.2.2.1 ∧ PathV x.2.2.2.2.2.1 v n.path ∧ n.path.length < x.2.2.2.2.2.2.length ∧ (la.drop x.1).foldl (addD b.edges n) (x.2.2.2.2.2.2, x.2.2.2.1) = la.foldl (addD b.edges n) (seen, q)) (fun x => la.length - x.1) (0, ver, off + 1, q, rows, ars, seen) rfl
          ⟨Nat.zero_le _, ⟨hD.nodup, hD.mem, by have := hD.count; rw [List.length_cons] at this; dsimp only; omega, fun m hm => hD.node m (List.mem_cons_of_mem _ hm), by have := hD.le; omega⟩, hQ.pop, hpv, hpl, rfl⟩ fun x hx => ?_
        obtain ⟨m, ver', off', q', rows', ars', seen'⟩ := x
        obtain ⟨hm', hD', hQ', hpv', hpl', hf⟩ := hx
        dsimp only at hm' hD' hQ' hpv' hpl' hf
        dsimp only
        rw [← hf]
        have hsb' := pairs_bound hD'.nodup (n := a.states.toNat) (m := b.states.toNat) (fun p hp => by
          have := hD'.mem p hp
          omega)
        have hcnt' := hD'.count
        rw [hN] at hcnt'
        have hrl' := hQ'.len
        rcases Nat.lt_or_ge m la.length with hlt | hlt
        · obtain ⟨e, he⟩ := get_at hlt
          rw [drop_at he, List.foldl_cons]
          have hea := List.mem_of_getElem? he
          rw [← hA, edgesOf_mem] at hea
          have hef := fits_iff.1 (ha.fit e hea.1)
          simp (disch := omega) only [go_sem, he]
          refine Br.ofP (fun h => ?_) (fun h => (h (by omega)).elim)
          simp (disch := omega) only [go_sem, he, c1, c2, c3, c4]
          cases hn : nextE n.y e.send e.label b.edges with
          | none =>
            simp (disch := omega) only [go_sem, Option.isSome_none]
            have hadd : addD b.edges n (seen', q') e = (seen', q') := by simp [addD, hn]
            exact ⟨(m + 1, ver', off', q', rows', ars', seen'), ⟨by dsimp only; omega, hD', hQ', hpv', hpl', by rw [hadd]⟩, by dsimp only; omega, rfl⟩
          | some y =>
            simp only [Option.isSome_some, Option.getD_some]
            have hyr : 0 ≤ y ∧ y < b.states := by
              have hmem := (nextE_some hb.apt).1 hn
              have hf2 := fits_iff.1 (hb.fit _ hmem)
              exact ⟨hf2.2.2.1, hf2.2.2.2.1⟩
            have hkb := hD'.le
            simp (disch := omega) only [go_sem, Option.isSome_some]
            by_cases hin : (e.to, y) ∈ seen'
            · obtain ⟨j, hj⟩ := seen_in (i := 0) hin
              have hj : findKey true [1, 1] (.agg [.int .i64 e.to, .int .i64 y]) (seenM seen') 0 = some (some (j, .bool true)) := hj
              simp (disch := omega) only [go_sem, hj]
              have hadd : addD b.edges n (seen', q') e = (seen', q') := by simp [addD, hn, hin]
              exact ⟨(m + 1, ver', off', q', rows', ars', seen'), ⟨by dsimp only; omega, hD', hQ', hpv', hpl', by rw [hadd]⟩, by dsimp only; omega, rfl⟩
            · have hj : findKey true [1, 1] (.agg [.int .i64 e.to, .int .i64 y]) (seenM seen') 0 = some none := seen_no hin
              have hup : updM true [1, 1] (.agg [.int .i64 e.to, .int .i64 y]) (.bool true) 0 (seenM seen') = some { mp := some (0, seenM (seen' ++ [(e.to, y)])) } := by
                rw [← seenM_snoc]
                exact updM_new hj
              simp (disch := omega) only [go_sem, hj, hup]
              rcases hpv' with ⟨rfl, hp⟩ | ⟨id, pv, rfl, hne, hid⟩
              · simp (disch := omega) only [go_sem]
                rw [app_q (r := [.pv (.int .i64 e.to), .pv (.int .i64 y), .own (ars'.length + 1) 0 0 1]) (by simp) rfl hrl' (by omega)]
                simp (disch := omega) only [go_sem]
                have hadd : addD b.edges n (seen', q') e = (seen' ++ [(e.to, y)], q' ++ [⟨e.to, y, n.path ++ [e.act]⟩]) := by simp [addD, hn, hin]
                refine ⟨(m + 1, ver' + 1, 0, q' ++ [⟨e.to, y, n.path ++ [e.act]⟩], (rows'.drop off').take q'.length ++ [[.pv (.int .i64 e.to), .pv (.int .i64 y), .own (ars'.length + 1) 0 0 1]], ars' ++ [⟨0, 2, .inl (acts [(e.send, e.label)])⟩] ++ [⟨0, 3, .inr [[.pv (.int .i64 e.to), .pv (.int .i64 y), .own (ars'.length + 1) 0 0 1]]⟩], seen' ++ [(e.to, y)]), ⟨by dsimp only; omega, hD'.push hin ⟨⟨by omega, by omega⟩, hyr⟩ (by simp; omega), ?_, .inl ⟨rfl, hp⟩, by simp; omega, by rw [hadd]⟩, by dsimp only; omega, ?_⟩
                · rw [List.append_assoc]
                  refine (hQ'.more _).push (n := ⟨e.to, y, n.path ++ [e.act]⟩) (.inr ⟨ars'.length, 0, ?_, by simp, ?_⟩)
                  · simp [hp]
                  · simp [hp, Edge.act]
                · dsimp only
                  rw [List.length_append]
                  rfl
              · have hne' : n.path.length ≠ 0 := fun h => hne (List.eq_nil_of_length_eq_zero h)
                simp (disch := omega) only [go_sem, hid, List.getElem?_concat_length, List.set_append_right, Nat.sub_self, List.set_cons_zero, Nat.le_refl]
                rw [app_q (r := [.pv (.int .i64 e.to), .pv (.int .i64 y), .own (ars'.length + 1) 1 0 (n.path.length + 1)]) (by simp) rfl hrl' (by omega)]
                simp (disch := omega) only [go_sem]
                have hadd : addD b.edges n (seen', q') e = (seen' ++ [(e.to, y)], q' ++ [⟨e.to, y, n.path ++ [e.act]⟩]) := by simp [addD, hn, hin]
                refine ⟨(m + 1, ver' + 1, 0, q' ++ [⟨e.to, y, n.path ++ [e.act]⟩], (rows'.drop off').take q'.length ++ [[.pv (.int .i64 e.to), .pv (.int .i64 y), .own (ars'.length + 1) 1 0 (n.path.length + 1)]], ars' ++ [⟨1, 2, .inl (acts (n.path ++ [(e.send, e.label)]))⟩] ++ [⟨0, 3, .inr [[.pv (.int .i64 e.to), .pv (.int .i64 y), .own (ars'.length + 1) 1 0 (n.path.length + 1)]]⟩], seen' ++ [(e.to, y)]), ⟨by dsimp only; omega, hD'.push hin ⟨⟨by omega, by omega⟩, hyr⟩ (by simp; omega), ?_, ?_, by simp; omega, by rw [hadd]⟩, by dsimp only; omega, ?_⟩
                · rw [List.append_assoc]
                  refine (hQ'.more _).push (n := ⟨e.to, y, n.path ++ [e.act]⟩) (.inr ⟨ars'.length, 1, ?_, by simp, ?_⟩)
                  · simp
                  · simp [Edge.act]
                · dsimp only
                  rw [List.append_assoc]
                  exact PathV.more (.inr ⟨id, pv, rfl, hne, hid⟩) _
                · dsimp only
                  rw [List.length_append]
                  rfl
        · obtain rfl : m = la.length := by omega
          simp (disch := omega) only [go_sem]
          refine ⟨(k, ver', off', q', rows', ars', seen'), ⟨hD', hQ', ?_⟩, by dsimp only; omega, rfl⟩
          dsimp only
          rw [List.drop_of_length_le hlt]
          rfl
end Go.Pv

/-
  Plain laws: what the search for a difference finds.
-/
namespace Go.Pv

theorem lessE_act {a b c d : Edge} (h1 : a.act = c.act) (h2 : b.act = d.act) : lessE a b = lessE c d := by
  simp only [Edge.act, Prod.mk.injEq] at h1 h2
  unfold lessE
  rw [h1.1, h1.2, h2.1, h2.2]
theorem lessE_irr {a b : Edge} (h : a.act = b.act) : lessE a b = false := by
  rw [lessE_act h rfl]
  simp [lessE]
theorem lessE_tr {a b c : Edge} (h1 : lessE a b = true) (h2 : lessE b c = true) : lessE a c = true := by
  unfold lessE at *
  cases ha : a.send <;> cases hb : b.send <;> cases hc : c.send <;> simp_all <;> omega
theorem lessE_tot {a b : Edge} (h1 : lessE a b = false) (h2 : lessE b a = false) : a.act = b.act := by
  unfold lessE at *
  unfold Edge.act
  cases ha : a.send <;> cases hb : b.send <;> simp_all <;> omega
/-- Edges in the order of their actions. -/
def AscE (l : List Edge) : Prop := l.Pairwise fun x y => lessE x y = true
theorem Auto.Good.ascE {a : Auto} (h : a.Good) (s : Int) : AscE (edgesOf a.edges s) := by
  unfold AscE edgesOf
  rw [List.pairwise_filter]
  refine h.asc.imp ?_
  intro x y hxy hx hy
  simp only [beq_iff_eq] at hx hy
  unfold Edge.lt at hxy
  unfold lessE
  rw [hx, hy] at hxy
  cases hs : x.send <;> cases ht : y.send <;> simp_all

/-- What the comparison of two lists says. -/
theorem mrg_spec (o : Bool) : ∀ (la lb : List Edge), AscE la → AscE lb → match mrg o la lb with
    | none => (∀ x ∈ la, ∃ y ∈ lb, y.act = x.act) ∧ (o = false → ∀ y ∈ lb, ∃ x ∈ la, x.act = y.act)
    | some (e, w) => (w = 0 ∧ e ∈ la ∧ ∀ y ∈ lb, y.act ≠ e.act) ∨ (w = 1 ∧ o = false ∧ e ∈ lb ∧ ∀ x ∈ la, x.act ≠ e.act)
  | [], [], _, _ => by
    rw [mrg_nn]
    exact ⟨fun x hx => (List.not_mem_nil hx).elim, fun _ y hy => (List.not_mem_nil hy).elim⟩
  | x :: l, [], _, _ => by
    rw [mrg_cn]
    exact .inl ⟨rfl, by simp, fun y hy => (List.not_mem_nil hy).elim⟩
  | [], y :: m, ha, hb => by
    rw [mrg_nc]
    cases o with
    | true =>
      rw [if_pos rfl]
      have h := mrg_spec true [] m ha (List.pairwise_cons.1 hb).2
      revert h
      cases mrg true [] m with
      | none => exact fun _ => ⟨fun x hx => (List.not_mem_nil hx).elim, fun h => by cases h⟩
      | some r =>
        rintro (⟨_, h, _⟩ | ⟨_, h, _⟩)
        · cases h
        · cases h
    | false =>
      rw [if_neg (by simp)]
      exact .inr ⟨rfl, rfl, by simp, fun x hx => (List.not_mem_nil hx).elim⟩
  | x :: l, y :: m, ha, hb => by
    obtain ⟨ha1, ha2⟩ := List.pairwise_cons.1 ha
    obtain ⟨hb1, hb2⟩ := List.pairwise_cons.1 hb
    have keya : ∀ {z}, lessE z x = true → ∀ u ∈ x :: l, u.act ≠ z.act := fun {z} hz u hu e => by
      rcases List.mem_cons.1 hu with rfl | hu
      · rw [lessE_irr e.symm] at hz; cases hz
      · have := lessE_tr hz (ha1 u hu)
        rw [lessE_irr e.symm] at this; cases this
    have keyb : ∀ {z}, lessE z y = true → ∀ u ∈ y :: m, u.act ≠ z.act := fun {z} hz u hu e => by
      rcases List.mem_cons.1 hu with rfl | hu
      · rw [lessE_irr e.symm] at hz; cases hz
      · have := lessE_tr hz (hb1 u hu)
        rw [lessE_irr e.symm] at this; cases this
    rw [mrg_cc]
    by_cases h1 : lessE x y = true
    · rw [if_pos h1]
      exact .inl ⟨rfl, by simp, keyb h1⟩
    · rw [if_neg h1]
      by_cases h2 : lessE y x = true
      · rw [if_pos h2]
        cases o with
        | true =>
          rw [if_pos rfl]
          have h := mrg_spec true (x :: l) m ha hb2
          revert h
          cases mrg true (x :: l) m with
          | none =>
            rintro ⟨h, _⟩
            refine ⟨fun u hu => ?_, fun h => by cases h⟩
            obtain ⟨v, hv, e⟩ := h u hu
            exact ⟨v, List.mem_cons_of_mem _ hv, e⟩
          | some r =>
            rintro (⟨h3, h4, h5⟩ | ⟨_, h, _⟩)
            · refine .inl ⟨h3, h4, fun v hv => ?_⟩
              rcases List.mem_cons.1 hv with rfl | hv
              · exact fun e => keya h2 _ h4 e.symm
              · exact h5 v hv
            · cases h
        | false =>
          rw [if_neg (by simp)]
          exact .inr ⟨rfl, rfl, by simp, keya h2⟩
      · rw [if_neg h2]
        have he : x.act = y.act := lessE_tot (by simpa using h1) (by simpa using h2)
        have h := mrg_spec o l m ha2 hb2
        revert h
        cases mrg o l m with
        | none =>
          rintro ⟨h3, h4⟩
          refine ⟨fun u hu => ?_, fun ho u hu => ?_⟩
          · rcases List.mem_cons.1 hu with rfl | hu
            · exact ⟨y, by simp, he.symm⟩
            · obtain ⟨v, hv, e⟩ := h3 u hu
              exact ⟨v, List.mem_cons_of_mem _ hv, e⟩
          · rcases List.mem_cons.1 hu with rfl | hu
            · exact ⟨x, by simp, he⟩
            · obtain ⟨v, hv, e⟩ := h4 ho u hu
              exact ⟨v, List.mem_cons_of_mem _ hv, e⟩
        | some r =>
          rintro (⟨h3, h4, h5⟩ | ⟨h3, h0, h4, h5⟩)
          · refine .inl ⟨h3, List.mem_cons_of_mem _ h4, fun v hv => ?_⟩
            rcases List.mem_cons.1 hv with rfl | hv
            · intro e
              have := ha1 _ h4
              rw [lessE_irr (he.trans e)] at this
              cases this
            · exact h5 v hv
          · refine .inr ⟨h3, h0, List.mem_cons_of_mem _ h4, fun v hv => ?_⟩
            rcases List.mem_cons.1 hv with rfl | hv
            · intro e
              have := hb1 _ h4
              rw [lessE_irr (he.symm.trans e)] at this
              cases this
            · exact h5 v hv
termination_by la lb => la.length + lb.length

/-- The same actions, taken in both. -/
inductive PR (a b : List Edge) (s t : Int) : List (Bool × Int) → Int → Int → Prop
  | nil : PR a b s t [] s t
  | snoc {p : List (Bool × Int)} {x y x' y' : Int} {d : Bool} {l : Int} : PR a b s t p x y → nextE x d l a = some x' → nextE y d l b = some y' → PR a b s t (p ++ [(d, l)]) x' y'

theorem addD_fold {a b : Auto} {k : Nat} {n : Nd} (hb : b.Good) : ∀ (l : List Edge) (seen : List (Int × Int)) (q : List Nd), (∀ e ∈ l, 0 ≤ e.to ∧ e.to < a.states) → n.path.length < seen.length → DifOk a b k seen q →
    ∃ seen' qs, l.foldl (addD b.edges n) (seen, q) = (seen', q ++ qs) ∧ DifOk a b k seen' (q ++ qs) ∧ (∀ p ∈ seen, p ∈ seen') ∧ (∀ p ∈ seen', p ∈ seen ∨ ∃ m ∈ qs, (m.x, m.y) = p) ∧
      (∀ m ∈ qs, ∃ e ∈ l, nextE n.y e.send e.label b.edges = some m.y ∧ m.x = e.to ∧ m.path = n.path ++ [e.act]) ∧ (∀ e ∈ l, ∀ y, nextE n.y e.send e.label b.edges = some y → (e.to, y) ∈ seen')
  | [], seen, q, _, _, hD => ⟨seen, [], by simp, by simpa using hD, fun _ h => h, fun _ h => .inl h, fun _ h => (List.not_mem_nil h).elim, fun _ h => (List.not_mem_nil h).elim⟩
  | e :: l, seen, q, hl, hp, hD => by
    have hl' : ∀ e ∈ l, 0 ≤ e.to ∧ e.to < a.states := fun f hf => hl f (List.mem_cons_of_mem _ hf)
    rw [List.foldl_cons]
    by_cases hadd : ∃ y, nextE n.y e.send e.label b.edges = some y ∧ (e.to, y) ∉ seen
    · obtain ⟨y, hy, hns⟩ := hadd
      have hy' := hb.next_in hy
      unfold Auto.inr at hy'
      have h0 : addD b.edges n (seen, q) e = (seen ++ [(e.to, y)], q ++ [⟨e.to, y, n.path ++ [e.act]⟩]) := by simp [addD, hy, hns]
      obtain ⟨seen', qs, h1, h2, h3, h4, h5, h6⟩ := addD_fold (n := n) hb l _ _ hl' (by simp; omega) (hD.push (p := n.path ++ [e.act]) hns ⟨hl e (by simp), hy'⟩ (by simp; omega))
      refine ⟨seen', ⟨e.to, y, n.path ++ [e.act]⟩ :: qs, ?_, ?_, ?_, ?_, ?_, ?_⟩
      · rw [h0, h1, List.append_assoc]
        rfl
      · rw [List.append_assoc] at h2
        exact h2
      · exact fun p hp => h3 p (by simp [hp])
      · intro p hp
        rcases h4 p hp with h | ⟨m, hm, h⟩
        · rw [List.mem_append, List.mem_singleton] at h
          rcases h with h | rfl
          · exact .inl h
          · exact .inr ⟨_, List.mem_cons_self .., rfl⟩
        · exact .inr ⟨m, List.mem_cons_of_mem _ hm, h⟩
      · intro m hm
        rcases List.mem_cons.1 hm with rfl | hm
        · exact ⟨e, by simp, hy, rfl, rfl⟩
        · obtain ⟨f, hf, h⟩ := h5 m hm
          exact ⟨f, List.mem_cons_of_mem _ hf, h⟩
      · intro f hf z hz
        rcases List.mem_cons.1 hf with rfl | hf
        · rw [hy] at hz
          cases hz
          exact h3 _ (by simp)
        · exact h6 f hf z hz
    · have h0 : addD b.edges n (seen, q) e = (seen, q) := by
        unfold addD
        cases hn : nextE n.y e.send e.label b.edges with
        | none => rfl
        | some y =>
          have : (e.to, y) ∈ seen := Classical.byContradiction fun h => hadd ⟨y, hn, h⟩
          simp [this]
      obtain ⟨seen', qs, h1, h2, h3, h4, h5, h6⟩ := addD_fold (n := n) hb l seen q hl' hp hD
      refine ⟨seen', qs, by rw [h0, h1], h2, h3, h4, ?_, ?_⟩
      · intro m hm
        obtain ⟨f, hf, h⟩ := h5 m hm
        exact ⟨f, List.mem_cons_of_mem _ hf, h⟩
      · intro f hf z hz
        rcases List.mem_cons.1 hf with rfl | hf
        · exact h3 _ (Classical.byContradiction fun h => hadd ⟨z, hz, h⟩)
        · exact h6 f hf z hz

theorem dif_spec {a b : Auto} (ha : a.Good) (hb : b.Good) (o : Bool) : ∀ (k : Nat) (seen : List (Int × Int)) (q : List Nd), DifOk a b k seen q → (∀ n ∈ q, PR a.edges b.edges a.start b.start n.path n.x n.y) →
    (∀ x y, (x, y) ∈ seen → (∃ n ∈ q, n.x = x ∧ n.y = y) ∨ (mrg o (edgesOf a.edges x) (edgesOf b.edges y) = none ∧ ∀ d l x' y', nextE x d l a.edges = some x' → nextE y d l b.edges = some y' → (x', y') ∈ seen)) → (a.start, b.start) ∈ seen →
    match dif a.edges b.edges o k (seen, q) with
    | none => ∀ p x y, PR a.edges b.edges a.start b.start p x y → mrg o (edgesOf a.edges x) (edgesOf b.edges y) = none
    | some (p, w) => ∃ (n : Nd) (e : Edge), PR a.edges b.edges a.start b.start n.path n.x n.y ∧ mrg o (edgesOf a.edges n.x) (edgesOf b.edges n.y) = some (e, w) ∧ p = n.path ++ [e.act]
  | k, seen, [], hD, _, hs, h0 => by
    have : dif a.edges b.edges o k (seen, []) = none := by cases k <;> rfl
    rw [this]
    have hin : ∀ p x y, PR a.edges b.edges a.start b.start p x y → (x, y) ∈ seen := fun p x y h => by
      induction h with
      | nil => exact h0
      | snoc _ h1 h2 ih =>
        rcases hs _ _ ih with ⟨n, hn, _⟩ | ⟨_, h⟩
        · cases hn
        · exact h _ _ _ _ h1 h2
    intro p x y h
    rcases hs _ _ (hin p x y h) with ⟨n, hn, _⟩ | ⟨h, _⟩
    · cases hn
    · exact h
  | 0, seen, n :: q, hD, _, _, _ => by
    have h1 := hD.count
    have h2 := pairs_bound hD.nodup (n := a.states.toNat) (m := b.states.toNat) (fun p hp => by
      have := hD.mem p hp
      omega)
    simp at h1
    omega
  | k + 1, seen, n :: q, hD, hq, hs, h0 => by
    have hdif : dif a.edges b.edges o (k + 1) (seen, n :: q) = match mrg o (edgesOf a.edges n.x) (edgesOf b.edges n.y) with
      | some (e, w) => some (n.path ++ [e.act], w)
      | none => dif a.edges b.edges o k ((edgesOf a.edges n.x).foldl (addD b.edges n) (seen, q)) := rfl
    rw [hdif]
    cases hm : mrg o (edgesOf a.edges n.x) (edgesOf b.edges n.y) with
    | some r =>
      obtain ⟨e, w⟩ := r
      exact ⟨n, e, hq n (by simp), hm, rfl⟩
    | none =>
      dsimp only
      have hl := (hD.node n (by simp)).2.2
      obtain ⟨seen', qs, h1, h2, h3, h4, h5, h6⟩ := addD_fold (a := a) (k := k) (n := n) hb (edgesOf a.edges n.x) seen q (fun e he => by
        rw [edgesOf_mem] at he
        have := fits_iff.1 (ha.fit e he.1)
        exact ⟨this.2.2.1, this.2.2.2.1⟩) hl ⟨hD.nodup, hD.mem, by have := hD.count; rw [List.length_cons] at this; omega, fun m hm => hD.node m (List.mem_cons_of_mem _ hm), by have := hD.le; omega⟩
      rw [h1]
      refine dif_spec ha hb o k seen' (q ++ qs) h2 ?_ ?_ (h3 _ h0)
      · intro m hm'
        rcases List.mem_append.1 hm' with hm' | hm'
        · exact hq m (List.mem_cons_of_mem _ hm')
        · obtain ⟨e, he, h7, h8, h9⟩ := h5 m hm'
          rw [edgesOf_mem] at he
          rw [h9, h8]
          refine PR.snoc (d := e.send) (l := e.label) (hq n (by simp)) ((nextE_some ha.apt).2 ?_) h7
          have : (⟨n.x, e.send, e.label, e.to⟩ : Edge) = e := by rw [← he.2]
          rw [this]
          exact he.1
      · intro x y hxy
        have done : ∀ x y, ((∃ m ∈ n :: q, m.x = x ∧ m.y = y) ∨ (mrg o (edgesOf a.edges x) (edgesOf b.edges y) = none ∧ ∀ d l x' y', nextE x d l a.edges = some x' → nextE y d l b.edges = some y' → (x', y') ∈ seen)) → (∃ n ∈ q ++ qs, n.x = x ∧ n.y = y) ∨ (mrg o (edgesOf a.edges x) (edgesOf b.edges y) = none ∧ ∀ d l x' y', nextE x d l a.edges = some x' → nextE y d l b.edges = some y' → (x', y') ∈ seen') := by
          rintro x y (⟨m, hm', rfl, rfl⟩ | ⟨h, h'⟩)
          · rcases List.mem_cons.1 hm' with rfl | hm'
            · refine .inr ⟨hm, fun d l x' y' hx hy => ?_⟩
              exact h6 ⟨m.x, d, l, x'⟩ (edgesOf_mem.2 ⟨(nextE_some ha.apt).1 hx, rfl⟩) y' hy
            · exact .inl ⟨m, List.mem_append_left _ hm', rfl, rfl⟩
          · exact .inr ⟨h, fun d l x' y' hx hy => h3 _ (h' d l x' y' hx hy)⟩
        rcases h4 _ hxy with h | ⟨m, hm', h⟩
        · exact done x y (hs x y h)
        · simp only [Prod.mk.injEq] at h
          exact .inl ⟨m, List.mem_append_right _ hm', h.1, h.2⟩

/-- The search from the two starts. -/
def Auto.dif (a b : Auto) (o : Bool) : Option (List (Bool × Int) × Int) := Pv.dif a.edges b.edges o (a.states.toNat * b.states.toNat + 1) ([(a.start, b.start)], [⟨a.start, b.start, []⟩])
theorem Auto.dif_spec {a b : Auto} (ha : a.Good) (hb : b.Good) (o : Bool) : match a.dif b o with
    | none => ∀ p x y, PR a.edges b.edges a.start b.start p x y → mrg o (edgesOf a.edges x) (edgesOf b.edges y) = none
    | some (p, w) => ∃ (n : Nd) (e : Edge), PR a.edges b.edges a.start b.start n.path n.x n.y ∧ mrg o (edgesOf a.edges n.x) (edgesOf b.edges n.y) = some (e, w) ∧ p = n.path ++ [e.act] := by
  have h1 := ha.st
  have h2 := hb.st
  have h3 := ha.mx
  have h4 := hb.mx
  have := Nat.mul_le_mul (show a.states.toNat ≤ 12 by omega) (show b.states.toNat ≤ 12 by omega)
  refine Pv.dif_spec ha hb o _ _ _ ⟨by simp, by simp; omega, by simp, by simp; omega, by omega⟩ ?_ ?_ (by simp)
  · intro n hn
    rw [List.mem_singleton] at hn
    subst hn
    exact .nil
  · intro x y hxy
    simp only [List.mem_singleton, Prod.mk.injEq] at hxy
    exact .inl ⟨_, List.mem_singleton.2 rfl, hxy.1.symm, hxy.2.symm⟩

end Go.Pv

/-
  Are two automata the same to one who uses them? Both ways of asking.
-/
namespace Go.Pv

/-- The first error of two automata. -/
def bothE (a b : Auto) : Int := if a.err = 0 then b.err else a.err
set_option maxHeartbeats 1000000 in
@[go_sem] theorem r34 (t u : Nat) (a b : Auto) (ha : a.edges.length ≤ 2000000000) (hb : b.edges.length ≤ 2000000000) : res A PrA 34 [.agg [.int .i64 a.states, .int .i64 a.start, .lst t (a.edges.map Edge.c)], .agg [.int .i64 b.states, .int .i64 b.start, .lst u (b.edges.map Edge.c)]] = some [.int .i64 (bothE a b)] := by
  refine res_of a34 rfl rfl ?_
  simp only [F34]
  simp (disch := omega) only [go_sem]
  refine Br.ofP (fun h => ?_) (fun h => ?_) <;> simp (disch := omega) only [go_sem, h]
  · unfold bothE
    rw [if_pos h]
  · unfold bothE
    rw [if_neg h]
set_option maxHeartbeats 1000000 in
@[go_sem] theorem r36 (t u : Nat) (a b : Auto) (ha : a.edges.length ≤ 2000000000) (hb : b.edges.length ≤ 2000000000) : res A PrA 36 [.agg [.int .i64 a.states, .int .i64 a.start, .lst t (a.edges.map Edge.c)], .agg [.int .i64 b.states, .int .i64 b.start, .lst u (b.edges.map Edge.c)]] = some [.int .i64 (bothE a b)] := by
  refine res_of a36 rfl rfl ?_
  simp only [F36]
  simp (disch := omega) only [go_sem]
  refine Br.ofP (fun h => ?_) (fun h => ?_) <;> simp (disch := omega) only [go_sem, h]
  · unfold bothE
    rw [if_pos h]
  · unfold bothE
    rw [if_neg h]
theorem both_good {a b : Auto} (h : bothE a b = 0) : a.Good ∧ b.Good := by
  unfold bothE at h
  by_cases h1 : a.err = 0
  · rw [if_pos h1] at h
    exact ⟨Auto.good_iff.1 h1, Auto.good_iff.1 h⟩
  · rw [if_neg h1] at h
    exact (h1 h).elim
theorem difR_def (r : Option (List (Bool × Int) × Int)) : difR r = [.lst 0 (acts (r.getD ([], 0)).1), .int .i64 (r.getD ([], 0)).2, .bool r.isSome] := by
  cases r with
  | none => rfl
  | some r => rfl
@[go_sem] theorem r35a (t u : Nat) (a b : Auto) (only : Bool) (ht : t ≤ 1) (hu : u ≤ 1) (h : bothE a b = 0) : res A PrA 35 [.agg [.int .i64 a.states, .int .i64 a.start, .lst t (a.edges.map Edge.c)], .agg [.int .i64 b.states, .int .i64 b.start, .lst u (b.edges.map Edge.c)], .bool only] = some [.lst 0 (acts ((a.dif b only).getD ([], 0)).1), .int .i64 ((a.dif b only).getD ([], 0)).2, .bool (a.dif b only).isSome] := by
  rw [r35 t u a b only ht hu (both_good h).1 (both_good h).2, difR_def]
  rfl
set_option maxHeartbeats 1000000 in
/-- The same to one who uses them. -/
@[go_sem] theorem r16 (t u : Nat) (a b : Auto) (ht : t ≤ 1) (hu : u ≤ 1) (ha : a.edges.length ≤ 2000000000) (hb : b.edges.length ≤ 2000000000) : res A PrA 16 [.agg [.int .i64 a.states, .int .i64 a.start, .lst t (a.edges.map Edge.c)], .agg [.int .i64 b.states, .int .i64 b.start, .lst u (b.edges.map Edge.c)]] = some [.bool (decide (bothE a b = 0) && !(a.dif b false).isSome), .int .i64 (bothE a b)] := by
  refine res_of a16 rfl rfl ?_
  simp only [F16]
  simp (disch := omega) only [go_sem]
  refine Br.ofP (fun h => ?_) (fun h => ?_)
  · have h0 := h
    simp (disch := omega) only [go_sem, h0, r35a t u a b false ht hu h0]
  · simp (disch := omega) only [go_sem, h]
set_option maxHeartbeats 1000000 in
/-- All that the first one does, the second one does. -/
@[go_sem] theorem r18 (t u : Nat) (a b : Auto) (ht : t ≤ 1) (hu : u ≤ 1) (ha : a.edges.length ≤ 2000000000) (hb : b.edges.length ≤ 2000000000) : res A PrA 18 [.agg [.int .i64 a.states, .int .i64 a.start, .lst t (a.edges.map Edge.c)], .agg [.int .i64 b.states, .int .i64 b.start, .lst u (b.edges.map Edge.c)]] = some [.bool (decide (bothE a b = 0) && !(a.dif b true).isSome), .int .i64 (bothE a b)] := by
  refine res_of a18 rfl rfl ?_
  simp only [F18]
  simp (disch := omega) only [go_sem]
  refine Br.ofP (fun h => ?_) (fun h => ?_)
  · have h0 := h
    simp (disch := omega) only [go_sem, h0, r35a t u a b true ht hu h0]
  · simp (disch := omega) only [go_sem, h]
/-- What is said of a difference. -/
def distR (a b : Auto) : List PV := if bothE a b = 0 then (match a.dif b false with
  | none => [.lst 0 [], .int .i64 0, .int .i64 15]
  | some (p, w) => [.lst 0 (acts p), .int .i64 w, .int .i64 0]) else [.lst 0 [], .int .i64 0, .int .i64 (bothE a b)]
set_option maxHeartbeats 1000000 in
@[go_sem] theorem r20 (t u : Nat) (a b : Auto) (ht : t ≤ 1) (hu : u ≤ 1) (ha : a.edges.length ≤ 2000000000) (hb : b.edges.length ≤ 2000000000) : res A PrA 20 [.agg [.int .i64 a.states, .int .i64 a.start, .lst t (a.edges.map Edge.c)], .agg [.int .i64 b.states, .int .i64 b.start, .lst u (b.edges.map Edge.c)]] = some (distR a b) := by
  refine res_of a20 rfl rfl ?_
  simp only [F20]
  simp (disch := omega) only [go_sem]
  refine Br.ofP (fun h => ?_) (fun h => ?_)
  · have h0 := h
    simp (disch := omega) only [go_sem, h0, r35a t u a b false ht hu h0]
    unfold distR
    rw [if_pos h0]
    cases hd : a.dif b false with
    | none =>
      simp (disch := omega) only [go_sem, Option.isSome_none]
    | some r =>
      obtain ⟨p, w⟩ := r
      simp (disch := omega) only [go_sem, Option.isSome_some, Option.getD_some]
  · simp (disch := omega) only [go_sem, h]
    simp [h, distR]
set_option maxHeartbeats 1000000 in
@[go_sem] theorem r17 (t u : Nat) (a b : Auto) (ht : t ≤ 1) (hu : u ≤ 1) (ha : a.edges.length ≤ 2000000000) (hb : b.edges.length ≤ 2000000000) : res A PrA 17 [.agg [.int .i64 a.states, .int .i64 a.start, .lst t (a.edges.map Edge.c)], .agg [.int .i64 b.states, .int .i64 b.start, .lst u (b.edges.map Edge.c)]] = some [.bool (decide (bothE a b = 0) && decide (ent (differ a b) a.start b.start = 0)), .int .i64 (bothE a b)] := by
  refine res_of a17 rfl rfl ?_
  simp only [F17]
  simp (disch := omega) only [go_sem]
  refine Br.ofP (fun h => ?_) (fun h => ?_)
  · have h0 := h
    obtain ⟨h1, h2⟩ := both_good h0
    have hM : MatOk a.states.toNat b.states.toNat (differ a b) := (difM_ent h1 h2 _).1
    obtain ⟨l, g1, g2, g3⟩ := hM.get (p := a.start) (q := b.start) (by have := h1.st; omega) (by have := h2.st; omega)
    have s1 := h1.st
    have s2 := h2.st
    have s3 := hM.len
    have s4 := h1.mx
    have s5 := h2.mx
    simp (disch := omega) only [go_sem, h0, r31 t u a b h1 h2, idxR_int, g1, g2, g3]
  · simp (disch := omega) only [go_sem, h]

end Go.Pv

/-
  Plain laws: no difference.
-/
namespace Go.Pv

theorem edge_of_next {a : Auto} (ha : a.Good) {x : Int} {d : Bool} {l t : Int} (h : nextE x d l a.edges = some t) : (⟨x, d, l, t⟩ : Edge) ∈ edgesOf a.edges x := edgesOf_mem.2 ⟨(nextE_some ha.apt).1 h, rfl⟩
theorem next_of_edge {a : Auto} (ha : a.Good) {x : Int} {e : Edge} (h : e ∈ edgesOf a.edges x) : nextE x e.send e.label a.edges = some e.to := by
  obtain ⟨h1, h2⟩ := edgesOf_mem.1 h
  refine (nextE_some ha.apt).2 ?_
  have : (⟨x, e.send, e.label, e.to⟩ : Edge) = e := by rw [← h2]
  rw [this]
  exact h1
theorem mrg_none {a b : Auto} (ha : a.Good) (hb : b.Good) {o : Bool} {x y : Int} (h : mrg o (edgesOf a.edges x) (edgesOf b.edges y) = none) : (∀ d l, (nextE x d l a.edges).isSome = true → (nextE y d l b.edges).isSome = true) ∧ (o = false → ∀ d l, (nextE y d l b.edges).isSome = true → (nextE x d l a.edges).isSome = true) := by
  have hs := mrg_spec o _ _ (ha.ascE x) (hb.ascE y)
  rw [h] at hs
  refine ⟨fun d l hd => ?_, fun ho d l hd => ?_⟩
  · obtain ⟨t, ht⟩ := Option.isSome_iff_exists.1 hd
    obtain ⟨f, hf, he⟩ := hs.1 _ (edge_of_next ha ht)
    simp only [Edge.act, Prod.mk.injEq] at he
    have := next_of_edge hb hf
    rw [he.1, he.2] at this
    rw [this]; rfl
  · obtain ⟨t, ht⟩ := Option.isSome_iff_exists.1 hd
    obtain ⟨f, hf, he⟩ := hs.2 ho _ (edge_of_next hb ht)
    simp only [Edge.act, Prod.mk.injEq] at he
    have := next_of_edge ha hf
    rw [he.1, he.2] at this
    rw [this]; rfl
theorem mrg_some {a b : Auto} (ha : a.Good) (hb : b.Good) {o : Bool} {x y : Int} {e : Edge} {w : Int} (h : mrg o (edgesOf a.edges x) (edgesOf b.edges y) = some (e, w)) :
    (w = 0 ∧ (nextE x e.send e.label a.edges).isSome = true ∧ nextE y e.send e.label b.edges = none) ∨ (w = 1 ∧ o = false ∧ (nextE y e.send e.label b.edges).isSome = true ∧ nextE x e.send e.label a.edges = none) := by
  have hs := mrg_spec o _ _ (ha.ascE x) (hb.ascE y)
  rw [h] at hs
  rcases hs with ⟨h1, h2, h3⟩ | ⟨h1, h0, h2, h3⟩
  · refine .inl ⟨h1, by rw [next_of_edge ha h2]; rfl, ?_⟩
    cases hn : nextE y e.send e.label b.edges with
    | none => rfl
    | some t => exact (h3 _ (edge_of_next hb hn) rfl).elim
  · refine .inr ⟨h1, h0, by rw [next_of_edge hb h2]; rfl, ?_⟩
    cases hn : nextE x e.send e.label a.edges with
    | none => rfl
    | some t => exact (h3 _ (edge_of_next ha hn) rfl).elim
theorem PR.ev {a b : Auto} {p : List (Bool × Int)} {x y : Int} (h : PR a.edges b.edges a.start b.start p x y) (he : ∀ j, Ev a.edges b.edges j a.start b.start) : ∀ j, Ev a.edges b.edges j x y := by
  induction h with
  | nil => exact he
  | @snoc _ _ _ _ _ d l _ h1 h2 ih =>
    intro j
    have := ih (j + 1) d l
    rw [h1, h2] at this
    exact this
/-- No difference: the same lists of actions. -/
theorem dif_none {a b : Auto} (ha : a.Good) (hb : b.Good) : a.dif b false = none ↔ ∀ j, Ev a.edges b.edges j a.start b.start := by
  have hs := Auto.dif_spec ha hb false
  constructor
  · intro h
    rw [h] at hs
    have key : ∀ j p x y, PR a.edges b.edges a.start b.start p x y → Ev a.edges b.edges j x y := by
      intro j
      induction j with
      | zero => exact fun _ _ _ _ => trivial
      | succ j ih =>
        intro p x y hp d l
        obtain ⟨h1, h2⟩ := mrg_none ha hb (hs p x y hp)
        have h1 := h1 d l
        have h2 := h2 rfl d l
        cases hx : nextE x d l a.edges with
        | none =>
          cases hy : nextE y d l b.edges with
          | none => trivial
          | some t => rw [hx, hy] at h2; cases h2 rfl
        | some t =>
          cases hy : nextE y d l b.edges with
          | none => rw [hx, hy] at h1; cases h1 rfl
          | some u => exact ih _ t u (hp.snoc hx hy)
    exact fun j => key j [] _ _ .nil
  · intro he
    cases h : a.dif b false with
    | none => rfl
    | some r =>
      obtain ⟨p, w⟩ := r
      rw [h] at hs
      obtain ⟨n, e, hp, hm, _⟩ := hs
      have h1 := hp.ev he 1 e.send e.label
      rcases mrg_some ha hb hm with ⟨_, h2, h3⟩ | ⟨_, _, h2, h3⟩
      · rw [h3] at h1
        obtain ⟨t, ht⟩ := Option.isSome_iff_exists.1 h2
        rw [ht] at h1
        exact h1.elim
      · rw [h3] at h1
        obtain ⟨t, ht⟩ := Option.isSome_iff_exists.1 h2
        rw [ht] at h1
        exact h1.elim
theorem dif_differ {a b : Auto} (ha : a.Good) (hb : b.Good) : decide (ent (differ a b) a.start b.start = 0) = !(a.dif b false).isSome := by
  have h1 := differ_zero ha hb (p := a.start) (q := b.start) ha.st hb.st
  have h2 := dif_none ha hb
  cases hd : a.dif b false with
  | none =>
    have := h1.2 (h2.1 hd)
    simp [this]
  | some r =>
    have : ¬ ent (differ a b) a.start b.start = 0 := fun h => by
      have := h2.2 (h1.1 h)
      rw [hd] at this
      cases this
    simp [this]
/-- Nothing is lacking anywhere. -/
theorem dif_lack {a b : Auto} (ha : a.Good) (hb : b.Good) : a.dif b true = none ↔ ∀ p x y, PR a.edges b.edges a.start b.start p x y → lackE a.edges b.edges x y = none := by
  have hs := Auto.dif_spec ha hb true
  have hl : ∀ x y, lackE a.edges b.edges x y = none ↔ ∀ d l, (nextE x d l a.edges).isSome = true → (nextE y d l b.edges).isSome = true := fun x y => by
    unfold lackE
    rw [List.find?_eq_none]
    constructor
    · intro h d l hd
      obtain ⟨t, ht⟩ := Option.isSome_iff_exists.1 hd
      have := h _ (edge_of_next ha ht)
      simp only [Bool.not_eq_true, Bool.not_eq_false'] at this
      exact this
    · intro h e he
      have := h e.send e.label (by rw [next_of_edge ha he]; rfl)
      simp [this]
  constructor
  · intro h p x y hp
    rw [h] at hs
    exact (hl x y).2 (mrg_none ha hb (hs p x y hp)).1
  · intro hk
    cases h : a.dif b true with
    | none => rfl
    | some r =>
      obtain ⟨p, w⟩ := r
      rw [h] at hs
      obtain ⟨n, e, hp, hm, _⟩ := hs
      rcases mrg_some ha hb hm with ⟨_, h2, h3⟩ | ⟨_, h0, _⟩
      · have := (hl _ _).1 (hk _ _ _ hp) e.send e.label h2
        rw [h3] at this
        cases this
      · cases h0
end Go.Pv

/-
  A list of pairs.
-/
namespace Go.Pv

set_option maxHeartbeats 1000000 in
@[go_sem] theorem r40 (t : Nat) (l : List (Int × Int)) (x y : Int) (hl : l.length ≤ 2000000000) : res A PrA 40 [.lst t (prs l), .agg [.int .i64 x, .int .i64 y]] = some [.bool (l.any fun p => decide (p = (x, y)))] := by
  refine res_of a40 rfl rfl ?_
  simp only [F40]
  simp (disch := omega) only [go_sem]
  refine W.find l (fun p => decide (p = (x, y))) (fun k => ⟨[(0, .pv (.lst t (prs l))), (3, .ptr 3 0), (5, .pv (.int .i64 k))], ⟨[(3, [.pv (.int .i64 x), .pv (.int .i64 y)])], [], []⟩⟩) rfl (fun k p hp hk hf => ?_) (fun hno => ?_)
  · simp (disch := omega) only [go_sem, hp]
    refine Br.ofP (fun h => ?_) (fun h => (h (by omega)).elim)
    simp (disch := omega) only [go_sem, hp]
    have hpe : (decide (p.1 = x) && decide (p.2 = y)) = decide (p = (x, y)) := by
      obtain ⟨u, v⟩ := p
      simp
    rw [hpe]
    refine Br.of (fun g => ?_) (fun g => ?_) <;> simp (disch := omega) only [go_sem, hp]
    · rw [(hf g).any]
    · exact findK.of g rfl
  · simp (disch := omega) only [go_sem]
    rw [hno.any]

theorem any_pair (l : List (Int × Int)) (x y : Int) : (l.any fun p => decide (p = (x, y))) = decide ((x, y) ∈ l) := by
  by_cases h : (x, y) ∈ l
  · simp [h]
  · rw [decide_eq_false h, List.any_eq_false]
    intro p hp
    simp only [decide_eq_true_eq]
    exact fun e => h (e ▸ hp)
/-- Where the search for something lacking stands. -/
structure LackOk (a b : Auto) (k : Nat) (L : List (Int × Int)) : Prop where
  nodup : L.Nodup
  mem : ∀ p ∈ L, (0 ≤ p.1 ∧ p.1 < a.states) ∧ (0 ≤ p.2 ∧ p.2 < b.states)
  reach : ∀ p ∈ L, ∃ w, PR a.edges b.edges a.start b.start w p.1 p.2
  start : (a.start, b.start) ∈ L
  done : ∀ i x y, i < k → L[i]? = some (x, y) → lackE a.edges b.edges x y = none ∧ ∀ d l x' y', nextE x d l a.edges = some x' → nextE y d l b.edges = some y' → (x', y') ∈ L
theorem LackOk.full {a b : Auto} {L : List (Int × Int)} (h : LackOk a b L.length L) (ha : a.Good) (hb : b.Good) : a.dif b true = none := by
  refine (dif_lack ha hb).2 fun p x y hp => ?_
  have hin : (x, y) ∈ L := by
    induction hp with
    | nil => exact h.start
    | @snoc p x y x' y' d l _ h1 h2 ih =>
      obtain ⟨i, hi⟩ := List.mem_iff_getElem?.1 ih
      exact (h.done i x y (List.getElem?_eq_some_iff.1 hi).1 hi).2 d l x' y' h1 h2
  obtain ⟨i, hi⟩ := List.mem_iff_getElem?.1 hin
  exact (h.done i x y (List.getElem?_eq_some_iff.1 hi).1 hi).1
@[go_sem] theorem app_prs_tl (h : Heap) (l : List (Int × Int)) (x y : Int) (hm : l.length + 1 ≤ 2147483648) : appendV h 2 (.tl (prs l)) (.tl [[.int .i64 x, .int .i64 y]]) = some (.own h.ar.length 0 0 (l.length + 1), { push := [⟨0, 2, .inl (prs (l ++ [(x, y)]))⟩], base := h.ar.length }) := by
  rw [app_tlr h 2 (prs l) [.int .i64 x, .int .i64 y] rfl (fun r hr => by simp only [prs, List.mem_map] at hr; obtain ⟨p, _, rfl⟩ := hr; rfl) (by rw [prs_length]; exact hm), prs_length, prs_snoc]
@[go_sem] theorem app_prs_own (h : Heap) (id ver off len : Nat) (x y : Int) : appendV h 2 (.own id ver off len) (.tl [[.int .i64 x, .int .i64 y]]) = (ownArr h id ver).bind (apR id ver off len 2 [.int .i64 x, .int .i64 y]) := app_ownr h id ver off len 2 _ rfl
@[go_sem] theorem apR_prs {id ver len : Nat} {x y : Int} {l : List (Int × Int)} (h1 : len = l.length) (h2 : l.length + 1 ≤ 2147483648) : apR id ver 0 len 2 [.int .i64 x, .int .i64 y] ⟨ver, 2, .inl (prs l)⟩ = some (.own id (ver + 1) 0 (len + 1), { ar := some (id, ⟨ver + 1, 2, .inl (prs (l ++ [(x, y)]))⟩) }) := by
  rw [apR_ok (by rw [prs_length]; exact h1) (by rw [prs_length]; exact h2), prs_snoc]
def addLk (b : List Edge) (y : Int) (L : List (Int × Int)) (e : Edge) : List (Int × Int) :=
  if (e.to, (nextE y e.send e.label b).getD 0) ∈ L then L else L ++ [(e.to, (nextE y e.send e.label b).getD 0)]
structure LackIn (a b : Auto) (L : List (Int × Int)) (x y : Int) (j : Nat) (M : List (Int × Int)) : Prop where
  nodup : M.Nodup
  mem : ∀ p ∈ M, (0 ≤ p.1 ∧ p.1 < a.states) ∧ (0 ≤ p.2 ∧ p.2 < b.states)
  reach : ∀ p ∈ M, ∃ w, PR a.edges b.edges a.start b.start w p.1 p.2
  pre : ∃ r, M = L ++ r
  upto : ∀ i e, i < j → (edgesOf a.edges x)[i]? = some e → (e.to, (nextE y e.send e.label b.edges).getD 0) ∈ M
theorem lack_next {a b : Auto} {x y : Int} (h : lackE a.edges b.edges x y = none) {e : Edge} (he : e ∈ edgesOf a.edges x) : ∃ t, nextE y e.send e.label b.edges = some t := by
  unfold lackE at h
  rw [List.find?_eq_none] at h
  have := h e he
  simp only [Bool.not_eq_true, Bool.not_eq_false'] at this
  exact Option.isSome_iff_exists.1 this
theorem LackIn.step {a b : Auto} {L M : List (Int × Int)} {x y : Int} {j : Nat} {e : Edge} (h : LackIn a b L x y j M) (ha : a.Good) (hb : b.Good) (hn : lackE a.edges b.edges x y = none) (he : (edgesOf a.edges x)[j]? = some e) (hxy : (x, y) ∈ L) : LackIn a b L x y (j + 1) (addLk b.edges y M e) := by
  have hem := List.mem_of_getElem? he
  obtain ⟨t, ht⟩ := lack_next hn hem
  have hto := ha.next_in (next_of_edge ha hem)
  have hto' := hb.next_in ht
  unfold Auto.inr at hto hto'
  obtain ⟨r, hr⟩ := h.pre
  obtain ⟨w, hw⟩ := h.reach (x, y) (by rw [hr]; exact List.mem_append_left _ hxy)
  have hin : ∀ p, p ∈ addLk b.edges y M e ↔ p ∈ M ∨ p = (e.to, t) := fun p => by
    unfold addLk
    rw [ht, Option.getD_some]
    split
    · constructor
      · exact .inl
      · rintro (h | rfl)
        · exact h
        · assumption
    · simp
  refine ⟨?_, fun p hp => ?_, fun p hp => ?_, ?_, fun i f hi hf => ?_⟩
  · unfold addLk
    split
    · exact h.nodup
    · rw [List.nodup_append]
      rename_i hni
      exact ⟨h.nodup, by simp, fun u hu v hv e' => hni (by rw [List.mem_singleton] at hv; subst hv; subst e'; exact hu)⟩
  · rcases (hin p).1 hp with hp | rfl
    · exact h.mem p hp
    · exact ⟨hto, hto'⟩
  · rcases (hin p).1 hp with hp | rfl
    · exact h.reach p hp
    · exact ⟨_, hw.snoc (next_of_edge ha hem) ht⟩
  · unfold addLk
    split
    · exact ⟨r, hr⟩
    · exact ⟨r ++ [_], by rw [hr, List.append_assoc]⟩
  · rcases Nat.lt_or_ge i j with h1 | h1
    · exact (hin _).2 (.inl (h.upto i f h1 hf))
    · obtain rfl : i = j := by omega
      rw [he] at hf
      cases hf
      rw [ht]
      exact (hin _).2 (.inr rfl)
theorem LackIn.close {a b : Auto} {L M : List (Int × Int)} {x y : Int} {k : Nat} (h : LackIn a b L x y (edgesOf a.edges x).length M) (hL : LackOk a b k L) (ha : a.Good) (hn : lackE a.edges b.edges x y = none) (hxy : L[k]? = some (x, y)) : LackOk a b (k + 1) M ∧ k + 1 ≤ M.length := by
  obtain ⟨r, hr⟩ := h.pre
  have hkl := (List.getElem?_eq_some_iff.1 hxy).1
  have hsub : ∀ p ∈ L, p ∈ M := fun p hp => by rw [hr]; exact List.mem_append_left _ hp
  refine ⟨⟨h.nodup, h.mem, h.reach, hsub _ hL.start, fun i u v hi huv => ?_⟩, by rw [hr, List.length_append]; omega⟩
  rw [hr, List.getElem?_append_left (by omega)] at huv
  rcases Nat.lt_or_ge i k with h1 | h1
  · obtain ⟨h2, h3⟩ := hL.done i u v h1 huv
    exact ⟨h2, fun d l x' y' hx hy => hsub _ (h3 d l x' y' hx hy)⟩
  · obtain rfl : i = k := by omega
    rw [hxy] at huv
    cases huv
    refine ⟨hn, fun d l x' y' hx hy => ?_⟩
    obtain ⟨j, hj⟩ := List.mem_iff_getElem?.1 (edge_of_next ha hx)
    have := h.upto j _ (List.getElem?_eq_some_iff.1 hj).1 hj
    dsimp only at this
    rw [hy] at this
    exact this
set_option maxHeartbeats 4000000 in
@[go_sem] theorem r19 (t u : Nat) (a b : Auto) (ha : a.edges.length ≤ 2000000000) (hb : b.edges.length ≤ 2000000000) : res A PrA 19 [.agg [.int .i64 a.states, .int .i64 a.start, .lst t (a.edges.map Edge.c)], .agg [.int .i64 b.states, .int .i64 b.start, .lst u (b.edges.map Edge.c)]] = some [.bool (decide (bothE a b = 0) && !(a.dif b true).isSome), .int .i64 (bothE a b)] := by
  refine res_of a19 rfl rfl ?_
  simp only [F19]
  simp (disch := omega) only [go_sem]
  refine Br.ofP (fun h => ?_) (fun h => ?_)
  · have h0 := h
    obtain ⟨hga, hgb⟩ := both_good h0
    simp (disch := omega) only [go_sem, h0]
    have hal := hga.len
    have hbl := hgb.len
    have hst := hga.st
    have hst' := hgb.st
    have hmx := hga.mx
    have hmx' := hgb.mx
    have hNb : a.states.toNat * b.states.toNat ≤ 144 := Nat.mul_le_mul (show a.states.toNat ≤ 12 by omega) (show b.states.toNat ≤ 12 by omega)
    refine W.loop (α := Nat × List (Int × Int)) (fun x => ⟨[(2, .ptr 2 0), (3, .ptr 3 0), (7, glV 0 1 (prs x.2)), (8, .pv (.int .i64 x.1))], ⟨[(2, [.pv (.int .i64 a.states), .pv (.int .i64 a.start), .pv (.lst t (a.edges.map Edge.c))]), (3, [.pv (.int .i64 b.states), .pv (.int .i64 b.start), .pv (.lst u (b.edges.map Edge.c))])], glA 2 1 (prs x.2), []⟩⟩)
      (fun x => LackOk a b x.1 x.2 ∧ x.1 ≤ x.2.length) (fun x => 145 - x.1) (0, [(a.start, b.start)]) rfl ⟨⟨by simp, by simp; omega, fun p hp => ⟨[], by rw [List.mem_singleton] at hp; subst hp; exact .nil⟩, by simp, fun i x y hi => absurd hi (by simp)⟩, by simp⟩ fun x hx => ?_
    obtain ⟨k, L⟩ := x
    obtain ⟨hL, hk⟩ := hx
    dsimp only at hL hk
    have hlen := pairs_bound hL.nodup (n := a.states.toNat) (m := b.states.toNat) (fun p hp => by
      have := hL.mem p hp
      omega)
    dsimp only
    simp (disch := omega) only [go_sem]
    refine Br.ofP (fun g => ?_) (fun g => ?_)
    · obtain ⟨⟨x, y⟩, hxy⟩ := get_at (l := L) (k := k) (by omega)
      have hx1 := hL.mem _ (List.mem_of_getElem? hxy)
      dsimp only at hx1
      rcases gl_cases (b := 1) (rows := prs L) with hc | ⟨m, hc⟩
      · rw [glV_lit hc, glA_lit hc]
        rw [prs_length] at hc
        simp (disch := omega) only [go_sem, hxy]
        refine Br.of (fun f => ?_) (fun f => ?_) <;> simp (disch := omega) only [go_sem, f, hxy]
        · have hnn : a.dif b true ≠ none := fun hnn => by
            obtain ⟨w, hw⟩ := hL.reach _ (List.mem_of_getElem? hxy)
            have := (dif_lack hga hgb).1 hnn _ _ _ hw
            dsimp only at this
            rw [this] at f
            cases f
          obtain ⟨r, hr⟩ := Option.ne_none_iff_exists'.1 hnn
          rw [hr, h0]
          rfl
        · have hno : lackE a.edges b.edges x y = none := by
            cases hl : lackE a.edges b.edges x y with
            | none => rfl
            | some r => rw [hl] at f; cases f
          have hla := edgesOf_len a.edges x
          refine W.fold (edgesOf a.edges x) (addLk b.edges y) L (fun j M => ⟨[(2, .ptr 2 0), (3, .ptr 3 0), (7, glV 0 1 (prs M)), (8, .pv (.int .i64 k)), (10, .pv (.int .i64 y)), (13, .pv (.lst 0 (edgs (edgesOf a.edges x)))), (14, .pv (.int .i64 j))], ⟨[(2, [.pv (.int .i64 a.states), .pv (.int .i64 a.start), .pv (.lst t (a.edges.map Edge.c))]), (3, [.pv (.int .i64 b.states), .pv (.int .i64 b.start), .pv (.lst u (b.edges.map Edge.c))])], glA 2 1 (prs M), []⟩⟩)
            (fun j M => LackIn a b L x y j M) (by rw [glV_lit (by rw [prs_length]; exact hc), glA_lit (by rw [prs_length]; exact hc)]; rfl) ⟨hL.nodup, hL.mem, hL.reach, ⟨[], by simp⟩, fun i e hi => absurd hi (Nat.not_lt_zero _)⟩ (fun j e M he hj _ hM => ?_) (fun M _ hM => ?_)
          · have hM' := hM.step hga hgb hno he (List.mem_of_getElem? hxy)
            have hMl := pairs_bound hM.nodup (n := a.states.toNat) (m := b.states.toNat) (fun p hp => by
              have := hM.mem p hp
              omega)
            have hM1 : 1 ≤ M.length := by
              obtain ⟨r, hr⟩ := hM.pre
              rw [hr, List.length_append]
              omega
            obtain ⟨z, hz⟩ := lack_next hno (List.mem_of_getElem? he)
            have hin : (e.to, z) ∈ M → addLk b.edges y M e = M := fun hi => by unfold addLk; rw [hz, Option.getD_some, if_pos hi]
            have hout : (e.to, z) ∉ M → addLk b.edges y M e = M ++ [(e.to, z)] := fun hi => by unfold addLk; rw [hz, Option.getD_some, if_neg hi]
            rcases gl_cases (b := 1) (rows := prs M) with hc | ⟨m, hc⟩
            · rw [glV_lit hc, glA_lit hc]
              rw [prs_length] at hc
              simp (disch := omega) only [go_sem, he]
              refine Br.ofP (fun h => ?_) (fun h => (h (by omega)).elim)
              simp (disch := omega) only [go_sem, he, hz, any_pair, Option.getD_some]
              refine Br.ofP (fun f2 => ?_) (fun f2 => ?_) <;> simp (disch := omega) only [go_sem, f2, he]
              · refine foldK.of ?_ hM'
                show _ = St.mk _ _
                rw [hin f2, glV_lit (by rw [prs_length]; exact hc), glA_lit (by rw [prs_length]; exact hc)]
                rfl
              · refine foldK.of ?_ hM'
                show _ = St.mk _ _
                rw [hout f2, ← prs_snoc, glV_snoc (by rw [prs_length]; exact hM1), glA_snoc (by rw [prs_length]; exact hM1), prs_length, show M.length - 1 = 0 by omega]
                rfl
            · rw [glV_own hc, glA_own hc]
              rw [prs_length] at hc
              have htk : (prs M).take (1 + m + 1) = prs M := List.take_of_length_le (by rw [prs_length]; omega)
              simp (disch := omega) only [go_sem, he]
              refine Br.ofP (fun h => ?_) (fun h => (h (by omega)).elim)
              simp (disch := omega) only [go_sem, he, hz, any_pair, htk, Option.getD_some]
              refine Br.ofP (fun f2 => ?_) (fun f2 => ?_) <;> simp (disch := omega) only [go_sem, f2, he, htk]
              · refine foldK.of ?_ hM'
                show _ = St.mk _ _
                rw [hin f2, glV_own (by rw [prs_length]; exact hc), glA_own (by rw [prs_length]; exact hc)]
                rfl
              · refine foldK.of ?_ hM'
                show _ = St.mk _ _
                rw [hout f2, ← prs_snoc, glV_snoc (by rw [prs_length]; exact hM1), glA_snoc (by rw [prs_length]; exact hM1), prs_length, show M.length - 1 = m + 1 by omega, hc]
                rfl
          · simp (disch := omega) only [go_sem]
            obtain ⟨h8, h9⟩ := hM.close hL hga hno hxy
            exact ⟨(k + 1, M), ⟨h8, h9⟩, by dsimp only; omega, rfl⟩
      · rw [glV_own hc, glA_own hc]
        rw [prs_length] at hc
        simp (disch := omega) only [go_sem, hxy]
        refine Br.of (fun f => ?_) (fun f => ?_) <;> simp (disch := omega) only [go_sem, f, hxy]
        · have hnn : a.dif b true ≠ none := fun hnn => by
            obtain ⟨w, hw⟩ := hL.reach _ (List.mem_of_getElem? hxy)
            have := (dif_lack hga hgb).1 hnn _ _ _ hw
            dsimp only at this
            rw [this] at f
            cases f
          obtain ⟨r, hr⟩ := Option.ne_none_iff_exists'.1 hnn
          rw [hr, h0]
          rfl
        · have hno : lackE a.edges b.edges x y = none := by
            cases hl : lackE a.edges b.edges x y with
            | none => rfl
            | some r => rw [hl] at f; cases f
          have hla := edgesOf_len a.edges x
          refine W.fold (edgesOf a.edges x) (addLk b.edges y) L (fun j M => ⟨[(2, .ptr 2 0), (3, .ptr 3 0), (7, glV 0 1 (prs M)), (8, .pv (.int .i64 k)), (10, .pv (.int .i64 y)), (13, .pv (.lst 0 (edgs (edgesOf a.edges x)))), (14, .pv (.int .i64 j))], ⟨[(2, [.pv (.int .i64 a.states), .pv (.int .i64 a.start), .pv (.lst t (a.edges.map Edge.c))]), (3, [.pv (.int .i64 b.states), .pv (.int .i64 b.start), .pv (.lst u (b.edges.map Edge.c))])], glA 2 1 (prs M), []⟩⟩)
            (fun j M => LackIn a b L x y j M) (by rw [glV_own (by rw [prs_length]; exact hc), glA_own (by rw [prs_length]; exact hc)]; rfl) ⟨hL.nodup, hL.mem, hL.reach, ⟨[], by simp⟩, fun i e hi => absurd hi (Nat.not_lt_zero _)⟩ (fun j e M he hj _ hM => ?_) (fun M _ hM => ?_)
          · have hM' := hM.step hga hgb hno he (List.mem_of_getElem? hxy)
            have hMl := pairs_bound hM.nodup (n := a.states.toNat) (m := b.states.toNat) (fun p hp => by
              have := hM.mem p hp
              omega)
            have hM1 : 1 ≤ M.length := by
              obtain ⟨r, hr⟩ := hM.pre
              rw [hr, List.length_append]
              omega
            obtain ⟨z, hz⟩ := lack_next hno (List.mem_of_getElem? he)
            have hin : (e.to, z) ∈ M → addLk b.edges y M e = M := fun hi => by unfold addLk; rw [hz, Option.getD_some, if_pos hi]
            have hout : (e.to, z) ∉ M → addLk b.edges y M e = M ++ [(e.to, z)] := fun hi => by unfold addLk; rw [hz, Option.getD_some, if_neg hi]
            rcases gl_cases (b := 1) (rows := prs M) with hc | ⟨m, hc⟩
            · rw [glV_lit hc, glA_lit hc]
              rw [prs_length] at hc
              simp (disch := omega) only [go_sem, he]
              refine Br.ofP (fun h => ?_) (fun h => (h (by omega)).elim)
              simp (disch := omega) only [go_sem, he, hz, any_pair, Option.getD_some]
              refine Br.ofP (fun f2 => ?_) (fun f2 => ?_) <;> simp (disch := omega) only [go_sem, f2, he]
              · refine foldK.of ?_ hM'
                show _ = St.mk _ _
                rw [hin f2, glV_lit (by rw [prs_length]; exact hc), glA_lit (by rw [prs_length]; exact hc)]
                rfl
              · refine foldK.of ?_ hM'
                show _ = St.mk _ _
                rw [hout f2, ← prs_snoc, glV_snoc (by rw [prs_length]; exact hM1), glA_snoc (by rw [prs_length]; exact hM1), prs_length, show M.length - 1 = 0 by omega]
                rfl
            · rw [glV_own hc, glA_own hc]
              rw [prs_length] at hc
              have htk : (prs M).take (1 + m + 1) = prs M := List.take_of_length_le (by rw [prs_length]; omega)
              simp (disch := omega) only [go_sem, he]
              refine Br.ofP (fun h => ?_) (fun h => (h (by omega)).elim)
              simp (disch := omega) only [go_sem, he, hz, any_pair, htk, Option.getD_some]
              refine Br.ofP (fun f2 => ?_) (fun f2 => ?_) <;> simp (disch := omega) only [go_sem, f2, he, htk]
              · refine foldK.of ?_ hM'
                show _ = St.mk _ _
                rw [hin f2, glV_own (by rw [prs_length]; exact hc), glA_own (by rw [prs_length]; exact hc)]
                rfl
              · refine foldK.of ?_ hM'
                show _ = St.mk _ _
                rw [hout f2, ← prs_snoc, glV_snoc (by rw [prs_length]; exact hM1), glA_snoc (by rw [prs_length]; exact hM1), prs_length, show M.length - 1 = m + 1 by omega, hc]
                rfl
          · simp (disch := omega) only [go_sem]
            obtain ⟨h8, h9⟩ := hM.close hL hga hno hxy
            exact ⟨(k + 1, M), ⟨h8, h9⟩, by dsimp only; omega, rfl⟩
    · obtain rfl : k = L.length := by omega
      have hd := hL.full hga hgb
      simp (disch := omega) only [go_sem]
      rw [hd, h0]
      rfl
  · simp (disch := omega) only [go_sem, h]

end Go.Pv

/-
  The law of being the same.
-/
namespace Go.Pv

theorem r9_two (a b : Auto) : res A PrA 9 [.lst 0 [[.int .i64 a.states, .int .i64 a.start, .lst 0 (a.edges.map Edge.c)], [.int .i64 b.states, .int .i64 b.start, .lst 0 (b.edges.map Edge.c)]]] = some [.bool (decide ((a.edges.length : Int) ≤ 110) && decide ((b.edges.length : Int) ≤ 110))] := by
  have := r9 [a, b] (by simp)
  simpa [Auto.row] using this
theorem same_differ (a b : Auto) : (decide (bothE a b = 0) && decide (ent (differ a b) a.start b.start = 0)) = (decide (bothE a b = 0) && !(a.dif b false).isSome) := by
  by_cases h : bothE a b = 0
  · rw [dif_differ (both_good h).1 (both_good h).2]
  · simp [h]
set_option maxHeartbeats 1000000 in
/-- MinimalEquivalent. -/
theorem r1 (a b : Auto) (ha : a.edges.length ≤ 2 ^ 63 - 1) (hb : b.edges.length ≤ 2 ^ 63 - 1) : res A PrA 1 [.agg [.int .i64 a.states, .int .i64 a.start, .lst 0 (a.edges.map Edge.c)], .agg [.int .i64 b.states, .int .i64 b.start, .lst 0 (b.edges.map Edge.c)]] = some [.bool true] := by
  refine res_of a1 rfl rfl ?_
  simp only [F1]
  simp (disch := omega) only [go_sem, r8, r9_two]
  refine Br.of (fun h1 => ?_) (fun h1 => ?_)
  · simp only [Bool.and_eq_true, decide_eq_true_eq] at h1
    have hal : a.edges.length ≤ 110 := by omega
    have hbl : b.edges.length ≤ 110 := by omega
    simp (disch := omega) only [go_sem, same_differ]
  · simp (disch := omega) only [go_sem, r8]

end Go.Pv

