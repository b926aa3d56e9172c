/-
  What the functions of the law give.
-/
import Derived.Test.YtnhbggnlnfcpkaaC1
set_option linter.unusedSimpArgs false
set_option linter.unusedVariables false
/-
  Lists that begin as a literal and grow by appending; rows of arrays of the call's own.
-/
namespace Go.Pv

/-- A list of which the first b rows were written out. Its array is the n-th. -/
def glV (n b : Nat) (rows : List (List PV)) : V := if rows.length ≤ b then .tl rows else .own n (rows.length - b - 1) 0 rows.length
def glA (k b : Nat) (rows : List (List PV)) : List Arr := if rows.length ≤ b then [] else [⟨rows.length - b - 1, k, .inl rows⟩]
theorem glV_lit {n b : Nat} {rows : List (List PV)} (h : rows.length ≤ b) : glV n b rows = .tl rows := if_pos h
theorem glA_lit {k b : Nat} {rows : List (List PV)} (h : rows.length ≤ b) : glA k b rows = [] := if_pos h
theorem glV_own {n b m : Nat} {rows : List (List PV)} (h : rows.length = b + m + 1) : glV n b rows = .own n m 0 (b + m + 1) := by
  unfold glV
  rw [if_neg (by omega), h, show b + m + 1 - b - 1 = m by omega]
theorem glA_own {k b m : Nat} {rows : List (List PV)} (h : rows.length = b + m + 1) : glA k b rows = [⟨m, k, .inl rows⟩] := by
  unfold glA
  rw [if_neg (by omega), h, show b + m + 1 - b - 1 = m by omega]
theorem gl_cases {b : Nat} {rows : List (List PV)} : rows.length ≤ b ∨ ∃ m, rows.length = b + m + 1 := by
  rcases Nat.lt_or_ge b rows.length with h | h
  · exact .inr ⟨rows.length - b - 1, by omega⟩
  · exact .inl h
theorem glV_snoc {n b : Nat} {rows : List (List PV)} {r : List PV} (h : b ≤ rows.length) : glV n b (rows ++ [r]) = .own n (rows.length - b) 0 (rows.length + 1) := by
  rw [glV_own (m := rows.length - b) (by simp; omega), show b + (rows.length - b) + 1 = rows.length + 1 by omega]
theorem glA_snoc {k b : Nat} {rows : List (List PV)} {r : List PV} (h : b ≤ rows.length) : glA k b (rows ++ [r]) = [⟨rows.length - b, k, .inl (rows ++ [r])⟩] := glA_own (by simp; omega)

/-- Rows appended to an array of the call's own. -/
def apR (id ver off len k : Nat) (r : List PV) (a : Arr) : Option (V × Tn) :=
  if off + len ≤ a.size ∧ a.k = k ∧ len + 1 ≤ mostRows then some (.own id (ver + 1) 0 (len + 1), { ar := some (id, ⟨ver + 1, k, catRows (cutRows off len a.body) (.inl [r])⟩) }) else none
theorem app_ownr (h : Heap) (id ver off len k : Nat) (r : List PV) (hr : r.length = k) : appendV h k (.own id ver off len) (.tl [r]) = (ownArr h id ver).bind (apR id ver off len k r) := by
  cases ho : ownArr h id ver with
  | none => simp [appendV, srcRows, rowsFit, ho]
  | some a =>
    simp only [appendV, srcRows, rowsFit, ho, rowsLen, apR, List.all_cons, List.all_nil, List.length_cons, List.length_nil, Option.bind_some, hr, beq_self_eq_true, Bool.and_self, if_true]
    by_cases h1 : off + len ≤ a.size <;> by_cases h2 : a.k = k <;> by_cases h3 : len + 1 ≤ mostRows <;> simp [h1, h2, h3]
theorem apR_ok {id ver len k : Nat} {r : List PV} {l : List (List PV)} (h1 : len = l.length) (h2 : l.length + 1 ≤ 2147483648) : apR id ver 0 len k r ⟨ver, k, .inl l⟩ = some (.own id (ver + 1) 0 (len + 1), { ar := some (id, ⟨ver + 1, k, .inl (l ++ [r])⟩) }) := by
  subst h1
  unfold apR
  rw [if_pos ⟨by simp [Arr.size], rfl, h2⟩]
  simp [catRows, cutRows]
theorem app_tlr (h : Heap) (k : Nat) (rows : List (List PV)) (r : List PV) (hr : r.length = k) (hk : ∀ x ∈ rows, x.length = k) (hm : rows.length + 1 ≤ 2147483648) : appendV h k (.tl rows) (.tl [r]) = some (.own h.ar.length 0 0 (rows.length + 1), { push := [⟨0, k, .inl (rows ++ [r])⟩], base := h.ar.length }) := by
  have : (rows.all fun x => x.length == k) = true := by simpa using hk
  simp [appendV, srcRows, rowsFit, rowsLen, mostRows, catRows, hr, this, hm]
@[go_sem] theorem app_tli (h : Heap) (l : List Int) (x : Int) (hm : l.length + 1 ≤ 2147483648) : appendV h 1 (.tl (ints l)) (.tl [[.int .i64 x]]) = some (.own h.ar.length 0 0 (l.length + 1), { push := [⟨0, 1, .inl (ints (l ++ [x]))⟩], base := h.ar.length }) := by
  rw [app_tlr h 1 (ints l) [.int .i64 x] rfl (by simp [ints]) (by rw [ints_length]; exact hm), ints_length, ints_snoc]

@[go_sem] theorem lenV_gl (h : Heap) (n b : Nat) (rows : List (List PV)) : lenV h 0 (glV n b rows) = some (rows.length, {}) := by unfold glV; split <;> rfl
@[go_sem] theorem cells_gl (n b : Nat) (rows : List (List PV)) : V.cells (glV n b rows) = [glV n b rows] := by unfold glV; split <;> rfl
@[go_sem] theorem calm_gl (n b : Nat) (rows : List (List PV)) : V.calm (glV n b rows) = true := by unfold glV; split <;> rfl
@[go_sem] theorem sized_gl (n b : Nat) (rows : List (List PV)) : V.sized (glV n b rows) = true := by unfold glV; split <;> rfl
@[go_sem] theorem scrub_gl (kb : List Nat) (n b : Nat) (rows : List (List PV)) : scrub kb (glV n b rows) = glV n b rows := by unfold glV; split <;> rfl
@[go_sem] theorem okc_gl (kb : List Nat) (n b : Nat) (rows : List (List PV)) : okc kb (glV n b rows) = true := by unfold glV; split <;> rfl
@[go_sem] theorem keep_gl (h : Heap) (n b : Nat) (rows : List (List PV)) : keep h false (glV n b rows) = keepc h 4 (glV n b rows) := by unfold glV; split <;> rfl
@[go_sem] theorem lend_gl (h : Heap) (n b : Nat) (rows : List (List PV)) : lend h (glV n b rows) = lendc h 4 (glV n b rows) := by unfold glV; split <;> rfl
def glG (b : Nat) (rows : List (List PV)) : Nat := if rows.length ≤ b then 0 else 1
theorem keepc_gl (bx : List (Nat × List V)) (mp : List (List (PV × PV))) (pre : List Arr) (k b d : Nat) (rows : List (List PV)) : keepc ⟨bx, pre ++ glA k b rows, mp⟩ (d + 1) (glV pre.length b rows) = some (.lst 0 rows) := by
  unfold glV glA
  split
  · rfl
  · simp [keepc_own, ownArr, keepRows, cutRows]
theorem lendc_gl (bx : List (Nat × List V)) (mp : List (List (PV × PV))) (pre : List Arr) (k b d : Nat) (rows : List (List PV)) : lendc ⟨bx, pre ++ glA k b rows, mp⟩ (d + 1) (glV pre.length b rows) = some (.lst (glG b rows) rows) := by
  unfold glV glA glG
  split
  · rfl
  · simp [lendc, ownArr, cutRows]
@[go_sem] theorem keepc_gl0 (bx : List (Nat × List V)) (mp : List (List (PV × PV))) (k b : Nat) (rows : List (List PV)) : keepc ⟨bx, glA k b rows, mp⟩ 4 (glV 0 b rows) = some (.lst 0 rows) := keepc_gl bx mp [] k b 3 rows
@[go_sem] theorem keepc_gl1 (bx : List (Nat × List V)) (mp : List (List (PV × PV))) (a : Arr) (k b : Nat) (rows : List (List PV)) : keepc ⟨bx, a :: glA k b rows, mp⟩ 4 (glV 1 b rows) = some (.lst 0 rows) := keepc_gl bx mp [a] k b 3 rows
@[go_sem] theorem lendc_gl0 (bx : List (Nat × List V)) (mp : List (List (PV × PV))) (k b : Nat) (rows : List (List PV)) : lendc ⟨bx, glA k b rows, mp⟩ 4 (glV 0 b rows) = some (.lst (glG b rows) rows) := lendc_gl bx mp [] k b 3 rows
@[go_sem] theorem lendc_gl1 (bx : List (Nat × List V)) (mp : List (List (PV × PV))) (a : Arr) (k b : Nat) (rows : List (List PV)) : lendc ⟨bx, a :: glA k b rows, mp⟩ 4 (glV 1 b rows) = some (.lst (glG b rows) rows) := lendc_gl bx mp [a] k b 3 rows

attribute [go_sem] Int.lt_irrefl

end Go.Pv

/-
  Lists that are equal; beginnings of lists.
-/
namespace Go.Pv

theorem take_step {α : Type} {a b : List α} {k : Nat} {x y : α} (hx : a[k]? = some x) (hy : b[k]? = some y) (h : a.take k = b.take k) (e : x = y) : a.take (k + 1) = b.take (k + 1) := by
  rw [List.take_add_one, List.take_add_one, hx, hy, h, e]
theorem takes_all {α : Type} {a b : List α} {k : Nat} (ha : a.length ≤ k) (hb : b.length ≤ k) (h : a.take k = b.take k) : a = b := by
  rwa [List.take_of_length_le ha, List.take_of_length_le hb] at h

end Go.Pv

/-
  Edges put in order by the reference.
-/
namespace Go.Pv

@[go_sem] theorem edgs_snocc (l : List Edge) (f : Int) (d : Bool) (x t : Int) : edgs l ++ [[.int .i64 f, .bool d, .int .i64 x, .int .i64 t]] = edgs (l ++ [⟨f, d, x, t⟩]) := by simp [edgs, Edge.c]
theorem edge_eta (e : Edge) : (⟨e.fr, e.send, e.label, e.to⟩ : Edge) = e := rfl
@[go_sem] theorem edgs_store {id row ver : Nat} {f x t : Int} {d : Bool} {l : List Edge} (h1 : row < l.length) : storeRow id row 0 [.pv (.int .i64 f), .pv (.bool d), .pv (.int .i64 x), .pv (.int .i64 t)] ⟨ver, 4, .inl (edgs l)⟩ = some { ar := some (id, ⟨ver, 4, .inl (edgs (l.set row ⟨f, d, x, t⟩))⟩) } := by
  rw [storeRow_inl (l := [.int .i64 f, .bool d, .int .i64 x, .int .i64 t]) (by rw [edgs_length]; exact h1) rfl (by simp) rfl]
  have : over row 0 [.int .i64 f, .bool d, .int .i64 x, .int .i64 t] (edgs l) = edgs (l.set row ⟨f, d, x, t⟩) := by
    unfold over edgs
    rw [List.map_set]
    congr 1
    obtain ⟨e, he⟩ : ∃ e, l[row]? = some e := ⟨l[row], by simp [h1]⟩
    simp [he, Edge.c]
  rw [this]

end Go.Pv

/-
  Duals.
-/
namespace Go.Pv

theorem fold_map {α β : Type} (f : α → β) : ∀ (l : List α) (o : List β), l.foldl (fun o x => o ++ [f x]) o = o ++ l.map f
  | [], o => by simp
  | x :: l, o => by rw [List.foldl_cons, fold_map f l]; simp
theorem fold_filter {α β : Type} (p : α → Bool) (f : α → β) : ∀ (l : List α) (o : List β), l.foldl (fun o x => if p x = true then o ++ [f x] else o) o = o ++ (l.filter p).map f
  | [], o => by simp
  | x :: l, o => by
    rw [List.foldl_cons, fold_filter p f l]
    by_cases h : p x = true <;> simp [h]
theorem cloneP_edgs (h : Heap) (t : Nat) (l : List Edge) (ht : t ≤ 1) (hl : l.length ≤ 2147483648) : cloneP 4 [.pv (.lst t (l.map Edge.c))] h = some (if l.length = 0 then (.tl [], {}) else (.own h.ar.length 0 0 l.length, { push := [⟨0, 4, .inl (edgs l)⟩], base := h.ar.length })) := by
  have h1 : ((l.map Edge.c).all fun x => x.length == 4) = true := by simp [Edge.c]
  have h2 : l.length ≤ mostRows := hl
  by_cases h0 : l.length = 0 <;> simp [cloneP, srcRows, rowsFit, ht, h1, h2, h0, edgs]

/-- The first k turned. -/
def mapTo {α : Type} (f : α → α) (l : List α) (k : Nat) : List α := (l.take k).map f ++ l.drop k
theorem mapTo_len {α : Type} (f : α → α) (l : List α) (k : Nat) : (mapTo f l k).length = l.length := by simp [mapTo]; omega
theorem mapTo_get {α : Type} {f : α → α} {l : List α} {k : Nat} {e : α} (h : l[k]? = some e) : (mapTo f l k)[k]? = some e := by
  have hk := (List.getElem?_eq_some_iff.1 h).1
  unfold mapTo
  rw [List.getElem?_append_right (by simp; omega)]
  simp [Nat.min_eq_left (Nat.le_of_lt hk), h]
theorem mapTo_set {α : Type} {f : α → α} {l : List α} {k : Nat} {e : α} (h : l[k]? = some e) : (mapTo f l k).set k (f e) = mapTo f l (k + 1) := by
  have hk := (List.getElem?_eq_some_iff.1 h).1
  unfold mapTo
  rw [List.set_append_right _ _ (by simp; omega), drop_at h, List.take_add_one, h]
  simp [Nat.min_eq_left (Nat.le_of_lt hk)]
theorem mapTo_all {α : Type} (f : α → α) (l : List α) : mapTo f l l.length = l.map f := by simp [mapTo]
theorem mapTo_zero {α : Type} (f : α → α) (l : List α) : mapTo f l 0 = l := by simp [mapTo]
@[go_sem] theorem edgs_store1 {id row ver : Nat} {d : Bool} {l : List Edge} {e : Edge} (h : l[row]? = some e) : storeRow id row 1 [.pv (.bool d)] ⟨ver, 4, .inl (edgs l)⟩ = some { ar := some (id, ⟨ver, 4, .inl (edgs (l.set row ⟨e.fr, d, e.label, e.to⟩))⟩) } := by
  have hk := (List.getElem?_eq_some_iff.1 h).1
  rw [storeRow_inl (l := [.bool d]) (by rw [edgs_length]; exact hk) rfl (by simp) rfl]
  have : over row 1 [.bool d] (edgs l) = edgs (l.set row ⟨e.fr, d, e.label, e.to⟩) := by
    unfold over edgs
    rw [List.map_set]
    congr 1
    simp [h, Edge.c]
  rw [this]
theorem edgs_dec (l : List Edge) : mapO Edge.dec (edgs l) = some l := by
  induction l with
  | nil => rfl
  | cons x l ih =>
    show mapO Edge.dec (x.c :: edgs l) = _
    have : Edge.dec x.c = some x := rfl
    simp only [mapO, this, ih]
@[go_sem] theorem sortP_tl (k g : Nat) (f : List (List PV) → Option (List (List PV))) (h : Heap) : sortP k f g [.tl [], .func g []] h = some (.tup [], {}) := by simp [sortP]
theorem sortP_edgs {h : Heap} {id ver n : Nat} {l : List Edge} (hn : n = l.length) (ho : ownArr h id ver = some ⟨ver, 4, .inl (edgs l)⟩) (h0 : l.length ≠ 0) (hm : l.length ≤ 2147483648) (hap : l.Pairwise (apt Edge.lt)) :
    sortP 4 (sortRows Edge.c Edge.dec Edge.lt) 47 [.own id ver 0 n, .func 47 []] h = some (.tup [], { ar := some (id, ⟨ver, 4, .inl (edgs (isort Edge.lt l))⟩) }) := by
  subst hn
  have e1 : (edgs l).length = l.length := edgs_length l
  have hr := rising_of (isort_pw Edge.lt_tr hap)
  simp [sortP, ho, h0, e1, mostRows, hm, sortRows, edgs_dec, hr, List.take_of_length_le (Nat.le_of_eq e1), List.drop_eq_nil_of_le (Nat.le_of_eq e1)]
  rfl

end Go.Pv

/-
  Automata that are equal.
-/
namespace Go.Pv

theorem edge_ext {a b : Edge} (h1 : a.fr = b.fr) (h2 : a.send = b.send) (h3 : a.label = b.label) (h4 : a.to = b.to) : a = b := by
  cases a; cases b; simp_all
theorem edge_dec (a b : Edge) : (decide (a.fr = b.fr) && (decide (a.send = b.send) && (decide (a.label = b.label) && decide (a.to = b.to)))) = decide (a = b) := by
  by_cases h : a = b
  · subst h; simp
  · have : ¬ (a.fr = b.fr ∧ a.send = b.send ∧ a.label = b.label ∧ a.to = b.to) := fun ⟨h1, h2, h3, h4⟩ => h (edge_ext h1 h2 h3 h4)
    simp only [h, decide_false, Bool.and_eq_false_iff, decide_eq_false_iff_not]
    by_cases h1 : a.fr = b.fr <;> by_cases h2 : a.send = b.send <;> by_cases h3 : a.label = b.label <;> by_cases h4 : a.to = b.to <;> simp_all
end Go.Pv

/-
  Plain laws: automata of drafts.
-/
namespace Go.Pv

structure Arc where
  fr : Int
  act : Int
  to : Int
  deriving DecidableEq, Inhabited
structure Draft where
  n : Int
  arcs : List Arc
  deriving DecidableEq, Inhabited
def Arc.c (x : Arc) : List PV := [.int .u8 x.fr, .int .u8 x.act, .int .u8 x.to]
def Arc.ok (x : Arc) : Prop := (0 ≤ x.fr ∧ x.fr ≤ 255) ∧ (0 ≤ x.act ∧ x.act ≤ 255) ∧ (0 ≤ x.to ∧ x.to ≤ 255)
def Draft.ok (d : Draft) : Prop := (0 ≤ d.n ∧ d.n ≤ 255) ∧ d.arcs.length ≤ 2 ^ 63 - 1 ∧ ∀ x ∈ d.arcs, x.ok
/-- The edge of an arc. -/
def Arc.edge (st : Int) (x : Arc) : Edge := ⟨x.fr % st, decide (x.act % 2 = 1), 1 + x.act / 2 % 3, x.to % st⟩
def addE (es : List Edge) (e : Edge) : List Edge := if (nextE e.fr e.send e.label es).isSome = true then es else es ++ [e]
def Draft.raw (d : Draft) : List Edge := (d.arcs.take 12).foldl (fun es x => addE es (x.edge (1 + d.n % 4))) []
def Draft.auto (d : Draft) : Auto := ⟨1 + d.n % 4, 0, sortB Edge.lt d.raw⟩

theorem nextE_none {s : Int} {d : Bool} {x : Int} : ∀ {es : List Edge}, (nextE s d x es).isSome = false ↔ ∀ e ∈ es, ¬ (e.fr = s ∧ e.send = d ∧ e.label = x)
  | [] => by simp [nextE]
  | e :: r => by
    unfold nextE
    split
    · rename_i h
      simp [h]
    · rename_i h
      rw [nextE_none]
      simp only [List.mem_cons]
      exact ⟨fun hh y hy => hy.elim (fun e => e ▸ h) (hh y), fun hh y hy => hh y (.inr hy)⟩
theorem addE_apt {es : List Edge} {e : Edge} (h : es.Pairwise (apt Edge.lt)) : (addE es e).Pairwise (apt Edge.lt) := by
  unfold addE
  split
  · exact h
  · rename_i hn
    have hn' := nextE_none.1 (by simpa using hn)
    rw [List.pairwise_append]
    refine ⟨h, List.pairwise_singleton _ _, fun a ha b hb => ?_⟩
    rw [List.mem_singleton] at hb
    subst hb
    rw [Edge.apt_iff]
    exact hn' a ha
theorem addE_len (es : List Edge) (e : Edge) : (addE es e).length ≤ es.length + 1 := by
  unfold addE
  split <;> simp
theorem addE_mem {es : List Edge} {e x : Edge} (h : x ∈ addE es e) : x ∈ es ∨ x = e := by
  unfold addE at h
  split at h
  · exact .inl h
  · simpa using h
theorem raw_spec {st : Int} (hs : 1 ≤ st ∧ st ≤ 4) : ∀ (l : List Arc) (es : List Edge), (∀ x ∈ l, x.ok) → es.Pairwise (apt Edge.lt) → (∀ e ∈ es, e.fits st = true) →
    (l.foldl (fun es x => addE es (x.edge st)) es).Pairwise (apt Edge.lt) ∧ (∀ e ∈ l.foldl (fun es x => addE es (x.edge st)) es, e.fits st = true) ∧ (l.foldl (fun es x => addE es (x.edge st)) es).length ≤ es.length + l.length
  | [], es, _, h1, h2 => ⟨h1, h2, by simp⟩
  | x :: l, es, hx, h1, h2 => by
    have hxo := hx x (by simp)
    have hf : (x.edge st).fits st = true := by
      rw [fits_iff]
      have a1 := Int.emod_nonneg x.fr (b := st) (by omega)
      have a2 := Int.emod_lt_of_pos x.fr (b := st) (by omega)
      have a3 := Int.emod_nonneg x.to (b := st) (by omega)
      have a4 := Int.emod_lt_of_pos x.to (b := st) (by omega)
      simp only [Arc.edge]
      omega
    obtain ⟨g1, g2, g3⟩ := raw_spec hs l (addE es (x.edge st)) (fun y hy => hx y (by simp [hy])) (addE_apt h1) fun e he => by
      rcases addE_mem he with h | h
      · exact h2 e h
      · exact h ▸ hf
    have := addE_len es (x.edge st)
    exact ⟨g1, g2, by simp only [List.foldl_cons, List.length_cons]; omega⟩
theorem Draft.st {d : Draft} : 1 ≤ 1 + d.n % 4 ∧ 1 + d.n % 4 ≤ 4 := by omega
theorem Draft.raw_ok {d : Draft} (h : d.ok) : d.raw.Pairwise (apt Edge.lt) ∧ (∀ e ∈ d.raw, e.fits (1 + d.n % 4) = true) ∧ d.raw.length ≤ 12 := by
  obtain ⟨h1, h2, h3⟩ := raw_spec d.st (d.arcs.take 12) [] (fun x hx => h.2.2 x (List.mem_of_mem_take hx)) List.Pairwise.nil (fun e he => absurd he (by simp))
  refine ⟨h1, h2, ?_⟩
  have : (d.arcs.take 12).length ≤ 12 := by simp; omega
  simp only [List.length_nil] at h3
  unfold Draft.raw
  omega
theorem Draft.len {d : Draft} (h : d.ok) : d.auto.edges.length ≤ 12 := by
  have := (sortB_perm Edge.lt d.raw).length_eq
  have := d.raw_ok h
  show (sortB Edge.lt d.raw).length ≤ 12
  omega
/-- The automaton of a draft, with any start, has no error. -/
theorem Draft.good {d : Draft} (h : d.ok) {s : Int} (hs : 0 ≤ s ∧ s < 1 + d.n % 4) : (⟨1 + d.n % 4, s, d.auto.edges⟩ : Auto).Good where
  st := hs
  mx := by
    have := d.st
    show 1 + d.n % 4 ≤ 12
    omega
  len := by
    have := d.len h
    show d.auto.edges.length ≤ 100
    omega
  fit e he := (d.raw_ok h).2.1 e ((sortB_perm Edge.lt d.raw).subset he)
  asc := sortB_sorted Edge.lt_tr (d.raw_ok h).1

end Go.Pv

/-
  Automata of drafts.
-/
namespace Go.Pv

@[go_sem] theorem binV_rem_pos {k : IntKind} {a b : Int} (ha : 0 ≤ a) (hb : 0 < b) : binV .rem (.pv (.int k a)) (.pv (.int k b)) = some (.pv (.int k (a % b))) := by
  rw [binV_rem (by omega), Int.tmod_eq_emod_of_nonneg ha]
@[go_sem] theorem binV_quo_u8 {a b : Int} (ha : 0 ≤ a) (hb : 0 < b) (h2 : a ≤ 255) : binV .quo (.pv (.int .u8 a)) (.pv (.int .u8 b)) = some (.pv (.int .u8 (a / b))) := by
  rw [binV_quo (by omega), Int.tdiv_eq_ediv_of_nonneg ha, wrap_u8]
  · exact Int.ediv_nonneg ha (by omega)
  · exact Int.le_trans (Int.ediv_le_self b ha) h2
attribute [go_sem] wrap_u8

end Go.Pv

/-
  What can be reached, as the reference finds it.
-/
namespace Go.Pv

theorem fold_outs (es : List Edge) (v : Int) : ∀ o : List Int, es.foldl (fun o e => if e.fr = v then addN o e.to else o) o = addL o (outs es v) := by
  induction es with
  | nil => intro o; rfl
  | cons e es ih =>
    intro o
    rw [List.foldl_cons, ih]
    by_cases h : e.fr = v
    · rw [if_pos h]
      simp [outs, h, addL_cons]
    · rw [if_neg h]
      simp [outs, h]
theorem glV_ints {n b : Nat} {o : List Int} {x : Int} (h : b ≤ o.length) : glV n b (ints (o ++ [x])) = .own n (o.length - b) 0 (o.length + 1) := by
  rw [← ints_snoc, glV_snoc (by rw [ints_length]; exact h), ints_length]
theorem glA_ints {b : Nat} {o : List Int} {x : Int} (h : b ≤ o.length) : glA 1 b (ints (o ++ [x])) = [⟨o.length - b, 1, .inl (ints (o ++ [x]))⟩] := by
  rw [← ints_snoc, glA_snoc (by rw [ints_length]; exact h), ints_length]
theorem ints_len (l : List Int) : (ints l).length = l.length := ints_length l

end Go.Pv

/-
  What can be reached, as the program finds it.
-/
namespace Go.Pv

/-- The first k are x, the others y. -/
def fillTo (x y : Int) (n k : Nat) : List Int := List.replicate k x ++ List.replicate (n - k) y
theorem fillTo_len {x y : Int} {n k : Nat} (h : k ≤ n) : (fillTo x y n k).length = n := by simp [fillTo]; omega
theorem fillTo_zero (x y : Int) (n : Nat) : fillTo x y n 0 = List.replicate n y := by simp [fillTo]
theorem fillTo_all (x y : Int) (n : Nat) : fillTo x y n n = List.replicate n x := by simp [fillTo]
theorem fillTo_succ {x y : Int} {n k : Nat} (h : k < n) : (fillTo x y n k).set k x = fillTo x y n (k + 1) := by
  unfold fillTo
  rw [List.set_append_right _ _ (by simp)]
  obtain ⟨m, hm⟩ : ∃ m, n - k = m + 1 := ⟨n - k - 1, by omega⟩
  have : n - (k + 1) = m := by omega
  rw [hm, this, List.replicate_succ' (n := k), List.append_assoc]
  simp [List.replicate_succ]

/-- The place of each number in a list. -/
def places (n : Nat) (o : List Int) : List Int := (List.range n).map fun (v : Nat) => atL (v : Int) o
theorem places_len (n : Nat) (o : List Int) : (places n o).length = n := by simp [places]
theorem places_get {n : Nat} {o : List Int} {v : Int} (h : 0 ≤ v ∧ v < n) : (places n o)[v.toNat]? = some (atL v o) := by
  unfold places
  rw [List.getElem?_map, List.getElem?_range (by omega)]
  simp only [Option.map_some]
  rw [show ((v.toNat : Nat) : Int) = v by omega]
theorem atFrom_snoc {x y : Int} : ∀ {l : List Int} {k : Nat}, x ∉ l → atFrom y k (l ++ [x]) = if y ∈ l then atFrom y k l else if y = x then ((k + l.length : Nat) : Int) else -1
  | [], k, _ => by
    simp only [List.nil_append, atFrom, List.not_mem_nil, if_false, List.length_nil, Nat.add_zero]
    by_cases h : x = y
    · simp [h]
    · have : ¬ y = x := fun e => h e.symm
      simp [h, this]
  | z :: l, k, hx => by
    simp only [List.mem_cons, not_or] at hx
    simp only [List.cons_append, atFrom]
    by_cases h : z = y
    · simp [h]
    · have hz : ¬ y = z := fun e => h e.symm
      rw [if_neg h, atFrom_snoc hx.2]
      simp only [List.mem_cons, hz, false_or, List.length_cons]
      split
      · rfl
      · split
        · congr 1
          omega
        · rfl
theorem atL_snoc {x y : Int} {l : List Int} (hx : x ∉ l) : atL y (l ++ [x]) = if y ∈ l then atL y l else if y = x then (l.length : Int) else -1 := by
  unfold atL
  rw [atFrom_snoc hx]
  simp
theorem atL_no {x : Int} {l : List Int} (h : x ∉ l) : atL x l = -1 := by
  have : ∀ {l : List Int} {k : Nat}, x ∉ l → atFrom x k l = -1 := by
    intro l
    induction l with
    | nil => intro k _; rfl
    | cons y l ih =>
      intro k h
      simp only [List.mem_cons, not_or] at h
      unfold atFrom
      rw [if_neg (fun e => h.1 e.symm), ih h.2]
  exact this h
theorem places_snoc {n : Nat} {o : List Int} {x : Int} (hx : x ∉ o) (h : 0 ≤ x ∧ x < n) : (places n o).set x.toNat (o.length : Int) = places n (o ++ [x]) := by
  apply List.ext_getElem?
  intro i
  rcases Nat.lt_or_ge i n with hi | hi
  · have e1 := places_get (n := n) (o := o ++ [x]) (v := (i : Int)) (by omega)
    rw [Int.toNat_natCast] at e1
    rw [e1, atL_snoc hx]
    by_cases hix : x.toNat = i
    · have : (i : Int) = x := by omega
      rw [hix, List.getElem?_set_self (by rw [places_len]; exact hi), if_neg (by rw [this]; exact hx), if_pos this]
    · have hne : ¬ (i : Int) = x := by omega
      have e2 := places_get (n := n) (o := o) (v := (i : Int)) (by omega)
      rw [Int.toNat_natCast] at e2
      rw [List.getElem?_set_ne hix, e2]
      split
      · rfl
      · rename_i hno
        first
          | rw [atL_no hno]
          | rw [if_neg hne, atL_no hno]
  · rw [List.getElem?_eq_none (by simp [places_len, hi]), List.getElem?_eq_none (by simp [places_len, hi])]
theorem places_nil (n : Nat) : places n [] = List.replicate n (-1) := by
  apply List.ext_getElem?
  intro i
  rcases Nat.lt_or_ge i n with hi | hi
  · have e1 := places_get (n := n) (o := []) (v := (i : Int)) (by omega)
    rw [Int.toNat_natCast] at e1
    rw [e1]
    simp [hi]
    rfl
  · rw [List.getElem?_eq_none (by simp [places_len, hi]), List.getElem?_eq_none (by simp [hi])]

end Go.Pv

/-
  Trimmed automata, runs, proper automata (of the reference).
-/
namespace Go.Pv

theorem kept_fold (o : List Int) (es : List Edge) : es.foldl (fun r e => if 0 ≤ atL e.fr o then r ++ [e.ren o] else r) [] = kept o es := by
  have h := fold_filter (fun e : Edge => decide (e.fr ∈ o)) (Edge.ren o) es []
  rw [List.nil_append] at h
  rw [← show _ = kept o es from h]
  congr 1
  funext r e
  by_cases hc : e.fr ∈ o
  · simp [hc, atL_pos]
  · simp [hc, atL_pos]
theorem kept_len (o : List Int) (es : List Edge) : (kept o es).length ≤ es.length := by
  unfold kept
  rw [List.length_map]
  exact List.length_filter_le _ _

/-- What a sort turns. -/
def srtT (l : List Edge) : Tn := if l.length = 0 then {} else { ar := some (0, ⟨l.length - 1, 4, .inl (edgs (isort Edge.lt l))⟩) }
theorem sortP_gr {bx : List (Nat × List V)} {mp : List (List (PV × PV))} {l : List Edge} (hm : l.length ≤ 2147483648) (hap : l.Pairwise (apt Edge.lt)) :
    sortP 4 (sortRows Edge.c Edge.dec Edge.lt) 47 [grV 0 (edgs l), .func 47 []] ⟨bx, grA 4 (edgs l), mp⟩ = some (.tup [], srtT l) := by
  rcases Nat.eq_zero_or_pos l.length with h | h
  · have : l = [] := List.eq_nil_of_length_eq_zero h
    subst this
    simp [srtT, edgs, grV, sortP]
  · obtain ⟨m, hm'⟩ : ∃ m, (edgs l).length = m + 1 := ⟨l.length - 1, by rw [edgs_length]; omega⟩
    rw [grV_own hm', grA_own hm']
    rw [edgs_length] at hm'
    rw [sortP_edgs (l := l) hm'.symm (by simp [ownArr]) (by omega) hm hap, srtT, if_neg (by omega), hm']
    rfl
@[go_sem] theorem srtT_apply (bx : List (Nat × List V)) (mp : List (List (PV × PV))) (l : List Edge) : (srtT l).apply ⟨bx, grA 4 (edgs l), mp⟩ = ⟨bx, grA 4 (edgs (isort Edge.lt l)), mp⟩ := by
  have hp := (isort_perm Edge.lt l).length_eq
  rcases Nat.eq_zero_or_pos l.length with h | h
  · have : l = [] := List.eq_nil_of_length_eq_zero h
    subst this
    simp [srtT, edgs, isort, Tn.apply, grA]
  · obtain ⟨m, hm'⟩ : ∃ m, (edgs l).length = m + 1 := ⟨l.length - 1, by rw [edgs_length]; omega⟩
    have hm2 : (edgs (isort Edge.lt l)).length = m + 1 := by rw [edgs_length, hp, ← edgs_length]; exact hm'
    rw [grA_own hm', grA_own hm2]
    rw [edgs_length] at hm'
    simp [srtT, Tn.apply, hm']
theorem grV_len {n : Nat} {a b : List (List PV)} (h : a.length = b.length) : grV n a = grV n b := by
  cases a <;> cases b <;> simp_all [grV]

end Go.Pv

/-
  Runs.
-/
namespace Go.Pv

def actC (x : Bool × Int) : List PV := [.bool x.1, .int .i64 x.2]
@[go_sem] theorem actC_eq (x : Bool × Int) : actC x = [.bool x.1, .int .i64 x.2] := rfl
/-- Actions, each a row. -/
def acts (l : List (Bool × Int)) : List (List PV) := l.map actC
@[go_sem] theorem acts_length (l : List (Bool × Int)) : (acts l).length = l.length := by simp [acts]
@[go_sem] theorem acts_get (l : List (Bool × Int)) (i : Nat) : (acts l)[i]? = l[i]?.map actC := by simp [acts]
theorem runE_len (es : List Edge) : ∀ (l : List (Bool × Int)) (s : Int), (runE es s l).2 ≤ l.length
  | [], _ => Nat.le_refl _
  | (d, x) :: r, s => by
    unfold runE
    split
    · simp
    · rename_i t _
      have := runE_len es r t
      simp
      omega

end Go.Pv

/-
  Searches of the library; the errors of graphs.
-/
namespace Go.Pv

@[go_sem] theorem r118 (t : Nat) (l : List Int) (x : Int) (hl : l.length ≤ 2 ^ 63 - 1) : res A PrA 118 [.lst t (ints l), .int .i64 x] = some [.int .i64 (atL x l)] := by
  refine res_of a118 rfl rfl ?_
  simp only [F118]
  simp (disch := omega) only [go_sem]
  refine W.upto l.length (fun k => ⟨[(0, .pv (.lst t (ints l))), (1, .pv (.int .i64 x)), (7, .pv (.int .i64 l.length)), (8, .pv (.int .i64 k))], ⟨[], [], []⟩⟩) (fun k => atL x l = atFrom x k (l.drop k)) rfl rfl fun k hk hi => ?_
  simp (disch := omega) only [go_sem]
  refine Br.ofP (fun h => ?_) (fun h => ?_)
  · obtain ⟨y, hy⟩ := get_at (l := l) (k := k) (by omega)
    rw [drop_at hy] at hi
    simp (disch := omega) only [go_sem, hy]
    refine Br.ofP (fun g1 => ?_) (fun g1 => ?_) <;> simp (disch := omega) only [go_sem, g1]
    · have hi' := hi
      rw [show atL y l = atL x l by rw [g1], hi']
      simp only [atFrom, if_pos g1.symm]
    · exact .of (by omega) rfl (hi.trans (by simp only [atFrom, if_neg (fun e => g1 (Eq.symm e))]))
  · simp (disch := omega) only [go_sem]
    rw [hi, drop_end h]
    rfl
/-- The first place where something holds, or -1. -/
def idxP {α : Type} (p : α → Bool) (l : List α) : Int := match l.findIdx? p with
  | some k => k
  | none => -1
theorem idxP_pos {α : Type} {p : α → Bool} {l : List α} : decide (0 ≤ idxP p l) = l.any p := by
  unfold idxP
  cases h : l.findIdx? p with
  | none =>
    rw [List.findIdx?_eq_none_iff] at h
    have : l.any p = false := by rw [List.any_eq_false]; intro x hx; simp [h x hx]
    simp [this]
  | some k =>
    rw [List.findIdx?_eq_some_iff_getElem] at h
    obtain ⟨hk, hp, _⟩ := h
    have : l.any p = true := List.any_eq_true.2 ⟨_, List.getElem_mem hk, hp⟩
    simp [this]
theorem Found.idxP {α : Type} {l : List α} {p : α → Bool} {k : Nat} {x : α} (h : Found l p k x) : idxP p l = k := by
  unfold Pv.idxP
  rw [h.idx]
theorem Nowhere.idxP {α : Type} {l : List α} {p : α → Bool} (h : Nowhere l p) : idxP p l = -1 := by
  unfold Pv.idxP
  rw [h.idx]

theorem r117 (g t u : Nat) (cs : List PV) (l : List Int) (p : Int → Bool) (hl : l.length ≤ 2 ^ 63 - 1) (hi : inls A g = false) (hp : PrA g = none) (ht : takes A g = false) (hf : ∀ x ∈ l, res A PrA g [.int .i64 x, .ro u cs] = some [.bool (p x)]) : res A PrA 117 [.lst t (ints l), .func g [.ro u cs]] = some [.int .i64 (idxP p l)] := by
  refine res_of a117 rfl rfl ?_
  simp only [F117]
  simp (disch := omega) only [go_sem]
  refine W.find l p (fun k => ⟨[(0, .pv (.lst t (ints l))), (1, .pv (.func g [.ro u cs])), (7, .pv (.int .i64 l.length)), (8, .pv (.int .i64 k))], ⟨[], [], []⟩⟩) rfl (fun k x hx hk hfd => ?_) (fun hn => ?_)
  · have hfx := hf x (List.mem_of_getElem? hx)
    simp (disch := omega) only [go_sem]
    refine Br.ofP (fun h => ?_) (fun h => (h (by omega)).elim)
    simp (disch := omega) only [go_sem, hx, CW_none hi hp ht, hfx]
    refine Br.of (fun h2 => ?_) (fun h2 => ?_) <;> simp (disch := omega) only [go_sem]
    · rw [(hfd h2).idxP]
    · exact findK.of h2 rfl
  · simp (disch := omega) only [go_sem]
    rw [hn.idxP]
theorem r108 (g t u : Nat) (cs : List PV) (l : List Int) (p : Int → Bool) (hl : l.length ≤ 2 ^ 63 - 1) (hi : inls A g = false) (hp : PrA g = none) (ht : takes A g = false) (hf : ∀ x ∈ l, res A PrA g [.int .i64 x, .ro u cs] = some [.bool (p x)]) : res A PrA 108 [.lst t (ints l), .func g [.ro u cs]] = some [.bool (l.any p)] := by
  refine res_of a108 rfl rfl ?_
  simp only [F108]
  have := r117 g t u cs l p hl hi hp ht hf
  simp (disch := omega) only [go_sem, this]
  rw [idxP_pos]

/-- Pairs of numbers, each a row. -/
def prs (l : List (Int × Int)) : List (List PV) := l.map fun x => [.int .i64 x.1, .int .i64 x.2]
@[go_sem] theorem prs_length (l : List (Int × Int)) : (prs l).length = l.length := by simp [prs]
@[go_sem] theorem prs_nil : prs [] = [] := rfl
@[go_sem] theorem prs_get (l : List (Int × Int)) (i : Nat) : (prs l)[i]? = l[i]?.map fun x => [.int .i64 x.1, .int .i64 x.2] := by simp [prs]
@[go_sem] theorem prs_snoc (l : List (Int × Int)) (a b : Int) : prs l ++ [[.int .i64 a, .int .i64 b]] = prs (l ++ [(a, b)]) := by simp [prs]
theorem r138 (g t u : Nat) (cs : List PV) (l : List (Int × Int)) (p : Int × Int → Bool) (hl : l.length ≤ 2 ^ 63 - 1) (hi : inls A g = false) (hp : PrA g = none) (ht : takes A g = false) (hf : ∀ x ∈ l, res A PrA g [.agg [.int .i64 x.1, .int .i64 x.2], .ro u cs] = some [.bool (p x)]) : res A PrA 138 [.lst t (prs l), .func g [.ro u cs]] = some [.int .i64 (idxP p l)] := by
  refine res_of a138 rfl rfl ?_
  simp only [F138]
  simp (disch := omega) only [go_sem]
  refine W.find l p (fun k => ⟨[(0, .pv (.lst t (prs l))), (1, .pv (.func g [.ro u cs])), (7, .pv (.int .i64 l.length)), (8, .pv (.int .i64 k))], ⟨[], [], []⟩⟩) rfl (fun k x hx hk hfd => ?_) (fun hn => ?_)
  · have hfx := hf x (List.mem_of_getElem? hx)
    simp (disch := omega) only [go_sem]
    refine Br.ofP (fun h => ?_) (fun h => (h (by omega)).elim)
    simp (disch := omega) only [go_sem, hx, CW_none hi hp ht, hfx]
    refine Br.of (fun h2 => ?_) (fun h2 => ?_) <;> simp (disch := omega) only [go_sem]
    · rw [(hfd h2).idxP]
    · exact findK.of h2 rfl
  · simp (disch := omega) only [go_sem]
    rw [hn.idxP]
theorem r134 (g t u : Nat) (cs : List PV) (l : List (Int × Int)) (p : Int × Int → Bool) (hl : l.length ≤ 2 ^ 63 - 1) (hi : inls A g = false) (hp : PrA g = none) (ht : takes A g = false) (hf : ∀ x ∈ l, res A PrA g [.agg [.int .i64 x.1, .int .i64 x.2], .ro u cs] = some [.bool (p x)]) : res A PrA 134 [.lst t (prs l), .func g [.ro u cs]] = some [.bool (l.any p)] := by
  refine res_of a134 rfl rfl ?_
  simp only [F134]
  have := r138 g t u cs l p hl hi hp ht hf
  simp (disch := omega) only [go_sem, this]
  rw [idxP_pos]

/-- An edge that is out of range. -/
def badP (n : Int) (x : Int × Int) : Bool := decide (min x.1 x.2 < 0) || decide (n ≤ max x.1 x.2)
@[go_sem] theorem r135 (x : Int × Int) (u : Nat) (n : Int) (cs : List PV) : res A PrA 135 [.agg [.int .i64 x.1, .int .i64 x.2], .ro u (.int .i64 n :: cs)] = some [.bool (badP n x)] := by
  refine res_of a135 rfl rfl ?_
  simp only [F135]
  simp (disch := omega) only [go_sem]
  unfold badP
  refine Br.ofP (fun h => ?_) (fun h => ?_) <;> simp (disch := omega) only [go_sem, h]
/-- The error of a graph. -/
def gErr (n : Int) (es : List (Int × Int)) : Int := if 2000 < n ∨ 40000 < es.length then 3 else if n < 0 ∨ es.any (badP n) = true then 1 else 0
@[go_sem] theorem r128 (t : Nat) (n : Int) (es : List (Int × Int)) (hl : es.length ≤ 2 ^ 63 - 1) : res A PrA 128 [.int .i64 n, .lst t (prs es)] = some [.int .i64 (gErr n es)] := by
  refine res_of a128 rfl rfl ?_
  simp only [F128]
  simp (disch := omega) only [go_sem]
  unfold gErr
  refine Br.ofP (fun h1 => ?_) (fun h1 => ?_) <;> simp (disch := omega) only [go_sem, h1]
  · rw [if_pos (.inl trivial)]
  refine Br.ofP (fun h2 => ?_) (fun h2 => ?_) <;> simp (disch := omega) only [go_sem, h2]
  · rw [if_pos (by omega)]
  rw [if_neg (by omega)]
  refine Br.ofP (fun h3 => ?_) (fun h3 => ?_) <;> simp (disch := omega) only [go_sem, h3]
  · rw [if_pos (.inl trivial)]
  have h134 := r134 135 t 2 [.int .i64 n] es (badP n) hl (by kernel_rfl) (by kernel_rfl) (by kernel_rfl) (fun x _ => r135 x 2 n [])
  simp (disch := omega) only [go_sem, h134]
  refine Br.of (fun h4 => ?_) (fun h4 => ?_) <;> simp (disch := omega) only [go_sem]
  · rw [if_pos (.inr h4)]
  · rw [if_neg (by simp [h3, h4])]
@[go_sem] theorem r129 (x : Int) (u : Nat) (n : Int) (cs : List PV) : res A PrA 129 [.int .i64 x, .ro u (.int .i64 n :: cs)] = some [.bool (decide (x < 0) || decide (n ≤ x))] := by
  refine res_of a129 rfl rfl ?_
  simp only [F129]
  simp (disch := omega) only [go_sem]
  refine Br.ofP (fun h => ?_) (fun h => ?_) <;> simp (disch := omega) only [go_sem, h]
/-- The error of a graph and some vertices. -/
def gErrL (n : Int) (es : List (Int × Int)) (l : List Int) : Int := if gErr n es ≠ 0 then gErr n es else if (l.any fun x => decide (x < 0) || decide (n ≤ x)) = true then 7 else 0
@[go_sem] theorem r112 (t u : Nat) (n : Int) (es : List (Int × Int)) (l : List Int) (hl : es.length ≤ 2 ^ 63 - 1) (hm : l.length ≤ 2 ^ 63 - 1) : res A PrA 112 [.int .i64 n, .lst t (prs es), .lst u (ints l)] = some [.int .i64 (gErrL n es l)] := by
  refine res_of a112 rfl rfl ?_
  simp only [F112]
  simp (disch := omega) only [go_sem]
  unfold gErrL
  refine Br.ofP (fun h1 => ?_) (fun h1 => ?_) <;> simp (disch := omega) only [go_sem, h1]
  case refine_2 => rw [if_pos h1]
  rw [if_neg (by omega)]
  have h108 := r108 129 u 2 [.int .i64 n] l (fun x => decide (x < 0) || decide (n ≤ x)) hm (by kernel_rfl) (by kernel_rfl) (by kernel_rfl) (fun x _ => r129 x 2 n [])
  simp (disch := omega) only [go_sem, h108]
  refine Br.of (fun h4 => ?_) (fun h4 => ?_) <;> simp (disch := omega) only [go_sem]
  · rw [if_pos h4]
  · rw [if_neg (by simp [h4])]

end Go.Pv

/-
  Parts of graphs: repeated numbers, reversed edges, vertices with a level.
-/
namespace Go.Pv

/-- Repeat: a number, up to twelve times. -/
@[go_sem] theorem r130 {n : Nat} (hn : n ≤ 12) : res A PrA 130 [.lst 0 [[.int .i64 (-1)]], .int .i64 (n : Int)] = some [.fr 1 (ints (List.replicate n (-1)))] := by
  match n, hn with
  | 0, _ => exact res_some.2 ⟨3000, by kernel_rfl⟩
  | 1, _ => exact res_some.2 ⟨3000, by kernel_rfl⟩
  | 2, _ => exact res_some.2 ⟨3000, by kernel_rfl⟩
  | 3, _ => exact res_some.2 ⟨3000, by kernel_rfl⟩
  | 4, _ => exact res_some.2 ⟨3000, by kernel_rfl⟩
  | 5, _ => exact res_some.2 ⟨3000, by kernel_rfl⟩
  | 6, _ => exact res_some.2 ⟨3000, by kernel_rfl⟩
  | 7, _ => exact res_some.2 ⟨3000, by kernel_rfl⟩
  | 8, _ => exact res_some.2 ⟨3000, by kernel_rfl⟩
  | 9, _ => exact res_some.2 ⟨3000, by kernel_rfl⟩
  | 10, _ => exact res_some.2 ⟨3000, by kernel_rfl⟩
  | 11, _ => exact res_some.2 ⟨3000, by kernel_rfl⟩
  | 12, _ => exact res_some.2 ⟨3000, by kernel_rfl⟩

@[go_sem] theorem prs_made (n : Nat) (x y : Int) : sameRows n [.pv (.int .i64 x), .pv (.int .i64 y)] = .inl (prs (List.replicate n (x, y))) := by
  simp [sameRows, mapO, V.purec, PV.perm, prs]
@[go_sem] theorem prs_store {id row ver : Nat} {x y : Int} {l : List (Int × Int)} (h1 : row < l.length) : storeRow id row 0 [.pv (.int .i64 x), .pv (.int .i64 y)] ⟨ver, 2, .inl (prs l)⟩ = some { ar := some (id, ⟨ver, 2, .inl (prs (l.set row (x, y)))⟩) } := by
  rw [storeRow_inl (l := [.int .i64 x, .int .i64 y]) (by rw [prs_length]; exact h1) rfl (by simp) rfl]
  have : over row 0 [.int .i64 x, .int .i64 y] (prs l) = prs (l.set row (x, y)) := by
    unfold over prs
    rw [List.map_set]
    congr 1
    obtain ⟨e, he⟩ : ∃ e, l[row]? = some e := ⟨l[row], by simp [h1]⟩
    simp [he]
  rw [this]
@[go_sem] theorem prs_take (l : List (Int × Int)) (n : Nat) : (prs l).take n = prs (l.take n) := by simp [prs]

/-- The first k of a list, and then others. -/
def partTo {α β : Type} (f : α → β) (y : β) (l : List α) (k : Nat) : List β := (l.take k).map f ++ List.replicate (l.length - k) y
theorem partTo_len {α β : Type} (f : α → β) (y : β) (l : List α) {k : Nat} (h : k ≤ l.length) : (partTo f y l k).length = l.length := by simp [partTo]; omega
theorem partTo_zero {α β : Type} (f : α → β) (y : β) (l : List α) : partTo f y l 0 = List.replicate l.length y := by simp [partTo]
theorem partTo_all {α β : Type} (f : α → β) (y : β) (l : List α) : partTo f y l l.length = l.map f := by simp [partTo]
theorem partTo_set {α β : Type} {f : α → β} {y : β} {l : List α} {k : Nat} {x : α} (h : l[k]? = some x) : (partTo f y l k).set k (f x) = partTo f y l (k + 1) := by
  have hk := (List.getElem?_eq_some_iff.1 h).1
  unfold partTo
  rw [List.set_append_right _ _ (by simp; omega), List.take_add_one, h]
  obtain ⟨m, hm⟩ : ∃ m, l.length - k = m + 1 := ⟨l.length - k - 1, by omega⟩
  have : l.length - (k + 1) = m := by omega
  rw [hm, this]
  simp [Nat.min_eq_left (Nat.le_of_lt hk), List.replicate_succ]

def swapP (x : Int × Int) : Int × Int := (x.2, x.1)
set_option maxHeartbeats 1000000 in
/-- reversed -/
@[go_sem] theorem r116 (t : Nat) (es : List (Int × Int)) (hl : es.length ≤ 2000000000) : res A PrA 116 [.lst t (prs es)] = some [.lst 0 (prs (es.map swapP))] := by
  refine res_of a116 rfl rfl ?_
  simp only [F116]
  simp (disch := omega) only [go_sem]
  refine W.upto es.length (fun k => ⟨[(3, .own 0 0 0 es.length), (9, .pv (.lst t (prs es))), (10, .pv (.int .i64 es.length)), (11, .pv (.int .i64 k))], ⟨[], [⟨0, 2, .inl (prs (partTo swapP (0, 0) es k))⟩], []⟩⟩) (fun _ => True) (by rw [partTo_zero]; rfl) trivial fun k hk _ => ?_
  have hpl := partTo_len swapP (0, 0) es hk
  simp (disch := omega) only [go_sem]
  refine Br.ofP (fun h => ?_) (fun h => ?_)
  · obtain ⟨x, hx⟩ := get_at (l := es) (k := k) (by omega)
    have hs : (partTo swapP (0, 0) es k).set k (x.2, x.1) = partTo swapP (0, 0) es (k + 1) := partTo_set hx
    simp (disch := omega) only [go_sem, hx, hs]
    exact .of (by omega) rfl trivial
  · obtain rfl : k = es.length := by omega
    simp (disch := omega) only [go_sem]
    rw [partTo_all, List.take_of_length_le (by simp)]

/-- The places with numbers that are not negative, among the first k. -/
def thereTo (l : List Int) (k : Nat) : List Int := ((List.range k).filter fun (v : Nat) => decide (0 ≤ l.getD v (-1))).map Int.ofNat
theorem thereTo_succ (l : List Int) (k : Nat) : thereTo l (k + 1) = if 0 ≤ l.getD k (-1) then thereTo l k ++ [(k : Int)] else thereTo l k := by
  unfold thereTo
  rw [List.range_succ, List.filter_append, List.map_append]
  by_cases h : 0 ≤ l.getD k (-1)
  · rw [if_pos h]
    have h' : 0 ≤ l[k]?.getD (-1) := by simpa using h
    simp [h']
  · rw [if_neg h]
    have h' : ¬ 0 ≤ l[k]?.getD (-1) := by simpa using h
    simp [h']
theorem thereTo_len (l : List Int) (k : Nat) : (thereTo l k).length ≤ k := by
  unfold thereTo
  rw [List.length_map]
  have := List.length_filter_le (fun (v : Nat) => decide (0 ≤ l.getD v (-1))) (List.range k)
  simpa using this
theorem thereTo_mem {l : List Int} {k : Nat} {x : Int} : x ∈ thereTo l k ↔ 0 ≤ x ∧ x < k ∧ 0 ≤ l.getD x.toNat (-1) := by
  unfold thereTo
  rw [List.mem_map]
  constructor
  · rintro ⟨v, hv, rfl⟩
    obtain ⟨h1, h2⟩ := List.mem_filter.1 hv
    have := List.mem_range.1 h1
    simp only [decide_eq_true_eq] at h2
    exact ⟨by simp, by simp; omega, h2⟩
  · rintro ⟨h1, h2, h3⟩
    exact ⟨x.toNat, List.mem_filter.2 ⟨List.mem_range.2 (by omega), by simpa using h3⟩, by simp; omega⟩
def there (l : List Int) : List Int := thereTo l l.length
@[go_sem] theorem r113 (t : Nat) (l : List Int) (hl : l.length ≤ 2000000000) : res A PrA 113 [.lst t (ints l)] = some [.lst 0 (ints (there l))] := by
  refine res_of a113 rfl rfl ?_
  simp only [F113]
  simp (disch := omega) only [go_sem]
  refine W.upto l.length (fun k => ⟨[(3, grV 0 (ints (thereTo l k))), (6, .pv (.lst t (ints l))), (7, .pv (.int .i64 l.length)), (8, .pv (.int .i64 k))], ⟨[], grA 1 (ints (thereTo l k)), []⟩⟩) (fun _ => True) rfl trivial fun k hk _ => ?_
  have hle := thereTo_len l k
  simp (disch := omega) only [go_sem]
  refine Br.ofP (fun h => ?_) (fun h => ?_)
  · obtain ⟨x, hx⟩ := get_at (l := l) (k := k) (by omega)
    have hs := thereTo_succ l k
    have hd : l.getD k (-1) = x := by simp [hx]
    rw [hd] at hs
    simp (disch := omega) only [go_sem, hx]
    refine Br.ofP (fun g => ?_) (fun g => ?_) <;> simp (disch := omega) only [go_sem, g]
    · rw [if_pos g] at hs
      refine .of (by omega) ?_ trivial
      show _ = St.mk _ _
      rw [hs]
      rfl
    · rw [if_neg g] at hs
      refine .of (by omega) ?_ trivial
      show _ = St.mk _ _
      rw [hs]
      rfl
  · obtain rfl : k = l.length := by omega
    simp (disch := omega) only [go_sem]
    rfl

end Go.Pv

/-
  Lists of lists that a call owns.
-/
namespace Go.Pv

/-- A value is a list of numbers, at home in these arrays (the first of which lies at 1). -/
def OwnL (ars : List Arr) (x : V) (l : List Int) : Prop :=
  ((x = .tl [] ∨ x = .pv (.lst 0 [])) ∧ l = []) ∨ ∃ id ver, x = .own (id + 1) ver 0 l.length ∧ l ≠ [] ∧ ars[id]? = some ⟨ver, 1, .inl (ints l)⟩
/-- Such values, none of them at home where another one is. -/
structure Lists (n : Nat) (s : List (List Int)) (xs : List V) (ars : List Arr) : Prop where
  xl : xs.length = n
  sl : s.length = n
  own : ∀ (v : Nat) (x : V) (l : List Int), xs[v]? = some x → s[v]? = some l → OwnL ars x l
  dis : ∀ (v w : Nat) (x y : V) (i : Nat), xs[v]? = some x → xs[w]? = some y → ownId x = some i → ownId y = some i → v = w
def rowsV (xs : List V) : List (List V) := xs.map fun x => [x]
@[go_sem] theorem rowsV_len (xs : List V) : (rowsV xs).length = xs.length := by simp [rowsV]
@[go_sem] theorem rowsV_get (xs : List V) (i : Nat) : (rowsV xs)[i]? = xs[i]?.map fun x => [x] := by simp [rowsV]
theorem rowsV_set (xs : List V) (i : Nat) (x : V) : (rowsV xs).set i [x] = rowsV (xs.set i x) := by simp [rowsV, List.map_set]
theorem rowsV_store {id row ver : Nat} {xs : List V} {y : V} (h1 : row < xs.length) (hc : y.calm = true) : storeRow id row 0 [y] ⟨ver, 1, .inr (rowsV xs)⟩ = some { ar := some (id, ⟨ver, 1, .inr (rowsV (xs.set row y))⟩) } := by
  have h2 : row < (⟨ver, 1, .inr (rowsV xs)⟩ : Arr).size := by simp [Arr.size, rowsV, h1]
  obtain ⟨z, hz⟩ : ∃ z, xs[row]? = some z := ⟨xs[row], by simp [h1]⟩
  have h3 : (rowsV xs).getD row [] = [z] := by simp [rowsV, hz]
  simp [storeRow, h2, hc, setBody, ← rowsV_set]
  simp [rowsV, hz]
theorem rowsV_made (n : Nat) : sameRows n [.tl []] = .inr (rowsV (List.replicate n (.tl []))) := by
  simp [sameRows, mapO, V.purec, rowsV]
attribute [go_sem] rowsV_made

theorem rep_get {α : Type} {n i : Nat} {a x : α} (h : (List.replicate n a)[i]? = some x) : x = a := List.eq_of_mem_replicate (List.mem_of_getElem? h)
theorem Lists.start (n : Nat) : Lists n (List.replicate n []) (List.replicate n (.tl [])) [] where
  xl := by simp
  sl := by simp
  own v x l hx hl := .inl ⟨.inl (rep_get hx), rep_get hl⟩
  dis v w x y i hx _ hi _ := by
    rw [rep_get hx] at hi
    simp [ownId] at hi
theorem OwnL.id_lt {ars : List Arr} {x : V} {l : List Int} (h : OwnL ars x l) {i : Nat} (hi : ownId x = some i) : ∃ id ver, i = id + 1 ∧ x = .own (id + 1) ver 0 l.length ∧ ars[id]? = some ⟨ver, 1, .inl (ints l)⟩ := by
  rcases h with ⟨rfl | rfl, _⟩ | ⟨id, ver, rfl, _, h⟩
  · simp [ownId] at hi
  · simp [ownId] at hi
  · simp [ownId] at hi
    exact ⟨id, ver, hi.symm, rfl, h⟩
/-- A value at home elsewhere stays what it is. -/
theorem OwnL.set {ars : List Arr} {x : V} {l : List Int} (h : OwnL ars x l) {id : Nat} {a : Arr} (hne : ownId x ≠ some (id + 1)) : OwnL (ars.set id a) x l := by
  rcases h with h | ⟨j, ver, rfl, h1, h2⟩
  · exact .inl h
  · refine .inr ⟨j, ver, rfl, h1, ?_⟩
    rw [List.getElem?_set_ne]
    · exact h2
    · intro e
      exact hne (by rw [e]; rfl)
theorem OwnL.push {ars : List Arr} {x : V} {l : List Int} (h : OwnL ars x l) (a : List Arr) : OwnL (ars ++ a) x l := by
  rcases h with h | ⟨j, ver, rfl, h1, h2⟩
  · exact .inl h
  · exact .inr ⟨j, ver, rfl, h1, by rw [List.getElem?_append_left (List.getElem?_eq_some_iff.1 h2).1]; exact h2⟩

/-- One value replaced: by one whose home is its own. -/
theorem Lists.upd {n : Nat} {s : List (List Int)} {xs : List V} {ars ars' : List Arr} (h : Lists n s xs ars) {v : Nat} {x' : V} {l' : List Int} (hv : v < n) (hx : OwnL ars' x' l')
    (hk : ∀ (w : Nat) (y : V) (l : List Int), w ≠ v → xs[w]? = some y → s[w]? = some l → OwnL ars' y l) (hd : ∀ (w : Nat) (y : V) (i : Nat), w ≠ v → xs[w]? = some y → ownId y = some i → ownId x' ≠ some i) : Lists n (s.set v l') (xs.set v x') ars' where
  xl := by rw [List.length_set]; exact h.xl
  sl := by rw [List.length_set]; exact h.sl
  own w y l hy hl := by
    by_cases e : w = v
    · subst e
      rw [List.getElem?_set_self (by rw [h.xl]; exact hv)] at hy
      rw [List.getElem?_set_self (by rw [h.sl]; exact hv)] at hl
      cases hy
      cases hl
      exact hx
    · rw [List.getElem?_set_ne (Ne.symm e)] at hy hl
      exact hk w y l e hy hl
  dis w w' y y' i hy hy' hi hi' := by
    by_cases e : w = v
    · subst e
      rw [List.getElem?_set_self (by rw [h.xl]; exact hv)] at hy
      cases hy
      by_cases e' : w' = w
      · exact e'.symm
      · rw [List.getElem?_set_ne (Ne.symm e')] at hy'
        exact (hd w' y' i e' hy' hi' hi).elim
    · rw [List.getElem?_set_ne (Ne.symm e)] at hy
      by_cases e' : w' = v
      · subst e'
        rw [List.getElem?_set_self (by rw [h.xl]; exact hv)] at hy'
        cases hy'
        exact (hd w y i e hy hi hi').elim
      · rw [List.getElem?_set_ne (Ne.symm e')] at hy'
        exact h.dis w w' y y' i hy hy' hi hi'
theorem Lists.get {n : Nat} {s : List (List Int)} {xs : List V} {ars : List Arr} (h : Lists n s xs ars) {v : Nat} (hv : v < n) : ∃ x l, xs[v]? = some x ∧ s[v]? = some l ∧ OwnL ars x l := by
  have h1 : v < xs.length := by rw [h.xl]; exact hv
  have h2 : v < s.length := by rw [h.sl]; exact hv
  exact ⟨xs[v], s[v], by simp, by simp, h.own v _ _ (by simp) (by simp)⟩
theorem Lists.lt {n : Nat} {s : List (List Int)} {xs : List V} {ars : List Arr} (h : Lists n s xs ars) {v i : Nat} {x : V} (hx : xs[v]? = some x) (hi : ownId x = some i) : i ≤ ars.length := by
  have hv : v < n := by rw [← h.xl]; exact (List.getElem?_eq_some_iff.1 hx).1
  obtain ⟨x', l, h1, h2, h3⟩ := h.get hv
  rw [hx] at h1
  cases h1
  obtain ⟨id, ver, rfl, _, h4⟩ := h3.id_lt hi
  exact (List.getElem?_eq_some_iff.1 h4).1
/-- A list that was not there begins. -/
theorem Lists.first {n : Nat} {s : List (List Int)} {xs : List V} {ars : List Arr} (h : Lists n s xs ars) {v : Nat} {l : List Int} (hv : v < n) (hl : l ≠ []) : Lists n (s.set v l) (xs.set v (.own (ars.length + 1) 0 0 l.length)) (ars ++ [⟨0, 1, .inl (ints l)⟩]) :=
  h.upd hv (.inr ⟨ars.length, 0, rfl, hl, by simp⟩) (fun w y l _ hy hl => (h.own w y l hy hl).push _) fun w y i _ hy hi e => by
    have := h.lt hy hi
    simp only [ownId, Option.some.injEq] at e
    omega
/-- A list is another one, in the same place. -/
theorem Lists.same {n : Nat} {s : List (List Int)} {xs : List V} {ars : List Arr} (h : Lists n s xs ars) {v id ver ver' m : Nat} {l : List Int} (hv : v < n) (hx : xs[v]? = some (.own (id + 1) ver 0 m)) (hl : l ≠ []) : Lists n (s.set v l) (xs.set v (.own (id + 1) ver' 0 l.length)) (ars.set id ⟨ver', 1, .inl (ints l)⟩) := by
  have hlt := h.lt hx rfl
  refine h.upd hv (.inr ⟨id, ver', rfl, hl, by rw [List.getElem?_set_self (by omega)]⟩) (fun w y l hw hy hl => (h.own w y l hy hl).set fun e => hw (h.dis w v y _ (id + 1) hy hx e rfl)) fun w y i hw hy hi e => ?_
  simp only [ownId, Option.some.injEq] at e
  subst e
  exact hw (h.dis w v y _ (id + 1) hy hx hi rfl)
/-- A list is given away, and another one comes in its place. -/
theorem Lists.moved {n : Nat} {s : List (List Int)} {xs : List V} {ars : List Arr} (h : Lists n s xs ars) {v id ver m : Nat} {a : Arr} {l : List Int} (hv : v < n) (hx : xs[v]? = some (.own (id + 1) ver 0 m)) (hl : l ≠ []) : Lists n (s.set v l) (xs.set v (.own (ars.length + 1) 0 0 l.length)) (ars.set id a ++ [⟨0, 1, .inl (ints l)⟩]) := by
  refine h.upd hv (.inr ⟨ars.length, 0, rfl, hl, by rw [List.getElem?_append_right (by simp)]; simp⟩) (fun w y l hw hy hl => ((h.own w y l hy hl).set fun e => hw (h.dis w v y _ (id + 1) hy hx e rfl)).push _) fun w y i _ hy hi e => ?_
  have := h.lt hy hi
  simp only [ownId, Option.some.injEq] at e
  omega
/-- Nothing stays nothing. -/
theorem Lists.none {n : Nat} {s : List (List Int)} {xs : List V} {ars : List Arr} (h : Lists n s xs ars) {v : Nat} (hv : v < n) {x' : V} (hx : x' = .tl [] ∨ x' = .pv (.lst 0 [])) : Lists n (s.set v []) (xs.set v x') ars :=
  h.upd hv (.inl ⟨hx, rfl⟩) (fun w y l _ hy hl => h.own w y l hy hl) fun w y i _ _ _ e => by rcases hx with rfl | rfl <;> simp [ownId] at e

/-- Lists of numbers, each a row. -/
def lls (s : List (List Int)) : List (List PV) := s.map fun l => [.lst 0 (ints l)]
@[go_sem] theorem lls_len (s : List (List Int)) : (lls s).length = s.length := by simp [lls]
@[go_sem] theorem lls_get (s : List (List Int)) (i : Nat) : (lls s)[i]? = s[i]?.map fun l => [.lst 0 (ints l)] := by simp [lls]
theorem OwnL.keep {a0 : Arr} {ars : List Arr} {x : V} {l : List Int} (h : OwnL ars x l) (d : Nat) : keepc ⟨[], a0 :: ars, []⟩ (d + 1) x = some (.lst 0 (ints l)) := by
  rcases h with ⟨rfl | rfl, rfl⟩ | ⟨id, ver, rfl, _, h2⟩
  · rfl
  · rfl
  · have e1 : (ints l).length = l.length := ints_length l
    simp [keepc_own, ownArr, h2, keepRows, cutRows, List.take_of_length_le (Nat.le_of_eq e1)]
theorem Lists.keep {n : Nat} {s : List (List Int)} {xs : List V} {a0 : Arr} {ars : List Arr} (h : Lists n s xs ars) (d : Nat) : mapO (mapO (keepc ⟨[], a0 :: ars, []⟩ (d + 1))) (rowsV xs) = some (lls s) := by
  have key : ∀ (xs : List V) (s : List (List Int)), xs.length = s.length → (∀ (v : Nat) (x : V) (l : List Int), xs[v]? = some x → s[v]? = some l → OwnL ars x l) → mapO (mapO (keepc ⟨[], a0 :: ars, []⟩ (d + 1))) (rowsV xs) = some (lls s) := by
    intro xs
    induction xs with
    | nil =>
      intro s hl _
      have : s = [] := List.eq_nil_of_length_eq_zero hl.symm
      subst this
      rfl
    | cons x xs ih =>
      intro s hl ho
      match s, hl with
      | l :: s, hl =>
        have h1 := (ho 0 x l rfl rfl).keep (a0 := a0) d
        have h2 := ih s (by simpa using hl) fun v y m hy hm => ho (v + 1) y m (by simpa using hy) (by simpa using hm)
        show mapO (mapO (keepc ⟨[], a0 :: ars, []⟩ (d + 1))) ([x] :: rowsV xs) = some ([.lst 0 (ints l)] :: lls s)
        simp only [mapO, h1, h2]
  exact key xs s (h.xl.trans h.sl.symm) h.own

end Go.Pv

/-
  Successors.
-/
namespace Go.Pv

@[go_sem] theorem rowsV_store_own {id row ver a b c d : Nat} {xs : List V} (h1 : row < xs.length) : storeRow id row 0 [.own a b c d] ⟨ver, 1, .inr (rowsV xs)⟩ = some { ar := some (id, ⟨ver, 1, .inr (rowsV (xs.set row (.own a b c d)))⟩) } := rowsV_store h1 rfl
@[go_sem] theorem rowsV_store_pv {id row ver : Nat} {xs : List V} (h1 : row < xs.length) : storeRow id row 0 [.pv (.lst 0 [])] ⟨ver, 1, .inr (rowsV xs)⟩ = some { ar := some (id, ⟨ver, 1, .inr (rowsV (xs.set row (.pv (.lst 0 []))))⟩) } := rowsV_store h1 rfl
theorem not_set {xs : List V} {x y : V} {i : Nat} (h : x ∉ xs) (hy : x ≠ y) : x ∉ xs.set i y := fun hm => by
  rcases List.mem_or_eq_of_mem_set hm with hm | hm
  · exact h hm
  · exact hy hm
/-- Where the edges from a vertex lead. -/
def outP (es : List (Int × Int)) (v : Int) : List Int := (es.filter fun e => e.1 == v).map (·.2)
def succTo (n : Nat) (es : List (Int × Int)) (k : Nat) : List (List Int) := (List.range n).map fun (v : Nat) => outP (es.take k) v
theorem succTo_zero (n : Nat) (es : List (Int × Int)) : succTo n es 0 = List.replicate n [] := by
  apply List.ext_getElem?
  intro i
  unfold succTo outP
  rcases Nat.lt_or_ge i n with hi | hi
  · simp [hi]
  · simp [hi]
theorem succTo_get {n : Nat} {es : List (Int × Int)} {k v : Nat} (h : v < n) : (succTo n es k)[v]? = some (outP (es.take k) v) := by simp [succTo, h]
theorem succTo_succ {n : Nat} {es : List (Int × Int)} {k : Nat} {e : Int × Int} (he : es[k]? = some e) (h : 0 ≤ e.1 ∧ e.1 < n) : (succTo n es k).set e.1.toNat (outP (es.take k) e.1 ++ [e.2]) = succTo n es (k + 1) := by
  have ht : es.take (k + 1) = es.take k ++ [e] := by rw [List.take_add_one, he]; rfl
  apply List.ext_getElem?
  intro i
  rcases Nat.lt_or_ge i n with hi | hi
  · rw [succTo_get hi, ht]
    unfold outP
    rw [List.filter_append, List.map_append]
    by_cases hx : e.1.toNat = i
    · have hx' : e.1 = (i : Int) := by omega
      rw [hx, List.getElem?_set_self (by simp [succTo, hi])]
      simp [hx']
    · have hx' : ¬ e.1 = (i : Int) := by omega
      rw [List.getElem?_set_ne hx, succTo_get hi]
      simp [hx', outP]
  · rw [List.getElem?_eq_none (by simp [succTo, hi]), List.getElem?_eq_none (by simp [succTo, hi])]
theorem outP_len (es : List (Int × Int)) (v : Int) : (outP es v).length ≤ es.length := by
  unfold outP
  rw [List.length_map]
  exact List.length_filter_le _ _
/-- The successors of each vertex, ascending. -/
def succs (n : Nat) (es : List (Int × Int)) : List (List Int) := (List.range n).map fun (v : Nat) => uniqs (outP es v)
theorem succs_map (n : Nat) (es : List (Int × Int)) : (succTo n es es.length).map uniqs = succs n es := by
  unfold succTo succs
  rw [List.take_length, List.map_map]
  rfl
theorem uniqs_ne {l : List Int} (h : l ≠ []) : uniqs l ≠ [] := by
  obtain ⟨x, r, rfl⟩ := List.exists_cons_of_ne_nil h
  intro e
  have : x ∈ uniqs (x :: r) := uniqs_mem.2 (by simp)
  rw [e] at this
  cases this
/-- Edges of a graph with n vertices. -/
def inG (n : Nat) (es : List (Int × Int)) : Prop := ∀ e ∈ es, (0 ≤ e.1 ∧ e.1 < n) ∧ (0 ≤ e.2 ∧ e.2 < n)

set_option maxHeartbeats 4000000 in
@[go_sem] theorem r115 (t n : Nat) (es : List (Int × Int)) (hl : es.length ≤ 2000000000) (hn : n ≤ 2000000000) (hg : inG n es) : res A PrA 115 [.int .i64 (n : Int), .lst t (prs es)] = some [.lst 0 (lls (succs n es))] := by
  refine res_of a115 rfl rfl ?_
  simp only [F115]
  simp (disch := omega) only [go_sem]
  refine W.loop (α := Nat × List V × List Arr) (fun x => ⟨[(5, .own 0 0 0 n), (11, .pv (.lst t (prs es))), (12, .pv (.int .i64 es.length)), (13, .pv (.int .i64 x.1))], ⟨[], ⟨0, 1, .inr (rowsV x.2.1)⟩ :: x.2.2, []⟩⟩)
    (fun x => x.1 ≤ es.length ∧ Lists n (succTo n es x.1) x.2.1 x.2.2 ∧ V.pv (.lst 0 []) ∉ x.2.1) (fun x => es.length - x.1) (0, List.replicate n (.tl []), []) rfl ⟨Nat.zero_le _, by rw [succTo_zero]; exact Lists.start n, fun hm => by cases List.eq_of_mem_replicate hm⟩ fun x hx => ?_
  obtain ⟨k, xs, ars⟩ := x
  obtain ⟨hk, hL, hno⟩ := hx
  dsimp only at hk hL hno
  simp (disch := omega) only [go_sem]
  refine Br.ofP (fun h => ?_) (fun h => ?_)
  · obtain ⟨e, he⟩ := get_at (l := es) (k := k) (by omega)
    obtain ⟨⟨g1, g2⟩, g3, g4⟩ := hg e (List.mem_of_getElem? he)
    have hv : e.1.toNat < n := by omega
    have hvi : ((e.1.toNat : Nat) : Int) = e.1 := by omega
    obtain ⟨x, l, hx, hs, ho⟩ := hL.get hv
    rw [succTo_get hv, hvi] at hs
    cases hs
    have hol := outP_len (es.take k) e.1
    have htl : (es.take k).length ≤ k := by simp; omega
    have hxl := hL.xl
    have hsucc := succTo_succ he ⟨g1, g2⟩
    rcases ho with ⟨h0, h1⟩ | ⟨id, ver, rfl, h1, h2⟩
    · rcases h0 with rfl | rfl
      · simp (disch := omega) only [go_sem, he, hx]
        refine ⟨(k + 1, _, _), ⟨by dsimp only; omega, ?_, not_set hno (by simp)⟩, by dsimp only; omega, rfl⟩
        dsimp only
        rw [← hsucc, h1]
        exact hL.first hv (by simp)
      · exact (hno (List.mem_of_getElem? hx)).elim
    · simp (disch := omega) only [go_sem, he, hx, h2]
      refine ⟨(k + 1, _, _), ⟨by dsimp only; omega, ?_, not_set hno (by simp)⟩, by dsimp only; omega, rfl⟩
      dsimp only
      rw [← hsucc]
      have := hL.same (ver' := ver + 1) (l := outP (es.take k) e.1 ++ [e.2]) hv hx (by simp)
      simp only [List.length_append, List.length_cons, List.length_nil, Nat.zero_add] at this
      exact this
  · obtain rfl : k = es.length := by omega
    clear h
    simp (disch := omega) only [go_sem]
    refine W.loop (α := Nat × List V × List Arr) (fun x => ⟨[(5, .own 0 0 0 n), (32, .pv (.int .i64 n)), (33, .pv (.int .i64 x.1))], ⟨[], ⟨0, 1, .inr (rowsV x.2.1)⟩ :: x.2.2, []⟩⟩)
      (fun x => x.1 ≤ n ∧ Lists n (mapTo uniqs (succTo n es es.length) x.1) x.2.1 x.2.2 ∧ ∀ w, x.1 ≤ w → x.2.1[w]? ≠ some (.pv (.lst 0 []))) (fun x => n - x.1) (0, xs, ars) rfl ⟨Nat.zero_le _, by rw [mapTo_zero]; exact hL, fun w _ hw => hno (List.mem_of_getElem? hw)⟩ fun x hx => ?_
    obtain ⟨v, xs, ars⟩ := x
    obtain ⟨hk, hL, hno⟩ := hx
    dsimp only at hk hL hno
    simp (disch := omega) only [go_sem]
    refine Br.ofP (fun h => ?_) (fun h => ?_)
    · have hv : v < n := by omega
      obtain ⟨x, l, hx, hs, ho⟩ := hL.get hv
      have hs0 := succTo_get (es := es) (k := es.length) hv
      rw [mapTo_get hs0] at hs
      cases hs
      have hsm := mapTo_set (f := uniqs) hs0
      have hol := outP_len es (v : Int)
      rw [List.take_length] at hsm ho
      have hxl := hL.xl
      have hul := uniqs_len (outP es v)
      rcases ho with ⟨h0, h1⟩ | ⟨id, ver, rfl, h1, h2⟩
      · rcases h0 with rfl | rfl
        · simp (disch := omega) only [go_sem, hx]
          refine ⟨(v + 1, _, _), ⟨by dsimp only; omega, ?_, fun w hw => ?_⟩, by dsimp only; omega, rfl⟩
          · dsimp only
            rw [← hsm, h1]
            exact hL.none hv (.inr rfl)
          · dsimp only at hw ⊢
            rw [List.getElem?_set_ne (by omega)]
            exact hno w (by omega)
        · exact (hno v (Nat.le_refl _) hx).elim
      · have h3 : (outP es (v : Int)).length ≠ 0 := fun e => h1 (List.eq_nil_of_length_eq_zero e)
        have h4 : cmpct (isort ltI (outP es (v : Int))) = uniqs (outP es (v : Int)) := rfl
        have hid := (List.getElem?_eq_some_iff.1 h2).1
        have hget : ∀ a : Arr, (ars.set id a)[id]? = some a := fun a => List.getElem?_set_self hid
        have hil := isort_len (outP es (v : Int))
        simp (disch := omega) only [go_sem, hx, h2, h4, hget, List.set_set, List.length_set]
        refine ⟨(v + 1, _, _), ⟨by dsimp only; omega, ?_, fun w hw => ?_⟩, by dsimp only; omega, rfl⟩
        · dsimp only
          rw [← hsm]
          exact hL.moved (a := ⟨ver + 1, 0, .inl []⟩) hv hx (uniqs_ne h1)
        · dsimp only at hw ⊢
          rw [List.getElem?_set_ne (by omega)]
          exact hno w (by omega)
    · obtain rfl : v = n := by omega
      simp (disch := omega) only [go_sem]
      rw [List.take_of_length_le (by rw [rowsV_len, hL.xl]; exact Nat.le_refl _), hL.keep 2, ← succs_map]
      have : succTo v es es.length = succTo v es es.length := rfl
      have hmm := mapTo_all uniqs (succTo v es es.length)
      rw [show (succTo v es es.length).length = v by simp [succTo]] at hmm
      rw [hmm]
      rfl

end Go.Pv

/-
  Plain laws: levels.
-/
namespace Go.Pv

/-- A vertex is given a level, unless it has one. -/
def lvIn (d : Int) (s : List Int × List Int) (x : Int) : List Int × List Int := if s.1.getD x.toNat (-1) < 0 then (s.1.set x.toNat d, s.2 ++ [x]) else s
def lvRun (nx : Int → List Int) : Nat → Nat → List Int × List Int → List Int × List Int
  | 0, _, s => s
  | n + 1, i, s => match s.2[i]? with
    | none => s
    | some v => lvRun nx n (i + 1) ((nx v).foldl (lvIn (s.1.getD v.toNat (-1) + 1)) s)
/-- The levels and the vertices that have one. -/
structure LvOk (n : Nat) (s : List Int × List Int) : Prop where
  len : s.1.length = n
  nd : s.2.Nodup
  mem : ∀ x, x ∈ s.2 ↔ 0 ≤ x ∧ x < n ∧ 0 ≤ s.1.getD x.toNat (-1)
  top : ∀ v : Nat, s.1.getD v (-1) ≤ s.2.length
theorem getD_set' {l : List Int} {i j : Nat} {x y : Int} (hi : i < l.length) : (l.set i x).getD j y = if i = j then x else l.getD j y := by
  simp only [List.getD_eq_getElem?_getD, List.getElem?_set]
  by_cases h : i = j
  · subst h
    simp [hi]
  · simp [h]
theorem LvOk.start (n : Nat) : LvOk n (List.replicate n (-1), []) where
  len := by simp
  nd := by simp
  mem x := by
    simp only [List.not_mem_nil, false_iff, List.getD_eq_getElem?_getD, List.getElem?_replicate]
    intro ⟨_, _, h⟩
    split at h <;> simp at h
  top v := by
    simp only [List.getD_eq_getElem?_getD, List.getElem?_replicate]
    split <;> simp
theorem LvOk.step {n : Nat} {s : List Int × List Int} (h : LvOk n s) {x d : Int} (hx : 0 ≤ x ∧ x < n) (hd : 0 ≤ d ∧ d ≤ s.2.length + 1) : LvOk n (lvIn d s x) := by
  unfold lvIn
  split
  · rename_i hc
    have hxl : x.toNat < s.1.length := by rw [h.len]; omega
    have hxn : x ∉ s.2 := fun hm => by
      have := (h.mem x).1 hm
      omega
    refine ⟨by simpa using h.len, ?_, fun y => ?_, fun v => ?_⟩
    · rw [List.nodup_append]
      exact ⟨h.nd, by simp, fun a ha b hb => by
        rw [List.mem_singleton] at hb
        subst hb
        exact fun e => hxn (e ▸ ha)⟩
    · rw [List.mem_append, List.mem_singleton, h.mem, getD_set' hxl]
      by_cases e : y = x
      · subst e
        simp
        omega
      · simp only [e, or_false]
        by_cases hy : 0 ≤ y
        · rw [if_neg (by omega)]
        · exact ⟨fun h' => absurd h'.1 hy, fun h' => absurd h'.1 hy⟩
    · dsimp only
      rw [getD_set' hxl]
      have := h.top v
      rw [List.length_append]
      simp only [List.length_cons, List.length_nil]
      split <;> omega
  · exact h
theorem LvOk.bound {n : Nat} {s : List Int × List Int} (h : LvOk n s) : s.2.length ≤ n := nodup_bound h.nd fun x hx => by
  have := (h.mem x).1 hx
  omega
/-- The second part is what a search finds. -/
theorem lvIn_add {n : Nat} {s : List Int × List Int} (h : LvOk n s) {x d : Int} (hx : 0 ≤ x ∧ x < n) : (lvIn d s x).2 = addN s.2 x := by
  unfold lvIn addN
  by_cases hc : s.1.getD x.toNat (-1) < 0
  · rw [if_pos hc, if_neg (fun hm => by have := (h.mem x).1 hm; omega)]
  · rw [if_neg hc, if_pos ((h.mem x).2 ⟨hx.1, hx.2, by omega⟩)]
theorem lvIn_len {d : Int} {s : List Int × List Int} {x : Int} : s.2.length ≤ (lvIn d s x).2.length := by
  unfold lvIn
  split <;> simp
theorem lv_fold {n : Nat} {d : Int} : ∀ {l : List Int} {s : List Int × List Int}, LvOk n s → (∀ x ∈ l, 0 ≤ x ∧ x < n) → 0 ≤ d ∧ d ≤ s.2.length + 1 → LvOk n (l.foldl (lvIn d) s) ∧ (l.foldl (lvIn d) s).2 = addL s.2 l
  | [], s, h, _, _ => ⟨h, rfl⟩
  | x :: l, s, h, hl, hd => by
    have h1 := h.step (hl x (by simp)) hd
    have hlen := lvIn_len (d := d) (s := s) (x := x)
    obtain ⟨g1, g2⟩ := lv_fold (d := d) (l := l) h1 (fun y hy => hl y (List.mem_cons_of_mem _ hy)) ⟨hd.1, by omega⟩
    exact ⟨g1, by rw [List.foldl_cons, g2, lvIn_add h (hl x (by simp))]; rfl⟩
theorem lvRun_bfs {nx : Int → List Int} {n : Nat} (hn : ∀ v x, x ∈ nx v → 0 ≤ x ∧ x < n) : ∀ (m i : Nat) {s : List Int × List Int}, LvOk n s → LvOk n (lvRun nx m i s) ∧ (lvRun nx m i s).2 = bfs nx m i s.2
  | 0, _, s, h => ⟨h, rfl⟩
  | m + 1, i, s, h => by
    unfold lvRun bfs
    cases hv : s.2[i]? with
    | none => exact ⟨h, rfl⟩
    | some v =>
      have hm := (h.mem v).1 (List.mem_of_getElem? hv)
      have ht := h.top v.toNat
      obtain ⟨g1, g2⟩ := lv_fold (d := s.1.getD v.toNat (-1) + 1) h (fun x hx => hn v x hx) ⟨by omega, by omega⟩
      obtain ⟨f1, f2⟩ := lvRun_bfs hn m (i + 1) g1
      exact ⟨f1, by dsimp only; rw [f2, g2]⟩
/-- The levels from some vertices. -/
def levels (nx : Int → List Int) (n : Nat) (fr : List Int) : List Int := (lvRun nx n 0 (fr.foldl (lvIn 0) (List.replicate n (-1), []))).1
/-- What is reached from one of several. -/
theorem bfs_rchs {nx : Int → List Int} {n : Nat} (hn : ∀ v x, x ∈ nx v → 0 ≤ x ∧ x < n) {o : List Int} (hd : o.Nodup) (ho : ∀ x ∈ o, 0 ≤ x ∧ x < n) {v : Int} : v ∈ bfs nx n 0 o ↔ ∃ s ∈ o, Rch nx s v := by
  have hP : ∀ v, (0 ≤ v ∧ v < (n : Int)) → ∀ x ∈ nx v, 0 ≤ x ∧ x < (n : Int) := fun v _ x hx => hn v x hx
  have hN : ∀ q : List Int, q.Nodup → (∀ v ∈ q, 0 ≤ v ∧ v < (n : Int)) → q.length ≤ n := fun q h1 h2 => nodup_bound h1 h2
  constructor
  · exact bfs_all (P := fun v => ∃ s ∈ o, Rch nx s v) (fun v ⟨s, hs, h⟩ x hx => ⟨s, hs, .step h hx⟩) n 0 (fun v hv => ⟨v, hv, .refl⟩) v
  · have hc := bfs_done hP hN n 0 (o := o) (by omega) hd ho (fun j v hj => absurd hj (Nat.not_lt_zero _))
    rintro ⟨s, hs, h⟩
    induction h with
    | refl => exact (bfs_pre n 0 o).subset hs
    | step _ hx ih => exact hc _ ih _ hx
/-- Who has a level. -/
theorem levels_iff {nx : Int → List Int} {n : Nat} {fr : List Int} (hn : ∀ v x, x ∈ nx v → 0 ≤ x ∧ x < n) (hf : ∀ x ∈ fr, 0 ≤ x ∧ x < n) {v : Int} (hv : 0 ≤ v ∧ v < n) : 0 ≤ (levels nx n fr).getD v.toNat (-1) ↔ ∃ s ∈ fr, Rch nx s v := by
  obtain ⟨g1, g2⟩ := lv_fold (d := 0) (LvOk.start n) hf ⟨by omega, by omega⟩
  obtain ⟨f1, f2⟩ := lvRun_bfs hn n 0 g1
  have h1 := f1.mem v
  have : v ∈ (lvRun nx n 0 (fr.foldl (lvIn 0) (List.replicate n (-1), []))).2 ↔ 0 ≤ (levels nx n fr).getD v.toNat (-1) := by
    rw [h1]
    exact ⟨fun h => h.2.2, fun h => ⟨hv.1, hv.2, h⟩⟩
  have hd : (addL [] fr).Nodup := addL_nodup (by simp)
  rw [← this, f2, g2, bfs_rchs hn hd (fun x hx => hf x (by
    rcases addL_mem.1 hx with h | h
    · cases h
    · exact h))]
  constructor
  · rintro ⟨s, hs, h⟩
    rcases addL_mem.1 hs with h' | h'
    · cases h'
    · exact ⟨s, h', h⟩
  · rintro ⟨s, hs, h⟩
    exact ⟨s, addL_mem.2 (.inr hs), h⟩
theorem levels_len {nx : Int → List Int} {n : Nat} {fr : List Int} (hn : ∀ v x, x ∈ nx v → 0 ≤ x ∧ x < n) (hf : ∀ x ∈ fr, 0 ≤ x ∧ x < n) : (levels nx n fr).length = n := by
  obtain ⟨g1, _⟩ := lv_fold (d := 0) (LvOk.start n) hf ⟨by omega, by omega⟩
  exact (lvRun_bfs hn n 0 g1).1.len

end Go.Pv

/-
  Levels; vertices from which some can be reached.
-/
namespace Go.Pv

/-- The successors of a vertex. -/
def nxt (s : List (List Int)) (v : Int) : List Int := s.getD v.toNat []

set_option maxHeartbeats 4000000 in
@[go_sem] theorem r114 (t u n : Nat) (s : List (List Int)) (fr : List Int) (hn : n ≤ 12) (hs : s.length = n) (hr : ∀ l ∈ s, l.length ≤ 100000 ∧ ∀ x ∈ l, 0 ≤ x ∧ x < (n : Int)) (hf : ∀ x ∈ fr, 0 ≤ x ∧ x < (n : Int)) (hm : fr.length ≤ 2000000000) :
    res A PrA 114 [.lst t (lls s), .lst u (ints fr)] = some [.lst 0 (ints (levels (nxt s) n fr))] := by
  refine res_of a114 rfl rfl ?_
  simp only [F114]
  have hrep := r130 hn
  simp (disch := omega) only [go_sem, hs, hrep]
  refine W.fold fr (lvIn 0) (List.replicate n (-1), []) (fun k q => ⟨[(0, .pv (.lst t (lls s))), (5, .own 0 0 0 n), (6, grV 1 (ints q.2)), (17, .pv (.lst u (ints fr))), (18, .pv (.int .i64 fr.length)), (19, .pv (.int .i64 k))], ⟨[], ⟨0, 1, .inl (ints q.1)⟩ :: grA 1 (ints q.2), []⟩⟩) (fun _ q => LvOk n q) (by simp [List.length_replicate, grV, grA, ints]) (LvOk.start n) (fun k x q hx hk _ hi => ?_) (fun q hq hi => ?_)
  · obtain ⟨x0, x1⟩ := hf x (List.mem_of_getElem? hx)
    have hst := hi.step (x := x) (d := 0) ⟨x0, x1⟩ ⟨by omega, by omega⟩
    have hb := hi.bound
    have hlen := hi.len
    obtain ⟨out, q⟩ := q
    dsimp only at hb hlen
    have hg : out[x.toNat]? = some (out.getD x.toNat (-1)) := by
      have : x.toNat < out.length := by omega
      simp [this]
    simp (disch := omega) only [go_sem]
    refine Br.ofP (fun h => ?_) (fun h => (h (by omega)).elim)
    simp (disch := omega) only [go_sem, hx, hg]
    refine Br.ofP (fun g => ?_) (fun g => ?_) <;> simp (disch := omega) only [go_sem, g]
    · have hin : lvIn 0 (out, q) x = (out.set x.toNat 0, q ++ [x]) := if_pos g
      rw [hin] at hst ⊢
      refine foldK.of ?_ hst
      show _ = St.mk _ _
      simp only []
      rfl
    · have hin : lvIn 0 (out, q) x = (out, q) := if_neg g
      rw [hin] at hst ⊢
      exact foldK.of rfl hst
  simp (disch := omega) only [go_sem]
  have hnx : ∀ v x, x ∈ nxt s v → 0 ≤ x ∧ x < (n : Int) := fun v x hx => by
    unfold nxt at hx
    cases hg : s[v.toNat]? with
    | none => simp [hg] at hx
    | some l =>
      simp only [List.getD_eq_getElem?_getD, hg, Option.getD_some] at hx
      exact (hr l (List.mem_of_getElem? hg)).2 x hx
  refine W.loop (α := Nat × List Int × List Int) (fun x => ⟨[(0, .pv (.lst t (lls s))), (5, .own 0 0 0 n), (6, grV 1 (ints x.2.2)), (9, .pv (.int .i64 x.1))], ⟨[], ⟨0, 1, .inl (ints x.2.1)⟩ :: grA 1 (ints x.2.2), []⟩⟩)
    (fun x => LvOk n x.2 ∧ x.1 ≤ x.2.2.length ∧ (lvRun (nxt s) (n - x.1) x.1 x.2).1 = levels (nxt s) n fr) (fun x => n - x.1) (0, q) rfl ⟨hi, Nat.zero_le _, by rw [hq]; rfl⟩ fun x hx => ?_
  obtain ⟨i, out, q⟩ := x
  obtain ⟨hL, h2, hb⟩ := hx
  dsimp only at h2 hb
  have hbo := hL.bound
  have hle := hL.len
  dsimp only at hbo hle
  simp (disch := omega) only [go_sem]
  refine Br.ofP (fun h => ?_) (fun h => ?_)
  · obtain ⟨v, hv⟩ := get_at (l := q) (k := i) (by omega)
    obtain ⟨v0, v1, v2⟩ := (hL.mem v).1 (List.mem_of_getElem? hv)
    obtain ⟨l, hsl⟩ := get_at (l := s) (k := v.toNat) (by omega)
    obtain ⟨hll, hlr⟩ := hr l (List.mem_of_getElem? hsl)
    have hnl : nxt s v = l := by simp [nxt, hsl]
    obtain ⟨m, hm'⟩ : ∃ m, (ints q).length = m + 1 := ⟨q.length - 1, by rw [ints_len]; omega⟩
    have hgV := grV_own (i := 1) hm'
    have hgA := grA_own (k := 1) hm'
    rw [ints_len] at hm'
    rw [hgV, hgA]
    have hd0 : out[v.toNat]? = some (out.getD v.toNat (-1)) := by
      have : v.toNat < out.length := by omega
      simp [this]
    have htop := hL.top v.toNat
    dsimp only at htop v2
    simp (disch := omega) only [go_sem, hv, hsl, idxR_int]
    refine W.fold l (lvIn (out.getD v.toNat (-1) + 1)) (out, q) (fun k q => ⟨[(0, .pv (.lst t (lls s))), (5, .own 0 0 0 n), (6, grV 1 (ints q.2)), (9, .pv (.int .i64 i)), (10, .pv (.int .i64 v)), (49, .pv (.lst 0 (ints l))), (50, .pv (.int .i64 l.length)), (51, .pv (.int .i64 k))], ⟨[], ⟨0, 1, .inl (ints q.1)⟩ :: grA 1 (ints q.2), []⟩⟩)
      (fun _ p => LvOk n p ∧ q.length ≤ p.2.length ∧ p.1.getD v.toNat (-1) = out.getD v.toNat (-1)) (by
        rw [hgV, hgA]
        rfl) ⟨hL, Nat.le_refl _, rfl⟩ (fun k x p hx hk _ hi => ?_) (fun p hp hi => ?_)
    · obtain ⟨out', q'⟩ := p
      obtain ⟨hL', hq', hv'⟩ := hi
      dsimp only at hq' hv'
      obtain ⟨x0, x1⟩ := hlr x (List.mem_of_getElem? hx)
      have hbo' := hL'.bound
      have hle' := hL'.len
      dsimp only at hbo' hle'
      have hst := hL'.step (x := x) (d := out.getD v.toNat (-1) + 1) ⟨x0, x1⟩ ⟨by omega, by dsimp only; omega⟩
      have hg : out'[x.toNat]? = some (out'.getD x.toNat (-1)) := by
        have : x.toNat < out'.length := by omega
        simp [this]
      have hg2 : out'[v.toNat]? = some (out.getD v.toNat (-1)) := by
        have : v.toNat < out'.length := by omega
        rw [← hv']
        simp [this]
      simp (disch := omega) only [go_sem]
      refine Br.ofP (fun h => ?_) (fun h => (h (by omega)).elim)
      simp (disch := omega) only [go_sem, hx, hg]
      refine Br.ofP (fun g => ?_) (fun g => ?_) <;> simp (disch := omega) only [go_sem, g]
      · have hin : lvIn (out.getD v.toNat (-1) + 1) (out', q') x = (out'.set x.toNat (out.getD v.toNat (-1) + 1), q' ++ [x]) := if_pos g
        have hne : x.toNat ≠ v.toNat := fun e => by rw [e, hv'] at g; omega
        simp (disch := omega) only [go_sem, hg2]
        rw [hin] at hst ⊢
        refine foldK.of ?_ ⟨hst, by simp; omega, by dsimp only; rw [getD_set' (by omega), if_neg hne]; exact hv'⟩
        show _ = St.mk _ _
        simp only []
        rfl
      · have hin : lvIn (out.getD v.toNat (-1) + 1) (out', q') x = (out', q') := if_neg g
        rw [hin] at hst ⊢
        exact foldK.of rfl ⟨hst, hq', hv'⟩
    · obtain ⟨hL', hq', hv'⟩ := hi
      have hbo' := hL'.bound
      simp (disch := omega) only [go_sem]
      refine ⟨(i + 1, p), ⟨hL', by dsimp only; omega, ?_⟩, by dsimp only; omega, rfl⟩
      dsimp only
      obtain ⟨r, hr'⟩ : ∃ r, n - i = r + 1 := ⟨n - i - 1, by omega⟩
      rw [hr'] at hb
      unfold lvRun at hb
      dsimp only at hb
      rw [hv] at hb
      dsimp only at hb
      rw [hnl, ← hp] at hb
      rw [← hb]
      congr 2
      omega
  · simp (disch := omega) only [go_sem]
    have : lvRun (nxt s) (n - i) i (out, q) = (out, q) := by
      cases hni : n - i with
      | zero => rfl
      | succ r =>
        unfold lvRun
        rw [List.getElem?_eq_none (by dsimp only; omega)]
    rw [this] at hb
    rw [← hb, List.take_of_length_le (by omega)]

end Go.Pv

/-
  The law of next states, ends and labels.
-/
namespace Go.Pv

theorem ends_len (a : Auto) : a.ends.length ≤ 12 := by
  unfold Auto.ends
  split
  · have := endsTo_len a.edges a.states.toNat
    omega
  · simp

end Go.Pv

/-
  Vertices from which some can be reached; proper automata.
-/
namespace Go.Pv

theorem inG_of {n : Nat} {es : List (Int × Int)} (h : es.any (badP n) = false) : inG n es := fun e he => by
  rw [List.any_eq_false] at h
  have := h e he
  simp only [badP, Bool.or_eq_true, decide_eq_true_eq, not_or] at this
  omega
theorem gErr_zero {n : Int} {es : List (Int × Int)} (h : gErr n es = 0) : 0 ≤ n ∧ n ≤ 2000 ∧ es.length ≤ 40000 ∧ inG n.toNat es := by
  unfold gErr at h
  split at h
  · cases h
  · split at h
    · cases h
    · rename_i h1 h2
      have h3 : 0 ≤ n := by omega
      refine ⟨h3, by omega, by omega, inG_of ?_⟩
      rw [show ((n.toNat : Nat) : Int) = n by omega]
      cases hb : es.any (badP n) with
      | false => rfl
      | true => exact (h2 (.inr hb)).elim
theorem gErrL_zero {n : Int} {es : List (Int × Int)} {l : List Int} (h : gErrL n es l = 0) : gErr n es = 0 ∧ ∀ x ∈ l, 0 ≤ x ∧ x < n := by
  unfold gErrL at h
  split at h
  · rename_i h1
    exact (h1 h).elim
  · split at h
    · cases h
    · rename_i h1 h2
      refine ⟨by omega, fun x hx => ?_⟩
      have h2' : (l.any fun x => decide (x < 0) || decide (n ≤ x)) = false := by simpa using h2
      rw [List.any_eq_false] at h2'
      have := h2' x hx
      simp only [Bool.or_eq_true, decide_eq_true_eq, not_or] at this
      omega
theorem inG_swap {n : Nat} {es : List (Int × Int)} (h : inG n es) : inG n (es.map swapP) := fun e he => by
  obtain ⟨x, hx, rfl⟩ := List.mem_map.1 he
  have := h x hx
  exact ⟨this.2, this.1⟩
theorem succs_len (n : Nat) (es : List (Int × Int)) : (succs n es).length = n := by simp [succs]
theorem outP_mem {es : List (Int × Int)} {v x : Int} : x ∈ outP es v ↔ (v, x) ∈ es := by
  unfold outP
  rw [List.mem_map]
  constructor
  · rintro ⟨e, he, rfl⟩
    obtain ⟨h1, h2⟩ := List.mem_filter.1 he
    simp only [beq_iff_eq] at h2
    rw [← h2]
    exact h1
  · exact fun h => ⟨_, List.mem_filter.2 ⟨h, by simp⟩, rfl⟩
theorem succs_ok {n : Nat} {es : List (Int × Int)} (h : inG n es) (hl : es.length ≤ 100000) : ∀ l ∈ succs n es, l.length ≤ 100000 ∧ ∀ x ∈ l, 0 ≤ x ∧ x < (n : Int) := fun l hl' => by
  obtain ⟨v, _, rfl⟩ := List.mem_map.1 hl'
  have h1 := uniqs_len (outP es v)
  have h2 := outP_len es v
  exact ⟨by omega, fun x hx => (h _ (outP_mem.1 (uniqs_mem.1 hx))).2⟩
theorem nxt_succs {n : Nat} {es : List (Int × Int)} (h : inG n es) {v x : Int} (hv : 0 ≤ v) : x ∈ nxt (succs n es) v ↔ (v, x) ∈ es := by
  unfold nxt
  rcases Nat.lt_or_ge v.toNat n with hn | hn
  · have : (succs n es)[v.toNat]? = some (uniqs (outP es v)) := by
      unfold succs
      rw [List.getElem?_map, List.getElem?_range hn]
      simp only [Option.map_some]
      rw [show ((v.toNat : Nat) : Int) = v by omega]
    simp only [List.getD_eq_getElem?_getD, this, Option.getD_some]
    rw [uniqs_mem, outP_mem]
  · have : (succs n es)[v.toNat]? = none := List.getElem?_eq_none (by rw [succs_len]; exact hn)
    simp only [List.getD_eq_getElem?_getD, this, Option.getD_none, List.not_mem_nil, false_iff]
    intro hm
    have := (h _ hm).1
    omega
theorem nxt_in {n : Nat} {s : List (List Int)} (hr : ∀ l ∈ s, l.length ≤ 100000 ∧ ∀ x ∈ l, 0 ≤ x ∧ x < (n : Int)) : ∀ v x, x ∈ nxt s v → 0 ≤ x ∧ x < (n : Int) := fun v x hx => by
  unfold nxt at hx
  cases hg : s[v.toNat]? with
  | none => simp [hg] at hx
  | some l =>
    simp only [List.getD_eq_getElem?_getD, hg, Option.getD_some] at hx
    exact (hr l (List.mem_of_getElem? hg)).2 x hx

/-- Backward -/
def backward (n : Nat) (es : List (Int × Int)) (to : List Int) : List Int := there (levels (nxt (succs n (es.map swapP))) n to)
theorem there_len (l : List Int) : (there l).length ≤ l.length := thereTo_len l l.length
def edgeP (e : Edge) : Int × Int := (e.fr, e.to)
theorem ends_mem {es : List Edge} {w : Int} : ∀ {k : Nat}, w ∈ endsTo es k ↔ 0 ≤ w ∧ w < k ∧ isEnd w es = true
  | 0 => by simp [endsTo]; omega
  | k + 1 => by
    unfold endsTo
    by_cases h : isEnd k es = true
    · rw [if_pos h, List.mem_append, List.mem_singleton, ends_mem]
      constructor
      · rintro (⟨a, b, c⟩ | rfl)
        · exact ⟨a, by omega, c⟩
        · exact ⟨by omega, by omega, h⟩
      · rintro ⟨a, b, c⟩
        by_cases e : w = k
        · exact .inr e
        · exact .inl ⟨a, by omega, c⟩
    · rw [if_neg h, ends_mem]
      constructor
      · rintro ⟨a, b, c⟩
        exact ⟨a, by omega, c⟩
      · rintro ⟨a, b, c⟩
        refine ⟨a, ?_, c⟩
        rcases Int.lt_or_eq_of_le (show w ≤ k by omega) with h' | h'
        · exact h'
        · rw [h'] at c
          exact (h c).elim
theorem Rch.rev {α : Type} {nx nx' : α → List α} (h : ∀ v x, x ∈ nx v → v ∈ nx' x) {s v : α} (hr : Rch nx s v) : Rch nx' v s := by
  induction hr with
  | refl => exact .refl
  | step _ hx ih => exact Rch.head (h _ _ hx) ih
theorem Rch.all {α : Type} {nx : α → List α} {P : α → Prop} (h : ∀ v, P v → ∀ x ∈ nx v, P x) {s v : α} (hs : P s) (hr : Rch nx s v) : P v := by
  induction hr with
  | refl => exact hs
  | step _ hx ih => exact h _ ih _ hx
theorem Rch.mono {α : Type} {nx nx' : α → List α} {P : α → Prop} (hP : ∀ v, P v → ∀ x ∈ nx v, P x) (h : ∀ v x, P v → x ∈ nx v → x ∈ nx' v) {s v : α} (hs : P s) (hr : Rch nx s v) : Rch nx' s v := by
  induction hr with
  | refl => exact .refl
  | step hr hx ih => exact .step ih (h _ _ (Rch.all hP hs hr) hx)
theorem Auto.Good.inG {a : Auto} (h : a.Good) : inG a.states.toNat (a.edges.map edgeP) := fun e he => by
  obtain ⟨x, hx, rfl⟩ := List.mem_map.1 he
  have := fits_iff.1 (h.fit x hx)
  simp only [edgeP]
  omega
/-- From where an end can be reached. -/
theorem Auto.Good.back_mem {a : Auto} (h : a.Good) {v : Int} (hv : a.inr v) : v ∈ backward a.states.toNat (a.edges.map edgeP) a.ends ↔ ∃ w, Rch (outs a.edges) v w ∧ isEnd w a.edges = true := by
  have hg := inG_swap h.inG
  have hl : ((a.edges.map edgeP).map swapP).length ≤ 100000 := by
    have := h.len
    simp
    omega
  have hok := succs_ok hg hl
  have hen : ∀ w, w ∈ a.ends ↔ a.inr w ∧ isEnd w a.edges = true := fun w => by
    unfold Auto.ends
    rw [if_pos h.mx, ends_mem]
    unfold Auto.inr
    constructor
    · rintro ⟨x, y, z⟩
      exact ⟨⟨x, by omega⟩, z⟩
    · rintro ⟨⟨x, y⟩, z⟩
      exact ⟨x, by omega, z⟩
  have hef : ∀ x ∈ a.ends, 0 ≤ x ∧ x < (a.states.toNat : Int) := fun x hx => by
    have := ((hen x).1 hx).1
    unfold Auto.inr at this
    omega
  have hnx : ∀ (v x : Int), 0 ≤ v → (x ∈ nxt (succs a.states.toNat ((a.edges.map edgeP).map swapP)) v ↔ v ∈ outs a.edges x) := fun v x hv => by
    rw [nxt_succs hg hv, outs_mem, List.mem_map]
    constructor
    · rintro ⟨e, he, hs⟩
      obtain ⟨d, hd, rfl⟩ := List.mem_map.1 he
      simp only [swapP, edgeP, Prod.mk.injEq] at hs
      exact ⟨d, hd, hs.2, hs.1⟩
    · rintro ⟨d, hd, h1, h2⟩
      exact ⟨edgeP d, List.mem_map_of_mem hd, by simp [swapP, edgeP, h1, h2]⟩
  have hll := levels_len (nx := nxt (succs a.states.toNat ((a.edges.map edgeP).map swapP))) (nxt_in hok) hef
  have hvr : 0 ≤ v ∧ v < (a.states.toNat : Int) := by
    unfold Auto.inr at hv
    omega
  unfold backward there
  rw [thereTo_mem, hll, levels_iff (nxt_in hok) hef hvr]
  constructor
  · rintro ⟨_, _, s, hs, hr⟩
    refine ⟨s, ?_, ((hen s).1 hs).2⟩
    have back : ∀ {s v : Int}, 0 ≤ s → Rch (nxt (succs a.states.toNat ((a.edges.map edgeP).map swapP))) s v → Rch (outs a.edges) v s := by
      intro s v hs hr
      induction hr with
      | refl => exact .refl
      | step hr hx ih => exact Rch.head ((hnx _ _ (Rch.all (P := fun v => 0 ≤ v) (fun v _ x hx => (nxt_in hok v x hx).1) hs hr)).1 hx) ih
    exact back ((hen s).1 hs).1.1 hr
  · rintro ⟨w, hr, hw⟩
    have hwi := Rch.all (P := a.inr) h.outs_in hv hr
    refine ⟨hvr.1, hvr.2, w, (hen w).2 ⟨hwi, hw⟩, ?_⟩
    have : ∀ {v w : Int}, a.inr v → Rch (outs a.edges) v w → Rch (nxt (succs a.states.toNat ((a.edges.map edgeP).map swapP))) w v := by
      intro v w hv hr
      induction hr with
      | refl => exact .refl
      | step hr hx ih =>
        have hi := Rch.all (P := a.inr) h.outs_in hv (.step hr hx)
        exact Rch.head ((hnx _ _ hi.1).2 hx) ih
    exact this hv hr

@[go_sem] theorem grow0p (bx : List (Nat × List V)) (mp : List (List (PV × PV))) (l : List (Int × Int)) (x y : Int) (hm : l.length + 1 ≤ 2147483648) :
    appendV ⟨bx, grA 2 (prs l), mp⟩ 2 (grV 0 (prs l)) (.tl [[.int .i64 x, .int .i64 y]]) = some (grV 0 (prs (l ++ [(x, y)])), grT 0 2 (prs l) [.int .i64 x, .int .i64 y]) := by
  rw [grow0 bx mp 2 (prs l) [.int .i64 x, .int .i64 y] rfl (by rw [prs_length]; exact hm), prs_snoc]
theorem Auto.Good.gok {a : Auto} (h : a.Good) : gErrL a.states (a.edges.map edgeP) a.ends = 0 := by
  have h1 : gErr a.states (a.edges.map edgeP) = 0 := by
    unfold gErr
    have := h.mx; have := h.len; have := h.st
    rw [if_neg (by simp; omega), if_neg]
    intro hc
    rcases hc with hc | hc
    · omega
    · rw [List.any_eq_true] at hc
      obtain ⟨x, hx, hb⟩ := hc
      obtain ⟨e, he, rfl⟩ := List.mem_map.1 hx
      have := fits_iff.1 (h.fit e he)
      unfold badP edgeP at hb
      simp only [Bool.or_eq_true, decide_eq_true_eq] at hb
      have h1 : min e.fr e.to < 0 ∨ a.states ≤ max e.fr e.to := hb
      omega
  unfold gErrL
  rw [if_neg (by simp [h1]), if_neg]
  intro hc
  rw [List.any_eq_true] at hc
  obtain ⟨x, hx, hb⟩ := hc
  unfold Auto.ends at hx
  rw [if_pos h.mx, ends_mem] at hx
  simp only [Bool.or_eq_true, decide_eq_true_eq] at hb
  omega
theorem Auto.Good.proper_eq {a : Auto} (h : a.Good) : (!a.order.any fun v => !decide (v ∈ backward a.states.toNat (a.edges.map edgeP) a.ends)) = a.proper := by
  rw [Bool.eq_iff_iff]
  unfold Auto.proper
  simp only [Bool.not_eq_true', List.any_eq_false, List.all_eq_true, List.any_eq_true]
  constructor
  · intro hh v hv
    have hin := h.order_in v hv
    obtain ⟨w, hr, hw⟩ := (h.back_mem hin).1 (by simpa using hh v hv)
    exact ⟨w, (h.from_mem hin).2 hr, hw⟩
  · intro hh v hv
    have hin := h.order_in v hv
    obtain ⟨w, hr, hw⟩ := hh v hv
    have := (h.back_mem hin).2 ⟨w, (h.from_mem hin).1 hr, hw⟩
    simpa using this

end Go.Pv

