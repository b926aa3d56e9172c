/-
  What the functions of the law give.
-/
import Derived.Test.YtdeoikfaclbniaaC2
set_option linter.unusedSimpArgs false
set_option linter.unusedVariables false
/-
  Chapter 07: copies of values.
-/
namespace Go.Pv

theorem rowsFit_all {k : Nat} {rows : List (List PV)} (h : ∀ r ∈ rows, r.length = k) : rowsFit k (.inl rows) = true := by
  simp only [rowsFit, List.all_eq_true, beq_iff_eq]
  exact h
theorem set_same {α : Type} {l : List α} {k : Nat} {x : α} (h : l[k]? = some x) : l.set k x = l := by
  obtain ⟨hk, rfl⟩ := List.getElem?_eq_some_iff.1 h
  exact List.set_getElem_self hk
theorem over_same {rows : List (List PV)} {row c n : Nat} {r : List PV} (hr : rows[row]? = some r) (hn : c + n ≤ r.length) : over row c ((r.drop c).take n) rows = rows := by
  unfold over
  have hd : rows.getD row [] = r := by rw [List.getD_eq_getElem?_getD, hr]; rfl
  have hl : ((r.drop c).take n).length = n := by rw [List.length_take, List.length_drop]; omega
  rw [hd, hl, List.append_assoc, ← List.drop_drop, List.take_append_drop, List.take_append_drop]
  exact set_same hr
theorem mapO_pure : ∀ {l : List PV}, (∀ c ∈ l, c.perm = true) → mapO V.purec (l.map V.pv) = some l
  | [], _ => rfl
  | x :: l, h => by
    have h1 := mapO_pure (l := l) (fun c hc => h c (by simp [hc]))
    simp only [List.map_cons, mapO, V.purec, h x (by simp), if_true, h1]
/-- The same cells stored again. -/
theorem store_same {id row c n ver k : Nat} {rows : List (List PV)} {r : List PV} (hr : rows[row]? = some r) (hp : ∀ x ∈ (r.drop c).take n, x.perm = true) (hn : c + n ≤ r.length) (hk : r.length = k) : storeRow id row c (((r.drop c).take n).map V.pv) ⟨ver, k, .inl rows⟩ = some { ar := some (id, ⟨ver, k, .inl rows⟩) } := by
  have hl : ((r.drop c).take n).length = n := by rw [List.length_take, List.length_drop]; omega
  rw [storeRow_inl (List.getElem?_eq_some_iff.1 hr).1 (mapO_pure hp) (by rw [List.length_map, hl]; omega) (by
    rw [List.all_eq_true]
    intro x hx
    obtain ⟨y, hy, rfl⟩ := List.mem_map.1 hx
    exact PV.perm_calm (hp y hy)), over_same hr hn]
theorem clone_nil (k : Nat) (h : Heap) : cloneP k [.pv (.lst 0 [])] h = some (.tl [], {}) := by
  simp [cloneP, srcRows, rowsFit, mostRows]
theorem clone_lst {k t : Nat} {rows : List (List PV)} {h : Heap} (ht : t ≤ 1) (hr : ∀ r ∈ rows, r.length = k) (h0 : rows ≠ []) (hm : rows.length ≤ 2147483648) : cloneP k [.pv (.lst t rows)] h = some (.own h.ar.length 0 0 rows.length, { push := [⟨0, k, .inl rows⟩], base := h.ar.length }) := by
  have hl : ¬ rows.length = 0 := fun e => h0 (List.eq_nil_of_length_eq_zero e)
  simp only [cloneP, srcRows, ht, if_true, rowsFit_all hr, mostRows, hm, and_self, if_neg hl]
/-- What a copied list is. -/
theorem clone_two {k : Nat} {rows : List (List PV)} (hr : ∀ r ∈ rows, r.length = k) (hm : rows.length ≤ 2147483648) : (rows = [] ∧ ∀ h, cloneP k [.pv (.lst 0 rows)] h = some (.tl [], {})) ∨ (rows ≠ [] ∧ ∀ h, cloneP k [.pv (.lst 0 rows)] h = some (.own h.ar.length 0 0 rows.length, { push := [⟨0, k, .inl rows⟩], base := h.ar.length })) := by
  by_cases h0 : rows = []
  · subst h0
    exact .inl ⟨rfl, fun h => clone_nil k h⟩
  · exact .inr ⟨h0, fun h => clone_lst (by decide) hr h0 hm⟩
set_option maxHeartbeats 8000000 in
/-- clone. -/
theorem r315 : ∀ (n : Nat) (cs : List PV), VOk n cs → (∀ c ∈ cs, Small 1048576 c) → res A PrA 315 [.agg cs] = some [.agg cs]
  | 0, cs, h, _ => h.elim
  | n + 1, cs, h, hsm => by
    obtain ⟨v, rfl, ⟨h1, h2, h3, h4⟩, ⟨h5, h6, h7⟩, h8, h9, h10⟩ := h
    have ih := r315 n
    obtain ⟨kind, bool, int, str, id, keys, items, rest⟩ := v
    unfold Val.c at *
    dsimp only at *
    obtain ⟨m5, n5⟩ := lst_small (hsm (.lst 0 keys) (by simp))
    obtain ⟨m6, n6⟩ := lst_small (hsm (.lst 0 items) (by simp))
    obtain ⟨m7, _⟩ := lst_small (hsm (.lst 0 (rest.map Raw.c)) (by simp))
    rw [List.length_map] at m7
    have hk : ∀ r ∈ keys, res A PrA 315 [.agg r] = some [.agg r] := fun r hr => ih r (h8 r hr) (n5 r hr)
    have hi : ∀ r ∈ items, res A PrA 315 [.agg r] = some [.agg r] := fun r hr => ih r (h9 r hr) (n6 r hr)
    have vk : ∀ r ∈ keys, ∃ w : Val, r = w.c := fun r hr => (h8 r hr).val
    have vi : ∀ r ∈ items, ∃ w : Val, r = w.c := fun r hr => (h9 r hr).val
    clear ih n5 n6 hsm
    have lk : ∀ r ∈ keys, r.length = 8 := fun r hr => (h8 r hr).len
    have li : ∀ r ∈ items, r.length = 8 := fun r hr => (h9 r hr).len
    have lr : ∀ r ∈ rest.map Raw.c, r.length = 2 := fun r hr => by
      obtain ⟨x, _, rfl⟩ := List.mem_map.1 hr
      rfl
    refine res_of a315 rfl rfl ?_
    simp only [F315]
    simp (disch := omega) only [go_sem]
    have ck := clone_two lk (by omega)
    have ci := clone_two li (by omega)
    have cr := clone_two lr (by rw [List.length_map]; omega)
    generalize rest.map Raw.c = rs at cr lr
    have hkl : keys.length ≤ 1048576 := m5
    have hil : items.length ≤ 1048576 := m6
    rcases ck with ⟨ek, ck⟩ | ⟨ek, ck⟩ <;> rcases ci with ⟨ei, ci⟩ | ⟨ei, ci⟩ <;> rcases cr with ⟨er, cr⟩ | ⟨er, cr⟩
    all_goals simp (disch := omega) only [go_sem, ck, ci, cr]
    all_goals first
      | (subst ek
         refine W.once ?_
         simp (disch := omega) only [go_sem]
         refine Br.ofP (fun c => absurd c (by omega)) (fun _ => ?_)
         simp (disch := omega) only [go_sem])
      | (refine W.upto keys.length ((fun h0 => fun k => ⟨[(1, .ptr 1 0), (2, .ptr 2 0), (19, .pv (.int .i64 keys.length)), (20, .pv (.int .i64 (k : Nat)))], h0⟩) _) (fun _ => True) rfl trivial (fun k hk' _ => ?_)
         simp (disch := omega) only [go_sem]
         refine Br.ofP (fun c => ?_) (fun c => ?_)
         · have hr := List.getElem?_eq_getElem (l := keys) (i := k) (by omega)
           generalize keys[k]'(by omega) = r at hr
           have hc := hk r (List.mem_of_getElem? hr)
           have hset := set_same hr
           obtain ⟨w, rfl⟩ := vk r (List.mem_of_getElem? hr)
           unfold Val.c at hr hc hset
           have hst := fun id => store_same (id := id) (c := 0) (n := 8) (ver := 0) (k := 8) hr (by simp [PV.perm]) (by simp) (by simp)
           simp only [List.drop_zero, List.take_succ_cons, List.take_zero, List.map_cons, List.map_nil] at hst
           simp (disch := omega) only [go_sem, hr, hc, hst]
           refine .of (by omega) ?_ trivial
           rfl
         simp (disch := omega) only [go_sem])
    all_goals first
      | (subst ei
         refine W.once ?_
         simp (disch := omega) only [go_sem]
         refine Br.ofP (fun c => absurd c (by omega)) (fun _ => ?_)
         simp (disch := omega) only [go_sem])
      | (refine W.upto items.length ((fun h0 => fun k => ⟨[(1, .ptr 1 0), (2, .ptr 2 0), (36, .pv (.int .i64 items.length)), (37, .pv (.int .i64 (k : Nat)))], h0⟩) _) (fun _ => True) rfl trivial (fun k hk' _ => ?_)
         simp (disch := omega) only [go_sem]
         refine Br.ofP (fun c => ?_) (fun c => ?_)
         · have hr := List.getElem?_eq_getElem (l := items) (i := k) (by omega)
           generalize items[k]'(by omega) = r at hr
           have hc := hi r (List.mem_of_getElem? hr)
           have hset := set_same hr
           obtain ⟨w, rfl⟩ := vi r (List.mem_of_getElem? hr)
           unfold Val.c at hr hc hset
           have hst := fun id => store_same (id := id) (c := 0) (n := 8) (ver := 0) (k := 8) hr (by simp [PV.perm]) (by simp) (by simp)
           simp only [List.drop_zero, List.take_succ_cons, List.take_zero, List.map_cons, List.map_nil] at hst
           simp (disch := omega) only [go_sem, hr, hc, hst]
           refine .of (by omega) ?_ trivial
           rfl
         simp (disch := omega) only [go_sem])
    all_goals first
      | (simp only [List.take_length]
         done)
      | (simp only [List.take_length, er]
         done)
      | (simp only [er]
         done)
end Go.Pv

/-
  Chapter 07: copies of types.
-/
namespace Go.Pv

/-- A list that is given to the caller to write to. -/
def frL (k : Nat) (rows : List (List PV)) : PV := match rows with
  | [] => .lst 0 []
  | x :: r => .fr k (x :: r)
theorem frL_cons {k : Nat} {rows : List (List PV)} (h : rows ≠ []) : frL k rows = .fr k rows := by
  cases rows with
  | nil => exact (h rfl).elim
  | cons x r => rfl
theorem frL_nil {k : Nat} : frL k [] = .lst 0 [] := rfl
/-- A type of which the lists of symbols and members are the caller's. -/
def copC (t : Typ) : List PV := [.int .i64 t.kind, .str t.name, .int .i64 t.low, .int .i64 t.high, .int .i64 t.max, frL 2 (t.syms.map Sym.c), frL 13 (t.mems.map Mem.c), .int .i64 t.key, .int .i64 t.elem, .bool t.opn]
set_option maxHeartbeats 8000000 in
/-- copied. -/
theorem r294 (t : Typ) (ht : t.ok) (hsm : ∀ c ∈ t.c, Small 1048576 c) : res A PrA 294 [.agg t.c] = some [.agg (copC t)] := by
  obtain ⟨_, _, _, ho⟩ := ht
  obtain ⟨k, a2, a3, a4, a5, a6, l, a8, a9, a10⟩ := t
  unfold copC
  unfold Typ.c at *
  dsimp only at *
  obtain ⟨m6, _⟩ := lst_small (hsm (.lst 0 (a6.map Sym.c)) (by simp))
  obtain ⟨m7, n7⟩ := lst_small (hsm (.lst 0 (l.map Mem.c)) (by simp))
  rw [List.length_map] at m6 m7
  have hcl : ∀ m ∈ l, res A PrA 315 [.agg m.dflt.c] = some [.agg m.dflt.c] := fun m hm => by
    obtain ⟨n, hn⟩ := (ho m hm).2.2.2
    refine r315 n _ hn fun c hc => n7 _ (List.mem_map_of_mem hm) c ?_
    unfold Mem.c
    unfold Val.c at hc
    simp only [List.mem_cons] at hc ⊢
    exact .inr (.inr (.inr (.inr (.inr hc))))
  have ls : ∀ r ∈ a6.map Sym.c, r.length = 2 := fun r hr => by
    obtain ⟨x, _, rfl⟩ := List.mem_map.1 hr
    rfl
  have lm : ∀ r ∈ l.map Mem.c, r.length = 13 := fun r hr => by
    obtain ⟨x, _, rfl⟩ := List.mem_map.1 hr
    rfl
  have cs := clone_two ls (by rw [List.length_map]; omega)
  have cm := clone_two lm (by rw [List.length_map]; omega)
  clear n7 hsm ho
  refine res_of a294 rfl rfl ?_
  simp only [F294]
  simp (disch := omega) only [go_sem]
  generalize a6.map Sym.c = rs at cs ls
  have hlen : (l.map Mem.c).length = l.length := List.length_map ..
  rcases cs with ⟨es, cs⟩ | ⟨es, cs⟩ <;> rcases cm with ⟨em, cm⟩ | ⟨em, cm⟩
  all_goals simp (disch := omega) only [go_sem, cs, cm]
  all_goals first
    | (have hl0 : l = [] := List.map_eq_nil_iff.1 em
       subst hl0
       refine W.once ?_
       simp (disch := omega) only [go_sem]
       refine Br.ofP (fun c => absurd c (by omega)) (fun _ => ?_)
       simp (disch := omega) only [go_sem, leaveL_true])
    | (refine W.upto l.length ((fun h0 => fun k => ⟨[(1, .ptr 1 0), (2, .ptr 2 0), (14, .pv (.int .i64 l.length)), (15, .pv (.int .i64 (k : Nat)))], h0⟩) _) (fun _ => True) rfl trivial (fun k hk' _ => ?_)
       simp (disch := omega) only [go_sem]
       refine Br.ofP (fun c => ?_) (fun c => ?_)
       · have hr := List.getElem?_eq_getElem (l := l) (i := k) (by omega)
         generalize l[k]'(by omega) = r at hr
         have hc := hcl r (List.mem_of_getElem? hr)
         have hrr : (l.map Mem.c)[k]? = some r.c := by rw [List.getElem?_map, hr]; rfl
         have hst : ∀ id, storeRow id k 5 [.pv (.int .i64 r.dflt.kind), .pv (.bool r.dflt.bool), .pv (.int .i64 r.dflt.int), .pv (.str r.dflt.str), .pv (.int .i64 r.dflt.id), .pv (.lst 0 r.dflt.keys), .pv (.lst 0 r.dflt.items), .pv (.lst 0 (r.dflt.rest.map Raw.c))] ⟨0, 13, .inl (l.map Mem.c)⟩ = some { ar := some (id, ⟨0, 13, .inl (l.map Mem.c)⟩) } :=
           fun id => store_same (id := id) (c := 5) (n := 8) (ver := 0) (k := 13) hrr (by simp [PV.perm, Mem.c]) (by simp [Mem.c]) (by simp [Mem.c])
         unfold Val.c at hc
         simp (disch := omega) only [go_sem, hr, Mem.c, hc, hst]
         refine .of (by omega) ?_ trivial
         rfl
       simp (disch := omega) only [go_sem, leaveL_true])
  all_goals simp [ownIds, V.cells, keep, mapO, freshc, ownArr, keepc, PV.perm, frL_cons, es, em]
  all_goals first
    | exact ⟨rfl, rfl, rfl⟩
    | exact ⟨rfl, rfl, List.take_of_length_le (by rw [List.length_map]; exact Nat.le_refl _)⟩
    | exact ⟨rfl, rfl⟩
    | exact ⟨rfl, List.take_of_length_le (by rw [List.length_map]; exact Nat.le_refl _)⟩
end Go.Pv

/-
  Chapter 07: lists of types whose own lists lie elsewhere.
-/
namespace Go.Pv

/-- A list that is kept: for good, or in an array of its own that is not the o-th. -/
def Home (ar : List Arr) (o k : Nat) (v : V) (rows : List (List PV)) : Prop := v = .pv (.lst 0 rows) ∨ (∃ id ver, v = .own id ver 0 rows.length ∧ id ≠ o ∧ ar[id]? = some ⟨ver, k, .inl rows⟩) ∨ v = .tl rows
theorem Home.push {ar : List Arr} {o k : Nat} {v : V} {rows : List (List PV)} (h : Home ar o k v rows) (x : List Arr) : Home (ar ++ x) o k v rows := by
  rcases h with h | ⟨id, ver, h1, h2, h3⟩ | h
  · exact .inl h
  · exact .inr (.inl ⟨id, ver, h1, h2, by rw [List.getElem?_append_left (List.getElem?_eq_some_iff.1 h3).1]; exact h3⟩)
  · exact .inr (.inr h)
theorem Home.set {ar : List Arr} {o k : Nat} {v : V} {rows : List (List PV)} (h : Home ar o k v rows) (a : Arr) : Home (ar.set o a) o k v rows := by
  rcases h with h | ⟨id, ver, h1, h2, h3⟩ | h
  · exact .inl h
  · exact .inr (.inl ⟨id, ver, h1, h2, by rw [List.getElem?_set_ne (fun e => h2 e.symm)]; exact h3⟩)
  · exact .inr (.inr h)
theorem Home.other {ar : List Arr} {o k : Nat} {v : V} {rows : List (List PV)} (h : Home ar o k v rows) (o' : Nat) (hn : ar.length ≤ o') : Home ar o' k v rows := by
  rcases h with h | ⟨id, ver, h1, h2, h3⟩ | h
  · exact .inl h
  · exact .inr (.inl ⟨id, ver, h1, by have := (List.getElem?_eq_some_iff.1 h3).1; omega, h3⟩)
  · exact .inr (.inr h)
theorem Home.keep {ar : List Arr} {o k : Nat} {v : V} {rows : List (List PV)} (h : Home ar o k v rows) (bx : List (Nat × List V)) (mp : List (List (PV × PV))) (d : Nat) : keepc ⟨bx, ar, mp⟩ (d + 1) v = some (.lst 0 rows) := by
  rcases h with rfl | ⟨id, ver, rfl, h2, h3⟩ | rfl
  · rfl
  · rw [keepc_own, ownArr_mk, h3]
    simp only [Option.bind_some, if_true, cutRows, keepRows, List.drop_zero, List.take_length]
  · rfl
/-- A row of cells stands for a type. -/
def TRow (ar : List Arr) (o : Nat) (row : List V) (t : Typ) : Prop := ∃ sv mv, row = [.pv (.int .i64 t.kind), .pv (.str t.name), .pv (.int .i64 t.low), .pv (.int .i64 t.high), .pv (.int .i64 t.max), sv, mv, .pv (.int .i64 t.key), .pv (.int .i64 t.elem), .pv (.bool t.opn)] ∧
  Home ar o 2 sv (t.syms.map Sym.c) ∧ Home ar o 13 mv (t.mems.map Mem.c)
theorem TRow.push {ar : List Arr} {o : Nat} {row : List V} {t : Typ} (h : TRow ar o row t) (x : List Arr) : TRow (ar ++ x) o row t := by
  obtain ⟨sv, mv, h1, h2, h3⟩ := h
  exact ⟨sv, mv, h1, h2.push x, h3.push x⟩
theorem TRow.set {ar : List Arr} {o : Nat} {row : List V} {t : Typ} (h : TRow ar o row t) (a : Arr) : TRow (ar.set o a) o row t := by
  obtain ⟨sv, mv, h1, h2, h3⟩ := h
  exact ⟨sv, mv, h1, h2.set a, h3.set a⟩
theorem TRow.other {ar : List Arr} {o : Nat} {row : List V} {t : Typ} (h : TRow ar o row t) (o' : Nat) (hn : ar.length ≤ o') : TRow ar o' row t := by
  obtain ⟨sv, mv, h1, h2, h3⟩ := h
  exact ⟨sv, mv, h1, h2.other o' hn, h3.other o' hn⟩
theorem TRow.len {ar : List Arr} {o : Nat} {row : List V} {t : Typ} (h : TRow ar o row t) : row.length = 10 := by
  obtain ⟨sv, mv, rfl, _⟩ := h
  rfl
theorem TRow.keep {ar : List Arr} {o : Nat} {row : List V} {t : Typ} (h : TRow ar o row t) (bx : List (Nat × List V)) (mp : List (List (PV × PV))) (d : Nat) : mapO (keepc ⟨bx, ar, mp⟩ (d + 1)) row = some t.c := by
  obtain ⟨sv, mv, rfl, h2, h3⟩ := h
  simp only [mapO, h2.keep bx mp d, h3.keep bx mp d, keepc_pv, PV.perm, if_true]
  rfl
/-- The rows of a body. -/
def bodyV : Sum (List (List PV)) (List (List V)) → List (List V)
  | .inl x => x.map (·.map .pv)
  | .inr x => x
theorem bodyV_len (b : Sum (List (List PV)) (List (List V))) : (bodyV b).length = rowsLen b := by cases b <;> simp [bodyV, rowsLen]
theorem bodyV_cat (a b : Sum (List (List PV)) (List (List V))) : bodyV (catRows a b) = bodyV a ++ bodyV b := by
  cases a <;> cases b <;> simp [bodyV, catRows]
structure TRows (ar : List Arr) (o : Nat) (rows : List (List V)) (ts : List Typ) : Prop where
  len : rows.length = ts.length
  row : ∀ (i : Nat) row t, rows[i]? = some row → ts[i]? = some t → TRow ar o row t
theorem TRows.push {ar : List Arr} {o : Nat} {rows : List (List V)} {ts : List Typ} (h : TRows ar o rows ts) (x : List Arr) : TRows (ar ++ x) o rows ts := ⟨h.len, fun i row t h1 h2 => (h.row i row t h1 h2).push x⟩
theorem TRows.set {ar : List Arr} {o : Nat} {rows : List (List V)} {ts : List Typ} (h : TRows ar o rows ts) (a : Arr) : TRows (ar.set o a) o rows ts := ⟨h.len, fun i row t h1 h2 => (h.row i row t h1 h2).set a⟩
theorem TRows.snoc {ar : List Arr} {o : Nat} {rows : List (List V)} {ts : List Typ} {row : List V} {t : Typ} (h : TRows ar o rows ts) (hr : TRow ar o row t) : TRows ar o (rows ++ [row]) (ts ++ [t]) := by
  refine ⟨by simp [h.len], fun i r u h1 h2 => ?_⟩
  rcases Nat.lt_or_ge i rows.length with hi | hi
  · rw [List.getElem?_append_left hi] at h1
    rw [List.getElem?_append_left (by rw [← h.len]; exact hi)] at h2
    exact h.row i r u h1 h2
  · rw [List.getElem?_append_right hi] at h1
    rw [List.getElem?_append_right (by rw [← h.len]; exact hi)] at h2
    rw [h.len] at h1
    cases hj : i - ts.length with
    | zero =>
      rw [hj] at h1 h2
      cases h1
      cases h2
      exact hr
    | succ j =>
      rw [hj] at h1
      simp at h1
theorem mapO_rows {α β γ : Type} {f : α → Option β} : ∀ {rows : List (List α)} {ts : List γ} {c : γ → List β}, rows.length = ts.length → (∀ (i : Nat) row t, rows[i]? = some row → ts[i]? = some t → mapO f row = some (c t)) → mapO (mapO f) rows = some (ts.map c)
  | [], [], _, _, _ => rfl
  | r :: rows, t :: ts, c, hl, h => by
    have h1 := h 0 r t rfl rfl
    have h2 := mapO_rows (f := f) (rows := rows) (ts := ts) (c := c) (by simpa using hl) (fun i row u hi hu => h (i + 1) row u (by simpa using hi) (by simpa using hu))
    simp only [mapO, h1, h2, List.map_cons]
theorem mapO_pvs {h : Heap} {d : Nat} : ∀ {l r : List PV}, mapO (keepc h d) (l.map V.pv) = some r → r = l
  | [], r, he => by
    cases he
    rfl
  | x :: l, r, he => by
    simp only [List.map_cons, mapO_cons', keepc_pv] at he
    split at he
    · cases hm : mapO (keepc h d) (l.map V.pv) with
      | none => simp [hm] at he
      | some y =>
        simp [hm] at he
        rw [← he, mapO_pvs hm]
    · simp at he
/-- A list of types that is being built. -/
structure OutRep (ar : List Arr) (o ver : Nat) (ts : List Typ) : Prop where
  pos : ts ≠ []
  it : ∃ body, ar[o]? = some ⟨ver, 10, body⟩ ∧ TRows ar o (bodyV body) ts
theorem OutRep.keep {ar : List Arr} {o ver : Nat} {ts : List Typ} (h : OutRep ar o ver ts) (bx : List (Nat × List V)) (mp : List (List (PV × PV))) : keepc ⟨bx, ar, mp⟩ 4 (.own o ver 0 ts.length) = some (.lst 0 (ts.map Typ.c)) := by
  obtain ⟨body, h1, h2⟩ := h.it
  rw [keepc_own, ownArr_mk, h1]
  simp only [Option.bind_some, if_true]
  have hk := mapO_rows (f := keepc ⟨bx, ar, mp⟩ 3) (c := Typ.c) h2.len (fun i row t hi ht => (h2.row i row t hi ht).keep bx mp 2)
  cases body with
  | inl R =>
    have hl : R.length = ts.length := by have := h2.len; simpa [bodyV] using this
    simp only [cutRows, keepRows, List.drop_zero]
    rw [← hl, List.take_length]
    congr 1
    congr 1
    apply List.ext_getElem?
    intro i
    rcases Nat.lt_or_ge i R.length with hi | hi
    · have e1 := List.getElem?_eq_getElem hi
      have e2 := List.getElem?_eq_getElem (l := ts) (i := i) (by omega)
      rw [List.getElem?_map, e1, e2]
      have := (h2.row i (R[i].map V.pv) (ts[i]'(by omega)) (by simp [bodyV, e1]) e2).keep bx mp 2
      have := mapO_pvs this
      rw [Option.map_some, this]
    · rw [List.getElem?_eq_none hi, List.getElem?_map, List.getElem?_eq_none (by omega)]
      rfl
  | inr R =>
    have hl : R.length = ts.length := by have := h2.len; simpa [bodyV] using this
    simp only [cutRows, keepRows, List.drop_zero]
    rw [← hl, List.take_length]
    have hk' : mapO (mapO (keepc ⟨bx, ar, mp⟩ 3)) R = some (ts.map Typ.c) := hk
    rw [hk']
    rfl
end Go.Pv

/-
  Chapter 07: pruned schemas.
-/
namespace Go.Pv

def idxI (L : List Int) (j : Int) : Int := firstI (fun y => decide (y = j)) L
def plK (L : List Int) (n k : Nat) : List Int := (List.range n).map fun (j : Nat) => if j < k then idxI L (j : Int) else 0
theorem plK_len (L : List Int) (n k : Nat) : (plK L n k).length = n := by simp [plK]
theorem plK_zero (L : List Int) (n : Nat) : plK L n 0 = List.replicate n 0 := by
  apply List.ext_getElem
  · simp [plK]
  · intro i h1 h2
    simp [plK]
theorem plK_set (L : List Int) (n k : Nat) (_hk : k < n) : (plK L n k).set k (idxI L (k : Int)) = plK L n (k + 1) := by
  apply List.ext_getElem
  · simp [plK]
  · intro i h1 h2
    rw [List.getElem_set]
    by_cases h : k = i
    · subst h
      simp [plK]
    · have : (i < k + 1) = (i < k) := by rw [eq_iff_iff]; omega
      simp [plK, h, this]
theorem plK_get {L : List Int} {n : Nat} {u : Int} (h0 : 0 ≤ u) (h1 : u < n) : (plK L n n)[u.toNat]? = some (idxI L u) := by
  have hu : u.toNat < n := by omega
  have e : ((u.toNat : Nat) : Int) = u := Int.toNat_of_nonneg h0
  unfold plK
  rw [List.getElem?_map, List.getElem?_range hu, Option.map_some, if_pos hu, e]
def remapM (L : List Int) (m : Mem) : Mem := { m with type := idxI L m.type }
def remapT (L : List Int) (t : Typ) : Typ := { t with mems := t.mems.map (remapM L), key := if t.kind = 8 then idxI L t.key else t.key, elem := if 7 ≤ t.kind then idxI L t.elem else t.elem }
theorem drop_atS {α : Type} {l : List α} {k : Nat} {x : α} (h : l[k]? = some x) : l.drop k = x :: l.drop (k + 1) := by
  obtain ⟨hk, rfl⟩ := List.getElem?_eq_some_iff.1 h
  exact List.drop_eq_getElem_cons hk
theorem body_fit {k : Nat} {b : Sum (List (List PV)) (List (List V))} (h : ∀ r ∈ bodyV b, r.length = k) : rowsFit k b = true := by
  cases b with
  | inl x =>
    simp only [rowsFit, List.all_eq_true, beq_iff_eq]
    intro r hr
    have := h (r.map .pv) (List.mem_map_of_mem hr)
    simpa using this
  | inr x =>
    simp only [rowsFit, List.all_eq_true, beq_iff_eq]
    exact h
/-- Members, of which the first are renumbered. -/
def mixJ (L : List Int) (l : List Mem) (j : Nat) : List Mem := (l.take j).map (remapM L) ++ l.drop j
theorem mixJ_zero (L : List Int) (l : List Mem) : mixJ L l 0 = l := by simp [mixJ]
theorem mixJ_all (L : List Int) (l : List Mem) : mixJ L l l.length = l.map (remapM L) := by simp [mixJ]
theorem mixJ_len (L : List Int) (l : List Mem) (j : Nat) : (mixJ L l j).length = l.length := by
  simp only [mixJ, List.length_append, List.length_map, List.length_take, List.length_drop]
  omega
theorem mixJ_get {L : List Int} {l : List Mem} {j : Nat} {m : Mem} (h : l[j]? = some m) : (mixJ L l j)[j]? = some m := by
  have hj := (List.getElem?_eq_some_iff.1 h).1
  have hl : ((l.take j).map (remapM L)).length = j := by simp; omega
  unfold mixJ
  rw [List.getElem?_append_right (by omega), hl, Nat.sub_self, List.getElem?_drop, Nat.add_zero]
  exact h
theorem mixJ_set {L : List Int} {l : List Mem} {j : Nat} {m : Mem} (h : l[j]? = some m) : (mixJ L l j).set j (remapM L m) = mixJ L l (j + 1) := by
  have hj := (List.getElem?_eq_some_iff.1 h).1
  have hl : ((l.take j).map (remapM L)).length = j := by simp; omega
  unfold mixJ
  rw [List.set_append_right _ _ (by omega), hl, Nat.sub_self, drop_atS h, List.set_cons_zero, List.take_add_one, h]
  simp
theorem out_first {bx : List (Nat × List V)} {ar : List Arr} {mp : List (List (PV × PV))} {y : V} {new : Sum (List (List PV)) (List (List V))} {rd : Option Nat} {row : List V} (hs : srcRows ⟨bx, ar, mp⟩ y = some (new, rd)) (hn : bodyV new = [row]) (hr : row.length = 10) :
    appendV ⟨bx, ar, mp⟩ 10 (.tl []) y = some (.own ar.length 0 0 1, { push := [⟨0, 10, catRows (.inl []) new⟩], ra := rd, base := ar.length }) := by
  have h1 : rowsLen new = 1 := by rw [← bodyV_len, hn]; rfl
  have h2 : rowsFit 10 new = true := body_fit (by rw [hn]; intro r hr'; rw [List.mem_singleton] at hr'; rw [hr']; exact hr)
  simp only [appendV, hs, h2, h1, if_true]
  simp [rowsFit, mostRows]
theorem out_next {bx : List (Nat × List V)} {ar : List Arr} {mp : List (List (PV × PV))} {y : V} {new : Sum (List (List PV)) (List (List V))} {rd : Option Nat} {row : List V} {o ver n : Nat} {body : Sum (List (List PV)) (List (List V))} (hs : srcRows ⟨bx, ar, mp⟩ y = some (new, rd)) (hn : bodyV new = [row]) (hr : row.length = 10)
    (ho : ar[o]? = some ⟨ver, 10, body⟩) (hb : rowsLen body = n) (hrd : rd ≠ some o) (hm : n + 1 ≤ 2147483648) :
    appendV ⟨bx, ar, mp⟩ 10 (.own o ver 0 n) y = some (.own o (ver + 1) 0 (n + 1), { ar := some (o, ⟨ver + 1, 10, catRows (cutRows 0 n body) new⟩), ra := rd }) := by
  have h1 : rowsLen new = 1 := by rw [← bodyV_len, hn]; rfl
  have h2 : rowsFit 10 new = true := body_fit (by rw [hn]; intro r hr'; rw [List.mem_singleton] at hr'; rw [hr']; exact hr)
  have h3 : ownArr ⟨bx, ar, mp⟩ o ver = some ⟨ver, 10, body⟩ := by rw [ownArr_mk, ho]; simp
  have h4 : (⟨ver, 10, body⟩ : Arr).size = n := by rw [← hb]; cases body <;> rfl
  simp only [appendV, hs, h2, h1, h3, if_true, h4]
  simp [mostRows, hm, hrd]
end Go.Pv

/-
  Chapter 07: Prune.
-/
namespace Go.Pv

noncomputable def prunedL (l : List Typ) (i : Int) : List Typ := (reachR l i).1.map fun u => remapT (reachR l i).1 (typAt l u)
noncomputable def placeL (l : List Typ) (i : Int) : List Int := if (reachR l i).2 ≠ 0 then [] else plK (reachR l i).1 l.length l.length
theorem reachR_ok {l : List Typ} {i : Int} (h : (reachR l i).2 = 0) : Sane l ∧ (reachR l i).1.Nodup ∧ ∀ u ∈ (reachR l i).1, inT l u := by
  unfold reachR at h ⊢
  split at h
  · rename_i h1
    exact absurd h h1
  · rename_i h1
    have hk : knownR l i = 0 := by simpa using h1
    rw [if_neg (by simp [hk])]
    obtain ⟨a, b⟩ := reachR_in hk
    exact ⟨valid_sane (known_zero hk).1, (isort_perm ltI _).nodup_iff.2 a, fun u hu => b u ((isort_perm ltI _).mem_iff.1 hu)⟩
theorem reachR_no {l : List Typ} {i : Int} (h : (reachR l i).2 ≠ 0) : (reachR l i).1 = [] := by
  unfold reachR at h ⊢
  split
  · rfl
  · rename_i h1
    rw [if_neg h1] at h
    exact absurd rfl h
/-- What the list of types is while it is being built. -/
def OutV (ar : List Arr) (V0 : V) (ts : List Typ) : Prop := (V0 = .tl [] ∧ ts = []) ∨ ∃ o ver, V0 = .own o ver 0 ts.length ∧ o ≠ 0 ∧ OutRep ar o ver ts
theorem cut_all {ver n : Nat} {b : Sum (List (List PV)) (List (List V))} (_h : rowsLen b = n) (_hv : ver = ver) : cutRows 0 n b = b := by
  subst _h
  cases b <;> simp [cutRows, rowsLen]
theorem mem_used {t : Typ} {m : Mem} (h : m ∈ t.mems) : m.type ∈ usesT t := by
  unfold usesT
  exact List.mem_append_left _ (List.mem_append_left _ (List.mem_map_of_mem h))
theorem elem_used {t : Typ} (h : 7 ≤ t.kind) : t.elem ∈ usesT t := by simp [usesT, elemsT, h]
theorem mixJ_store {L : List Int} {l : List Mem} {j : Nat} {m : Mem} (h : l[j]? = some m) (id : Nat) : storeRow id j 2 [.pv (.int .i64 (idxI L m.type))] ⟨0, 13, .inl ((mixJ L l j).map Mem.c)⟩ = some { ar := some (id, ⟨0, 13, .inl ((mixJ L l (j + 1)).map Mem.c)⟩) } := by
  have hj := (List.getElem?_eq_some_iff.1 h).1
  rw [storeRow_inl (l := [.int .i64 (idxI L m.type)]) (by rw [List.length_map, mixJ_len]; exact hj) rfl (by simp) rfl, ← mixJ_set h, List.map_set]
  unfold over
  have hd : ((mixJ L l j).map Mem.c).getD j [] = m.c := by rw [List.getD_eq_getElem?_getD, List.getElem?_map, mixJ_get h]; rfl
  rw [hd]
  rfl
/-- One more type. -/
theorem appOut {ar X : List Arr} {V0 y : V} {ts : List Typ} {t : Typ} {new : Sum (List (List PV)) (List (List V))} {rd : Option Nat} {row : List V} (hO : OutV ar V0 ts) (h0 : 0 < ar.length) (hm : ts.length + 1 ≤ 2147483648)
    (hs : ∀ bx, srcRows ⟨bx, ar ++ X, []⟩ y = some (new, rd)) (hn : bodyV new = [row]) (hrd : ∀ o, rd = some o → ar.length ≤ o) (hr : ∀ o, o < ar.length ∨ (ar ++ X).length ≤ o → TRow (ar ++ X) o row t) :
    ∃ V1 T ar', (∀ bx, appendV ⟨bx, ar ++ X, []⟩ 10 V0 y = some (V1, T)) ∧ (∀ bx, T.apply ⟨bx, ar ++ X, []⟩ = ⟨bx, ar', []⟩) ∧ V1.cells = [V1] ∧ V1.calm = true ∧ ar'[0]? = ar[0]? ∧ OutV ar' V1 (ts ++ [t]) := by
  have hrow : row.length = 10 := (hr _ (.inr (Nat.le_refl _))).len
  rcases hO with ⟨rfl, rfl⟩ | ⟨o, ver, rfl, ho, hrep⟩
  · refine ⟨_, _, (ar ++ X) ++ [⟨0, 10, catRows (.inl []) new⟩], fun bx => out_first (hs bx) hn hrow, fun bx => ?_, rfl, rfl, ?_, .inr ⟨(ar ++ X).length, 0, rfl, ?_, ?_⟩⟩
    · simp [Tn.apply]
    · rw [List.append_assoc, List.getElem?_append_left h0]
    · show (ar ++ X).length ≠ 0
      rw [List.length_append]
      omega
    · refine ⟨by simp, catRows (.inl []) new, by simp, ?_⟩
      rw [bodyV_cat, hn]
      have h1 : TRows ((ar ++ X) ++ [⟨0, 10, catRows (.inl []) new⟩]) (ar ++ X).length (bodyV (.inl [])) [] := ⟨rfl, fun i r u h1 _ => by simp [bodyV] at h1⟩
      exact h1.snoc ((hr _ (.inr (Nat.le_refl _))).push _)
  · obtain ⟨body, hb1, hb2⟩ := hrep.it
    have hol := (List.getElem?_eq_some_iff.1 hb1).1
    have hb1' : (ar ++ X)[o]? = some ⟨ver, 10, body⟩ := by rw [List.getElem?_append_left hol]; exact hb1
    have hbl : rowsLen body = ts.length := by rw [← bodyV_len]; exact hb2.len
    have happ := fun bx => out_next (bx := bx) (mp := []) (hs bx) hn hrow hb1' hbl (fun e => by have := hrd o e; omega) hm
    rw [cut_all (ver := ver) hbl rfl] at happ
    refine ⟨_, _, (ar ++ X).set o ⟨ver + 1, 10, catRows body new⟩, happ, fun bx => ?_, rfl, rfl, ?_, .inr ⟨o, ver + 1, by simp, ho, ?_⟩⟩
    · simp [Tn.apply]
    · rw [List.getElem?_set_ne ho, List.getElem?_append_left h0]
    · refine ⟨by simp, catRows body new, ?_, ?_⟩
      · rw [List.getElem?_set_self (by rw [List.length_append]; omega)]
      · rw [bodyV_cat, hn]
        exact (((hb2.push X).set _).snoc ((hr o (.inl hol)).set _))
/-- .. by way of a literal. -/
theorem appLit {ar X0 : List Arr} {V0 : V} {ts : List Typ} {t : Typ} {row : List V} {n : Nat} (hO : OutV ar V0 ts) (h0 : 0 < ar.length) (hm : ts.length + 1 ≤ 2147483648) (hl : (ar ++ X0).length = n)
    (hr : ∀ o, o < ar.length ∨ n + 1 ≤ o → TRow (ar ++ X0 ++ [⟨0, 10, .inr [row]⟩]) o row t) :
    ∃ V1 T ar', (∀ bx, appendV ⟨bx, ar ++ X0 ++ [⟨0, 10, .inr [row]⟩], []⟩ 10 V0 (.own n 0 0 1) = some (V1, T)) ∧ (∀ bx, T.apply ⟨bx, ar ++ X0 ++ [⟨0, 10, .inr [row]⟩], []⟩ = ⟨bx, ar', []⟩) ∧ V1.cells = [V1] ∧ V1.calm = true ∧ ar'[0]? = ar[0]? ∧ OutV ar' V1 (ts ++ [t]) := by
  rw [List.append_assoc] at hr ⊢
  refine appOut (X := X0 ++ [⟨0, 10, .inr [row]⟩]) (new := .inr [row]) (rd := some n) hO h0 hm (fun bx => ?_) rfl (fun o ho => ?_) (fun o ho => hr o ?_)
  · have hg : (ar ++ (X0 ++ [⟨0, 10, .inr [row]⟩]))[n]? = some ⟨0, 10, .inr [row]⟩ := by
      rw [← List.append_assoc, ← hl]
      simp
    simp [srcRows, ownArr, hg, cutRows]
  · injection ho with ho
    rw [← ho, ← hl, List.length_append]
    omega
  · rcases ho with ho | ho
    · exact .inl ho
    · rw [← List.append_assoc, List.length_append, hl] at ho
      exact .inr ho
set_option maxHeartbeats 16000000 in
/-- Prune. -/
theorem r275 (v : Nat) (l : List Typ) (i : Int) (hl : l.length ≤ 2147483648) (ho : ∀ t ∈ l, t.ok) (hs : ∀ t ∈ l, t.short) (hsm : ∀ t ∈ l, ∀ c ∈ t.c, Small 1048576 c) :
    res A PrA 275 [.agg [.lst v (l.map Typ.c)], .int .i64 i] = some [.agg [.lst 0 ((prunedL l i).map Typ.c)], .lst 0 (ints (placeL l i)), .int .i64 (reachR l i).2] := by
  refine res_of a275 rfl rfl ?_
  simp only [F275]
  have h273 := fun v => r273 v l i hl ho hs
  have hlen := reachR_len (l := l) (i := i)
  have hok := reachR_ok (l := l) (i := i)
  have hno := reachR_no (l := l) (i := i)
  unfold prunedL placeL
  generalize (reachR l i).1 = L at *
  generalize (reachR l i).2 = e at *
  simp (disch := omega) only [go_sem, h273]
  refine Br.ofP (fun c => ?_) (fun c => ?_) <;> simp (disch := omega) only [go_sem, c]
  rotate_left
  · rw [hno c, if_pos c]
    rfl
  subst c
  obtain ⟨hsane, hnd, hin⟩ := hok rfl
  have h32 := hsane.len
  rw [if_neg (by simp)]
  refine W.upto l.length (fun k => ⟨[(2, .ptr 2 0), (4, .ptr 4 0), (7, .pv (.lst 0 (ints L))), (9, .own 0 0 0 l.length), (31, .pv (.int .i64 l.length)), (32, .pv (.int .i64 k))], ⟨[(2, [.pv (.lst v (l.map Typ.c))]), (4, [.tl []])], [⟨0, 1, .inl (ints (plK L l.length k))⟩], []⟩⟩) (fun _ => True) ?_ trivial (fun k hk _ => ?_)
  · rw [plK_zero]
    rfl
  have hpk := plK_len L l.length k
  simp (disch := omega) only [go_sem]
  refine Br.ofP (fun c => ?_) (fun c => ?_)
  · have h118 := fun t => s118 t L (k : Int) (by omega)
    have hset := plK_set L l.length k (by omega)
    unfold idxI at hset
    simp (disch := omega) only [go_sem, h118]
    refine .of (by omega) ?_ trivial
    rw [hset]
    rfl
  obtain rfl : k = l.length := by omega
  simp (disch := omega) only [go_sem]
  have hpg : ∀ u : Int, 0 ≤ u → u < l.length → (plK L l.length l.length)[u.toNat]? = some (idxI L u) := fun u h0 h1 => plK_get h0 h1
  clear hk c
  generalize plK L l.length l.length = pl at hpk hpg
  refine W.loop (α := Nat × List Arr × V) (fun x => ⟨[(2, .ptr 2 0), (4, .ptr 4 0), (9, .own 0 0 0 l.length), (11, .ptr 11 0), (42, .pv (.lst 0 (ints L))), (43, .pv (.int .i64 L.length)), (44, .pv (.int .i64 x.1))], ⟨[(2, [.pv (.lst v (l.map Typ.c))]), (4, [.tl []]), (11, [x.2.2])], x.2.1, []⟩⟩)
    (fun x => x.1 ≤ L.length ∧ x.2.1[0]? = some ⟨0, 1, .inl (ints pl)⟩ ∧ OutV x.2.1 x.2.2 ((L.take x.1).map fun u => remapT L (typAt l u))) (fun x => L.length - x.1) (0, [⟨0, 1, .inl (ints pl)⟩], .tl []) rfl ⟨Nat.zero_le _, rfl, .inl ⟨rfl, by simp⟩⟩ fun x hx => ?_
  obtain ⟨k, ar, V0⟩ := x
  obtain ⟨hk, hP, hO⟩ := hx
  dsimp only at hk hP hO
  simp (disch := omega) only [go_sem]
  refine Br.ofP (fun c => ?_) (fun c => ?_)
  rotate_left
  · obtain rfl : k = L.length := by omega
    rw [List.take_length] at hO
    rcases hO with ⟨rfl, h1⟩ | ⟨o, ver, rfl, h0, h1⟩
    · simp (disch := omega) only [go_sem, hP]
      rw [h1, List.take_of_length_le (by omega)]
      rfl
    · have hkeep := h1.keep [(4, [V.own o ver 0 (L.map fun u => remapT L (typAt l u)).length])] []
      simp only [keepc_own4, ownArr_mk, List.length_map] at hkeep
      simp (disch := omega) only [go_sem, hP]
      rw [hkeep, List.take_of_length_le (by omega)]
      rfl
  have hu := List.getElem?_eq_getElem (l := L) (i := k) (by omega)
  generalize L[k]'(by omega) = u at hu
  obtain ⟨hu0, hu1⟩ := hin u (List.mem_of_getElem? hu)
  have hget := typAt_get hu0 hu1
  have hidx := idx_typ (v := v) hu0 hu1
  have hm := List.mem_of_getElem? hget
  have h294 := r294 (typAt l u) (ho _ hm) (hsm _ hm)
  have huses := hsane.uses _ hm
  have hsh := hs _ hm
  have hnext : (L.take (k + 1)).map (fun u => remapT L (typAt l u)) = (L.take k).map (fun u => remapT L (typAt l u)) ++ [remapT L (typAt l u)] := by
    rw [List.take_add_one, hu, List.map_append]
    rfl
  generalize typAt l u = p at *
  have hap : 0 < ar.length := (List.getElem?_eq_some_iff.1 hP).1
  unfold copC Typ.c at h294
  unfold Typ.c at hidx
  by_cases es : p.syms.map Sym.c = []
  · by_cases em : p.mems.map Mem.c = []
    · have fin : ∀ (kv ev : Int), (remapT L p).key = kv → (remapT L p).elem = ev → ∃ V1 T ar', (∀ bx, appendV ⟨bx, ar, []⟩ 10 V0 (.tl [[.int .i64 p.kind, .str p.name, .int .i64 p.low, .int .i64 p.high, .int .i64 p.max, .lst 0 [], .lst 0 [], .int .i64 kv, .int .i64 ev, .bool p.opn]]) = some (V1, T)) ∧ (∀ bx, T.apply ⟨bx, ar, []⟩ = ⟨bx, ar', []⟩) ∧ V1.cells = [V1] ∧ V1.calm = true ∧ ar'[0]? = ar[0]? ∧ OutV ar' V1 ((L.take k).map (fun u => remapT L (typAt l u)) ++ [remapT L p]) := fun kv ev e1 e2 => by
        have := appOut (X := []) (t := remapT L p) (rd := none) (new := .inl [[.int .i64 p.kind, .str p.name, .int .i64 p.low, .int .i64 p.high, .int .i64 p.max, .lst 0 [], .lst 0 [], .int .i64 kv, .int .i64 ev, .bool p.opn]]) (y := .tl [[.int .i64 p.kind, .str p.name, .int .i64 p.low, .int .i64 p.high, .int .i64 p.max, .lst 0 [], .lst 0 [], .int .i64 kv, .int .i64 ev, .bool p.opn]]) hO hap (by simp; omega) (fun bx => rfl) rfl (fun o h => by cases h) (fun o _ => ⟨.pv (.lst 0 []), .pv (.lst 0 []), by rw [e1, e2]; rfl, .inl (by rw [show (remapT L p).syms = p.syms from rfl, es]), .inl (by rw [show (remapT L p).mems = p.mems.map (remapM L) from rfl, List.map_eq_nil_iff.1 em]; rfl)⟩)
        simpa only [List.append_nil] using this
      rw [es, em, frL_nil, frL_nil] at h294
      rw [es, em] at hidx
      unfold Typ.c
      simp (disch := omega) only [go_sem, hu, hidx, h294]
      refine W.once ?_
      simp (disch := omega) only [go_sem]
      refine Br.ofP (fun c => absurd c (by omega)) (fun _ => ?_)
      simp (disch := omega) only [go_sem]
      refine Br.ofP (fun c8 => ?_) (fun c8 => ?_)
      · obtain ⟨hk0, hk1⟩ := huses p.key (key_used c8)
        have h7 : 7 ≤ p.kind := by omega
        obtain ⟨he0, he1⟩ := huses p.elem (elem_used h7)
        have hpk := hpg p.key hk0 hk1
        have hpe := hpg p.elem he0 he1
        simp (disch := omega) only [go_sem, hP, hpk]
        refine Br.ofP (fun _ => ?_) (fun c7 => absurd h7 c7)
        simp (disch := omega) only [go_sem, hP, hpe]
        obtain ⟨V1, T, ar', happ, hT, hc1, hc2, hz, hO'⟩ := fin _ _ (if_pos c8) (if_pos h7)
        simp (disch := omega) only [go_sem, happ, hT, hc1, hc2]
        refine ⟨(k + 1, ar', V1), ⟨by dsimp only; omega, by dsimp only; rw [hz, hP], by dsimp only; rw [hnext]; exact hO'⟩, by dsimp only; omega, rfl⟩
      simp (disch := omega) only [go_sem]
      refine Br.ofP (fun c7 => ?_) (fun c7 => ?_)
      · obtain ⟨he0, he1⟩ := huses p.elem (elem_used c7)
        have hpe := hpg p.elem he0 he1
        simp (disch := omega) only [go_sem, hP, hpe]
        obtain ⟨V1, T, ar', happ, hT, hc1, hc2, hz, hO'⟩ := fin _ _ (if_neg c8) (if_pos c7)
        simp (disch := omega) only [go_sem, happ, hT, hc1, hc2]
        refine ⟨(k + 1, ar', V1), ⟨by dsimp only; omega, by dsimp only; rw [hz, hP], by dsimp only; rw [hnext]; exact hO'⟩, by dsimp only; omega, rfl⟩
      · simp (disch := omega) only [go_sem]
        obtain ⟨V1, T, ar', happ, hT, hc1, hc2, hz, hO'⟩ := fin _ _ (if_neg c8) (if_neg c7)
        simp (disch := omega) only [go_sem, happ, hT, hc1, hc2]
        refine ⟨(k + 1, ar', V1), ⟨by dsimp only; omega, by dsimp only; rw [hz, hP], by dsimp only; rw [hnext]; exact hO'⟩, by dsimp only; omega, rfl⟩
    · have hml := hsh.mems
      have fin : ∀ (kv ev : Int), (remapT L p).key = kv → (remapT L p).elem = ev → ∃ V1 T ar', (∀ bx, appendV ⟨bx, ar ++ [⟨0, 13, .inl ((p.mems.map (remapM L)).map Mem.c)⟩] ++ [⟨0, 10, .inr [[.pv (.int .i64 p.kind), .pv (.str p.name), .pv (.int .i64 p.low), .pv (.int .i64 p.high), .pv (.int .i64 p.max), .pv (.lst 0 []), .own ar.length 0 0 p.mems.length, .pv (.int .i64 kv), .pv (.int .i64 ev), .pv (.bool p.opn)]]⟩], []⟩ 10 V0 (.own (ar.length + 1) 0 0 1) = some (V1, T)) ∧ (∀ bx, T.apply ⟨bx, ar ++ [⟨0, 13, .inl ((p.mems.map (remapM L)).map Mem.c)⟩] ++ [⟨0, 10, .inr [[.pv (.int .i64 p.kind), .pv (.str p.name), .pv (.int .i64 p.low), .pv (.int .i64 p.high), .pv (.int .i64 p.max), .pv (.lst 0 []), .own ar.length 0 0 p.mems.length, .pv (.int .i64 kv), .pv (.int .i64 ev), .pv (.bool p.opn)]]⟩], []⟩ = ⟨bx, ar', []⟩) ∧ V1.cells = [V1] ∧ V1.calm = true ∧ ar'[0]? = ar[0]? ∧ OutV ar' V1 ((L.take k).map (fun u => remapT L (typAt l u)) ++ [remapT L p]) := fun kv ev e1 e2 =>
        appLit (X0 := [⟨0, 13, .inl ((p.mems.map (remapM L)).map Mem.c)⟩]) hO hap (by simp; omega) (by simp) fun o ho => ⟨.pv (.lst 0 []), .own ar.length 0 0 p.mems.length, by rw [e1, e2]; rfl, .inl (by rw [show (remapT L p).syms = p.syms from rfl, es]), .inr (.inl ⟨ar.length, 0, by simp [remapT], by omega, by simp [remapT]⟩)⟩
      have hne : p.mems.map Mem.c ≠ [] := em
      rw [es, frL_nil, show frL 13 (p.mems.map Mem.c) = .fr 13 ((mixJ L p.mems 0).map Mem.c) by rw [frL_cons hne, mixJ_zero]] at h294
      have hm0 := mixJ_len L p.mems 0
      rw [es] at hidx
      have gM : ∀ a : Arr, (ar ++ [a])[ar.length]? = some a := fun a => by simp
      have gP : ∀ a : Arr, (ar ++ [a])[0]? = some ⟨0, 1, .inl (ints pl)⟩ := fun a => by rw [List.getElem?_append_left hap]; exact hP
      have sM : ∀ a b : Arr, (ar ++ [a]).set ar.length b = ar ++ [b] := fun a b => by simp
      unfold Typ.c
      simp (disch := omega) only [go_sem, hu, hidx, h294, hm0]
      refine W.upto p.mems.length ((fun (bx0 : List (Nat × List V)) => fun j => ⟨[(2, .ptr 2 0), (4, .ptr 4 0), (9, .own 0 0 0 l.length), (11, .ptr 11 0), (14, .ptr 14 0), (42, .pv (.lst 0 (ints L))), (43, .pv (.int .i64 L.length)), (44, .pv (.int .i64 k)), (56, .pv (.int .i64 p.mems.length)), (57, .pv (.int .i64 (j : Nat)))], ⟨bx0, ar ++ [⟨0, 13, .inl ((mixJ L p.mems j).map Mem.c)⟩], []⟩⟩) _) (fun _ => True) rfl trivial (fun j hj _ => ?_)
      simp (disch := omega) only [go_sem]
      refine Br.ofP (fun c => ?_) (fun c => ?_)
      · have hr := List.getElem?_eq_getElem (l := p.mems) (i := j) (by omega)
        generalize p.mems[j]'(by omega) = m at hr
        have hmg := mixJ_get (L := L) hr
        have hms := mixJ_set (L := L) hr
        obtain ⟨ht0, ht1⟩ := huses m.type (mem_used (List.mem_of_getElem? hr))
        have hpt := hpg m.type ht0 ht1
        have hmj := mixJ_len L p.mems j
        have hst := fun id => mixJ_store (L := L) hr id
        simp (disch := omega) only [go_sem, gM, gP, sM, hmg, hpt, Mem.c, hst]
        exact .of (by omega) rfl trivial
      obtain rfl : j = p.mems.length := by omega
      rw [mixJ_all]
      simp (disch := omega) only [go_sem]
      refine Br.ofP (fun c8 => ?_) (fun c8 => ?_)
      · obtain ⟨hk0, hk1⟩ := huses p.key (key_used c8)
        have h7 : 7 ≤ p.kind := by omega
        obtain ⟨he0, he1⟩ := huses p.elem (elem_used h7)
        have hpk := hpg p.key hk0 hk1
        have hpe := hpg p.elem he0 he1
        simp (disch := omega) only [go_sem, gP, hpk]
        refine Br.ofP (fun _ => ?_) (fun c7 => absurd h7 c7)
        simp (disch := omega) only [go_sem, gP, hpe]
        obtain ⟨V1, T, ar', happ, hT, hc1, hc2, hz, hO'⟩ := fin _ _ (if_pos c8) (if_pos h7)
        simp (disch := omega) only [go_sem, happ, hT, hc1, hc2]
        refine ⟨(k + 1, ar', V1), ⟨by dsimp only; omega, by dsimp only; rw [hz, hP], by dsimp only; rw [hnext]; exact hO'⟩, by dsimp only; omega, rfl⟩
      simp (disch := omega) only [go_sem]
      refine Br.ofP (fun c7 => ?_) (fun c7 => ?_)
      · obtain ⟨he0, he1⟩ := huses p.elem (elem_used c7)
        have hpe := hpg p.elem he0 he1
        simp (disch := omega) only [go_sem, gP, hpe]
        obtain ⟨V1, T, ar', happ, hT, hc1, hc2, hz, hO'⟩ := fin _ _ (if_neg c8) (if_pos c7)
        simp (disch := omega) only [go_sem, happ, hT, hc1, hc2]
        refine ⟨(k + 1, ar', V1), ⟨by dsimp only; omega, by dsimp only; rw [hz, hP], by dsimp only; rw [hnext]; exact hO'⟩, by dsimp only; omega, rfl⟩
      · simp (disch := omega) only [go_sem]
        obtain ⟨V1, T, ar', happ, hT, hc1, hc2, hz, hO'⟩ := fin _ _ (if_neg c8) (if_neg c7)
        simp (disch := omega) only [go_sem, happ, hT, hc1, hc2]
        refine ⟨(k + 1, ar', V1), ⟨by dsimp only; omega, by dsimp only; rw [hz, hP], by dsimp only; rw [hnext]; exact hO'⟩, by dsimp only; omega, rfl⟩
  · by_cases em : p.mems.map Mem.c = []
    · have fin : ∀ (kv ev : Int), (remapT L p).key = kv → (remapT L p).elem = ev → ∃ V1 T ar', (∀ bx, appendV ⟨bx, ar ++ [⟨0, 2, .inl (p.syms.map Sym.c)⟩] ++ [⟨0, 10, .inr [[.pv (.int .i64 p.kind), .pv (.str p.name), .pv (.int .i64 p.low), .pv (.int .i64 p.high), .pv (.int .i64 p.max), .own ar.length 0 0 p.syms.length, .pv (.lst 0 []), .pv (.int .i64 kv), .pv (.int .i64 ev), .pv (.bool p.opn)]]⟩], []⟩ 10 V0 (.own (ar.length + 1) 0 0 1) = some (V1, T)) ∧ (∀ bx, T.apply ⟨bx, ar ++ [⟨0, 2, .inl (p.syms.map Sym.c)⟩] ++ [⟨0, 10, .inr [[.pv (.int .i64 p.kind), .pv (.str p.name), .pv (.int .i64 p.low), .pv (.int .i64 p.high), .pv (.int .i64 p.max), .own ar.length 0 0 p.syms.length, .pv (.lst 0 []), .pv (.int .i64 kv), .pv (.int .i64 ev), .pv (.bool p.opn)]]⟩], []⟩ = ⟨bx, ar', []⟩) ∧ V1.cells = [V1] ∧ V1.calm = true ∧ ar'[0]? = ar[0]? ∧ OutV ar' V1 ((L.take k).map (fun u => remapT L (typAt l u)) ++ [remapT L p]) := fun kv ev e1 e2 =>
        appLit (X0 := [⟨0, 2, .inl (p.syms.map Sym.c)⟩]) hO hap (by simp; omega) (by simp) fun o ho => ⟨.own ar.length 0 0 p.syms.length, .pv (.lst 0 []), by rw [e1, e2]; rfl, .inr (.inl ⟨ar.length, 0, by simp [remapT], by omega, by simp [remapT]⟩), .inl (by rw [show (remapT L p).mems = p.mems.map (remapM L) from rfl, List.map_eq_nil_iff.1 em]; rfl)⟩
      have hns : p.syms.map Sym.c ≠ [] := es
      rw [frL_cons hns, em, frL_nil] at h294
      rw [em] at hidx
      have hsl := hsh.syms
      have gP : ∀ a : Arr, (ar ++ [a])[0]? = some ⟨0, 1, .inl (ints pl)⟩ := fun a => by rw [List.getElem?_append_left hap]; exact hP
      unfold Typ.c
      simp (disch := omega) only [go_sem, hu, hidx, h294]
      refine W.once ?_
      simp (disch := omega) only [go_sem]
      refine Br.ofP (fun c => absurd c (by omega)) (fun _ => ?_)
      simp (disch := omega) only [go_sem]
      refine Br.ofP (fun c8 => ?_) (fun c8 => ?_)
      · obtain ⟨hk0, hk1⟩ := huses p.key (key_used c8)
        have h7 : 7 ≤ p.kind := by omega
        obtain ⟨he0, he1⟩ := huses p.elem (elem_used h7)
        have hpk := hpg p.key hk0 hk1
        have hpe := hpg p.elem he0 he1
        simp (disch := omega) only [go_sem, gP, hpk]
        refine Br.ofP (fun _ => ?_) (fun c7 => absurd h7 c7)
        simp (disch := omega) only [go_sem, gP, hpe]
        obtain ⟨V1, T, ar', happ, hT, hc1, hc2, hz, hO'⟩ := fin _ _ (if_pos c8) (if_pos h7)
        simp (disch := omega) only [go_sem, happ, hT, hc1, hc2]
        refine ⟨(k + 1, ar', V1), ⟨by dsimp only; omega, by dsimp only; rw [hz, hP], by dsimp only; rw [hnext]; exact hO'⟩, by dsimp only; omega, rfl⟩
      simp (disch := omega) only [go_sem]
      refine Br.ofP (fun c7 => ?_) (fun c7 => ?_)
      · obtain ⟨he0, he1⟩ := huses p.elem (elem_used c7)
        have hpe := hpg p.elem he0 he1
        simp (disch := omega) only [go_sem, gP, hpe]
        obtain ⟨V1, T, ar', happ, hT, hc1, hc2, hz, hO'⟩ := fin _ _ (if_neg c8) (if_pos c7)
        simp (disch := omega) only [go_sem, happ, hT, hc1, hc2]
        refine ⟨(k + 1, ar', V1), ⟨by dsimp only; omega, by dsimp only; rw [hz, hP], by dsimp only; rw [hnext]; exact hO'⟩, by dsimp only; omega, rfl⟩
      · simp (disch := omega) only [go_sem]
        obtain ⟨V1, T, ar', happ, hT, hc1, hc2, hz, hO'⟩ := fin _ _ (if_neg c8) (if_neg c7)
        simp (disch := omega) only [go_sem, happ, hT, hc1, hc2]
        refine ⟨(k + 1, ar', V1), ⟨by dsimp only; omega, by dsimp only; rw [hz, hP], by dsimp only; rw [hnext]; exact hO'⟩, by dsimp only; omega, rfl⟩
    · have hml := hsh.mems
      have hsl := hsh.syms
      have fin : ∀ (kv ev : Int), (remapT L p).key = kv → (remapT L p).elem = ev → ∃ V1 T ar', (∀ bx, appendV ⟨bx, ar ++ [⟨0, 2, .inl (p.syms.map Sym.c)⟩, ⟨0, 13, .inl ((p.mems.map (remapM L)).map Mem.c)⟩] ++ [⟨0, 10, .inr [[.pv (.int .i64 p.kind), .pv (.str p.name), .pv (.int .i64 p.low), .pv (.int .i64 p.high), .pv (.int .i64 p.max), .own ar.length 0 0 p.syms.length, .own (ar.length + 1) 0 0 p.mems.length, .pv (.int .i64 kv), .pv (.int .i64 ev), .pv (.bool p.opn)]]⟩], []⟩ 10 V0 (.own (ar.length + 2) 0 0 1) = some (V1, T)) ∧ (∀ bx, T.apply ⟨bx, ar ++ [⟨0, 2, .inl (p.syms.map Sym.c)⟩, ⟨0, 13, .inl ((p.mems.map (remapM L)).map Mem.c)⟩] ++ [⟨0, 10, .inr [[.pv (.int .i64 p.kind), .pv (.str p.name), .pv (.int .i64 p.low), .pv (.int .i64 p.high), .pv (.int .i64 p.max), .own ar.length 0 0 p.syms.length, .own (ar.length + 1) 0 0 p.mems.length, .pv (.int .i64 kv), .pv (.int .i64 ev), .pv (.bool p.opn)]]⟩], []⟩ = ⟨bx, ar', []⟩) ∧ V1.cells = [V1] ∧ V1.calm = true ∧ ar'[0]? = ar[0]? ∧ OutV ar' V1 ((L.take k).map (fun u => remapT L (typAt l u)) ++ [remapT L p]) := fun kv ev e1 e2 =>
        appLit (X0 := [⟨0, 2, .inl (p.syms.map Sym.c)⟩, ⟨0, 13, .inl ((p.mems.map (remapM L)).map Mem.c)⟩]) hO hap (by simp; omega) (by simp) fun o ho => ⟨.own ar.length 0 0 p.syms.length, .own (ar.length + 1) 0 0 p.mems.length, by rw [e1, e2]; rfl, .inr (.inl ⟨ar.length, 0, by simp [remapT], by omega, by simp [remapT]⟩), .inr (.inl ⟨ar.length + 1, 0, by simp [remapT], by omega, by simp [remapT]⟩)⟩
      have hne : p.mems.map Mem.c ≠ [] := em
      have hns : p.syms.map Sym.c ≠ [] := es
      rw [frL_cons hns, show frL 13 (p.mems.map Mem.c) = .fr 13 ((mixJ L p.mems 0).map Mem.c) by rw [frL_cons hne, mixJ_zero]] at h294
      have hm0 := mixJ_len L p.mems 0
      have gM : ∀ a : Arr, (ar ++ [⟨0, 2, .inl (p.syms.map Sym.c)⟩, a])[ar.length + 1]? = some a := fun a => by simp
      have gP : ∀ a b : Arr, (ar ++ [b, a])[0]? = some ⟨0, 1, .inl (ints pl)⟩ := fun a b => by rw [List.getElem?_append_left hap]; exact hP
      have sM : ∀ a b : Arr, (ar ++ [⟨0, 2, .inl (p.syms.map Sym.c)⟩, a]).set (ar.length + 1) b = ar ++ [⟨0, 2, .inl (p.syms.map Sym.c)⟩, b] := fun a b => by simp
      unfold Typ.c
      simp (disch := omega) only [go_sem, hu, hidx, h294, hm0]
      refine W.upto p.mems.length ((fun (bx0 : List (Nat × List V)) => fun j => ⟨[(2, .ptr 2 0), (4, .ptr 4 0), (9, .own 0 0 0 l.length), (11, .ptr 11 0), (14, .ptr 14 0), (42, .pv (.lst 0 (ints L))), (43, .pv (.int .i64 L.length)), (44, .pv (.int .i64 k)), (56, .pv (.int .i64 p.mems.length)), (57, .pv (.int .i64 (j : Nat)))], ⟨bx0, ar ++ [⟨0, 2, .inl (p.syms.map Sym.c)⟩, ⟨0, 13, .inl ((mixJ L p.mems j).map Mem.c)⟩], []⟩⟩) _) (fun _ => True) rfl trivial (fun j hj _ => ?_)
      simp (disch := omega) only [go_sem]
      refine Br.ofP (fun c => ?_) (fun c => ?_)
      · have hr := List.getElem?_eq_getElem (l := p.mems) (i := j) (by omega)
        generalize p.mems[j]'(by omega) = m at hr
        have hmg := mixJ_get (L := L) hr
        have hms := mixJ_set (L := L) hr
        obtain ⟨ht0, ht1⟩ := huses m.type (mem_used (List.mem_of_getElem? hr))
        have hpt := hpg m.type ht0 ht1
        have hmj := mixJ_len L p.mems j
        have hst := fun id => mixJ_store (L := L) hr id
        simp (disch := omega) only [go_sem, gM, gP, sM, hmg, hpt, Mem.c, hst]
        exact .of (by omega) rfl trivial
      obtain rfl : j = p.mems.length := by omega
      rw [mixJ_all]
      simp (disch := omega) only [go_sem]
      refine Br.ofP (fun c8 => ?_) (fun c8 => ?_)
      · obtain ⟨hk0, hk1⟩ := huses p.key (key_used c8)
        have h7 : 7 ≤ p.kind := by omega
        obtain ⟨he0, he1⟩ := huses p.elem (elem_used h7)
        have hpk := hpg p.key hk0 hk1
        have hpe := hpg p.elem he0 he1
        simp (disch := omega) only [go_sem, gP, hpk]
        refine Br.ofP (fun _ => ?_) (fun c7 => absurd h7 c7)
        simp (disch := omega) only [go_sem, gP, hpe]
        obtain ⟨V1, T, ar', happ, hT, hc1, hc2, hz, hO'⟩ := fin _ _ (if_pos c8) (if_pos h7)
        simp (disch := omega) only [go_sem, happ, hT, hc1, hc2]
        refine ⟨(k + 1, ar', V1), ⟨by dsimp only; omega, by dsimp only; rw [hz, hP], by dsimp only; rw [hnext]; exact hO'⟩, by dsimp only; omega, rfl⟩
      simp (disch := omega) only [go_sem]
      refine Br.ofP (fun c7 => ?_) (fun c7 => ?_)
      · obtain ⟨he0, he1⟩ := huses p.elem (elem_used c7)
        have hpe := hpg p.elem he0 he1
        simp (disch := omega) only [go_sem, gP, hpe]
        obtain ⟨V1, T, ar', happ, hT, hc1, hc2, hz, hO'⟩ := fin _ _ (if_neg c8) (if_pos c7)
        simp (disch := omega) only [go_sem, happ, hT, hc1, hc2]
        refine ⟨(k + 1, ar', V1), ⟨by dsimp only; omega, by dsimp only; rw [hz, hP], by dsimp only; rw [hnext]; exact hO'⟩, by dsimp only; omega, rfl⟩
      · simp (disch := omega) only [go_sem]
        obtain ⟨V1, T, ar', happ, hT, hc1, hc2, hz, hO'⟩ := fin _ _ (if_neg c8) (if_neg c7)
        simp (disch := omega) only [go_sem, happ, hT, hc1, hc2]
        refine ⟨(k + 1, ar', V1), ⟨by dsimp only; omega, by dsimp only; rw [hz, hP], by dsimp only; rw [hnext]; exact hO'⟩, by dsimp only; omega, rfl⟩
end Go.Pv

/-
  Chapter 07: Prune, as the document says; the law of it.
-/
namespace Go.Pv

def mK (n k : Nat) : List Int := List.replicate k (-1) ++ List.replicate (n - k) 0
theorem mK_len {n k : Nat} (h : k ≤ n) : (mK n k).length = n := by
  simp [mK]
  omega
theorem mK_zero (n : Nat) : mK n 0 = List.replicate n 0 := by simp [mK]
theorem mK_set {n k : Nat} (h : k < n) : (mK n k).set k (-1) = mK n (k + 1) := by
  unfold mK
  have e : n - k = (n - (k + 1)) + 1 := by omega
  rw [List.set_append_right _ _ (by simp), List.length_replicate, Nat.sub_self, e, List.replicate_succ, List.set_cons_zero, List.replicate_succ', List.append_assoc]
  rfl
def plB (L : List Int) (n k : Nat) : List Int := (List.range n).map fun (j : Nat) => idxI (L.take k) (j : Int)
theorem plB_len (L : List Int) (n k : Nat) : (plB L n k).length = n := by simp [plB]
theorem plB_zero (L : List Int) (n : Nat) : plB L n 0 = mK n n := by
  apply List.ext_getElem
  · rw [plB_len, mK_len (Nat.le_refl n)]
  · intro i h1 h2
    rw [plB_len] at h1
    simp [plB, mK, idxI, firstI]
theorem plB_all (L : List Int) (n : Nat) : plB L n L.length = plK L n n := by
  unfold plB plK
  rw [List.take_length]
  apply List.map_congr_left
  intro j hj
  rw [if_pos (List.mem_range.1 hj)]
theorem idxI_snoc_ne {L : List Int} {u j : Int} (h : u ≠ j) : idxI (L ++ [u]) j = idxI L j := by
  unfold idxI firstI
  rw [List.findIdx?_append]
  have : List.findIdx? (fun y => decide (y = j)) [u] = none := by simp [List.findIdx?_cons, h]
  rw [this]
  cases L.findIdx? (fun y => decide (y = j)) <;> rfl
theorem idxI_snoc {L : List Int} {u : Int} (h : ¬ u ∈ L) : idxI (L ++ [u]) u = L.length := by
  unfold idxI firstI
  rw [List.findIdx?_append]
  have h1 : L.findIdx? (fun y => decide (y = u)) = none := by
    rw [List.findIdx?_eq_none_iff]
    intro x hx
    simp only [decide_eq_false_iff_not]
    exact fun e => h (e ▸ hx)
  have h2 : List.findIdx? (fun y => decide (y = u)) [u] = some 0 := by simp [List.findIdx?_cons]
  rw [h1, h2]
  simp
theorem plB_set {L : List Int} {n k : Nat} {u : Int} (hu : L[k]? = some u) (hd : L.Nodup) (h0 : 0 ≤ u) (_h1 : u < n) : (plB L n k).set u.toNat (k : Int) = plB L n (k + 1) := by
  have hk := (List.getElem?_eq_some_iff.1 hu).1
  have ht : L.take (k + 1) = L.take k ++ [u] := by rw [List.take_add_one, hu]; rfl
  have hn : ¬ u ∈ L.take k := by
    rw [← List.take_append_drop k L, List.nodup_append] at hd
    intro hm
    have hdr : u ∈ L.drop k := by
      rw [drop_atS hu]
      exact List.mem_cons_self ..
    exact hd.2.2 u hm u hdr rfl
  apply List.ext_getElem
  · simp [plB]
  · intro i h2 h3
    rw [List.getElem_set]
    have hi : i < n := by rw [plB_len] at h3; exact h3
    by_cases e : u.toNat = i
    · rw [if_pos e]
      have hu' : ((i : Nat) : Int) = u := by omega
      simp only [plB, List.getElem_map, List.getElem_range, hu', ht]
      rw [idxI_snoc hn, List.length_take]
      omega
    · rw [if_neg e]
      have hu' : u ≠ ((i : Nat) : Int) := by omega
      simp only [plB, List.getElem_map, List.getElem_range, ht]
      rw [idxI_snoc_ne hu']
theorem app_lst0 (h : Heap) (k : Nat) : appendV h k (.tl []) (.pv (.lst 0 [])) = some (.tl [], {}) := by
  simp [appendV, srcRows, rowsFit, rowsLen]
theorem app_lst {h : Heap} {k : Nat} {rows : List (List PV)} (h0 : rows ≠ []) (hr : ∀ r ∈ rows, r.length = k) (hm : rows.length ≤ 2147483648) : appendV h k (.tl []) (.pv (.lst 0 rows)) = some (.own h.ar.length 0 0 rows.length, { push := [⟨0, k, .inl rows⟩], base := h.ar.length }) := by
  have hl : ¬ rows.length = 0 := fun e => h0 (List.eq_nil_of_length_eq_zero e)
  have hf := rowsFit_all hr
  have h01 : (0 : Nat) ≤ 1 := by decide
  simp only [appendV, srcRows, h01, if_true, hf, rowsLen, if_neg hl, catRows, List.nil_append, List.length_nil, Nat.zero_add, mostRows]
  simp only [hm, rowsFit, List.all_nil, and_self, if_true]
end Go.Pv

/-
  Chapter 07: the law of Prune.
-/
namespace Go.Pv

theorem idxI_small {L : List Int} (h : L.length ≤ 32) (j : Int) : I64 (idxI L j) := by
  have := firstI_ge (fun y => decide (y = j)) L
  unfold idxI I64
  omega
theorem remapT_ok {L : List Int} (h : L.length ≤ 32) {t : Typ} (ht : t.ok) : (remapT L t).ok := by
  obtain ⟨⟨h1, h2, h3, h4, h5, h6, h7⟩, ⟨h8, h9⟩, h10, h11⟩ := ht
  refine ⟨⟨h1, h2, h3, h4, h5, ?_, ?_⟩, ⟨h8, ?_⟩, h10, ?_⟩
  · show I64 (if t.kind = 8 then idxI L t.key else t.key)
    split
    · exact idxI_small h _
    · exact h6
  · show I64 (if 7 ≤ t.kind then idxI L t.elem else t.elem)
    split
    · exact idxI_small h _
    · exact h7
  · show lenOk (t.mems.map (remapM L))
    unfold lenOk at *
    rw [List.length_map]
    exact h9
  · intro m hm
    obtain ⟨q, hq, rfl⟩ := List.mem_map.1 hm
    obtain ⟨g1, g2, g3, g4⟩ := h11 q hq
    exact ⟨g1, g2, idxI_small h _, g4⟩
theorem pruned_ok {l : List Typ} {i : Int} (ho : ∀ t ∈ l, t.ok) : (prunedL l i).length ≤ l.length ∧ ∀ t ∈ prunedL l i, t.ok := by
  have hlen := reachR_len (l := l) (i := i)
  refine ⟨by unfold prunedL; rw [List.length_map]; exact hlen, fun t ht => ?_⟩
  by_cases hz : (reachR l i).2 = 0
  · obtain ⟨h1, h2, h3⟩ := reachR_ok hz
    obtain ⟨u, hu, rfl⟩ := List.mem_map.1 ht
    obtain ⟨u0, u1⟩ := h3 u hu
    exact remapT_ok (Nat.le_trans hlen h1.len) (ho _ (List.mem_of_getElem? (typAt_get u0 u1)))
  · unfold prunedL at ht
    rw [reachR_no hz] at ht
    simp at ht
theorem placeL_len (l : List Typ) (i : Int) : (placeL l i).length ≤ l.length := by
  unfold placeL
  split
  · exact Nat.zero_le _
  · rw [plK_len]
    exact Nat.le_refl _
end Go.Pv

/-
  Drafts that a law is given.
-/
namespace Go.Pv
variable {P : Program}

theorem ty_u8 {n : Nat} {t : TypeId} {cs : List PV} (hu : P.underlying t = some (.int .u8)) (h : typed P n t cs) : ∃ x : Nat, cs = [.int .u8 x] ∧ x ≤ 255 := by
  cases n with
  | zero => exact h.elim
  | succ n =>
    obtain ⟨x, rfl, h1, h2⟩ := typed_int hu h
    have h1 : (0 : Int) ≤ x := h1
    have h2 : x ≤ (255 : Int) := h2
    refine ⟨x.toNat, ?_, by omega⟩
    rw [Int.toNat_of_nonneg h1]
/-- The types of drafts. -/
structure DraftT (P : Program) (dr nd pt ln lp t8 : TypeId) : Prop where
  u : P.underlying t8 = some (.int .u8)
  n : P.underlying ln = some (.slice nd)
  p : P.underlying lp = some (.slice pt)
  d : ∃ fs, P.underlying dr = some (.struct fs) ∧ fs.toList.map (·.type) = [ln]
  x : ∃ fs, P.underlying nd = some (.struct fs) ∧ fs.toList.map (·.type) = [t8, t8, t8, t8, lp]
  q : ∃ fs, P.underlying pt = some (.struct fs) ∧ fs.toList.map (·.type) = [t8, t8, t8]
section
variable {dr nd pt ln lp t8 : TypeId}
theorem part_typed (T : DraftT P dr nd pt ln lp t8) {n : Nat} {cs : List PV} (h : typed P n pt cs) : ∃ p : Part, cs = p.c ∧ p.ok := by
  cases n with
  | zero => exact h.elim
  | succ n =>
    obtain ⟨fs, hu, hts⟩ := T.q
    obtain ⟨r0, q0, rfl, h0, r1, q1, rfl, h1, r2, q2, rfl, h2, rfl⟩ := typed_struct hu hts h
    obtain ⟨a, rfl, ha⟩ := ty_u8 T.u h0
    obtain ⟨b, rfl, hb⟩ := ty_u8 T.u h1
    obtain ⟨c, rfl, hc⟩ := ty_u8 T.u h2
    exact ⟨⟨a, b, c⟩, rfl, ha, hb, hc⟩
theorem node_typed (T : DraftT P dr nd pt ln lp t8) {n : Nat} {cs : List PV} (h : typed P n nd cs) : ∃ x : Node, cs = x.cs ∧ x.ok := by
  cases n with
  | zero => exact h.elim
  | succ n =>
    obtain ⟨fs, hu, hts⟩ := T.x
    obtain ⟨r0, q0, rfl, h0, r1, q1, rfl, h1, r2, q2, rfl, h2, r3, q3, rfl, h3, r4, q4, rfl, h4, rfl⟩ := typed_struct hu hts h
    obtain ⟨k, rfl, hk⟩ := ty_u8 T.u h0
    obtain ⟨a, rfl, ha⟩ := ty_u8 T.u h1
    obtain ⟨b, rfl, hb⟩ := ty_u8 T.u h2
    obtain ⟨c, rfl, hc⟩ := ty_u8 T.u h3
    obtain ⟨ps, rfl, hl, hp⟩ := ty_slice T.p (fun m cs _ hh => part_typed T hh) h4
    exact ⟨⟨k, a, b, c, ps⟩, by simp [Node.cs], ⟨hk, ha, hb, hc⟩, hl, hp⟩
theorem draft_typed (T : DraftT P dr nd pt ln lp t8) {n : Nat} {cs : List PV} (h : typed P n dr cs) : ∃ d : List Node, cs = [.lst 0 (d.map Node.cs)] ∧ lenOk d ∧ ∀ x ∈ d, x.ok := by
  cases n with
  | zero => exact h.elim
  | succ n =>
    obtain ⟨fs, hu, hts⟩ := T.d
    obtain ⟨r0, q0, rfl, h0, rfl⟩ := typed_struct hu hts h
    obtain ⟨l, rfl, k, g⟩ := ty_slice T.n (fun m cs _ hh => node_typed T hh) h0
    exact ⟨l, by simp, k, g⟩
end
end Go.Pv

/-
  Chapter 07: the numbers of a draft.
-/
namespace Go.Pv

@[go_sem] theorem partc_len (p : Part) : p.c.length = 3 := rfl
@[go_sem] theorem nodec_len (x : Node) : x.cs.length = 5 := rfl
theorem tmodN (a n : Nat) : Int.tmod (a : Int) (n : Int) = ((a % n : Nat) : Int) := (Int.ofNat_tmod a n).symm
theorem rem_u8 {k : IntKind} {a n : Nat} (h : n ≠ 0) : binV .rem (.pv (.int k (a : Int))) (.pv (.int k (n : Int))) = some (.pv (.int k ((a % n : Nat) : Int))) := by
  rw [binV_rem (by omega), tmodN]
theorem rem9 (a : Nat) : binV .rem (.pv (.int .u8 (a : Int))) (.pv (.int .u8 9)) = some (.pv (.int .u8 ((a % 9 : Nat) : Int))) := rem_u8 (n := 9) (by decide)
theorem rem7 (a : Nat) : binV .rem (.pv (.int .u8 (a : Int))) (.pv (.int .u8 7)) = some (.pv (.int .u8 ((a % 7 : Nat) : Int))) := rem_u8 (n := 7) (by decide)
theorem rem6 (a : Nat) : binV .rem (.pv (.int .u8 (a : Int))) (.pv (.int .u8 6)) = some (.pv (.int .u8 ((a % 6 : Nat) : Int))) := rem_u8 (n := 6) (by decide)
theorem rem4 (a : Nat) : binV .rem (.pv (.int .u8 (a : Int))) (.pv (.int .u8 4)) = some (.pv (.int .u8 ((a % 4 : Nat) : Int))) := rem_u8 (n := 4) (by decide)
theorem rem2 (a : Nat) : binV .rem (.pv (.int .u8 (a : Int))) (.pv (.int .u8 2)) = some (.pv (.int .u8 ((a % 2 : Nat) : Int))) := rem_u8 (n := 2) (by decide)
theorem rem12 (a : Nat) : binV .rem (.pv (.int .u8 (a : Int))) (.pv (.int .u8 12)) = some (.pv (.int .u8 ((a % 12 : Nat) : Int))) := rem_u8 (n := 12) (by decide)
theorem shr_u8 {a i : Nat} (h : i ≤ 8) : binV .shr (.pv (.int .u8 (a : Int))) (.pv (.int .i64 (i : Int))) = some (.pv (.int .u8 ((a / 2 ^ i : Nat) : Int))) := by
  have h0 : ¬ (i : Int) < 0 := by omega
  have hm : min ((i : Int).toNat) (IntKind.bits .u8) = i := by
    rw [Int.toNat_natCast]
    exact Nat.min_eq_left h
  simp only [binV, or_true, if_true, shiftBin, h0, if_false, hm, Option.map_some]
  congr 3
  rw [Int.fdiv_eq_ediv_of_nonneg _ (by exact Int.pow_nonneg (by decide))]
  norm_cast
theorem node_idx {t : Nat} {d : List Node} {i : Nat} {x : Node} (h : d[i]? = some x) : idxR 5 t (d.map Node.cs) (some (i : Int)) = some (V.pv (.ro t x.cs)) := by
  rw [idxR_nat, List.getElem?_map, h]
  rfl
theorem r298 (t : Nat) (d : List Node) (i : Nat) (hi : i < d.length) : res A PrA 298 [.agg [.lst t (d.map Node.cs)], .int .i64 i] = some [.int .i64 (kindD d i)] := by
  refine res_of a298 rfl rfl ?_
  simp only [F298]
  have hx := List.getElem?_eq_getElem hi
  generalize d[i] = x at hx
  have hk : kindD d i = 1 + x.kind % 9 := by rw [kindD, hx]; rfl
  have hidx := node_idx (t := t) hx
  unfold Node.cs at hidx
  unfold Node.cs
  have hb : x.kind % 9 < 9 := Nat.mod_lt _ (by decide)
  simp (disch := omega) only [go_sem, hidx, rem9]
  rw [hk]
  push_cast
  rfl
theorem r299 (x : Node) : res A PrA 299 [.agg x.cs] = some [.int .i64 (lowN x)] := by
  refine res_of a299 rfl rfl ?_
  simp only [F299]
  unfold Node.cs
  have hb : x.a % 7 < 7 := Nat.mod_lt _ (by decide)
  simp (disch := omega) only [go_sem, rem7]
  rfl
theorem r300 (x : Node) : res A PrA 300 [.agg x.cs] = some [.int .i64 (highN x)] := by
  refine res_of a300 rfl rfl ?_
  simp only [F300]
  have h := r299 x
  have e : lowN x = ((x.a % 7 : Nat) : Int) - 3 := rfl
  unfold Node.cs at *
  have hb : x.a % 7 < 7 := Nat.mod_lt _ (by decide)
  have hc : x.b % 6 < 6 := Nat.mod_lt _ (by decide)
  simp (disch := omega) only [go_sem, h, rem6]
  rfl
theorem r335 (k : Int) : res A PrA 335 [.int .i64 k] = some [.bool (decide (7 ≤ k))] := by
  refine res_of a335 rfl rfl ?_
  simp only [F335]
  simp (disch := omega) only [go_sem]
end Go.Pv

/-
  Chapter 07: ids, targets and keys of a draft.
-/
namespace Go.Pv

theorem bitsN_succ (a n : Nat) : bitsN a (n + 1) = if a / 2 ^ n % 2 = 1 then bitsN a n ++ [n] else bitsN a n := by
  unfold bitsN
  rw [List.range_succ, List.filter_append]
  by_cases h : a / 2 ^ n % 2 = 1
  · simp [h]
  · simp [h]
theorem bitsN_len (a n : Nat) : (bitsN a n).length ≤ n := by
  unfold bitsN
  exact Nat.le_trans (List.length_filter_le _ _) (by simp)
def plus1 (l : List Nat) : List Int := l.map fun (n : Nat) => ((n + 1 : Nat) : Int)
def nums (l : List Nat) : List Int := l.map fun (n : Nat) => (n : Int)
theorem plus1_snoc (l : List Nat) (n : Nat) : plus1 (l ++ [n]) = plus1 l ++ [((n + 1 : Nat) : Int)] := by simp [plus1]
theorem grV_nil (n : Nat) : grV n [] = .tl [] := rfl
theorem grA_nil (k : Nat) : grA k [] = [] := rfl
theorem r301 (x : Node) : res A PrA 301 [.agg x.cs] = some [.lst 0 (ints (nums (idsN x.a)))] := by
  refine res_of a301 rfl rfl ?_
  simp only [F301]
  obtain ⟨k, a, b, c, ps⟩ := x
  unfold Node.cs
  dsimp only
  simp (disch := omega) only [go_sem]
  refine W.upto 6 (fun j => ⟨[(1, .ptr 1 0), (3, grV 0 (ints (plus1 (bitsN a j)))), (4, .pv (.int .i64 j))], ⟨[(1, [.pv (.int .u8 k), .pv (.int .u8 a), .pv (.int .u8 b), .pv (.int .u8 c), .pv (.lst 0 (ps.map Part.c))])], grA 1 (ints (plus1 (bitsN a j))), []⟩⟩) (fun _ => True) rfl trivial (fun j hj _ => ?_)
  have hl : (plus1 (bitsN a j)).length ≤ j := by unfold plus1; rw [List.length_map]; exact bitsN_len a j
  simp (disch := omega) only [go_sem]
  refine Br.ofP (fun c1 => ?_) (fun c1 => ?_)
  · have hs := shr_u8 (a := a) (i := j) (by omega)
    have hsucc := bitsN_succ a j
    simp (disch := omega) only [go_sem, hs, rem2]
    refine Br.ofP (fun c2 => ?_) (fun c2 => ?_) <;> simp (disch := omega) only [go_sem]
    · refine .of (by omega) ?_ trivial
      rw [hsucc, if_pos (by omega), plus1_snoc]
      rfl
    · refine .of (by omega) ?_ trivial
      rw [hsucc, if_neg (by omega)]
      rfl
  · obtain rfl : j = 6 := by omega
    simp (disch := omega) only [go_sem]
    unfold idsN
    refine Br.ofP (fun c2 => ?_) (fun c2 => ?_)
    · have h0 : bitsN a 6 = [] := by
        unfold plus1 at c2
        rw [List.length_map] at c2
        exact List.eq_nil_of_length_eq_zero (by omega)
      rw [if_pos h0, h0]
      simp (disch := omega) only [go_sem, plus1, List.map_nil, grV_nil, grA_nil]
      rfl
    · have h0 : ¬ bitsN a 6 = [] := fun e => c2 (by rw [e]; rfl)
      rw [if_neg h0]
      simp (disch := omega) only [go_sem]
      congr 3
      unfold plus1 nums
      rw [List.map_map]
      rfl
theorem r321 (t : Nat) (d : List Node) (i code : Nat) (h0 : 0 < d.length) (hl : d.length ≤ 5) (_hi : i < d.length) (hcode : code ≤ 255) : res A PrA 321 [.agg [.lst t (d.map Node.cs)], .int .i64 i, .int .u8 code] = some [.int .i64 (optI (targetD d i code))] := by
  refine res_of a321 rfl rfl ?_
  simp only [F321]
  have hc : code % d.length < d.length := Nat.mod_lt _ h0
  have hr := rem_u8 (k := .i64) (a := code) (n := d.length) (by omega)
  unfold targetD
  generalize hm : code % d.length = m at hc hr
  have h298 := fun t => r298 t d m hc
  simp (disch := omega) only [go_sem, hr, h298, r335]
  refine Br.ofP (fun c => ?_) (fun c => ?_)
  · have d1 : decide ((7 : Int) ≤ kindD d m) = true := by simpa using c
    have h7 : 7 ≤ kindD d m := by omega
    simp (disch := omega) only [go_sem, d1]
    rw [if_pos (.inl h7)]
    rfl
  have d1 : decide ((7 : Int) ≤ kindD d m) = false := by simpa using c
  have h7 : ¬ 7 ≤ kindD d m := by omega
  simp (disch := omega) only [go_sem, d1]
  refine Br.ofP (fun c2 => ?_) (fun c2 => ?_) <;> simp (disch := omega) only [go_sem]
  · rw [if_pos (.inr (by omega))]
    rfl
  rw [if_neg (fun h => h.elim h7 (fun h => c2 (by omega)))]
  refine Br.ofP (fun c3 => ?_) (fun c3 => ?_)
  · have hr2 := rem_u8 (k := .i64) (a := m) (n := i) (by omega)
    simp (disch := omega) only [go_sem, hr2]
    rw [if_pos (by omega)]
    rfl
  rw [if_neg (by omega)]
  obtain ⟨G, hG⟩ : ∃ G, optI ((List.range d.length).find? fun k => decide (7 ≤ kindD d k)) = G := ⟨_, rfl⟩
  rw [hG]
  simp (disch := omega) only [go_sem]
  refine W.find (List.range d.length) (fun k => decide (7 ≤ kindD d k)) (fun k => ⟨[(3, .ptr 3 0), (7, .pv (.int .i64 d.length)), (9, .pv (.int .i64 k))], ⟨[(3, [.pv (.lst t (d.map Node.cs))])], [], []⟩⟩) rfl (fun k y hy hk hfd => ?_) (fun hn => ?_)
  · obtain ⟨rfl, hk⟩ := range_get hy
    have h298 := fun t => r298 t d y hk
    simp (disch := omega) only [go_sem]
    refine Br.ofP (fun c => ?_) (fun c => (c (by omega)).elim)
    simp (disch := omega) only [go_sem, h298, r335]
    refine Br.ofP (fun g => ?_) (fun g => ?_) <;> simp (disch := omega) only [go_sem]
    · rw [← hG, (hfd (by simp; omega)).find]
      rfl
    · exact findK.of (by simp; omega) rfl
  · rw [hn.find] at hG
    rw [List.length_range]
    simp (disch := omega) only [go_sem]
    rw [← hG]
    rfl
theorem r303 (t : Nat) (d : List Node) (code : Nat) (h0 : 0 < d.length) (hl : d.length ≤ 5) (hcode : code ≤ 255) : res A PrA 303 [.agg [.lst t (d.map Node.cs)], .int .u8 code] = some [.int .i64 (optI (keyD d code))] := by
  refine res_of a303 rfl rfl ?_
  simp only [F303]
  unfold keyD
  obtain ⟨G, hG⟩ : ∃ G, optI (((List.range d.length).find? fun k => decide (kindD d ((code + k) % d.length) ≤ 4)).map fun k => (code + k) % d.length) = G := ⟨_, rfl⟩
  rw [hG]
  simp (disch := omega) only [go_sem]
  refine W.find (List.range d.length) (fun k => decide (kindD d ((code + k) % d.length) ≤ 4)) (fun k => ⟨[(1, .pv (.int .u8 code)), (2, .ptr 2 0), (5, .pv (.int .i64 d.length)), (6, .pv (.int .i64 k))], ⟨[(2, [.pv (.lst t (d.map Node.cs))])], [], []⟩⟩) rfl (fun k y hy hk hfd => ?_) (fun hn => ?_)
  · obtain ⟨rfl, hk⟩ := range_get hy
    have hm : (code + y) % d.length < d.length := Nat.mod_lt _ h0
    have hr : binV .rem (.pv (.int .i64 ((code : Int) + (y : Int)))) (.pv (.int .i64 (d.length : Int))) = some (.pv (.int .i64 (((code + y) % d.length : Nat) : Int))) := rem_u8 (k := .i64) (a := code + y) (n := d.length) (by omega)
    have h298 := fun t => r298 t d _ hm
    have h1 : 1 ≤ kindD d ((code + y) % d.length) := by
      unfold kindD
      rw [List.getElem?_eq_getElem hm]
      simp [kindN]
    generalize hmm : (code + y) % d.length = m at *
    simp (disch := omega) only [go_sem]
    refine Br.ofP (fun c => ?_) (fun c => (c (by omega)).elim)
    simp (disch := omega) only [go_sem, hr, h298, r288]
    refine Br.of (fun g => ?_) (fun g => ?_) <;> simp (disch := omega) only [go_sem]
    · simp only [Bool.and_eq_true, decide_eq_true_eq] at g
      rw [← hG, (hfd (by simp; omega)).find]
      show _ = some [PV.int .i64 (((code + y) % d.length : Nat) : Int)]
      rw [hmm]
    · refine findK.of ?_ rfl
      simp only [Bool.and_eq_false_iff, decide_eq_false_iff_not] at g
      simp
      omega
  · rw [hn.find] at hG
    rw [List.length_range]
    simp (disch := omega) only [go_sem]
    rw [← hG]
    rfl
end Go.Pv

/-
  Chapter 07: what a member of a draft is to begin with.
-/
namespace Go.Pv

def initK (d : List Node) (i : Nat) : Nat := if kindD d i = 8 ∧ keyD d 0 = none then 7 else kindD d i
def idAt (a code : Nat) : Nat := ((idsN a)[code % (idsN a).length]?).getD 0
def initV (k : Nat) (x : Node) (code : Nat) : Val × Bool :=
  if k = 1 then ({ zeroVal with kind := 1, bool := decide (code % 2 = 1) }, true)
  else if k = 2 then ({ zeroVal with kind := 2, int := lowN x + ((code % (x.b % 6 + 1) : Nat) : Int) }, true)
  else if k = 3 then ({ zeroVal with kind := 3, str := if 0 < x.a % 4 ∧ code % 2 = 1 then ⟨#[97]⟩ else ⟨#[]⟩ }, true)
  else if k = 4 then ({ zeroVal with kind := 4, id := idAt x.a code }, true)
  else if k = 5 ∨ k = 6 then (zeroVal, false)
  else ({ zeroVal with kind := k }, true)
theorem kindD_range (d : List Node) (i : Nat) : 1 ≤ kindD d i ∧ kindD d i ≤ 9 := by
  unfold kindD
  cases d[i]? with
  | none => decide
  | some x =>
    have : x.kind % 9 < 9 := Nat.mod_lt _ (by decide)
    show 1 ≤ kindN x ∧ kindN x ≤ 9
    unfold kindN
    omega
theorem idsN_len (a : Nat) : 0 < (idsN a).length ∧ (idsN a).length ≤ 6 := by
  unfold idsN
  split
  · decide
  · rename_i h
    rw [List.length_map]
    exact ⟨List.length_pos_iff.2 h, bitsN_len a 6⟩
theorem dec1 (n : Nat) : decide ((n : Int) = 1) = decide (n = 1) := by
  rw [decide_eq_decide]
  omega
theorem optI_neg (o : Option Nat) : decide (optI o < 0) = decide (o = none) := by
  cases o with
  | none => rfl
  | some n =>
    have : ¬ (n : Int) < 0 := by omega
    simp [optI, this]
theorem nums_at {l : List Nat} {i : Nat} (h : i < l.length) : (nums l)[i]? = some (((l[i]?).getD 0 : Nat) : Int) := by
  unfold nums
  rw [List.getElem?_map, List.getElem?_eq_getElem h]
  rfl
theorem r322 (t : Nat) (d : List Node) (i code : Nat) (x : Node) (hx : d[i]? = some x) (h0 : i < d.length) (hl : d.length ≤ 5) (hcode : code ≤ 255) (hxo : x.ok) : res A PrA 322 [.agg [.lst t (d.map Node.cs)], .int .i64 i, .int .u8 code] = some [.agg (initV (initK d i) x code).1.c, .bool (initV (initK d i) x code).2] := by
  refine res_of a322 rfl rfl ?_
  simp only [F322]
  have h298 := fun t => r298 t d i h0
  have h303 : ∀ t, res A PrA 303 [.agg [.lst t (d.map Node.cs)], .int .u8 0] = some [.int .i64 (optI (keyD d 0))] := fun t => r303 t d 0 (by omega) hl (by omega)
  obtain ⟨k1, k9⟩ := kindD_range d i
  have hidx := node_idx (t := t) hx
  have h299 := r299 x
  have h300 := r300 x
  have h301 := r301 x
  obtain ⟨⟨_, xa, xb, _⟩, _⟩ := hxo
  have hxa : x.a % 4 < 4 := Nat.mod_lt _ (by decide)
  have hlo : -3 ≤ lowN x ∧ lowN x ≤ 3 := by
    have : x.a % 7 < 7 := Nat.mod_lt _ (by decide)
    unfold lowN
    omega
  have hb6 : x.b % 6 < 6 := Nat.mod_lt _ (by decide)
  have hhi : highN x = lowN x + ((x.b % 6 : Nat) : Int) := rfl
  have hr := rem_u8 (k := .i64) (a := code) (n := x.b % 6 + 1) (by omega)
  have e1 : lowN x + ((x.b % 6 : Nat) : Int) - lowN x + 1 = ((x.b % 6 + 1 : Nat) : Int) := by omega
  rw [← e1] at hr
  have hm : code % (x.b % 6 + 1) < x.b % 6 + 1 := Nat.mod_lt _ (by omega)
  rw [hhi] at h300
  obtain ⟨n0, n6⟩ := idsN_len x.a
  have hn : (nums (idsN x.a)).length = (idsN x.a).length := List.length_map _
  have hr2 := rem_u8 (k := .i64) (a := code) (n := (idsN x.a).length) (by omega)
  have hat : (nums (idsN x.a))[code % (nums (idsN x.a)).length]? = some ((idAt x.a code : Nat) : Int) := by
    rw [hn]
    exact nums_at (Nat.mod_lt code n0)
  rw [← hn] at hr2
  unfold Node.cs at *
  have hk0 : (kindD d i : Int) = 1 ∨ (kindD d i : Int) = 2 ∨ (kindD d i : Int) = 3 ∨ (kindD d i : Int) = 4 ∨ (kindD d i : Int) = 5 ∨ (kindD d i : Int) = 6 ∨ (kindD d i : Int) = 7 ∨ (kindD d i : Int) = 8 ∨ (kindD d i : Int) = 9 := by omega
  unfold initK
  simp (disch := omega) only [go_sem, hidx, h298]
  rcases hk0 with hk | hk | hk | hk | hk | hk | hk | hk | hk
  all_goals simp (disch := omega) only [go_sem, hk, rem2, rem4, h299, h300, h301, h303, dec1, optI_neg]
  · have e : kindD d i = 1 := by omega
    rw [e, if_neg (by omega)]
    rfl
  · simp (disch := omega) only [go_sem, hr]
    have e : kindD d i = 2 := by omega
    rw [e, if_neg (by omega)]
    rfl
  · have e : kindD d i = 3 := by omega
    rw [e, if_neg (by omega)]
    refine Br.ofP (fun c => ?_) (fun c => ?_) <;> simp (disch := omega) only [go_sem, c, rem2]
    · refine Br.ofP (fun c2 => ?_) (fun c2 => ?_) <;> simp (disch := omega) only [go_sem, c2]
      · have e2 : 0 < x.a % 4 ∧ code % 2 = 1 := by omega
        simp [initV, e2, Val.c, zeroVal]
      · have e2 : ¬ (0 < x.a % 4 ∧ code % 2 = 1) := by omega
        simp [initV, e2, Val.c, zeroVal]
    · have e2 : ¬ (0 < x.a % 4 ∧ code % 2 = 1) := by omega
      simp [initV, e2, Val.c, zeroVal]
  · simp (disch := omega) only [go_sem, hr2, hat]
    have e : kindD d i = 4 := by omega
    rw [e, if_neg (by omega)]
    rfl
  · have e : kindD d i = 5 := by omega
    rw [e, if_neg (by omega)]
    rfl
  · have e : kindD d i = 6 := by omega
    rw [e, if_neg (by omega)]
    rfl
  · have e : kindD d i = 7 := by omega
    rw [e, if_neg (by omega)]
    rfl
  · have e : kindD d i = 8 := by omega
    rw [e]
    refine Br.ofP (fun c => ?_) (fun c => ?_) <;> simp (disch := omega) only [go_sem]
    · simp only [c, if_true]
      rfl
    · simp only [c, if_false]
      rfl
  · have e : kindD d i = 9 := by omega
    rw [e, if_neg (by omega)]
    rfl
end Go.Pv

/-
  Lists that are built of rows whose own lists are empty or kept.
-/
namespace Go.Pv

/-- A row of cells that stand for themselves, wherever. -/
def Thin (row : List V) (cs : List PV) : Prop := ∀ h d, mapO (keepc h (d + 1)) row = some cs
theorem Thin.len {row : List V} {cs : List PV} (h : Thin row cs) : cs.length = row.length := (mapO_len (h ⟨[], [], []⟩ 0))
theorem addFirst {w : Nat} {bx : List (Nat × List V)} {ar : List Arr} {mp : List (List (PV × PV))} {y : V} {new : Sum (List (List PV)) (List (List V))} {rd : Option Nat} {row : List V} (hs : srcRows ⟨bx, ar, mp⟩ y = some (new, rd)) (hn : bodyV new = [row]) (hr : row.length = w) :
    appendV ⟨bx, ar, mp⟩ w (.tl []) y = some (.own ar.length 0 0 1, { push := [⟨0, w, catRows (.inl []) new⟩], ra := rd, base := ar.length }) := by
  have h1 : rowsLen new = 1 := by rw [← bodyV_len, hn]; rfl
  have h2 : rowsFit w new = true := body_fit (by rw [hn]; intro r hr'; rw [List.mem_singleton] at hr'; rw [hr']; exact hr)
  simp only [appendV, hs, h2, h1, if_true]
  simp [rowsFit, mostRows]
theorem addNext {w : Nat} {bx : List (Nat × List V)} {ar : List Arr} {mp : List (List (PV × PV))} {y : V} {new : Sum (List (List PV)) (List (List V))} {rd : Option Nat} {row : List V} {o ver n : Nat} {body : Sum (List (List PV)) (List (List V))} (hs : srcRows ⟨bx, ar, mp⟩ y = some (new, rd)) (hn : bodyV new = [row]) (hr : row.length = w)
    (ho : ar[o]? = some ⟨ver, w, body⟩) (hb : rowsLen body = n) (hrd : rd ≠ some o) (hm : n + 1 ≤ 2147483648) :
    appendV ⟨bx, ar, mp⟩ w (.own o ver 0 n) y = some (.own o (ver + 1) 0 (n + 1), { ar := some (o, ⟨ver + 1, w, catRows (cutRows 0 n body) new⟩), ra := rd }) := by
  have h1 : rowsLen new = 1 := by rw [← bodyV_len, hn]; rfl
  have h2 : rowsFit w new = true := body_fit (by rw [hn]; intro r hr'; rw [List.mem_singleton] at hr'; rw [hr']; exact hr)
  have h3 : ownArr ⟨bx, ar, mp⟩ o ver = some ⟨ver, w, body⟩ := by rw [ownArr_mk, ho]; simp
  have h4 : (⟨ver, w, body⟩ : Arr).size = n := by rw [← hb]; cases body <;> rfl
  simp only [appendV, hs, h2, h1, h3, if_true, h4]
  simp [mostRows, hm, hrd]
/-- A list that is being built of such rows. -/
structure ThinRep (w : Nat) (ar : List Arr) (o ver : Nat) (cs : List (List PV)) : Prop where
  it : ∃ body, ar[o]? = some ⟨ver, w, body⟩ ∧ (bodyV body).length = cs.length ∧ ∀ (i : Nat) row c, (bodyV body)[i]? = some row → cs[i]? = some c → Thin row c
def ThinV (w : Nat) (ar : List Arr) (V0 : V) (cs : List (List PV)) : Prop := (V0 = .tl [] ∧ cs = []) ∨ ∃ o ver, V0 = .own o ver 0 cs.length ∧ ThinRep w ar o ver cs
theorem thin_snoc {rows : List (List V)} {cs : List (List PV)} {row : List V} {c : List PV} (h : rows.length = cs.length) (hr : ∀ (i : Nat) row c, rows[i]? = some row → cs[i]? = some c → Thin row c) (hn : Thin row c) :
    (rows ++ [row]).length = (cs ++ [c]).length ∧ ∀ (i : Nat) r x, (rows ++ [row])[i]? = some r → (cs ++ [c])[i]? = some x → Thin r x := by
  refine ⟨by simp [h], fun i r x h1 h2 => ?_⟩
  rcases Nat.lt_or_ge i rows.length with hi | hi
  · rw [List.getElem?_append_left hi] at h1
    rw [List.getElem?_append_left (by rw [← h]; exact hi)] at h2
    exact hr i r x h1 h2
  · rw [List.getElem?_append_right hi] at h1
    rw [List.getElem?_append_right (by rw [← h]; exact hi)] at h2
    rw [h] at h1
    cases hj : i - cs.length with
    | zero =>
      rw [hj] at h1 h2
      cases h1
      cases h2
      exact hn
    | succ j =>
      rw [hj] at h1
      simp at h1
/-- One more row. -/
theorem addThin {w : Nat} {ar X : List Arr} {V0 y : V} {cs : List (List PV)} {c : List PV} {new : Sum (List (List PV)) (List (List V))} {rd : Option Nat} {row : List V} (hO : ThinV w ar V0 cs) (hm : cs.length + 1 ≤ 2147483648)
    (hs : ∀ bx, srcRows ⟨bx, ar ++ X, []⟩ y = some (new, rd)) (hn : bodyV new = [row]) (hrd : ∀ o, rd = some o → ar.length ≤ o) (hw : row.length = w) (hr : Thin row c) :
    ∃ V1 T ar', (∀ bx, appendV ⟨bx, ar ++ X, []⟩ w V0 y = some (V1, T)) ∧ (∀ bx, T.apply ⟨bx, ar ++ X, []⟩ = ⟨bx, ar', []⟩) ∧ V1.cells = [V1] ∧ V1.calm = true ∧ ThinV w ar' V1 (cs ++ [c]) := by
  rcases hO with ⟨rfl, rfl⟩ | ⟨o, ver, rfl, hrep⟩
  · refine ⟨_, _, (ar ++ X) ++ [⟨0, w, catRows (.inl []) new⟩], fun bx => addFirst (hs bx) hn hw, fun bx => ?_, rfl, rfl, .inr ⟨(ar ++ X).length, 0, rfl, catRows (.inl []) new, by simp, ?_⟩⟩
    · simp [Tn.apply]
    · rw [bodyV_cat, hn]
      exact thin_snoc (rows := []) (cs := []) rfl (fun i r x h1 => by simp at h1) hr
  · obtain ⟨body, hb1, hb2, hb3⟩ := hrep.it
    have hol := (List.getElem?_eq_some_iff.1 hb1).1
    have hb1' : (ar ++ X)[o]? = some ⟨ver, w, body⟩ := by rw [List.getElem?_append_left hol]; exact hb1
    have hbl : rowsLen body = cs.length := by rw [← bodyV_len]; exact hb2
    have happ := fun bx => addNext (bx := bx) (mp := []) (hs bx) hn hw hb1' hbl (fun e => by have := hrd o e; omega) hm
    rw [cut_all (ver := ver) hbl rfl] at happ
    refine ⟨_, _, (ar ++ X).set o ⟨ver + 1, w, catRows body new⟩, happ, fun bx => ?_, rfl, rfl, .inr ⟨o, ver + 1, by simp, catRows body new, ?_, ?_⟩⟩
    · simp [Tn.apply]
    · rw [List.getElem?_set_self (by rw [List.length_append]; omega)]
    · rw [bodyV_cat, hn]
      exact thin_snoc hb2 hb3 hr
/-- .. by way of a literal. -/
theorem addLit {w : Nat} {ar : List Arr} {V0 : V} {cs : List (List PV)} {c : List PV} {row : List V} (hO : ThinV w ar V0 cs) (hm : cs.length + 1 ≤ 2147483648) (hw : row.length = w) (hr : Thin row c) :
    ∃ V1 T ar', (∀ bx, appendV ⟨bx, ar ++ [⟨0, w, .inr [row]⟩], []⟩ w V0 (.own ar.length 0 0 1) = some (V1, T)) ∧ (∀ bx, T.apply ⟨bx, ar ++ [⟨0, w, .inr [row]⟩], []⟩ = ⟨bx, ar', []⟩) ∧ V1.cells = [V1] ∧ V1.calm = true ∧ ThinV w ar' V1 (cs ++ [c]) := by
  refine addThin (X := [⟨0, w, .inr [row]⟩]) (new := .inr [row]) (rd := some ar.length) hO hm (fun bx => ?_) rfl (fun o ho => ?_) hw hr
  · simp [srcRows, ownArr, cutRows]
  · injection ho with ho
    rw [← ho]
    exact Nat.le_refl _
/-- .. of plain cells. -/
theorem addPlain {w : Nat} {ar : List Arr} {V0 : V} {cs : List (List PV)} {c : List PV} (hO : ThinV w ar V0 cs) (hm : cs.length + 1 ≤ 2147483648) (hw : c.length = w) (hr : Thin (c.map .pv) c) :
    ∃ V1 T ar', (∀ bx, appendV ⟨bx, ar, []⟩ w V0 (.tl [c]) = some (V1, T)) ∧ (∀ bx, T.apply ⟨bx, ar, []⟩ = ⟨bx, ar', []⟩) ∧ V1.cells = [V1] ∧ V1.calm = true ∧ ThinV w ar' V1 (cs ++ [c]) := by
  have := addThin (X := []) (y := .tl [c]) (new := .inl [c]) (rd := none) (c := c) (row := c.map .pv) hO hm (fun bx => rfl) rfl (fun o h => by cases h) (by simp [hw]) hr
  simpa only [List.append_nil] using this
theorem ThinV.keep {w : Nat} {ar : List Arr} {V0 : V} {cs : List (List PV)} (h : ThinV w ar V0 cs) (bx : List (Nat × List V)) (mp : List (List (PV × PV))) : keepc ⟨bx, ar, mp⟩ 4 V0 = some (.lst 0 cs) := by
  rcases h with ⟨rfl, rfl⟩ | ⟨o, ver, rfl, hrep⟩
  · rfl
  obtain ⟨body, h1, h2, h3⟩ := hrep.it
  rw [keepc_own, ownArr_mk, h1]
  simp only [Option.bind_some, if_true]
  have hk := mapO_rows (f := keepc ⟨bx, ar, mp⟩ 3) (c := id) h2 (fun i row t hi ht => h3 i row t hi ht _ 2)
  rw [List.map_id] at hk
  cases body with
  | inl R =>
    have hl : R.length = cs.length := by simpa [bodyV] using h2
    simp only [cutRows, keepRows, List.drop_zero]
    rw [← hl, List.take_length]
    congr 1
    congr 1
    apply List.ext_getElem?
    intro i
    rcases Nat.lt_or_ge i R.length with hi | hi
    · have e1 := List.getElem?_eq_getElem hi
      have e2 := List.getElem?_eq_getElem (l := cs) (i := i) (by omega)
      rw [e1, e2]
      have := h3 i (R[i].map V.pv) (cs[i]'(by omega)) (by simp [bodyV, e1]) e2 ⟨bx, ar, mp⟩ 2
      rw [mapO_pvs this]
    · rw [List.getElem?_eq_none hi, List.getElem?_eq_none (by omega)]
  | inr R =>
    have hl : R.length = cs.length := by simpa [bodyV] using h2
    simp only [cutRows, keepRows, List.drop_zero]
    rw [← hl, List.take_length]
    have hk' : mapO (mapO (keepc ⟨bx, ar, mp⟩ 3)) R = some cs := hk
    rw [hk']
    rfl
theorem ThinV.same {w : Nat} {ar : List Arr} {V0 : V} {cs : List (List PV)} (h : ThinV w ar V0 cs) (kb : List Nat) : scrub kb V0 = V0 := by
  rcases h with ⟨rfl, rfl⟩ | ⟨o, ver, rfl, _⟩ <;> rfl
theorem ThinV.kept {w : Nat} {ar : List Arr} {V0 : V} {cs : List (List PV)} (h : ThinV w ar V0 cs) (bx : List (Nat × List V)) (mp : List (List (PV × PV))) : Go.Pv.keep ⟨bx, ar, mp⟩ false V0 = some (.lst 0 cs) := by
  have := h.keep bx mp
  rcases h with ⟨rfl, rfl⟩ | ⟨o, ver, rfl, _⟩ <;> exact this
end Go.Pv

