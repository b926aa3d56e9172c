/-
  What the functions of the law give.
-/
import Derived.Test.YtnhbggnlnfcpkaaC3
set_option linter.unusedSimpArgs false
set_option linter.unusedVariables false
/-
  Chapter 05: the sort of components.
-/
namespace Go.Pv
theorem r372 (t u : Nat) (a b : Int) (r q : List Int) : res A PrA 372 [.lst t (ints (a :: r)), .lst u (ints (b :: q))] = some [.int .i64 (cmpI a b)] := by
  refine res_of a372 rfl rfl ?_
  simp only [F372]
  have h1 : idxR 1 t (ints (a :: r)) (some 0) = some (.pv (.ro t [.int .i64 a])) := by rw [idxR_int _ _ _ (Int.le_refl 0)]; rfl
  have h2 : idxR 1 u (ints (b :: q)) (some 0) = some (.pv (.ro u [.int .i64 b])) := by rw [idxR_int _ _ _ (Int.le_refl 0)]; rfl
  have h60 := r60 (Pr := PrA) (by kernel_rfl) a b
  simp (disch := omega) only [go_sem, h1, h2, h60]
theorem r62 (m : Nat) (hm : m ≤ 12) : ∃ x : Int, res A PrA 62 [.int .u64 m] = some [.int .i64 x] := by
  match m, hm with
  | 0, _ => exact ⟨0, res_some.2 ⟨200, by kernel_rfl⟩⟩
  | 1, _ => exact ⟨1, res_some.2 ⟨200, by kernel_rfl⟩⟩
  | 2, _ => exact ⟨2, res_some.2 ⟨200, by kernel_rfl⟩⟩
  | 3, _ => exact ⟨2, res_some.2 ⟨200, by kernel_rfl⟩⟩
  | 4, _ => exact ⟨3, res_some.2 ⟨200, by kernel_rfl⟩⟩
  | 5, _ => exact ⟨3, res_some.2 ⟨200, by kernel_rfl⟩⟩
  | 6, _ => exact ⟨3, res_some.2 ⟨200, by kernel_rfl⟩⟩
  | 7, _ => exact ⟨3, res_some.2 ⟨200, by kernel_rfl⟩⟩
  | 8, _ => exact ⟨4, res_some.2 ⟨200, by kernel_rfl⟩⟩
  | 9, _ => exact ⟨4, res_some.2 ⟨200, by kernel_rfl⟩⟩
  | 10, _ => exact ⟨4, res_some.2 ⟨200, by kernel_rfl⟩⟩
  | 11, _ => exact ⟨4, res_some.2 ⟨200, by kernel_rfl⟩⟩
  | 12, _ => exact ⟨4, res_some.2 ⟨200, by kernel_rfl⟩⟩
  | k + 13, h => omega
def HomeL (ars : List Arr) (x : V) (l : List Int) : Prop := ∃ id ver, x = .own id ver 0 l.length ∧ ars[id]? = some ⟨ver, 1, .inl (ints l)⟩
structure RowsH (ars : List Arr) (X : List V) (D : List (List Int)) : Prop where
  len : X.length = D.length
  at_ : ∀ (j : Nat) (l : List Int), D[j]? = some l → l ≠ [] ∧ ∃ y, X[j]? = some y ∧ HomeL ars y l
def keyD (D : List (List Int)) (p : Nat) : Int := (D.getD p []).headD 0
theorem RowsH.swap {ars : List Arr} {X : List V} {D : List (List Int)} (h : RowsH ars X D) {i j : Nat} {x y : V} {a b : List Int} (hij : i ≠ j) (hx : X[i]? = some x) (hy : X[j]? = some y) (ha : D[i]? = some a) (hb : D[j]? = some b) : RowsH ars ((X.set i y).set j x) ((D.set i b).set j a) := by
  have hXi := (List.getElem?_eq_some_iff.1 hx).1
  have hXj := (List.getElem?_eq_some_iff.1 hy).1
  have hDi := (List.getElem?_eq_some_iff.1 ha).1
  have hDj := (List.getElem?_eq_some_iff.1 hb).1
  refine ⟨by simp [h.len], fun k l hl => ?_⟩
  by_cases e1 : k = j
  · subst e1
    rw [List.getElem?_set_self (by simpa using hDj)] at hl
    cases hl
    obtain ⟨g1, y', g2, g3⟩ := h.at_ i a ha
    rw [hx] at g2
    cases g2
    exact ⟨g1, _, by rw [List.getElem?_set_self (by simpa using hXj)], g3⟩
  · rw [List.getElem?_set_ne (Ne.symm e1)] at hl ⊢
    by_cases e2 : k = i
    · subst e2
      rw [List.getElem?_set_self hDi] at hl
      cases hl
      obtain ⟨g1, y', g2, g3⟩ := h.at_ j b hb
      rw [hy] at g2
      cases g2
      exact ⟨g1, _, by rw [List.getElem?_set_self hXi], g3⟩
    · rw [List.getElem?_set_ne (Ne.symm e2)] at hl ⊢
      exact h.at_ k l hl
theorem swap_perm {α : Type} {l : List α} {i j : Nat} {a b : α} (ha : l[i]? = some a) (hb : l[j]? = some b) : ((l.set i b).set j a).Perm l := by
  obtain ⟨hi, rfl⟩ := List.getElem?_eq_some_iff.1 ha
  obtain ⟨hj, rfl⟩ := List.getElem?_eq_some_iff.1 hb
  exact List.set_set_perm hi hj
theorem keyD_swap {D : List (List Int)} {i j : Nat} {a b : List Int} (hij : i ≠ j) (ha : D[i]? = some a) (hb : D[j]? = some b) (k : Nat) : keyD ((D.set i b).set j a) k = if k = j then keyD D i else if k = i then keyD D j else keyD D k := by
  have hDi := (List.getElem?_eq_some_iff.1 ha).1
  have hDj := (List.getElem?_eq_some_iff.1 hb).1
  unfold keyD
  simp only [List.getD_eq_getElem?_getD]
  by_cases e1 : k = j
  · subst e1
    rw [if_pos rfl, List.getElem?_set_self (by simpa using hDj), ha]
  · rw [if_neg e1, List.getElem?_set_ne (Ne.symm e1)]
    by_cases e2 : k = i
    · subst e2
      rw [if_pos rfl, List.getElem?_set_self hDi, hb]
    · rw [if_neg e2, List.getElem?_set_ne (Ne.symm e2)]
set_option maxHeartbeats 8000000 in
theorem sort377 (ars : List Arr) (id ver : Nat) (xs : List V) (ds : List (List Int)) (hx : ars[id]? = some ⟨ver, 1, .inr (rowsV xs)⟩) (h12 : ds.length ≤ 12) (hR : RowsH ars xs ds) (Q : Ex → St → Prop)
    (hQ : ∀ (env : List (Nat × V)) (X : List V) (D : List (List Int)), D.Perm ds → RowsH ars X D → (∀ p q, p < q → q < ds.length → keyD D p ≤ keyD D q) → Q .normal ⟨env, ⟨[], ars.set id ⟨ver, 1, .inr (rowsV X)⟩, []⟩⟩) :
    W A PrA F377.body ⟨[(0, .own id ver 0 ds.length), (1, .pv (.int .i64 0)), (2, .pv (.int .i64 ds.length)), (3, .func 372 [])], ⟨[], ars, []⟩⟩ Q := by
  have hid := (List.getElem?_eq_some_iff.1 hx).1
  have hself : ars.set id ⟨ver, 1, .inr (rowsV xs)⟩ = ars := by
    apply List.ext_getElem?
    intro k
    by_cases e : id = k
    · subst e
      rw [List.getElem?_set_self hid, hx]
    · rw [List.getElem?_set_ne e]
  have hne : ∀ {a va : Nat} {l : List Int}, ars[a]? = some ⟨va, 1, .inl (ints l)⟩ → id ≠ a := fun {a va l} h e => by
    subst e
    rw [hx] at h
    injection h with h
    injection h with _ _ h
    cases h
  simp only [F377]
  simp (disch := omega) only [go_sem]
  refine W.loop (α := Nat × List V × List (List Int)) (fun q => ⟨[(0, .own id ver 0 ds.length), (1, .pv (.int .i64 0)), (2, .pv (.int .i64 ds.length)), (3, .func 372 []), (8, .pv (.int .i64 q.1))], ⟨[], ars.set id ⟨ver, 1, .inr (rowsV q.2.1)⟩, []⟩⟩)
    (fun q => 1 ≤ q.1 ∧ q.1 ≤ 13 ∧ q.2.2.Perm ds ∧ RowsH ars q.2.1 q.2.2 ∧ ∀ p r, p < r → r < q.1 → r < ds.length → keyD q.2.2 p ≤ keyD q.2.2 r) (fun q => 13 - q.1) (1, xs, ds) (by rw [hself]; rfl) ⟨Nat.le_refl _, by show 1 ≤ 13; decide, List.Perm.refl _, hR, fun p r h1 h2 => by dsimp only at h2; omega⟩ fun q hq => ?_
  obtain ⟨i, X, D⟩ := q
  obtain ⟨hi1, hi2, hp, hr, hs⟩ := hq
  dsimp only at hi1 hi2 hp hr hs
  have hDl := hp.length_eq
  simp (disch := omega) only [go_sem]
  refine Br.ofP (fun c => ?_) (fun c => ?_)
  · simp (disch := omega) only [go_sem]
    refine W.loop (α := Nat × List V × List (List Int)) (fun q => ⟨[(0, .own id ver 0 ds.length), (1, .pv (.int .i64 0)), (2, .pv (.int .i64 ds.length)), (3, .func 372 []), (8, .pv (.int .i64 i)), (9, .pv (.int .i64 q.1))], ⟨[], ars.set id ⟨ver, 1, .inr (rowsV q.2.1)⟩, []⟩⟩)
      (fun q => q.1 ≤ i ∧ q.2.2.Perm ds ∧ RowsH ars q.2.1 q.2.2 ∧ ∀ p r, p < r → r ≤ i → r ≠ q.1 → keyD q.2.2 p ≤ keyD q.2.2 r) (fun q => q.1) (i, X, D) rfl ⟨Nat.le_refl _, hp, hr, fun p r h1 h2 h3 => by dsimp only at h3; exact hs p r h1 (by omega) (by omega)⟩ fun q hq => ?_
    obtain ⟨j, X, D⟩ := q
    obtain ⟨hj, hp, hr, hs⟩ := hq
    dsimp only at hj hp hr hs
    have hDl := hp.length_eq
    have hg : (ars.set id ⟨ver, 1, .inr (rowsV X)⟩)[id]? = some ⟨ver, 1, .inr (rowsV X)⟩ := List.getElem?_set_self hid
    cases j with
    | zero =>
      have d0 : decide ((0 : Int) < ((0 : Nat) : Int)) = false := rfl
      simp (disch := omega) only [go_sem, d0]
      exact ⟨(i + 1, X, D), ⟨by show 1 ≤ i + 1; omega, by show i + 1 ≤ 13; omega, hp, hr, fun p r h1 h2 _ => hs p r h1 (by have h2 : r < i + 1 := h2; omega) (by omega)⟩, by show 13 - (i + 1) < 13 - i; omega, rfl⟩
    | succ j =>
      have hDj := List.getElem?_eq_getElem (l := D) (i := j + 1) (by omega)
      have hDk := List.getElem?_eq_getElem (l := D) (i := j) (by omega)
      generalize D[j + 1]'(by omega) = a at hDj
      generalize D[j]'(by omega) = b at hDk
      obtain ⟨ha0, y, hy, ai, av, rfl, hya⟩ := hr.at_ _ _ hDj
      obtain ⟨hb0, z, hz, bi, bv, rfl, hzb⟩ := hr.at_ _ _ hDk
      have hya2 : (ars.set id ⟨ver, 1, .inr (rowsV X)⟩)[ai]? = some ⟨av, 1, .inl (ints a)⟩ := by rw [List.getElem?_set_ne (hne hya)]; exact hya
      have hzb2 : (ars.set id ⟨ver, 1, .inr (rowsV X)⟩)[bi]? = some ⟨bv, 1, .inl (ints b)⟩ := by rw [List.getElem?_set_ne (hne hzb)]; exact hzb
      have d1 : decide ((0 : Int) < ((j + 1 : Nat) : Int)) = true := by rw [decide_eq_true_eq]; omega
      have e1 : ((j + 1 : Nat) : Int) - 1 = (j : Int) := by omega
      have hka : keyD D (j + 1) = a.headD 0 := by simp [keyD, hDj]
      have hkb : keyD D j = b.headD 0 := by simp [keyD, hDk]
      obtain ⟨a0, ra, rfl⟩ := List.exists_cons_of_ne_nil ha0
      obtain ⟨b0, rb, rfl⟩ := List.exists_cons_of_ne_nil hb0
      have h372 := r372 1 1 a0 b0 ra rb
      have hcm : decide (cmpI a0 b0 < 0) = decide (a0 < b0) := by
        unfold cmpI
        apply decide_eq_decide.2
        constructor
        · intro h
          split at h
          · assumption
          · split at h <;> omega
        · intro h
          rw [if_pos h]
          decide
      have hka : keyD D (j + 1) = a0 := hka
      have hkb : keyD D j = b0 := hkb
      simp (disch := omega) only [go_sem, d1, e1, hg, hy, hz, hya2, hzb2, List.take_length, h372, hcm]
      refine Br.ofP (fun c3 => ?_) (fun c3 => ?_)
      · have hXl := hr.len
        have hgA : ∀ a, (ars.set id a)[id]? = some a := fun a => List.getElem?_set_self hid
        have hst2 := rowsV_store_own (id := id) (row := j) (ver := ver) (a := ai) (b := av) (c := 0) (d := ra.length + 1) (xs := X.set (j + 1) (V.own bi bv 0 (rb.length + 1))) (by rw [List.length_set]; omega)
        simp (disch := omega) only [go_sem, e1, hg, hy, hz, hgA, List.set_set, hst2]
        have hks := keyD_swap (D := D) (i := j + 1) (j := j) (a := a0 :: ra) (b := b0 :: rb) (by omega) hDj hDk
        exact ⟨(j, (X.set (j + 1) (V.own bi bv 0 (rb.length + 1))).set j (V.own ai av 0 (ra.length + 1)), (D.set (j + 1) (b0 :: rb)).set j (a0 :: ra)), ⟨by show j ≤ i; omega, (swap_perm hDj hDk).trans hp, hr.swap (by omega) hy hz hDj hDk, fun p r h1 h2 h3 => by
          have h3 : r ≠ j := h3
          show keyD _ p ≤ keyD _ r
          rw [hks p, hks r, if_neg h3]
          by_cases e : r = j + 1
          · subst e
            rw [if_pos rfl]
            by_cases e2 : p = j
            · rw [if_pos e2, hka, hkb]
              omega
            · rw [if_neg e2, if_neg (by omega)]
              exact hs p j (by omega) (by omega) (by omega)
          · rw [if_neg e]
            by_cases e2 : p = j
            · rw [if_pos e2]
              exact hs (j + 1) r (by omega) h2 (by omega)
            · rw [if_neg e2]
              by_cases e3 : p = j + 1
              · rw [if_pos e3]
                exact hs j r (by omega) h2 (by omega)
              · rw [if_neg e3]
                exact hs p r h1 h2 (by omega)⟩, by show j < j + 1; omega, rfl⟩
      · simp (disch := omega) only [go_sem]
        exact ⟨(i + 1, X, D), ⟨by show 1 ≤ i + 1; omega, by show i + 1 ≤ 13; omega, hp, hr, fun p r h1 h2 _ => by
          have h2 : r < i + 1 := h2
          show keyD D p ≤ keyD D r
          by_cases e : r = j + 1
          · subst e
            by_cases e2 : p = j
            · rw [e2, hka, hkb]
              omega
            · have := hs p j (by omega) (by omega) (by omega)
              omega
          · exact hs p r h1 (by omega) e⟩, by show 13 - (i + 1) < 13 - i; omega, rfl⟩
  · simp (disch := omega) only [go_sem]
    exact hQ _ X D hp hr (fun p q h1 h2 => hs p q h1 (by omega) h2)
theorem callS {f : Nat} {g : AFunc} (hg : A f = some g) {vs : List V} {bx : List (Nat × List V)} {ars : List Arr} {K : V → Tn → Prop} (hn : vs.length = g.nargs) (hs : atSlots vs bx = []) (hr : mapO (renV (toIn [])) vs = some vs) (h : W A PrA g.body ⟨entryV 0 vs, ⟨[], ars, []⟩⟩ (inlK g.results [] K)) : IW A PrA f vs ⟨bx, ars, []⟩ K := by
  rw [IW_eq hg]
  have hs : atSlots vs (Heap.bx ⟨bx, ars, []⟩) = [] := hs
  rw [hs]
  exact ⟨hn, _, hr, _, rfl, h⟩
theorem backS {ars : List Arr} {env : List (Nat × V)} {bx : List (Nat × List V)} {ex : Ex} {K : V → Tn → Prop} (hex : ex = .normal ∨ ex = .ret) (h : K (.tup []) { all := some ([], ars, []) }) : inlK [] [] K .mk ex ⟨env, ⟨bx, ars, []⟩⟩ := by
  rcases hex with rfl | rfl <;> exact ⟨_, rfl, _, rfl, _, rfl, h⟩
set_option maxHeartbeats 8000000 in
theorem sort371 (ars : List Arr) (id ver : Nat) (xs : List V) (ds : List (List Int)) (hx : ars[id]? = some ⟨ver, 1, .inr (rowsV xs)⟩) (h12 : ds.length ≤ 12) (hR : RowsH ars xs ds) (bx : List (Nat × List V)) (K : V → Tn → Prop)
    (hK : ∀ (X : List V) (D : List (List Int)), D.Perm ds → RowsH ars X D → (∀ p q, p < q → q < ds.length → keyD D p ≤ keyD D q) → K (.tup []) { all := some ([], ars.set id ⟨ver, 1, .inr (rowsV X)⟩, []) }) :
    IW A PrA 371 [.own id ver 0 ds.length, .func 372 []] ⟨bx, ars, []⟩ K := by
  refine callS a371 rfl rfl rfl ?_
  obtain ⟨x, h62⟩ := r62 ds.length h12
  have hcv : IntKind.u64.wrap (ds.length : Int) = ds.length := by
    generalize ds.length = m at h12
    match m, h12 with
    | 0, _ => rfl
    | 1, _ => rfl
    | 2, _ => rfl
    | 3, _ => rfl
    | 4, _ => rfl
    | 5, _ => rfl
    | 6, _ => rfl
    | 7, _ => rfl
    | 8, _ => rfl
    | 9, _ => rfl
    | 10, _ => rfl
    | 11, _ => rfl
    | 12, _ => rfl
    | k + 13, h => omega
  have hcm : ∀ (x : Int), decide ((ds.length : Int) - 0 ≤ 12) = true := fun _ => by rw [decide_eq_true_eq]; omega
  show W A PrA F371.body ⟨[(0, .own id ver 0 ds.length), (1, .func 372 [])], ⟨[], ars, []⟩⟩ _
  simp only [F371]
  simp (disch := omega) only [go_sem, h62, hcv]
  refine callS a376 rfl rfl rfl ?_
  show W A PrA F376.body ⟨[(0, .own id ver 0 ds.length), (1, .pv (.int .i64 0)), (2, .pv (.int .i64 ds.length)), (3, .pv (.int .i64 x)), (4, .func 372 [])], ⟨[], ars, []⟩⟩ _
  simp only [F376]
  simp (disch := omega) only [go_sem]
  refine W.once ?_
  have d1 : decide ((ds.length : Int) ≤ 12) = true := by rw [decide_eq_true_eq]; omega
  simp (disch := omega) only [go_sem, Int.sub_zero, d1]
  refine callS a377 rfl rfl rfl ?_
  show W A PrA F377.body ⟨[(0, .own id ver 0 ds.length), (1, .pv (.int .i64 0)), (2, .pv (.int .i64 ds.length)), (3, .func 372 [])], ⟨[], ars, []⟩⟩ _
  refine sort377 ars id ver xs ds hx h12 hR _ fun env X D hp hr hs => backS (.inl rfl) ?_
  simp (disch := omega) only [go_sem]
  refine ⟨[], rfl, ?_⟩
  simp (disch := omega) only [go_sem]
  refine ⟨[], rfl, ?_⟩
  exact hK X D hp hr hs
set_option maxHeartbeats 8000000 in
theorem sort371n (ars : List Arr) (bx : List (Nat × List V)) (K : V → Tn → Prop) (hK : K (.tup []) { all := some ([], ars, []) }) :
    IW A PrA 371 [.tl [], .func 372 []] ⟨bx, ars, []⟩ K := by
  refine callS a371 rfl rfl rfl ?_
  obtain ⟨x, h62⟩ := r62 0 (by decide)
  have hcv : IntKind.u64.wrap ((0 : Nat) : Int) = 0 := rfl
  have h62 : res A PrA 62 [.int .u64 0] = some [.int .i64 x] := h62
  show W A PrA F371.body ⟨[(0, .tl []), (1, .func 372 [])], ⟨[], ars, []⟩⟩ _
  simp only [F371]
  simp (disch := omega) only [go_sem, h62, hcv]
  refine callS a376 rfl rfl rfl ?_
  show W A PrA F376.body ⟨[(0, .tl []), (1, .pv (.int .i64 0)), (2, .pv (.int .i64 ((0 : Nat) : Int))), (3, .pv (.int .i64 x)), (4, .func 372 [])], ⟨[], ars, []⟩⟩ _
  simp only [F376]
  simp (disch := omega) only [go_sem]
  refine W.once ?_
  have d1 : decide (((0 : Nat) : Int) ≤ 12) = true := rfl
  simp (disch := omega) only [go_sem, Int.sub_zero, d1]
  refine callS a377 rfl rfl rfl ?_
  show W A PrA F377.body ⟨[(0, .tl []), (1, .pv (.int .i64 0)), (2, .pv (.int .i64 ((0 : Nat) : Int))), (3, .func 372 [])], ⟨[], ars, []⟩⟩ _
  simp only [F377]
  simp (disch := omega) only [go_sem]
  refine W.once ?_
  have d2 : decide ((1 : Int) < ((0 : Nat) : Int)) = false := rfl
  simp (disch := omega) only [go_sem, d2]
  refine ⟨[], rfl, ?_⟩
  simp (disch := omega) only [go_sem]
  refine ⟨[], rfl, ?_⟩
  simp (disch := omega) only [go_sem]
  refine ⟨[], rfl, ?_⟩
  exact hK
end Go.Pv

/-
  Chapter 05: strongly connected components: the search, and the sort.
-/
namespace Go.Pv
theorem call370s {n : Nat} {rows : List (List Int)} {sx cx : V} {cnt : Int} {ars : List Arr} {v : Int} {K : V → Tn → Prop} (h1 : Flat sx) (h2 : Flat cx) (h : W A PrA F370.body ⟨[(0, .ptr 200000 0), (1, .pv (.int .i64 v))], ⟨[(200000, cellsT n rows sx cx cnt)], ars, []⟩⟩ (inlK [] [25] K)) : IW A PrA 370 [.ptr 25 0, .pv (.int .i64 v)] ⟨[(25, cellsT n rows sx cx cnt)], ars, []⟩ K := by
  rw [IW_eq a370]
  rcases h1 with rfl | ⟨a, b, c, rfl⟩ <;> rcases h2 with rfl | ⟨a', b', c', rfl⟩ <;> exact ⟨rfl, _, rfl, _, rfl, h⟩
theorem back370s {n : Nat} {rows : List (List Int)} {sx cx : V} {cnt : Int} {ars : List Arr} {env : List (Nat × V)} {ex : Ex} {K : V → Tn → Prop} (hex : ex = .normal ∨ ex = .ret) (h1 : Flat sx) (h2 : Flat cx) (h : K (.tup []) { all := some ([(25, cellsT n rows sx cx cnt)], ars, []) }) : inlK [] [25] K .mk ex ⟨env, ⟨[(200000, cellsT n rows sx cx cnt)], ars, []⟩⟩ := by
  rcases hex with rfl | rfl <;> rcases h1 with rfl | ⟨a, b, c, rfl⟩ <;> rcases h2 with rfl | ⟨a', b', c', rfl⟩ <;> exact ⟨_, rfl, _, rfl, _, rfl, h⟩

def fin0 (n : Nat) : Fin := ⟨List.replicate n 0, List.replicate n 0, [], List.replicate n false, 0, []⟩
def tarStep (n : Nat) (nx : Int → List Int) (s : Fin) (v : Nat) : Fin := if at0 s.num v = 0 then visit nx n v s else s
def tarjan (n : Nat) (nx : Int → List Int) (j : Nat) : Fin := (List.range j).foldl (tarStep n nx) (fin0 n)
theorem tarjan_succ (n : Nat) (nx : Int → List Int) (j : Nat) : tarjan n nx (j + 1) = tarStep n nx (tarjan n nx j) j := by
  unfold tarjan
  rw [List.range_succ, List.foldl_append]
  rfl
theorem at0_rep (n : Nat) (w : Int) : at0 (List.replicate n 0) w = 0 := by
  unfold at0
  rw [List.getD_eq_getElem?_getD]
  rcases Nat.lt_or_ge w.toNat n with h | h
  · simp [h]
  · simp [h]
theorem fin0_inv (n : Nat) (nx : Int → List Int) : TInv n nx [] (fin0 n) := by
  have hz : ∀ w, at0 (fin0 n).num w = 0 := at0_rep n
  refine ⟨by simp [fin0], by simp [fin0], by simp [fin0], Int.le_refl _, fun w _ _ => by rw [hz w]; exact ⟨Int.le_refl _, Int.le_refl _⟩, fun w hw => (by cases hw), List.Pairwise.nil, fun w h0 h1 => ?_, fun g hg => (by cases hg), fun w _ _ hw => absurd (hz w) hw, fun w _ _ hw => absurd (hz w) hw, fun g hg => (by cases hg), fun w hw => (by cases hw), fun C hC => (by cases hC), fun w _ _ hw => absurd (hz w) hw, List.Pairwise.nil⟩
  have : (fin0 n).on.getD w.toNat false = false := by
    show (List.replicate n false).getD w.toNat false = false
    rw [List.getD_eq_getElem?_getD]
    rcases Nat.lt_or_ge w.toNat n with h | h
    · simp [h]
    · simp [h]
  rw [this]
  constructor
  · intro h
    cases h
  · intro h
    cases h
theorem tarjan_ok {n : Nat} {nx : Int → List Int} (hn : ∀ w x, x ∈ nx w → 0 ≤ x ∧ x < (n : Int)) : ∀ (j : Nat), j ≤ n → TInv n nx [] (tarjan n nx j) ∧ ∀ v : Int, 0 ≤ v → v < j → at0 (tarjan n nx j).num v ≠ 0
  | 0, _ => ⟨fin0_inv n nx, fun v h0 h1 => by omega⟩
  | j + 1, hj => by
    obtain ⟨h1, h2⟩ := tarjan_ok hn j (by omega)
    rw [tarjan_succ]
    unfold tarStep
    by_cases hz : at0 (tarjan n nx j).num j = 0
    · rw [if_pos hz]
      have hu : unv n (tarjan n nx j) ≤ n := by
        unfold unv
        have := List.countP_le_length (p := fun (v : Nat) => decide (at0 (tarjan n nx j).num v = 0)) (l := List.range n)
        rwa [List.length_range] at this
      obtain ⟨seg, t1, t2, t3, t4⟩ := visit_ok hn n j (tarjan n nx j) [] hu h1 ⟨by omega, by omega⟩ hz (fun g hg => (by cases hg))
      refine ⟨t1, fun v v0 v1 => ?_⟩
      by_cases e : v = j
      · rw [e]
        have := h1.c0
        omega
      · exact t2.mono v0 (by omega) (h2 v v0 (by omega))
    · rw [if_neg hz]
      refine ⟨h1, fun v v0 v1 => ?_⟩
      by_cases e : v = j
      · rw [e]
        exact hz
      · exact h2 v v0 (by omega)
theorem TInv.empty {n : Nat} {nx : Int → List Int} {s : Fin} (h : TInv n nx [] s) : s.stk = [] := by
  cases hs : s.stk with
  | nil => rfl
  | cons x r =>
    obtain ⟨g, hg, _⟩ := h.r2 x (by rw [hs]; simp)
    cases hg
structure StrongOk (n : Nat) (nx : Int → List Int) (L : List (List Int)) : Prop where
  cs : ∀ C ∈ L, C ≠ [] ∧ C.Pairwise (· < ·) ∧ ∀ v ∈ C, (0 ≤ v ∧ v < n) ∧ ∀ z : Int, z ∈ C ↔ (Rch nx v z ∧ Rch nx z v)
  cov : ∀ w : Int, 0 ≤ w → w < n → ∃ C ∈ L, w ∈ C
  asc : L.Pairwise fun C D => C.headD 0 < D.headD 0
theorem StrongOk.uniq {n : Nat} {nx : Int → List Int} {L M : List (List Int)} (h : StrongOk n nx L) (k : StrongOk n nx M) : L = M := by
  have key : ∀ {L M : List (List Int)}, StrongOk n nx L → StrongOk n nx M → ∀ C ∈ L, C ∈ M := fun {L M} h k C hC => by
    obtain ⟨c1, c2, c3⟩ := h.cs C hC
    obtain ⟨x, r, rfl⟩ := List.exists_cons_of_ne_nil c1
    obtain ⟨d1, d2⟩ := c3 x (by simp)
    obtain ⟨D, hD, hx⟩ := k.cov x d1.1 d1.2
    obtain ⟨e1, e2, e3⟩ := k.cs D hD
    have : x :: r = D := asc_ext c2 e2 fun z => by rw [d2 z, (e3 x hx).2 z]
    rw [this]
    exact hD
  exact pw_uniq (lt := fun C D : List Int => decide (C.headD 0 < D.headD 0)) (fun x => by simp) (fun x y z h1 h2 => by simp at h1 h2 ⊢; omega) (h.asc.imp fun h => by simpa using h) (k.asc.imp fun h => by simpa using h) fun C => ⟨key h k C, key k h C⟩
theorem sorted_ok {n : Nat} {nx : Int → List Int} {s : Fin} (h : TInv n nx [] s) (hall : ∀ v : Int, 0 ≤ v → v < n → at0 s.num v ≠ 0) {D : List (List Int)} (hp : D.Perm s.cs) (hs : ∀ p q, p < q → q < s.cs.length → keyD D p ≤ keyD D q) : StrongOk n nx D := by
  have hst := h.empty
  refine ⟨fun C hC => ?_, fun w h0 h1 => ?_, ?_⟩
  · obtain ⟨c1, c2, c3⟩ := h.cs C (hp.mem_iff.1 hC)
    exact ⟨c1, c2, fun v hv => ⟨(c3 v hv).1.1, (c3 v hv).2⟩⟩
  · obtain ⟨C, hC, hw⟩ := h.cov w h0 h1 (hall w h0 h1) (by rw [hst]; simp)
    exact ⟨C, hp.mem_iff.2 hC, hw⟩
  · have hdis : D.Pairwise fun C E => ∀ x ∈ C, x ∉ E := by
      refine (hp.symm.pairwise h.dis ?_)
      intro x y hxy z hz hz2
      exact hxy z hz2 hz
    rw [List.pairwise_iff_getElem] at hdis ⊢
    intro i j hi hj hij
    have := hs i j hij (by rw [← hp.length_eq]; exact hj)
    have e1 : keyD D i = D[i].headD 0 := by simp [keyD, hi]
    have e2 : keyD D j = D[j].headD 0 := by simp [keyD, hj]
    rw [e1, e2] at this
    have hd := hdis i j hi hj hij
    obtain ⟨c, C', hc⟩ := List.exists_cons_of_ne_nil (h.cs D[i] (hp.mem_iff.1 (List.getElem_mem hi))).1
    obtain ⟨d, D', hd'⟩ := List.exists_cons_of_ne_nil (h.cs D[j] (hp.mem_iff.1 (List.getElem_mem hj))).1
    rw [hc, hd'] at this hd ⊢
    have hne : c ≠ d := fun e => hd c (by simp) (by simp [e])
    have this : c ≤ d := this
    show c < d
    omega
theorem keepH {h : Heap} (d : Nat) : ∀ {X : List V} {D : List (List Int)}, X.length = D.length → (∀ (j : Nat) (l : List Int), D[j]? = some l → ∃ y, X[j]? = some y ∧ keepc h (d + 1) y = some (.lst 0 (ints l))) → mapO (mapO (keepc h (d + 1))) (rowsV X) = some (lls D)
  | [], D, hl, _ => by
    have : D = [] := List.eq_nil_of_length_eq_zero hl.symm
    subst this
    rfl
  | x :: X, [], hl, _ => by simp at hl
  | x :: X, l :: D, hl, hat => by
    obtain ⟨y, h1, h2⟩ := hat 0 l rfl
    cases h1
    have h3 := keepH d (X := X) (D := D) (by simpa using hl) fun j m hm => by
      obtain ⟨z, z1, z2⟩ := hat (j + 1) m (by simpa using hm)
      exact ⟨z, by simpa using z1, z2⟩
    show mapO (mapO (keepc h (d + 1))) ([x] :: rowsV X) = some ([.lst 0 (ints l)] :: lls D)
    simp only [mapO, h2, h3]
theorem keepOwn {h : Heap} {d id ver : Nat} {l : List Int} (ho : ownArr h id ver = some ⟨ver, 1, .inl (ints l)⟩) : keepc h (d + 1) (.own id ver 0 l.length) = some (.lst 0 (ints l)) := by
  have e1 : (ints l).length = l.length := ints_length l
  simp [keepc_own, ho, keepRows, cutRows, List.take_of_length_le (Nat.le_of_eq e1)]
set_option maxHeartbeats 8000000 in
theorem r353 (t : Nat) (n : Int) (es : List (Int × Int)) (hn : n ≤ 12 ∨ 2000 < n) (hl : es.length ≤ 2 ^ 63 - 1) (L : List (List Int)) (hL : gErr n es = 0 → StrongOk n.toNat (nxt (succs n.toNat es)) L) : res A PrA 353 [.int .i64 n, .lst t (prs es)] = some (if gErr n es = 0 then [.lst 0 (lls L), .int .i64 0] else [.lst 0 [], .int .i64 (gErr n es)]) := by
  refine res_of a353 rfl rfl ?_
  simp only [F353]
  have h128 := r128 t n es hl
  simp (disch := omega) only [go_sem, h128]
  refine Br.ofP (fun h1 => ?_) (fun h1 => ?_) <;> simp (disch := omega) only [go_sem, h1]
  rw [if_pos h1]
  obtain ⟨f1, f2, f3, f4⟩ := gErr_zero h1
  have hL := hL h1
  obtain ⟨m, rfl⟩ := Int.eq_ofNat_of_zero_le f1
  rw [Int.toNat_natCast] at f4 hL
  have h115 := r115 t m es (by omega) (by omega) f4
  have hok := succs_ok f4 (by omega)
  have hsl := succs_len m es
  simp (disch := omega) only [go_sem, h115]
  have hnx : ∀ w x, x ∈ nxt (succs m es) w → 0 ≤ x ∧ x < (m : Int) := nxt_in hok
  have htar := fun j hj => tarjan_ok (n := m) hnx j hj
  refine W.loop (α := Nat × List Arr × V × V) (fun q => ⟨[(7, .ptr 25 0), (26, .pv (.int .i64 m)), (27, .pv (.int .i64 q.1))], ⟨[(25, cellsT m (succs m es) q.2.2.1 q.2.2.2 (tarjan m (nxt (succs m es)) q.1).cnt)], arsT (tarjan m (nxt (succs m es)) q.1) q.2.1, []⟩⟩)
    (fun q => q.1 ≤ m ∧ TRep m (tarjan m (nxt (succs m es)) q.1) q.2.1 q.2.2.1 q.2.2.2) (fun q => m - q.1) (0, [], .tl [], .tl []) rfl ⟨Nat.zero_le _, .inl ⟨rfl, rfl⟩, .inl ⟨rfl, rfl⟩, ?_⟩ fun q hq => ?_
  · show 0 + unv m (fin0 m) ≤ (m : Int)
    unfold unv
    have := List.countP_le_length (p := fun (v : Nat) => decide (at0 (fin0 m).num v = 0)) (l := List.range m)
    rw [List.length_range] at this
    omega
  obtain ⟨j, rest, sx, cx⟩ := q
  obtain ⟨hj, hR⟩ := hq
  dsimp only at hj hR
  obtain ⟨hI, hvis⟩ := htar j hj
  have hts := tarjan_succ m (nxt (succs m es)) j
  generalize hs : tarjan m (nxt (succs m es)) j = s at *
  simp only [cellsT, arsT]
  simp (disch := omega) only [go_sem]
  refine Br.ofP (fun c => ?_) (fun c => ?_)
  · have hnj := at0_get (v := (j : Int)) hI.ln ⟨by omega, by omega⟩
    rw [Int.toNat_natCast] at hnj
    unfold tarStep at hts
    simp (disch := omega) only [go_sem, hnj]
    refine Br.ofP (fun c2 => ?_) (fun c2 => ?_)
    · rw [if_pos c2] at hts
      have hu : unv m s ≤ m := by
        unfold unv
        have := List.countP_le_length (p := fun (v : Nat) => decide (at0 s.num v = 0)) (l := List.range m)
        rwa [List.length_range] at this
      simp (disch := omega) only [go_sem]
      refine call370s hR.stk.flat hR.cs.flat (visit_run m (succs m es) hsl (by omega) hok hnx m [] s j rest sx cx _ hu hI ⟨by omega, by omega⟩ c2 (fun g hg => (by cases hg)) hR fun ex env rest' sx' cx' hex hR' => back370s hex hR'.stk.flat hR'.cs.flat ?_)
      rw [← hts] at hR' ⊢
      simp only [cellsT]
      simp (disch := omega) only [go_sem]
      exact ⟨(j + 1, rest', sx', cx'), ⟨by show j + 1 ≤ m; omega, hR'⟩, by show m - (j + 1) < m - j; omega, rfl⟩
    · rw [if_neg c2] at hts
      simp (disch := omega) only [go_sem]
      exact ⟨(j + 1, rest, sx, cx), ⟨by show j + 1 ≤ m; omega, by dsimp only; rw [hts]; exact hR⟩, by show m - (j + 1) < m - j; omega, by dsimp only; rw [hts]; rfl⟩
  · obtain rfl : j = m := by omega
    simp (disch := omega) only [go_sem]
    have hall := hvis
    have hcl := hI.cs_le
    rcases hR.cs with ⟨rfl, hcs⟩ | ⟨ci, cv, xs, rfl, hc1, hc2, hc3⟩
    · have hD := sorted_ok hI hall (D := []) (by rw [hcs]) (fun p q h1 h2 => by rw [hcs] at h2; simp at h2)
      rw [hL.uniq hD]
      refine sort371n _ _ _ ?_
      simp (disch := omega) only [go_sem]
      rfl
    · refine sort371 (⟨1, 1, .inl (ints s.num)⟩ :: ⟨1, 1, .inl (ints s.low)⟩ :: ⟨1, 1, .inl (bools s.on)⟩ :: rest) (ci + 3) cv xs s.cs hc1 (by omega) ⟨hc2, fun i l hl => ?_⟩ _ _ fun X D hp hr hs => ?_
      · refine ⟨(hI.cs l (List.mem_of_getElem? hl)).1, ?_⟩
        have hlt := (List.getElem?_eq_some_iff.1 hl).1
        have hy := List.getElem?_eq_getElem (l := xs) (i := i) (by omega)
        obtain ⟨id, w, g1, g2, _⟩ := hc3 i _ l hy hl
        exact ⟨_, hy, id + 3, w, g1, g2⟩
      · have hD := sorted_ok hI hall hp hs
        rw [hL.uniq hD]
        simp (disch := omega) only [go_sem]
        have hlt := (List.getElem?_eq_some_iff.1 hc1).1
        have hget : (rest.set ci ⟨cv, 1, .inr (rowsV X)⟩)[ci]? = some ⟨cv, 1, .inr (rowsV X)⟩ := List.getElem?_set_self hlt
        have hDl := hp.length_eq
        have hcut : cutRows 0 s.cs.length (.inr (rowsV X)) = .inr (rowsV X) := by
          have := hr.len
          simp [cutRows, rowsV, List.take_of_length_le (Nat.le_of_eq (show (X.map fun x => [x]).length = s.cs.length by simp; omega))]
        have hkeep := keepH (h := ⟨[], ⟨1, 1, .inl (ints s.num)⟩ :: ⟨1, 1, .inl (ints s.low)⟩ :: ⟨1, 1, .inl (bools s.on)⟩ :: rest.set ci ⟨cv, 1, .inr (rowsV X)⟩, []⟩) 2 hr.len fun i l hl => by
          obtain ⟨_, y, hy, id, w, rfl, hg⟩ := hr.at_ i l hl
          refine ⟨_, hy, keepOwn ?_⟩
          have hne : ci + 3 ≠ id := fun e => by
            subst e
            have hg : rest[ci]? = some ⟨w, 1, .inl (ints l)⟩ := hg
            rw [hc1] at hg
            injection hg with hg
            injection hg with _ _ hg
            cases hg
          have hs2 : ((⟨1, 1, .inl (ints s.num)⟩ : Arr) :: ⟨1, 1, .inl (ints s.low)⟩ :: ⟨1, 1, .inl (bools s.on)⟩ :: rest.set ci ⟨cv, 1, .inr (rowsV X)⟩) = ((⟨1, 1, .inl (ints s.num)⟩ : Arr) :: ⟨1, 1, .inl (ints s.low)⟩ :: ⟨1, 1, .inl (bools s.on)⟩ :: rest).set (ci + 3) ⟨cv, 1, .inr (rowsV X)⟩ := rfl
          rw [hs2]
          simp only [ownArr, List.getElem?_set_ne hne, hg]
          simp
        simp only [hget, Option.bind_some, if_true, hcut, keepRows, hkeep]
        rfl
end Go.Pv

/-
  Chapter 05: strongly connected components: there is a list of them; the document's comparisons.
-/
namespace Go.Pv
def headLt (C D : List Int) : Bool := decide (C.headD 0 < D.headD 0)
def strongL (n : Nat) (nx : Int → List Int) : List (List Int) := isort headLt (tarjan n nx n).cs
theorem strongL_ok {n : Nat} {nx : Int → List Int} (hn : ∀ w x, x ∈ nx w → 0 ≤ x ∧ x < (n : Int)) : StrongOk n nx (strongL n nx) := by
  obtain ⟨h, hall⟩ := tarjan_ok hn n (Nat.le_refl n)
  have hall : ∀ v : Int, 0 ≤ v → v < n → at0 (tarjan n nx n).num v ≠ 0 := hall
  unfold strongL
  generalize tarjan n nx n = s at *
  have hp := isort_perm headLt s.cs
  have hap : s.cs.Pairwise (apt headLt) := by
    refine h.dis.imp_of_mem fun {C D} hC hD hx => ?_
    obtain ⟨c, C', rfl⟩ := List.exists_cons_of_ne_nil (h.cs C hC).1
    obtain ⟨d, D', rfl⟩ := List.exists_cons_of_ne_nil (h.cs D hD).1
    have hne : c ≠ d := fun e => hx c (by simp) (by simp [e])
    rcases Int.lt_or_gt_of_ne hne with q | q
    · exact .inl (by unfold headLt; rw [decide_eq_true_eq]; exact q)
    · exact .inr (by unfold headLt; rw [decide_eq_true_eq]; exact q)
  have hpw := isort_pw (lt := headLt) (fun x y z h1 h2 => by unfold headLt at *; simp only [decide_eq_true_eq] at *; omega) hap
  refine sorted_ok h hall hp fun p q hpq hq => ?_
  rw [List.pairwise_iff_getElem] at hpw
  have hl := hp.length_eq
  have := hpw p q (by omega) (by omega) hpq
  unfold headLt at this
  rw [decide_eq_true_eq] at this
  have e1 : keyD (isort headLt s.cs) p = ((isort headLt s.cs)[p]'(by omega)).headD 0 := by
    unfold keyD
    rw [List.getD_eq_getElem?_getD, List.getElem?_eq_getElem (by omega)]
    rfl
  have e2 : keyD (isort headLt s.cs) q = ((isort headLt s.cs)[q]'(by omega)).headD 0 := by
    unfold keyD
    rw [List.getD_eq_getElem?_getD, List.getElem?_eq_getElem (by omega)]
    rfl
  rw [e1, e2]
  unfold headLt at *
  omega
theorem r374 (t u : Nat) (a : List Int) (hl : a.length ≤ 2000000000) : res A PrA 374 [.lst t (ints a), .lst u (ints a)] = some [.bool true] := by
  refine res_of a374 rfl rfl ?_
  simp only [F374]
  simp (disch := omega) only [go_sem]
  refine W.upto a.length (fun i => ⟨[(0, .pv (.lst t (ints a))), (1, .pv (.lst u (ints a))), (5, .pv (.int .i64 i))], ⟨[], [], []⟩⟩) (fun _ => True) rfl trivial fun i hi _ => ?_
  simp (disch := omega) only [go_sem]
  refine Br.ofP (fun c => ?_) (fun c => ?_)
  · have hx := List.getElem?_eq_getElem (l := a) (i := i) (by omega)
    generalize a[i]'(by omega) = x at hx
    simp (disch := omega) only [go_sem, hx]
    exact .of (by omega) rfl trivial
  · simp (disch := omega) only [go_sem]
theorem r355 (t u : Nat) (s : List (List Int)) (hl : s.length ≤ 2000000000) (hs : ∀ l ∈ s, l.length ≤ 2000000000) : res A PrA 355 [.lst t (lls s), .lst u (lls s)] = some [.bool true] := by
  refine res_of a355 rfl rfl ?_
  simp only [F355]
  simp (disch := omega) only [go_sem]
  refine W.upto s.length (fun i => ⟨[(0, .pv (.lst t (lls s))), (1, .pv (.lst u (lls s))), (5, .pv (.int .i64 i))], ⟨[], [], []⟩⟩) (fun _ => True) rfl trivial fun i hi _ => ?_
  simp (disch := omega) only [go_sem]
  refine Br.ofP (fun c => ?_) (fun c => ?_)
  · have hx := List.getElem?_eq_getElem (l := s) (i := i) (by omega)
    have hm := hs _ (List.getElem_mem (l := s) (n := i) (by omega))
    generalize s[i]'(by omega) = x at hx hm
    have h374 := fun t u => r374 t u x hm
    simp (disch := omega) only [go_sem, hx, h374]
    exact .of (by omega) rfl trivial
  · simp (disch := omega) only [go_sem]
end Go.Pv

/-
  Plain laws: strongly connected components as the document finds them.
-/
namespace Go.Pv

theorem leads_iff {n : Nat} {es : List (Int × Int)} (hg : inG n es) (hl : es.length ≤ 100000) {v w : Int} (hv : 0 ≤ v ∧ v < n) (hw : 0 ≤ w ∧ w < n) : leads n es v w = true ↔ Rch (nxt (succs n es)) v w := by
  have hD := distsTo_dist (to := [w]) hg hl (fun x hx => by rw [List.mem_singleton.1 hx]; exact hw)
  unfold leads
  rw [decide_eq_true_eq]
  constructor
  · intro h
    have key : ∀ (k : Nat) (v : Int), 0 ≤ v → v < n → (distsTo n es [w]).getD v.toNat (-1) = k → Rch (nxt (succs n es)) v w := by
      intro k
      induction k with
      | zero =>
        intro v v0 v1 hk
        rw [List.mem_singleton.1 ((hD.zero v v0 v1).1 hk)]
        exact .refl
      | succ k ih =>
        intro v v0 v1 hk
        obtain ⟨u, e1, e2, e3, e4⟩ := hD.back v v0 v1 (by omega)
        exact .head ((nxt_succs hg v0).2 e1) (ih u e2 e3 (by omega))
    exact key _ v hv.1 hv.2 (Int.toNat_of_nonneg h).symm
  · intro h
    have key : ∀ x, Rch (nxt (succs n es)) v x → (0 ≤ x ∧ x < n) ∧ (0 ≤ (distsTo n es [w]).getD x.toNat (-1) → 0 ≤ (distsTo n es [w]).getD v.toNat (-1)) := by
      intro x hx
      induction hx with
      | refl => exact ⟨hv, id⟩
      | step _ he ih =>
        rename_i y x
        obtain ⟨i1, i2⟩ := ih
        have hyx := (nxt_succs hg i1.1).1 he
        have hx := (hg _ hyx).2
        exact ⟨hx, fun h => i2 (hD.step _ _ hyx ⟨i1.1, i1.2, hx.1, hx.2⟩ h).1⟩
    have := (hD.zero w hw.1 hw.2).2 (List.mem_singleton.2 rfl)
    exact (key w h).2 (by omega)
def mutB (n : Nat) (es : List (Int × Int)) (v w : Int) : Bool := leads n es v w && leads n es w v
theorem mutB_iff {n : Nat} {es : List (Int × Int)} (hg : inG n es) (hl : es.length ≤ 100000) {v w : Int} (hv : 0 ≤ v ∧ v < n) (hw : 0 ≤ w ∧ w < n) : mutB n es v w = true ↔ (Rch (nxt (succs n es)) v w ∧ Rch (nxt (succs n es)) w v) := by
  unfold mutB
  rw [Bool.and_eq_true, leads_iff hg hl hv hw, leads_iff hg hl hw hv]
structure RefOk (n : Nat) (nx : Int → List Int) (j : Nat) (L : List (List Int)) : Prop where
  cs : ∀ C ∈ L, C ≠ [] ∧ C.Pairwise (· < ·) ∧ ∀ v ∈ C, (0 ≤ v ∧ v < j) ∧ ∀ z : Int, z ∈ C ↔ ((0 ≤ z ∧ z < j) ∧ Rch nx v z ∧ Rch nx z v)
  cov : ∀ w : Int, 0 ≤ w → w < j → ∃ C ∈ L, w ∈ C
  asc : L.Pairwise fun C D => C.headD 0 < D.headD 0
theorem RefOk.zero (n : Nat) (nx : Int → List Int) : RefOk n nx 0 [] := ⟨fun C hC => (by cases hC), fun w h0 h1 => by omega, List.Pairwise.nil⟩
theorem RefOk.done {n : Nat} {nx : Int → List Int} {L : List (List Int)} (hn : ∀ w x, x ∈ nx w → 0 ≤ x ∧ x < (n : Int)) (h : RefOk n nx n L) : StrongOk n nx L := by
  refine ⟨fun C hC => ?_, h.cov, h.asc⟩
  obtain ⟨c1, c2, c3⟩ := h.cs C hC
  refine ⟨c1, c2, fun v hv => ⟨(c3 v hv).1, fun z => ?_⟩⟩
  rw [(c3 v hv).2 z]
  refine ⟨fun q => q.2, fun q => ⟨?_, q⟩⟩
  rcases q.1 with _ | ⟨_, hz⟩
  · exact (c3 v hv).1
  · exact hn _ _ hz
theorem head_mem {C : List Int} (h : C ≠ []) : C.headD 0 ∈ C := by
  obtain ⟨c, r, rfl⟩ := List.exists_cons_of_ne_nil h
  simp
theorem head_le {C : List Int} (h : C.Pairwise (· < ·)) {z : Int} (hz : z ∈ C) : C.headD 0 ≤ z := by
  cases C with
  | nil => cases hz
  | cons c r =>
    rcases List.mem_cons.1 hz with rfl | hz
    · exact Int.le_refl _
    · have := (List.pairwise_cons.1 h).1 z hz
      show c ≤ z
      omega
theorem RefOk.fresh {n : Nat} {nx : Int → List Int} {j : Nat} {L : List (List Int)} (h : RefOk n nx j L) (hno : ∀ C ∈ L, ¬ (Rch nx (C.headD 0) j ∧ Rch nx j (C.headD 0))) : RefOk n nx (j + 1) (L ++ [[(j : Int)]]) := by
  have hnone : ∀ z : Int, 0 ≤ z → z < j → ¬ (Rch nx z j ∧ Rch nx j z) := fun z z0 z1 ⟨r1, r2⟩ => by
    obtain ⟨C, hC, hz⟩ := h.cov z z0 z1
    obtain ⟨c1, c2, c3⟩ := h.cs C hC
    obtain ⟨_, q1, q2⟩ := ((c3 _ (head_mem c1)).2 z).1 hz
    exact hno C hC ⟨q1.trans r1, r2.trans q2⟩
  refine ⟨fun C hC => ?_, fun w w0 w1 => ?_, ?_⟩
  · rcases List.mem_append.1 hC with hC | hC
    · obtain ⟨c1, c2, c3⟩ := h.cs C hC
      refine ⟨c1, c2, fun v hv => ?_⟩
      obtain ⟨d1, d2⟩ := c3 v hv
      refine ⟨⟨d1.1, by omega⟩, fun z => ?_⟩
      rw [d2 z]
      refine ⟨fun q => ⟨⟨q.1.1, by omega⟩, q.2⟩, fun q => ⟨⟨q.1.1, ?_⟩, q.2⟩⟩
      rcases Int.lt_or_le z j with k | k
      · exact k
      · have : z = j := by omega
        subst this
        exact absurd q.2 (hnone v d1.1 d1.2)
    · rw [List.mem_singleton.1 hC]
      refine ⟨by simp, List.pairwise_singleton _ _, fun v hv => ?_⟩
      rw [List.mem_singleton.1 hv]
      refine ⟨⟨by omega, by omega⟩, fun z => ?_⟩
      rw [List.mem_singleton]
      constructor
      · rintro rfl
        exact ⟨⟨by omega, by omega⟩, .refl, .refl⟩
      · rintro ⟨q1, q2, q3⟩
        rcases Int.lt_or_le z j with k | k
        · exact absurd ⟨q3, q2⟩ (hnone z q1.1 k)
        · omega
  · by_cases e : w = j
    · exact ⟨[(j : Int)], by simp, by simp [e]⟩
    · obtain ⟨C, hC, hw⟩ := h.cov w w0 (by omega)
      exact ⟨C, by simp [hC], hw⟩
  · rw [List.pairwise_append]
    refine ⟨h.asc, List.pairwise_singleton _ _, fun C hC D hD => ?_⟩
    rw [List.mem_singleton.1 hD]
    obtain ⟨c1, c2, c3⟩ := h.cs C hC
    exact (c3 _ (head_mem c1)).1.2
theorem RefOk.join {n : Nat} {nx : Int → List Int} {j : Nat} {L : List (List Int)} (h : RefOk n nx j L) {k : Nat} {C : List Int} (hk : L[k]? = some C) (hm : Rch nx (C.headD 0) j ∧ Rch nx j (C.headD 0)) : RefOk n nx (j + 1) (L.set k (C ++ [(j : Int)])) := by
  obtain ⟨hkl, hCk⟩ := List.getElem?_eq_some_iff.1 hk
  have hC := List.mem_of_getElem? hk
  obtain ⟨c1, c2, c3⟩ := h.cs C hC
  have hh := head_mem c1
  have hhd : (C ++ [(j : Int)]).headD 0 = C.headD 0 := by
    obtain ⟨c, r, rfl⟩ := List.exists_cons_of_ne_nil c1
    rfl
  -- the other lists have nothing to do with j
  have hoth : ∀ (i : Nat) (D : List Int), i ≠ k → L[i]? = some D → ∀ v ∈ D, ¬ (Rch nx v j ∧ Rch nx j v) := fun i D hi hD v hv ⟨r1, r2⟩ => by
    obtain ⟨hil, hDi⟩ := List.getElem?_eq_some_iff.1 hD
    have hDm := List.mem_of_getElem? hD
    obtain ⟨d1, d2, d3⟩ := h.cs D hDm
    have e1 : v ∈ C := ((c3 _ hh).2 v).2 ⟨(d3 v hv).1, hm.1.trans r2, r1.trans hm.2⟩
    have e2 : C.headD 0 ∈ D := ((d3 v hv).2 _).2 ⟨(c3 _ hh).1, r1.trans hm.2, hm.1.trans r2⟩
    have e3 : D.headD 0 ∈ C := by
      obtain ⟨_, q1, q2⟩ := ((d3 v hv).2 _).1 (head_mem d1)
      exact ((c3 v e1).2 _).2 ⟨(d3 _ (head_mem d1)).1, q1, q2⟩
    have l1 := head_le d2 e2
    have l2 := head_le c2 e3
    have hasc := List.pairwise_iff_getElem.1 h.asc
    rcases Nat.lt_or_gt_of_ne hi with q | q
    · have := hasc i k hil hkl q
      rw [hDi, hCk] at this
      omega
    · have := hasc k i hkl hil q
      rw [hDi, hCk] at this
      omega
  refine ⟨fun D hD => ?_, fun w w0 w1 => ?_, ?_⟩
  · obtain ⟨i, hi, hDi⟩ := List.getElem_of_mem hD
    rw [List.length_set] at hi
    by_cases e : i = k
    · subst e
      rw [List.getElem_set_self] at hDi
      subst hDi
      refine ⟨by simp, ?_, fun v hv => ?_⟩
      · rw [List.pairwise_append]
        refine ⟨c2, List.pairwise_singleton _ _, fun x hx y hy => ?_⟩
        rw [List.mem_singleton.1 hy]
        exact (c3 x hx).1.2
      · have hvh : Rch nx v (C.headD 0) ∧ Rch nx (C.headD 0) v := by
          rcases List.mem_append.1 hv with hv | hv
          · obtain ⟨_, q1, q2⟩ := ((c3 _ hh).2 v).1 hv
            exact ⟨q2, q1⟩
          · rw [List.mem_singleton.1 hv]
            exact ⟨hm.2, hm.1⟩
        refine ⟨?_, fun z => ?_⟩
        · rcases List.mem_append.1 hv with hv | hv
          · have := (c3 v hv).1
            omega
          · rw [List.mem_singleton.1 hv]
            omega
        · constructor
          · intro hz
            rcases List.mem_append.1 hz with hz | hz
            · obtain ⟨q0, q1, q2⟩ := ((c3 _ hh).2 z).1 hz
              exact ⟨by omega, hvh.1.trans q1, q2.trans hvh.2⟩
            · rw [List.mem_singleton.1 hz]
              exact ⟨by omega, hvh.1.trans hm.1, hm.2.trans hvh.2⟩
          · rintro ⟨q0, q1, q2⟩
            rcases Int.lt_or_le z j with q | q
            · exact List.mem_append.2 (.inl (((c3 _ hh).2 z).2 ⟨⟨q0.1, q⟩, hvh.2.trans q1, q2.trans hvh.1⟩))
            · have : z = j := by omega
              rw [this]
              simp
    · rw [List.getElem_set_ne (Ne.symm e)] at hDi
      have hDi' : L[i]? = some D := by rw [List.getElem?_eq_getElem hi, hDi]
      obtain ⟨d1, d2, d3⟩ := h.cs D (List.mem_of_getElem? hDi')
      refine ⟨d1, d2, fun v hv => ?_⟩
      obtain ⟨g1, g2⟩ := d3 v hv
      refine ⟨⟨g1.1, by omega⟩, fun z => ?_⟩
      rw [g2 z]
      refine ⟨fun q => ⟨⟨q.1.1, by omega⟩, q.2⟩, fun q => ⟨⟨q.1.1, ?_⟩, q.2⟩⟩
      rcases Int.lt_or_le z j with k2 | k2
      · exact k2
      · have : z = j := by omega
        subst this
        exact absurd q.2 (hoth i D e hDi' v hv)
  · have hset : C ++ [(j : Int)] ∈ L.set k (C ++ [(j : Int)]) := List.mem_of_getElem? (List.getElem?_set_self hkl)
    by_cases e : w = j
    · exact ⟨_, hset, by simp [e]⟩
    · obtain ⟨D, hD, hw⟩ := h.cov w w0 (by omega)
      obtain ⟨i, hi, hDi⟩ := List.getElem_of_mem hD
      by_cases e2 : i = k
      · subst e2
        rw [hCk] at hDi
        subst hDi
        exact ⟨_, hset, by simp [hw]⟩
      · exact ⟨D, List.mem_of_getElem? (i := i) (by rw [List.getElem?_set_ne (Ne.symm e2), List.getElem?_eq_getElem hi, hDi]), hw⟩
  · rw [List.pairwise_iff_getElem]
    intro a b ha hb hab
    rw [List.length_set] at ha hb
    have hasc := List.pairwise_iff_getElem.1 h.asc a b ha hb hab
    have hd : ∀ (i : Nat) (hi : i < L.length), ((L.set k (C ++ [(j : Int)]))[i]'(by rw [List.length_set]; exact hi)).headD 0 = L[i].headD 0 := fun i hi => by
      by_cases e : i = k
      · subst e
        rw [List.getElem_set_self, hhd, hCk]
      · rw [List.getElem_set_ne (Ne.symm e)]
    rw [hd a ha, hd b hb]
    exact hasc
end Go.Pv

/-
  Plain laws: cycles and components.
-/
namespace Go.Pv

def setAll (i : Int) (C : List Int) (o : List Int) : List Int := C.foldl (fun o v => o.set v.toNat i) o
theorem setAll_get (i : Int) : ∀ (C : List Int) (o : List Int), (∀ x ∈ C, 0 ≤ x ∧ x < (o.length : Int)) → (setAll i C o).length = o.length ∧ ∀ w : Int, 0 ≤ w → at0 (setAll i C o) w = if w ∈ C then i else at0 o w
  | [], o, _ => ⟨rfl, fun w _ => by simp [setAll]⟩
  | x :: C, o, h => by
    have hx := h x (by simp)
    obtain ⟨h1, h2⟩ := setAll_get i C (o.set x.toNat i) (fun y hy => by rw [List.length_set]; exact h y (by simp [hy]))
    have e0 : setAll i (x :: C) o = setAll i C (o.set x.toNat i) := rfl
    refine ⟨by rw [e0, h1, List.length_set], fun w hw => ?_⟩
    rw [e0, h2 w hw, at0_set hx.1 hw hx.2]
    by_cases e : w = x
    · simp [e]
    · simp [e]
def compTo (n : Nat) (L : List (List Int)) : Nat → List Int
  | 0 => List.replicate n 0
  | k + 1 => setAll (k : Int) (L.getD k []) (compTo n L k)
theorem StrongOk.dis {n : Nat} {nx : Int → List Int} {L : List (List Int)} (h : StrongOk n nx L) {i j : Nat} {C D : List Int} {x : Int} (hC : L[i]? = some C) (hD : L[j]? = some D) (hx : x ∈ C) (hy : x ∈ D) : i = j := by
  have hmC := List.mem_of_getElem? hC
  have hmD := List.mem_of_getElem? hD
  obtain ⟨c1, c2, c3⟩ := h.cs C hmC
  obtain ⟨d1, d2, d3⟩ := h.cs D hmD
  have hCD : C = D := asc_ext c2 d2 fun z => by rw [(c3 x hx).2 z, (d3 x hy).2 z]
  subst hCD
  have hp := h.asc
  rw [List.pairwise_iff_getElem] at hp
  obtain ⟨hi, hi2⟩ := List.getElem?_eq_some_iff.1 hC
  obtain ⟨hj, hj2⟩ := List.getElem?_eq_some_iff.1 hD
  rcases Nat.lt_trichotomy i j with q | q | q
  · have := hp i j hi hj q
    rw [hi2, hj2] at this
    omega
  · exact q
  · have := hp j i hj hi q
    rw [hi2, hj2] at this
    omega
theorem compTo_ok {n : Nat} {nx : Int → List Int} {L : List (List Int)} (h : StrongOk n nx L) : ∀ k, k ≤ L.length → (compTo n L k).length = n ∧ ∀ (i : Nat) (C : List Int), i < k → L[i]? = some C → ∀ v ∈ C, at0 (compTo n L k) v = (i : Int)
  | 0, _ => ⟨by simp [compTo], fun i C hi => by omega⟩
  | k + 1, hk => by
    obtain ⟨h1, h2⟩ := compTo_ok h k (by omega)
    have hD := List.getElem?_eq_getElem (l := L) (i := k) (by omega)
    generalize L[k]'(by omega) = D at hD
    have hg : L.getD k [] = D := by simp [hD]
    obtain ⟨d1, d2, d3⟩ := h.cs D (List.mem_of_getElem? hD)
    obtain ⟨g1, g2⟩ := setAll_get (k : Int) D (compTo n L k) (fun x hx => by rw [h1]; exact (d3 x hx).1)
    have e0 : compTo n L (k + 1) = setAll (k : Int) D (compTo n L k) := by rw [← hg]; rfl
    rw [e0]
    refine ⟨by rw [g1, h1], fun i C hi hC v hv => ?_⟩
    have hv0 := ((h.cs C (List.mem_of_getElem? hC)).2.2 v hv).1
    rw [g2 v hv0.1]
    by_cases e : v ∈ D
    · rw [if_pos e, h.dis hC hD hv e]
    · rw [if_neg e]
      refine h2 i C ?_ hC v hv
      rcases Nat.lt_or_ge i k with q | q
      · exact q
      · obtain rfl : i = k := by omega
        rw [hC] at hD
        cases hD
        exact absurd hv e
def compL (n : Nat) (L : List (List Int)) : List Int := compTo n L L.length
theorem compL_len {n : Nat} {nx : Int → List Int} {L : List (List Int)} (h : StrongOk n nx L) : (compL n L).length = n := (compTo_ok h L.length (Nat.le_refl _)).1
theorem compL_iff {n : Nat} {nx : Int → List Int} {L : List (List Int)} (h : StrongOk n nx L) {v w : Int} (hv : 0 ≤ v ∧ v < n) (hw : 0 ≤ w ∧ w < n) : at0 (compL n L) v = at0 (compL n L) w ↔ (Rch nx v w ∧ Rch nx w v) := by
  obtain ⟨_, hc⟩ := compTo_ok h L.length (Nat.le_refl _)
  obtain ⟨C, hC, hvC⟩ := h.cov v hv.1 hv.2
  obtain ⟨D, hD, hwD⟩ := h.cov w hw.1 hw.2
  obtain ⟨i, hi, rfl⟩ := List.getElem_of_mem hC
  obtain ⟨j, hj, rfl⟩ := List.getElem_of_mem hD
  have e1 := hc i _ hi (List.getElem?_eq_getElem hi) v hvC
  have e2 := hc j _ hj (List.getElem?_eq_getElem hj) w hwD
  show at0 (compTo n L L.length) v = at0 (compTo n L L.length) w ↔ _
  rw [e1, e2, ← ((h.cs _ hC).2.2 v hvC).2 w]
  constructor
  · intro e
    obtain rfl : i = j := by omega
    exact hwD
  · intro e
    rw [h.dis (List.getElem?_eq_getElem hi) (List.getElem?_eq_getElem hj) e hwD]
theorem comp_edge {n : Nat} {es : List (Int × Int)} {L : List (List Int)} (hg : inG n es) (hl : es.length ≤ 100000) (h : StrongOk n (nxt (succs n es)) L) {e : Int × Int} (he : e ∈ es) : decide (at0 (compL n L) e.1 = at0 (compL n L) e.2) = leads n es e.2 e.1 := by
  have hi := hg e he
  have h1 := leads_iff hg hl hi.2 hi.1
  have h2 := compL_iff h hi.1 hi.2
  have h3 : Rch (nxt (succs n es)) e.1 e.2 := .step .refl ((nxt_succs hg hi.1.1).2 he)
  cases hb : leads n es e.2 e.1 with
  | true => exact decide_eq_true (h2.2 ⟨h3, h1.1 hb⟩)
  | false =>
    refine decide_eq_false fun e => ?_
    rw [h1.2 (h2.1 e).2] at hb
    cases hb
def cycE (n : Nat) (es : List (Int × Int)) : Option (Int × Int) := es.find? fun e => leads n es e.2 e.1
theorem cycE_none {n : Nat} {es : List (Int × Int)} (h : cycE n es = none) : cycB n es = false := by
  unfold cycB
  rw [List.any_eq_false]
  exact fun e he => List.find?_eq_none.1 h e he
theorem cycE_some {n : Nat} {es : List (Int × Int)} {e : Int × Int} (h : cycE n es = some e) : cycB n es = true ∧ e ∈ es ∧ leads n es e.2 e.1 = true := by
  have h1 := List.mem_of_find?_eq_some h
  have h2 := List.find?_some h
  exact ⟨List.any_eq_true.2 ⟨e, h1, h2⟩, h1, h2⟩
def cycP (n : Nat) (es : List (Int × Int)) (e : Int × Int) : List Int := pathG n es (distsTo n es [e.1]) e.2
def isCyc (es : List (Int × Int)) (l : List Int) : Bool := decide (0 < l.length) && (List.range l.length).all fun i => !(l.take i).contains (l.getD i 0) && decide ((l.getD i 0, l.getD ((i + 1) % l.length) 0) ∈ es)
theorem pathTo_at {n : Nat} {es : List (Int × Int)} {d : List Int} {v : Int} {k i : Nat} (hi : i ≤ k) : (pathTo n es d v k).getD i 0 = walkP n es d v i := by
  have : (List.range (k + 1))[i]? = some i := List.getElem?_range (by omega)
  simp [pathTo, this]
theorem cycP_ok {n : Nat} {es : List (Int × Int)} (hg : inG n es) (hl : es.length ≤ 100000) {e : Int × Int} (he : e ∈ es) (hle : leads n es e.2 e.1 = true) : isCyc es (cycP n es e) = true ∧ (cycP n es e).length ≤ n := by
  have hi := hg e he
  have hD := distsTo_dist (to := [e.1]) hg hl (fun x hx => by rw [List.mem_singleton.1 hx]; exact hi.1)
  unfold leads at hle
  rw [decide_eq_true_eq] at hle
  have htop := hD.top hi.2.1 hi.2.2
  have hw := fun k hk => walkP_ok hD hi.2.1 hi.2.2 k hk
  unfold cycP pathG
  generalize distsTo n es [e.1] = d at *
  obtain ⟨D, hDD⟩ := Int.eq_ofNat_of_zero_le hle
  rw [hDD] at hw htop
  rw [hDD, Int.toNat_natCast]
  have hlen : (pathTo n es d e.2 D).length = D + 1 := pathTo_len n es d e.2 D
  refine ⟨?_, by omega⟩
  unfold isCyc
  rw [hlen, Bool.and_eq_true, List.all_eq_true]
  refine ⟨by simp, fun i hir => ?_⟩
  have hir := List.mem_range.1 hir
  have hwi := hw i (by omega)
  rw [pathTo_at (by omega), Bool.and_eq_true]
  constructor
  · rw [Bool.not_eq_true', List.contains_eq_any_beq, List.any_eq_false]
    intro y hy hb
    obtain ⟨j, hj, hjy⟩ := List.getElem_of_mem hy
    rw [List.length_take, hlen] at hj
    have e1 : (pathTo n es d e.2 D).getD j 0 = y := by
      rw [List.getElem_take] at hjy
      rw [← hjy]
      simp [show j < (pathTo n es d e.2 D).length by omega]
    rw [pathTo_at (by omega)] at e1
    have hwj := hw j (by omega)
    rw [e1, ← eq_of_beq hb] at hwj
    omega
  · rw [decide_eq_true_eq]
    rcases Nat.lt_or_ge i D with q | q
    · rw [Nat.mod_eq_of_lt (by omega), pathTo_at (by omega)]
      exact (pstep_ok hD hwi.1.1 hwi.1.2 (by omega)).2.2
    · obtain rfl : i = D := by omega
      rw [Nat.mod_self, pathTo_at (by omega)]
      have hz := (hD.zero _ hwi.1.1 hwi.1.2).1 (by omega)
      rw [List.mem_singleton.1 hz]
      exact he
theorem top_exists {n : Nat} {es : List (Int × Int)} (hg : inG n es) (hl : es.length ≤ 100000) (h : cycB n es = false) : ∀ k, k ≤ n → ∃ L, topF n es k = some L
  | 0, _ => ⟨[], rfl⟩
  | k + 1, hk => by
    obtain ⟨L, hL⟩ := top_exists hg hl h k (by omega)
    exact ⟨_, topF_next hL (topF_any hg hl h hL (by omega))⟩
theorem StrongOk.heads {n : Nat} {nx : Int → List Int} {L : List (List Int)} (h : StrongOk n nx L) : (L.map fun C => C.headD 0).Nodup ∧ ∀ x ∈ L.map fun C => C.headD 0, 0 ≤ x ∧ x < (n : Int) := by
  refine ⟨?_, fun x hx => ?_⟩
  · rw [List.nodup_iff_pairwise_ne, List.pairwise_map]
    exact h.asc.imp fun h e => by omega
  · obtain ⟨C, hC, rfl⟩ := List.mem_map.1 hx
    obtain ⟨g1, _, g3⟩ := h.cs C hC
    exact (g3 _ (head_mem g1)).1
theorem rch_first {nx : Int → List Int} {v w : Int} (h : Rch nx v w) (hne : v ≠ w) : ∃ x ∈ nx v, Rch nx x w := by
  induction h with
  | refl => exact absurd rfl hne
  | step h1 h2 ih =>
    rename_i y x
    rcases Classical.em (v = y) with rfl | q
    · exact ⟨x, h2, .refl⟩
    · obtain ⟨z, z1, z2⟩ := ih q
      exact ⟨z, z1, .step z2 h2⟩
theorem cyc_comps {n : Nat} {es : List (Int × Int)} {L : List (List Int)} (hg : inG n es) (hl : es.length ≤ 100000) (h : StrongOk n (nxt (succs n es)) L) : cycB n es = (decide (L.length < n) || es.any fun e => decide (e.1 = e.2)) := by
  obtain ⟨hd1, hd2⟩ := h.heads
  have hle := nodup_bound hd1 hd2
  rw [List.length_map] at hle
  cases hb : cycB n es with
  | true =>
    obtain ⟨e, he, hlead⟩ := List.any_eq_true.1 hb
    have hi := hg e he
    have h1 := (leads_iff hg hl hi.2 hi.1).1 hlead
    have h3 : Rch (nxt (succs n es)) e.1 e.2 := .step .refl ((nxt_succs hg hi.1.1).2 he)
    by_cases hq : e.1 = e.2
    · rw [List.any_eq_true.2 ⟨e, he, by simp [hq]⟩, Bool.or_true]
    · suffices L.length < n by simp [this]
      obtain ⟨C, hC, hmem⟩ := h.cov e.1 hi.1.1 hi.1.2
      obtain ⟨c1, c2, c3⟩ := h.cs C hC
      have hm2 : e.2 ∈ C := ((c3 _ hmem).2 e.2).2 ⟨h3, h1⟩
      -- one of both is no head
      have key : ∀ x ∈ C, x ≠ C.headD 0 → L.length < n := fun x hx hxh => by
        have hno : x ∉ L.map fun C => C.headD 0 := fun hx2 => by
          obtain ⟨D, hD, hDx⟩ := List.mem_map.1 hx2
          obtain ⟨i, hi, rfl⟩ := List.getElem_of_mem hC
          obtain ⟨j, hj, rfl⟩ := List.getElem_of_mem hD
          have := h.dis (List.getElem?_eq_getElem hi) (List.getElem?_eq_getElem hj) hx (by rw [← hDx]; exact head_mem (h.cs _ hD).1)
          subst this
          exact hxh hDx.symm
        have := nodup_bound (n := n) (List.nodup_cons.2 ⟨hno, hd1⟩) (fun y hy => by
          rcases List.mem_cons.1 hy with rfl | hy
          · exact (c3 _ hx).1
          · exact hd2 y hy)
        rw [List.length_cons, List.length_map] at this
        omega
      by_cases hh : e.1 = C.headD 0
      · exact key e.2 hm2 (fun q => hq (hh.trans q.symm))
      · exact key e.1 hmem hh
  | false =>
    symm
    rw [Bool.or_eq_false_iff]
    have hno := List.any_eq_false.1 hb
    constructor
    · refine decide_eq_false fun hlt => ?_
      -- some vertex is no head
      have : ∃ v : Int, (0 ≤ v ∧ v < n) ∧ v ∉ L.map fun C => C.headD 0 := by
        refine Classical.byContradiction fun hc => ?_
        have hall : ∀ v : Int, 0 ≤ v ∧ v < n → v ∈ L.map fun C => C.headD 0 := fun v hv => Classical.byContradiction fun q => hc ⟨v, hv, q⟩
        have hr : ((List.range n).map Int.ofNat).Nodup := by
          rw [List.nodup_iff_pairwise_ne, List.pairwise_map]
          exact List.pairwise_lt_range.imp fun h e => by
            have := Int.ofNat.inj e
            omega
        have hsub : ((List.range n).map Int.ofNat).length ≤ (L.map fun C => C.headD 0).length := by
          refine List.Nodup.length_le_of_subset hr fun x hx => ?_
          obtain ⟨k, hk, rfl⟩ := List.mem_map.1 hx
          have := List.mem_range.1 hk
          exact hall _ ⟨Int.natCast_nonneg k, by show (k : Int) < n; omega⟩
        simp at hsub
        omega
      obtain ⟨v, hv, hvn⟩ := this
      obtain ⟨C, hC, hvC⟩ := h.cov v hv.1 hv.2
      obtain ⟨c1, c2, c3⟩ := h.cs C hC
      have hne : v ≠ C.headD 0 := fun q => hvn (q ▸ List.mem_map.2 ⟨C, hC, rfl⟩)
      obtain ⟨r1, r2⟩ := ((c3 v hvC).2 _).1 (head_mem c1)
      obtain ⟨x, hx, hxr⟩ := rch_first r1 hne
      have he := (nxt_succs hg hv.1).1 hx
      have hi := hg _ he
      exact hno _ he ((leads_iff hg hl hi.2 hi.1).2 (hxr.trans r2))
    · rw [List.any_eq_false]
      intro e he hq
      have hq := of_decide_eq_true hq
      have hi := hg e he
      refine hno e he ((leads_iff hg hl hi.2 hi.1).2 ?_)
      rw [hq]
      exact .refl
theorem reachG_mem {n : Nat} {es : List (Int × Int)} {fr : List Int} (hg : inG n es) (hl : es.length ≤ 100000) (hf : ∀ x ∈ fr, 0 ≤ x ∧ x < (n : Int)) {w : Int} : w ∈ reachG n es fr ↔ (0 ≤ w ∧ w < n) ∧ ∃ f ∈ fr, Rch (nxt (succs n es)) f w := by
  have hnx := nxt_in (succs_ok hg hl)
  have hD := levels_dist (nx := nxt (succs n es)) (n := n) (fr := fr) hnx hf
  have hlen := levels_len (nx := nxt (succs n es)) hnx hf
  have hm : w ∈ reachG n es fr ↔ 0 ≤ w ∧ w < n ∧ 0 ≤ (levels (nxt (succs n es)) n fr).getD w.toNat (-1) := by
    show w ∈ thereTo _ (levels (nxt (succs n es)) n fr).length ↔ _
    rw [thereTo_mem, hlen]
  rw [hm, and_assoc]
  refine and_congr_right fun w0 => and_congr_right fun w1 => ?_
  constructor
  · intro h
    have key : ∀ (k : Nat) (v : Int), 0 ≤ v → v < n → (levels (nxt (succs n es)) n fr).getD v.toNat (-1) = k → ∃ f ∈ fr, Rch (nxt (succs n es)) f v := by
      intro k
      induction k with
      | zero =>
        intro v v0 v1 hk
        exact ⟨v, (hD.zero v v0 v1).1 hk, .refl⟩
      | succ k ih =>
        intro v v0 v1 hk
        obtain ⟨u, e1, e2, e3, e4⟩ := hD.back v v0 v1 (by omega)
        obtain ⟨f, f1, f2⟩ := ih u e2 e3 (by omega)
        exact ⟨f, f1, .step f2 e1⟩
    exact key _ w w0 w1 (Int.toNat_of_nonneg h).symm
  · rintro ⟨f, f1, f2⟩
    have key : ∀ x, Rch (nxt (succs n es)) f x → (0 ≤ x ∧ x < n) ∧ 0 ≤ (levels (nxt (succs n es)) n fr).getD x.toNat (-1) := by
      intro x hx
      induction hx with
      | refl =>
        have := hf f f1
        exact ⟨this, by have := (hD.zero f this.1 this.2).2 f1; omega⟩
      | step _ he ih =>
        rename_i y x
        obtain ⟨i1, i2⟩ := ih
        have hx := hnx _ _ he
        exact ⟨hx, (hD.step _ _ he ⟨hx.1, hx.2, i1.1, i1.2⟩ i2).1⟩
    exact (key w f2).2
theorem reachG_asc (n : Nat) (es : List (Int × Int)) (fr : List Int) : (reachG n es fr).Pairwise (· < ·) := by
  unfold reachG there thereTo
  rw [List.pairwise_map]
  exact (List.pairwise_lt_range.filter _).imp fun h => Int.ofNat_lt.2 h
theorem reachG_comp {n : Nat} {es : List (Int × Int)} {L : List (List Int)} (hg : inG n es) (hl : es.length ≤ 100000) (h : StrongOk n (nxt (succs n es)) L) {C : List Int} (hC : C ∈ L) {v : Int} (hv : v ∈ C) : reachG n es [v] = reachG n es C := by
  obtain ⟨c1, c2, c3⟩ := h.cs C hC
  refine asc_ext (reachG_asc n es _) (reachG_asc n es _) fun w => ?_
  rw [reachG_mem hg hl (fun x hx => by rw [List.mem_singleton.1 hx]; exact (c3 v hv).1), reachG_mem hg hl (fun x hx => (c3 x hx).1)]
  refine and_congr_right fun _ => ?_
  constructor
  · rintro ⟨f, f1, f2⟩
    rw [List.mem_singleton.1 f1] at f2
    exact ⟨v, hv, f2⟩
  · rintro ⟨f, f1, f2⟩
    exact ⟨v, List.mem_singleton.2 rfl, (((c3 v hv).2 f).1 f1).1.trans f2⟩
end Go.Pv

/-
  Chapter 05: paths.
-/
namespace Go.Pv
theorem r117b (g t u w : Nat) (cs ds : List PV) (l : List Int) (p : Int → Bool) (hl : l.length ≤ 2 ^ 63 - 1) (hi : inls A g = false) (hp : PrA g = none) (ht : takes A g = false) (hf : ∀ x ∈ l, res A PrA g [.int .i64 x, .ro u cs, .ro w ds] = some [.bool (p x)]) : res A PrA 117 [.lst t (ints l), .func g [.ro u cs, .ro w ds]] = some [.int .i64 (idxP p l)] := by
  refine res_of a117 rfl rfl ?_
  simp only [F117]
  simp (disch := omega) only [go_sem]
  refine W.find l p (fun k => ⟨[(0, .pv (.lst t (ints l))), (1, .pv (.func g [.ro u cs, .ro w ds])), (7, .pv (.int .i64 l.length)), (8, .pv (.int .i64 k))], ⟨[], [], []⟩⟩) rfl (fun k x hx hk hfd => ?_) (fun hn => ?_)
  · have hfx := hf x (List.mem_of_getElem? hx)
    simp (disch := omega) only [go_sem]
    refine Br.ofP (fun h => ?_) (fun h => (h (by omega)).elim)
    simp (disch := omega) only [go_sem, hx, CW_none hi hp ht, hfx]
    refine Br.of (fun h2 => ?_) (fun h2 => ?_) <;> simp (disch := omega) only [go_sem]
    · rw [(hfd h2).idxP]
    · exact findK.of h2 rfl
  · simp (disch := omega) only [go_sem]
    rw [hn.idxP]
theorem r368 (u w t : Nat) (x v : Int) (d : List Int) (hx : 0 ≤ x ∧ x < d.length) (hv : 0 ≤ v ∧ v < d.length) (hb : 0 ≤ d.getD v.toNat (-1) ∧ d.getD v.toNat (-1) ≤ 2000000000) : res A PrA 368 [.int .i64 x, .ro u [.lst t (ints d)], .ro w [.int .i64 v]] = some [.bool (nearer d v x)] := by
  refine res_of a368 rfl rfl ?_
  simp only [F368]
  have h1 : d[x.toNat]? = some (d.getD x.toNat (-1)) := by
    have : x.toNat < d.length := by omega
    simp [this]
  have h2 : d[v.toNat]? = some (d.getD v.toNat (-1)) := by
    have : v.toNat < d.length := by omega
    simp [this]
  unfold nearer
  generalize d.getD x.toNat (-1) = dx at *
  generalize d.getD v.toNat (-1) = dv at *
  simp (disch := omega) only [go_sem, idxR_int, h1, h2]
set_option maxHeartbeats 4000000 in
theorem r351 (t : Nat) (n : Int) (es : List (Int × Int)) (a b : Int) (hn : n ≤ 12 ∨ 2000 < n) (hl : es.length ≤ 2 ^ 63 - 1) : res A PrA 351 [.int .i64 n, .lst t (prs es), .int .i64 a, .int .i64 b] = some (if gErrL n es [a, b] = 0 then (if (distsTo n.toNat es [b]).getD a.toNat (-1) < 0 then [.lst 0 [], .int .i64 4] else [.lst 0 (ints (pathG n.toNat es (distsTo n.toNat es [b]) a)), .int .i64 0]) else [.lst 0 [], .int .i64 (gErrL n es [a, b])]) := by
  refine res_of a351 rfl rfl ?_
  simp only [F351]
  have h112 := r112 t 0 n es [a, b] hl (by show 2 ≤ 2 ^ 63 - 1; decide)
  have i2 : ints [a, b] = [[PV.int .i64 a], [PV.int .i64 b]] := rfl
  have i1 : ints [b] = [[PV.int .i64 b]] := rfl
  rw [i2] at h112
  simp (disch := omega) only [go_sem, h112]
  refine Br.ofP (fun h1 => ?_) (fun h1 => ?_) <;> simp (disch := omega) only [go_sem, h1]
  rw [if_pos h1]
  obtain ⟨g1, g2⟩ := gErrL_zero h1
  obtain ⟨f1, f2, f3, f4⟩ := gErr_zero g1
  obtain ⟨m, rfl⟩ := Int.eq_ofNat_of_zero_le f1
  rw [Int.toNat_natCast] at f4 ⊢
  have f5 := inG_swap f4
  have ha := g2 a (by simp)
  have hb := g2 b (by simp)
  have hsl : (es.map swapP).length = es.length := List.length_map _
  have h115' := r115 0 m (es.map swapP) (by omega) (by omega) f5
  have h115 := r115 t m es (by omega) (by omega) f4
  have hok' := succs_ok f5 (by omega)
  have hok := succs_ok f4 (by omega)
  have h114 := r114 0 0 m (succs m (es.map swapP)) [b] (by omega) (succs_len _ _) hok' (fun x hx => by rw [List.mem_singleton.1 hx]; exact hb) (by show 1 ≤ 2000000000; decide)
  rw [i1] at h114
  have hD := distsTo_dist (to := [b]) f4 (by omega) (fun x hx => by rw [List.mem_singleton.1 hx]; exact hb)
  have e1 : levels (nxt (succs m (es.map swapP))) m [b] = distsTo m es [b] := rfl
  rw [e1] at h114
  generalize distsTo m es [b] = d at *
  have hdl := hD.len
  have had : d[a.toNat]? = some (d.getD a.toNat (-1)) := by
    have : a.toNat < d.length := by omega
    simp [this]
  have htop := hD.top ha.1 ha.2
  have hw := fun k => walkP_ok hD ha.1 ha.2 k
  have hs0 : pathG m es d a = pathTo m es d a (d.getD a.toNat (-1)).toNat := rfl
  generalize hda : d.getD a.toNat (-1) = da at *
  simp (disch := omega) only [go_sem, h115', h114, idxR_int, had]
  refine Br.ofP (fun h2 => ?_) (fun h2 => ?_) <;> simp (disch := omega) only [go_sem, h2, h115]
  rw [if_neg h2]
  obtain ⟨D, rfl⟩ := Int.eq_ofNat_of_zero_le (by omega : 0 ≤ da)
  rw [Int.toNat_natCast] at hs0
  have hp0 : pathTo m es d a 0 = [a] := rfl
  refine W.upto D (fun k => ⟨[(3, .pv (.int .i64 b)), (11, .ptr 11 0), (12, .pv (.lst 0 (lls (succs m es)))), (13, glV 0 1 (ints (pathTo m es d a k))), (14, .ptr 14 0)], ⟨[(11, [.pv (.lst 0 (ints d))]), (14, [.pv (.int .i64 (walkP m es d a k))])], glA 1 1 (ints (pathTo m es d a k)), []⟩⟩) (fun _ => True) rfl trivial fun k hk _ => ?_
  obtain ⟨hw1, hw2⟩ := hw k (by omega)
  have hz := hD.zero _ hw1.1 hw1.2
  rw [hw2, List.mem_singleton] at hz
  have hpl := pathTo_len m es d a k
  have hps := pathTo_succ m es d a k
  have hxw : walkP m es d a (k + 1) = pstep m es d (walkP m es d a k) := rfl
  generalize walkP m es d a k = x at *
  simp (disch := omega) only [go_sem]
  refine Br.ofP (fun c => ?_) (fun c => ?_) <;> simp (disch := omega) only [go_sem, c]
  · have hkD : k = D := by have := hz.2 c; omega
    subst hkD
    rw [hs0]
  · have hkD : k < D := by
      have := fun e => c (hz.1 e)
      omega
    have hp := pstep_ok hD hw1.1 hw1.2 (by omega)
    obtain ⟨q1, q2⟩ := pstep_idx hD f4 hw1.1 hw1.2 (by omega)
    have hsv : (succs m es)[x.toNat]? = some (nxt (succs m es) x) := by
      have : x.toNat < (succs m es).length := by rw [succs_len]; omega
      simp [nxt, this]
    have hln := (hok _ (List.mem_of_getElem? hsv)).1
    have h117 := fun u1 u2 t => r117b 368 t u1 u2 [.lst 0 (ints d)] [.int .i64 x] (nxt (succs m es) x) (nearer d x) (by omega) (by kernel_rfl) (by kernel_rfl) (by kernel_rfl) (fun y hy => r368 u1 u2 0 y x d (by have := nxt_in hok _ _ hy; omega) (by omega) (by omega))
    generalize nxt (succs m es) x = l at *
    generalize idxP (nearer d x) l = j at *
    generalize pstep m es d x = y at *
    simp (disch := omega) only [go_sem, idxR_int, hsv, h117, q2]
    generalize pathTo m es d a k = q at *
    have hil : (ints q).length = k + 1 := by rw [ints_length, hpl]
    have hns : glV 0 1 (ints (q ++ [y])) = .own 0 k 0 (k + 2) ∧ glA 1 1 (ints (q ++ [y])) = [⟨k, 1, .inl (ints (q ++ [y]))⟩] := by
      rw [glV_own (m := k) (by rw [ints_length, List.length_append, hpl]; simp; omega), glA_own (m := k) (by rw [ints_length, List.length_append, hpl]; simp; omega)]
      exact ⟨by rw [show 1 + k + 1 = k + 2 by omega], rfl⟩
    cases k with
    | zero =>
      rw [glV_lit (by omega), glA_lit (by omega)]
      simp (disch := omega) only [go_sem]
      refine .of (by omega) ?_ trivial
      rw [← hps, hxw, hns.1, hns.2, hpl]
    | succ k =>
      rw [glV_own (m := k) (by omega), glA_own (m := k) (by omega)]
      simp (disch := omega) only [go_sem]
      refine .of (by omega) ?_ trivial
      rw [← hps, hxw, hns.1, hns.2]
      rw [show 1 + k + 1 + 1 = k + 1 + 2 by omega]
theorem r369 (t : Nat) (es : List (Int × Int)) (v w : Int) (hl : es.length ≤ 2000000000) : res A PrA 369 [.lst t (prs es), .int .i64 v, .int .i64 w] = some [.bool (decide ((v, w) ∈ es))] := by
  refine res_of a369 rfl rfl ?_
  simp only [F369]
  simp (disch := omega) only [go_sem]
  refine W.find es (fun e => decide (e.1 = v) && decide (e.2 = w)) (fun k => ⟨[(0, .pv (.lst t (prs es))), (1, .pv (.int .i64 v)), (2, .pv (.int .i64 w)), (7, .pv (.int .i64 k))], ⟨[], [], []⟩⟩) rfl (fun k x hx hk hfd => ?_) (fun hn => ?_)
  · simp (disch := omega) only [go_sem]
    refine Br.ofP (fun h => ?_) (fun h => (h (by omega)).elim)
    simp (disch := omega) only [go_sem, hx]
    by_cases c1 : x.1 = v
    · have d1 : decide (x.1 = v) = true := by simp [c1]
      by_cases c2 : x.2 = w
      · have d2 : decide (x.2 = w) = true := by simp [c2]
        simp (disch := omega) only [go_sem, d1, d2, hx]
        have : (v, w) ∈ es := by rw [← c1, ← c2]; exact List.mem_of_getElem? hx
        simp [this]
      · have d2 : decide (x.2 = w) = false := by simp [c2]
        simp (disch := omega) only [go_sem, d1, d2, hx]
        exact findK.of (by rw [d1, d2]; rfl) rfl
    · have d1 : decide (x.1 = v) = false := by simp [c1]
      simp (disch := omega) only [go_sem, d1]
      exact findK.of (by rw [d1]; rfl) rfl
  · simp (disch := omega) only [go_sem]
    have : (v, w) ∉ es := fun hm => by
      have := List.any_eq_false.1 hn.any (v, w) hm
      simp at this
    simp [this]
end Go.Pv

/-
  Chapter 05: the law of Path.
-/
namespace Go.Pv
end Go.Pv

/-
  Chapter 05: strongly connected components, as the document finds them.
-/
namespace Go.Pv
structure GrowR (ars : List Arr) (id ver : Nat) (xs : List V) (L : List (List Int)) : Prop where
  out : ars[id]? = some ⟨ver, 1, .inr (rowsV xs)⟩
  len : xs.length = L.length
  at_ : ∀ (j : Nat) (l : List Int), L[j]? = some l → l ≠ [] ∧ ∃ a v, xs[j]? = some (.own a v 0 l.length) ∧ ars[a]? = some ⟨v, 1, .inl (ints l)⟩
  dis : ∀ (i j a v w m k : Nat), xs[i]? = some (.own a v 0 m) → xs[j]? = some (.own a w 0 k) → i = j
def GrowV (ars : List Arr) (x : V) (L : List (List Int)) : Prop := (x = .tl [] ∧ L = []) ∨ ∃ id ver xs, x = .own id ver 0 L.length ∧ GrowR ars id ver xs L
theorem GrowR.kind {ars : List Arr} {id ver : Nat} {xs : List V} {L : List (List Int)} (h : GrowR ars id ver xs L) {b v : Nat} {q : List (List PV)} (hb : ars[b]? = some ⟨v, 1, .inl q⟩) : b ≠ id := fun e => by
  rw [e, h.out] at hb
  injection hb with hb
  injection hb with _ _ hb
  cases hb
theorem GrowR.add {ars ars' : List Arr} {id ver ver' a : Nat} {xs : List V} {L : List (List Int)} {l : List Int} (h : GrowR ars id ver xs L) (hl : l ≠ []) (ho : ars'[id]? = some ⟨ver', 1, .inr (rowsV (xs ++ [.own a 0 0 l.length]))⟩) (ha : ars'[a]? = some ⟨0, 1, .inl (ints l)⟩)
    (hk : ∀ (b v : Nat) (q : List (List PV)), ars[b]? = some ⟨v, 1, .inl q⟩ → ars'[b]? = some ⟨v, 1, .inl q⟩) (hn : ars.length ≤ a) : GrowR ars' id ver' (xs ++ [.own a 0 0 l.length]) (L ++ [l]) := by
  have hold : ∀ (i b v m : Nat), xs[i]? = some (.own b v 0 m) → b < ars.length := fun i b v m hi => by
    have hil := (List.getElem?_eq_some_iff.1 hi).1
    have hL := List.getElem?_eq_getElem (l := L) (i := i) (by rw [← h.len]; exact hil)
    obtain ⟨_, b', v', g1, g2⟩ := h.at_ i _ hL
    rw [hi] at g1
    cases g1
    exact (List.getElem?_eq_some_iff.1 g2).1
  have hlast : ∀ (i b v m : Nat), (xs ++ [V.own a 0 0 l.length])[i]? = some (.own b v 0 m) → (i < xs.length ∧ xs[i]? = some (.own b v 0 m)) ∨ (i = xs.length ∧ b = a) := fun i b v m hi => by
    rcases Nat.lt_or_ge i xs.length with q | q
    · rw [List.getElem?_append_left q] at hi
      exact .inl ⟨q, hi⟩
    · have hlt := (List.getElem?_eq_some_iff.1 hi).1
      have e : i = xs.length := by simp at hlt; omega
      subst e
      simp at hi
      exact .inr ⟨rfl, hi.1.symm⟩
  refine ⟨ho, by simp [h.len], fun i q hq => ?_, fun i j b v w m k hi hj => ?_⟩
  · rcases Nat.lt_or_ge i L.length with r | r
    · rw [List.getElem?_append_left r] at hq
      obtain ⟨g0, b, v, g1, g2⟩ := h.at_ i q hq
      exact ⟨g0, b, v, by rw [List.getElem?_append_left (by rw [h.len]; exact r)]; exact g1, hk _ _ _ g2⟩
    · have hlt := (List.getElem?_eq_some_iff.1 hq).1
      have e : i = L.length := by simp at hlt; omega
      subst e
      simp at hq
      subst hq
      exact ⟨hl, a, 0, by rw [← h.len]; simp, ha⟩
  · rcases hlast i b v m hi with ⟨a1, a2⟩ | ⟨a1, a2⟩ <;> rcases hlast j b w k hj with ⟨b1, b2⟩ | ⟨b1, b2⟩
    · exact h.dis i j b v w m k a2 b2
    · have := hold i b v m a2
      omega
    · have := hold j b w k b2
      omega
    · omega
theorem GrowR.upd {ars : List Arr} {id ver i a av : Nat} {xs : List V} {L : List (List Int)} {C : List Int} {y : Int} (h : GrowR ars id ver xs L) (hi : L[i]? = some C) (hx : xs[i]? = some (.own a av 0 C.length)) (ha : ars[a]? = some ⟨av, 1, .inl (ints C)⟩) :
    GrowR ((ars.set a ⟨av + 1, 1, .inl (ints (C ++ [y]))⟩).set id ⟨ver, 1, .inr (rowsV (xs.set i (.own a (av + 1) 0 (C.length + 1))))⟩) id ver (xs.set i (.own a (av + 1) 0 (C.length + 1))) (L.set i (C ++ [y])) := by
  have hil := (List.getElem?_eq_some_iff.1 hi).1
  have hxl := (List.getElem?_eq_some_iff.1 hx).1
  have hal := (List.getElem?_eq_some_iff.1 ha).1
  have hidl := (List.getElem?_eq_some_iff.1 h.out).1
  have hne := h.kind ha
  refine ⟨by rw [List.getElem?_set_self (by simpa using hidl)], by simp [h.len], fun k q hq => ?_, fun k j b v w m p hk hj => ?_⟩
  · by_cases e : k = i
    · subst e
      rw [List.getElem?_set_self hil] at hq
      cases hq
      exact ⟨by simp, a, av + 1, by rw [List.getElem?_set_self hxl]; simp, by rw [List.getElem?_set_ne (Ne.symm hne), List.getElem?_set_self hal]⟩
    · rw [List.getElem?_set_ne (Ne.symm e)] at hq ⊢
      obtain ⟨g0, b, v, g1, g2⟩ := h.at_ k q hq
      have hb : b ≠ a := fun e2 => by
        subst e2
        exact e (h.dis k i b v av _ _ g1 hx)
      exact ⟨g0, b, v, g1, by rw [List.getElem?_set_ne (Ne.symm (h.kind g2)), List.getElem?_set_ne (Ne.symm hb)]; exact g2⟩
  · have back : ∀ (k b v m : Nat), (xs.set i (V.own a (av + 1) 0 (C.length + 1)))[k]? = some (.own b v 0 m) → ∃ v' m', xs[k]? = some (.own b v' 0 m') := fun k b v m hk => by
      by_cases e : k = i
      · subst e
        rw [List.getElem?_set_self hxl] at hk
        cases hk
        exact ⟨_, _, hx⟩
      · rw [List.getElem?_set_ne (Ne.symm e)] at hk
        exact ⟨_, _, hk⟩
    obtain ⟨v1, m1, k1⟩ := back k b v m hk
    obtain ⟨v2, m2, k2⟩ := back j b w p hj
    exact h.dis k j b v1 v2 m1 m2 k1 k2
theorem get_two {l : List Arr} {x y z : Arr} : (l ++ [x] ++ [y] ++ [z])[l.length + 1 + 1]? = some z := by
  have e : l.length + 1 + 1 = (l ++ [x] ++ [y]).length := by simp
  rw [e, List.getElem?_append_right (Nat.le_refl _), Nat.sub_self]
  rfl
def lastK (p : Nat → Bool) (k : Nat) : Int := (List.range k).foldl (fun i k => if p k = true then (k : Int) else i) (-1)
theorem lastK_ok (p : Nat → Bool) : ∀ k, (lastK p k = -1 ∧ ∀ i, i < k → p i = false) ∨ ∃ i, i < k ∧ lastK p k = i ∧ p i = true
  | 0 => .inl ⟨rfl, fun i hi => by omega⟩
  | k + 1 => by
    have e : lastK p (k + 1) = if p k = true then (k : Int) else lastK p k := by
      unfold lastK
      rw [List.range_succ, List.foldl_append]
      rfl
    rw [e]
    cases hp : p k with
    | true => exact .inr ⟨k, by omega, rfl, hp⟩
    | false =>
      rcases lastK_ok p k with ⟨h1, h2⟩ | ⟨i, h1, h2, h3⟩
      · refine .inl ⟨h1, fun i hi => ?_⟩
        rcases Nat.lt_or_ge i k with q | q
        · exact h2 i q
        · rw [show i = k by omega]
          exact hp
      · exact .inr ⟨i, by omega, h2, h3⟩
theorem lastK_succ (p : Nat → Bool) (k : Nat) : lastK p (k + 1) = if p k = true then (k : Int) else lastK p k := by
  unfold lastK
  rw [List.range_succ, List.foldl_append]
  rfl
set_option maxHeartbeats 8000000 in
theorem r354 (t : Nat) (n : Int) (es : List (Int × Int)) (hn : n ≤ 12 ∨ 2000 < n) (hl : es.length ≤ 2 ^ 63 - 1) (L : List (List Int)) (hL : gErr n es = 0 → StrongOk n.toNat (nxt (succs n.toNat es)) L) : res A PrA 354 [.int .i64 n, .lst t (prs es)] = some (if gErr n es = 0 then [.lst 0 (lls L), .int .i64 0] else [.lst 0 [], .int .i64 (gErr n es)]) := by
  refine res_of a354 rfl rfl ?_
  simp only [F354]
  have h348 := r348 t n es hl
  simp (disch := omega) only [go_sem, h348]
  refine Br.ofP (fun h1 => ?_) (fun h1 => ?_) <;> simp (disch := omega) only [go_sem, h1]
  rw [if_pos h1]
  have hL := hL h1
  have h1' := h1
  obtain ⟨f1, f2, f3, f4⟩ := gErr_zero h1
  obtain ⟨m, rfl⟩ := Int.eq_ofNat_of_zero_le f1
  rw [Int.toNat_natCast] at f4 hL
  have hnx : ∀ w x, x ∈ nxt (succs m es) w → 0 ≤ x ∧ x < (m : Int) := nxt_in (succs_ok f4 (by omega))
  refine W.loop (α := Nat × List Arr × V × List (List Int)) (fun q => ⟨[(0, .pv (.int .i64 m)), (1, .pv (.lst t (prs es))), (7, q.2.2.1), (8, .pv (.int .i64 q.1))], ⟨[], q.2.1, []⟩⟩)
    (fun q => q.1 ≤ m ∧ GrowV q.2.1 q.2.2.1 q.2.2.2 ∧ RefOk m (nxt (succs m es)) q.1 q.2.2.2) (fun q => m - q.1) (0, [], .tl [], []) rfl ⟨Nat.zero_le _, .inl ⟨rfl, rfl⟩, RefOk.zero _ _⟩ fun q hq => ?_
  obtain ⟨j, ars, x, M⟩ := q
  obtain ⟨hj, hG, hM⟩ := hq
  dsimp only at hj hG hM
  have hMl : M.length ≤ j := by
    have hd : (M.map fun C => C.headD 0).Nodup := by
      rw [List.nodup_iff_pairwise_ne, List.pairwise_map]
      exact hM.asc.imp fun h e => by omega
    have := nodup_bound (n := j) hd (fun x hx => by
      obtain ⟨C, hC, rfl⟩ := List.mem_map.1 hx
      obtain ⟨g1, _, g3⟩ := hM.cs C hC
      exact (g3 _ (head_mem g1)).1)
    rwa [List.length_map] at this
  simp (disch := omega) only [go_sem]
  refine Br.ofP (fun c => ?_) (fun c => ?_)
  · rcases hG with ⟨rfl, rfl⟩ | ⟨id, ver, xs, rfl, hG⟩
    · simp (disch := omega) only [go_sem]
      refine W.once ?_
      have d0 : decide ((0 : Int) < ((0 : Nat) : Int)) = false := rfl
      have hlit : ∀ bx, ownArr ⟨bx, ars ++ [⟨0, 1, .inr [[V.tl []]]⟩], []⟩ ars.length 0 = some ⟨0, 1, .inr [[V.tl []]]⟩ := fun bx => by simp [ownArr]
      have e0 : (((1 : Nat) : Int) - 1).toNat = 0 := rfl
      have hA : (ars ++ [(⟨0, 1, .inr [[V.tl []]]⟩ : Arr)] ++ [⟨0, 1, .inr (rowsV [V.tl []])⟩])[ars.length + 1]? = some ⟨0, 1, .inr (rowsV [V.tl []])⟩ := by simp
      have hB : ∀ a, (ars ++ [(⟨0, 1, .inr [[V.tl []]]⟩ : Arr)] ++ [⟨0, 1, .inr (rowsV [V.tl []])⟩] ++ [a])[ars.length + 1]? = some ⟨0, 1, .inr (rowsV [V.tl []])⟩ := fun a => by simp
      have hst : ∀ a b c d, storeRow (ars.length + 1) 0 0 [V.own a b c d] ⟨0, 1, .inr (rowsV [V.tl []])⟩ = some { ar := some (ars.length + 1, ⟨0, 1, .inr (rowsV [V.own a b c d])⟩) } := fun a b c d => rowsV_store_own (xs := [V.tl []]) (by decide)
      simp (disch := omega) only [go_sem, d0, app_row0 (hlit _), e0, hA, hB, hst]
      have hfr := hM.fresh (fun C hC => (by cases hC))
      refine ⟨(j + 1, _, .own (ars.length + 1) 0 0 1, [[(j : Int)]]), ⟨by show j + 1 ≤ m; omega, .inr ⟨ars.length + 1, 0, [.own (ars.length + 1 + 1) 0 0 1], rfl, ⟨?_, rfl, fun i l hl => ?_, fun i k a v w m k' hi hk => ?_⟩⟩, hfr⟩, by show m - (j + 1) < m - j; omega, rfl⟩
      · rw [List.getElem?_set_self (by simp)]
      · cases i with
        | zero =>
          cases hl
          exact ⟨by simp, ars.length + 1 + 1, 0, rfl, by rw [List.getElem?_set_ne (by omega)]; exact get_two⟩
        | succ i => simp at hl
      · have h1 := (List.getElem?_eq_some_iff.1 hi).1
        have h2 := (List.getElem?_eq_some_iff.1 hk).1
        simp at h1 h2
        omega
    · have hout := hG.out
      simp (disch := omega) only [go_sem]
      refine W.upto M.length (fun k => ⟨[(0, .pv (.int .i64 m)), (1, .pv (.lst t (prs es))), (7, .own id ver 0 M.length), (8, .pv (.int .i64 j)), (9, .pv (.int .i64 (lastK (fun k => mutB m es ((M.getD k []).headD 0) j) k))), (10, .pv (.int .i64 k))], ⟨[], ars, []⟩⟩) (fun _ => True) rfl trivial fun k hk _ => ?_
      simp (disch := omega) only [go_sem]
      refine Br.ofP (fun c2 => ?_) (fun c2 => ?_)
      · have hMk := List.getElem?_eq_getElem (l := M) (i := k) (by omega)
        generalize M[k]'(by omega) = C at hMk
        obtain ⟨hC0, a, av, hx, ha⟩ := hG.at_ k C hMk
        have hCM := List.mem_of_getElem? hMk
        have hls := lastK_succ (fun k => mutB m es ((M.getD k []).headD 0) j) k
        have hMg : (M.getD k []) = C := by simp [hMk]
        rw [hMg] at hls
        obtain ⟨c0, rC, rfl⟩ := List.exists_cons_of_ne_nil hC0
        have hc0 := ((hM.cs _ hCM).2.2 c0 (by simp)).1
        have h373a := r373 t m es c0 j (by omega) hl h1' (by omega) (by omega)
        have h373b := r373 t m es j c0 (by omega) hl h1' (by omega) (by omega)
        have hin : inRange (some 0) (rC.length + 1) = some 0 := by simp [inRange]
        have hin2 : inRange (some 0) (c0 :: rC).length = some 0 := by simp [inRange]
        have hg0 : (c0 :: rC)[0]? = some c0 := rfl
        have hmb : mutB m es ((c0 :: rC).headD 0) j = (leads m es c0 j && leads m es j c0) := rfl
        rw [hmb] at hls
        simp (disch := omega) only [go_sem, hout, hx, ha, hin, hg0, h373a]
        cases e1 : leads m es c0 j with
        | false =>
          rw [e1] at hls
          simp (disch := omega) only [go_sem]
          rw [Bool.false_and, if_neg Bool.false_ne_true] at hls
          refine .of (by omega) ?_ trivial
          rw [hls]
          rfl
        | true =>
          rw [e1] at hls
          simp (disch := omega) only [go_sem, hout, hx, ha, hin, hg0, h373b]
          cases e2 : leads m es j c0 with
          | false =>
            rw [e2] at hls
            simp (disch := omega) only [go_sem]
            rw [Bool.and_false, if_neg Bool.false_ne_true] at hls
            refine .of (by omega) ?_ trivial
            rw [hls]
            rfl
          | true =>
            rw [e2] at hls
            simp (disch := omega) only [go_sem]
            rw [Bool.and_true, if_pos rfl] at hls
            refine .of (by omega) ?_ trivial
            rw [hls]
            rfl
      · obtain rfl : k = M.length := by omega
        have hMh : ∀ i C, M[i]? = some C → mutB m es ((M.getD i []).headD 0) j = true → Rch (nxt (succs m es)) (C.headD 0) j ∧ Rch (nxt (succs m es)) j (C.headD 0) := fun i C hC hm => by
          have hg : M.getD i [] = C := by simp [hC]
          rw [hg] at hm
          obtain ⟨g1, _, g3⟩ := hM.cs C (List.mem_of_getElem? hC)
          have := (g3 _ (head_mem g1)).1
          exact (mutB_iff f4 (by omega) (by omega) (by omega)).1 hm
        simp (disch := omega) only [go_sem]
        rcases lastK_ok (fun k => mutB m es ((M.getD k []).headD 0) j) M.length with ⟨q1, q2⟩ | ⟨i, q1, q2, q3⟩
        · rw [q1]
          have dn : decide ((-1 : Int) < 0) = true := rfl
          have hlit : ∀ bx, ownArr ⟨bx, ars ++ [⟨0, 1, .inr [[V.tl []]]⟩], []⟩ ars.length 0 = some ⟨0, 1, .inr [[V.tl []]]⟩ := fun bx => by simp [ownArr]
          have hidl := (List.getElem?_eq_some_iff.1 hout).1
          have hown : ∀ bx, ownArr ⟨bx, ars ++ [⟨0, 1, .inr [[V.tl []]]⟩], []⟩ id ver = some ⟨ver, 1, .inr (rowsV xs)⟩ := fun bx => by
            simp only [ownArr, List.getElem?_append_left hidl, hout]
            simp
          have hGl := hG.len
          have hs1 : ∀ a, ((ars ++ [(⟨0, 1, .inr [[V.tl []]]⟩ : Arr)]).set id a)[id]? = some a := fun a => List.getElem?_set_self (by simp; omega)
          have hs2 : ∀ a b, ((ars ++ [(⟨0, 1, .inr [[V.tl []]]⟩ : Arr)]).set id a ++ [b])[id]? = some a := fun a b => by rw [List.getElem?_append_left (by simp; omega)]; exact hs1 a
          have e1 : (((M.length + 1 : Nat) : Int) - 1) = (M.length : Int) := by omega
          have e2 : (((M.length + 1 : Nat) : Int) - 1).toNat = M.length := by omega
          have hxs : (xs ++ [V.tl []])[M.length]? = some (V.tl []) := by rw [← hGl]; simp
          have hst : ∀ a b c d, storeRow id M.length 0 [V.own a b c d] ⟨ver + 1, 1, .inr (rowsV (xs ++ [V.tl []]))⟩ = some { ar := some (id, ⟨ver + 1, 1, .inr (rowsV ((xs ++ [V.tl []]).set M.length (V.own a b c d)))⟩) } := fun a b c d => rowsV_store_own (by simp; omega)
          simp (disch := omega) only [go_sem, app_row1 (hlit _) (hown _) hG.len (by omega) (by omega), hs1, hs2, e1, hxs, hst]
          have hfr := hM.fresh (fun C hC hm => by
            obtain ⟨i, hi, hCi⟩ := List.getElem_of_mem hC
            have hno := q2 i hi
            have hg : M.getD i [] = C := by simp [hi, hCi]
            rw [hg] at hno
            obtain ⟨g1, _, g3⟩ := hM.cs C hC
            have := (g3 _ (head_mem g1)).1
            rw [(mutB_iff f4 (by omega) (by omega) (by omega)).2 hm] at hno
            cases hno)
          have hxe : (xs ++ [V.tl []]).set M.length (V.own ((ars ++ [(⟨0, 1, .inr [[V.tl []]]⟩ : Arr)]).set id ⟨ver + 1, 1, .inr (rowsV (xs ++ [V.tl []]))⟩).length 0 0 1) = xs ++ [V.own ((ars ++ [(⟨0, 1, .inr [[V.tl []]]⟩ : Arr)]).set id ⟨ver + 1, 1, .inr (rowsV (xs ++ [V.tl []]))⟩).length 0 0 [(j : Int)].length] := by
            rw [← hGl, List.set_append_right _ _ (Nat.le_refl _)]
            simp
          refine ⟨(j + 1, _, .own id (ver + 1) 0 (M.length + 1), M ++ [[(j : Int)]]), ⟨by show j + 1 ≤ m; omega, .inr ⟨id, ver + 1, _, by simp, hG.add (a := ((ars ++ [(⟨0, 1, .inr [[V.tl []]]⟩ : Arr)]).set id ⟨ver + 1, 1, .inr (rowsV (xs ++ [V.tl []]))⟩).length) (l := [(j : Int)]) (by simp) ?_ ?_ (fun b v q hb => ?_) ?_⟩, hfr⟩, by show m - (j + 1) < m - j; omega, rfl⟩
          · rw [List.getElem?_set_self (by simp; omega), hxe]
          · rw [List.getElem?_set_ne (by simp; omega)]
            simp
          · have hbl := (List.getElem?_eq_some_iff.1 hb).1
            rw [List.getElem?_set_ne (Ne.symm (hG.kind hb)), List.getElem?_append_left (by simp; omega), List.getElem?_set_ne (Ne.symm (hG.kind hb)), List.getElem?_append_left hbl]
            exact hb
          · simp
        · obtain ⟨C, hC⟩ : ∃ C, M[i]? = some C := ⟨M[i], List.getElem?_eq_getElem q1⟩
          obtain ⟨hC0, a, av, hx, ha⟩ := hG.at_ i C hC
          have hjoin := hM.join hC (hMh i C hC q3)
          rw [q2]
          have dn : decide ((i : Int) < 0) = false := by simp
          have hal := (List.getElem?_eq_some_iff.1 ha).1
          have hGl := hG.len
          have hne : a ≠ id := fun e => by
            rw [e, hout] at ha
            injection ha with ha
            injection ha with _ _ ha
            cases ha
          have hs2 : ∀ b, (ars.set a b)[id]? = some ⟨ver, 1, .inr (rowsV xs)⟩ := fun b => by rw [List.getElem?_set_ne hne]; exact hout
          have hst : ∀ a b c d, storeRow id i 0 [V.own a b c d] ⟨ver, 1, .inr (rowsV xs)⟩ = some { ar := some (id, ⟨ver, 1, .inr (rowsV (xs.set i (V.own a b c d)))⟩) } := fun a b c d => rowsV_store_own (by omega)
          have hCl : C.length ≤ 2000000000 := by
            obtain ⟨g1, g2, g3⟩ := hM.cs C (List.mem_of_getElem? hC)
            have := nodup_bound (n := m) (l := C) (g2.imp fun h e => by omega) (fun x hx => by have := (g3 x hx).1; omega)
            omega
          simp (disch := omega) only [go_sem, dn, hout, hx, ha, hs2, hst]
          exact ⟨(j + 1, _, .own id ver 0 M.length, M.set i (C ++ [(j : Int)])), ⟨by show j + 1 ≤ m; omega, .inr ⟨id, ver, _, by simp, hG.upd hC hx ha⟩, hjoin⟩, by show m - (j + 1) < m - j; omega, rfl⟩
  · obtain rfl : j = m := by omega
    simp (disch := omega) only [go_sem]
    rw [hL.uniq (hM.done hnx)]
    rcases hG with ⟨rfl, rfl⟩ | ⟨id, ver, xs, rfl, hG⟩
    · rfl
    · have hcut : cutRows 0 M.length (.inr (rowsV xs)) = .inr (rowsV xs) := by
        simp [cutRows, rowsV, List.take_of_length_le (Nat.le_of_eq (show (xs.map fun x => [x]).length = M.length by simp; exact hG.len))]
      have hkeep := keepH (h := ⟨[], ars, []⟩) 2 hG.len fun i l hl => by
        obtain ⟨_, a, v, hy, hg⟩ := hG.at_ i l hl
        exact ⟨_, hy, keepOwn (by simp [ownArr, hg])⟩
      have hout := hG.out
      simp (disch := omega) only [go_sem, hout, Option.bind_some, hcut, keepRows, hkeep]
end Go.Pv

/-
  Chapter 05: the law of Strong.
-/
namespace Go.Pv
theorem StrongOk.lens {n : Nat} {nx : Int → List Int} {L : List (List Int)} (h : StrongOk n nx L) : L.length ≤ n ∧ ∀ C ∈ L, C.length ≤ n := by
  constructor
  · have hd : (L.map fun C => C.headD 0).Nodup := by
      rw [List.nodup_iff_pairwise_ne, List.pairwise_map]
      exact h.asc.imp fun h e => by omega
    have := nodup_bound (n := n) hd (fun x hx => by
      obtain ⟨C, hC, rfl⟩ := List.mem_map.1 hx
      obtain ⟨g1, _, g3⟩ := h.cs C hC
      exact (g3 _ (head_mem g1)).1)
    rwa [List.length_map] at this
  · intro C hC
    obtain ⟨g1, g2, g3⟩ := h.cs C hC
    exact nodup_bound (g2.imp fun h e => by omega) (fun x hx => (g3 x hx).1)
set_option maxHeartbeats 4000000 in
theorem r340 (r345 : res A PrA 345 [] = some [.bool true]) (n : Int) (es : List (Int × Int)) (hl : es.length ≤ 2 ^ 63 - 1) : res A PrA 340 [.int .i64 n, .lst 0 (prs es)] = some [.bool true] := by
  refine res_of a340 rfl rfl ?_
  simp only [F340]
  have h346 := fun t => r346 t n es hl
  simp (disch := omega) only [go_sem, r345, h346]
  cases hf : fewG n es.length with
  | false => simp (disch := omega) only [go_sem, r345]
  | true =>
    obtain ⟨hl2, hn⟩ := few_true hf
    have hS : gErr n es = 0 → StrongOk n.toNat (nxt (succs n.toNat es)) (strongL n.toNat (nxt (succs n.toNat es))) := fun h1 => by
      obtain ⟨f1, f2, f3, f4⟩ := gErr_zero h1
      exact strongL_ok (nxt_in (succs_ok f4 (by omega)))
    have h353 := fun t => r353 t n es hn hl _ hS
    have h354 := fun t => r354 t n es hn hl _ hS
    simp (disch := omega) only [go_sem]
    by_cases h1 : gErr n es = 0
    · rw [if_pos h1] at h353 h354
      obtain ⟨f1, f2, _⟩ := gErr_zero h1
      obtain ⟨q1, q2⟩ := (hS h1).lens
      generalize strongL n.toNat (nxt (succs n.toNat es)) = L at *
      have h355 := fun t u => r355 t u L (by omega) (fun C hC => by have := q2 C hC; omega)
      rcases clonePrs (es := es) (by omega) with ⟨rfl, hc⟩ | ⟨h0, hc⟩
      · simp only [prs_nil] at h353 h354
        simp (disch := omega) only [go_sem, hc, h353, h354, h355]
      · simp (disch := omega) only [go_sem, hc, h353, h354, h355, List.take_length]
    · rw [if_neg h1] at h353 h354
      have h355 : ∀ t u, res A PrA 355 [.lst t [], .lst u []] = some [.bool true] := fun t u => r355 t u [] (by decide) (fun C hC => by cases hC)
      generalize gErr n es = e at *
      rcases clonePrs (es := es) (by omega) with ⟨rfl, hc⟩ | ⟨h0, hc⟩
      · simp only [prs_nil] at h353 h354
        simp (disch := omega) only [go_sem, hc, h353, h354, h355]
      · simp (disch := omega) only [go_sem, hc, h353, h354, h355, List.take_length]
end Go.Pv

/-
  Parts of slices that are plain rows.
-/
namespace Go.Pv
theorem rowsFit_rows {k : Nat} {rows : List (List PV)} (h : ∀ r ∈ rows, r.length = k) : rowsFit k (.inl rows) = true := by
  simp only [rowsFit, List.all_eq_true, beq_iff_eq]
  exact h
@[go_sem] theorem rowsFit_ints (l : List Int) : rowsFit 1 (.inl (ints l)) = true := rowsFit_rows fun r hr => by
  obtain ⟨x, _, rfl⟩ := List.mem_map.1 hr
  rfl
@[go_sem] theorem sl_lst_to (g : Opd → V) (h : Heap) (k t : Nat) (rows : List (List PV)) (hi : Opd) :
    sliceV g h k (.pv (.lst t rows)) none (some hi) none = if rowsFit k (.inl rows) = true then (intOf (g hi)).bind fun i => chkR i rows.length (.pv (.lst t (rows.take i.toNat)), {}) else none := by
  cases hf : rowsFit k (.inl rows) with
  | false => simp [sliceV, hf]
  | true =>
    cases hj : intOf (g hi) with
    | none => simp [sliceV, hf, bounds, bound, hj]
    | some i => by_cases h0 : 0 ≤ i ∧ i ≤ rows.length <;> simp [sliceV, hf, bounds, bound, hj, h0, chkR]
@[go_sem] theorem sl_lst_from (g : Opd → V) (h : Heap) (k t : Nat) (rows : List (List PV)) (lo : Opd) :
    sliceV g h k (.pv (.lst t rows)) (some lo) none none = if rowsFit k (.inl rows) = true then (intOf (g lo)).bind fun i => chkR i rows.length (.pv (.lst t (rows.drop i.toNat)), {}) else none := by
  cases hf : rowsFit k (.inl rows) with
  | false => simp [sliceV, hf]
  | true =>
    cases hj : intOf (g lo) with
    | none => simp [sliceV, hf, bounds, bound, hj]
    | some i => by_cases h0 : 0 ≤ i ∧ i ≤ rows.length <;> simp [sliceV, hf, bounds, bound, hj, h0, chkR]
@[go_sem] theorem sl_tl_from (g : Opd → V) (h : Heap) (k : Nat) (rows : List (List PV)) (lo : Opd) :
    sliceV g h k (.tl rows) (some lo) none none = if rowsFit k (.inl rows) = true then (intOf (g lo)).bind fun i => chkR i rows.length (.tl (rows.drop i.toNat), {}) else none := by
  cases hf : rowsFit k (.inl rows) with
  | false => simp [sliceV, hf]
  | true =>
    cases hj : intOf (g lo) with
    | none => simp [sliceV, hf, bounds, bound, hj]
    | some i => by_cases h0 : 0 ≤ i ∧ i ≤ rows.length <;> simp [sliceV, hf, bounds, bound, hj, h0, chkR]
end Go.Pv

