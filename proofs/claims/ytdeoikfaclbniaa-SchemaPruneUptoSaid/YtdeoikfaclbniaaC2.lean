/-
  What the functions of the law give.
-/
import Derived.Test.YtdeoikfaclbniaaC1
set_option linter.unusedSimpArgs false
set_option linter.unusedVariables false
/-
  Chapter 07: values, are they one?
-/
namespace Go.Pv

theorem Val.c_inj (x y : Val) (h : x.c = y.c) : x = y := by
  obtain ⟨a1, a2, a3, a4, a5, a6, a7, a8⟩ := x
  obtain ⟨b1, b2, b3, b4, b5, b6, b7, b8⟩ := y
  simp only [Val.c, List.cons.injEq, PV.int.injEq, PV.bool.injEq, PV.str.injEq, PV.lst.injEq, true_and, and_true] at h
  obtain ⟨h1, h2, h3, h4, h5, h6, h7, h8⟩ := h
  have h8 : a8 = b8 := eqv_iff.1 (by rw [← eqv_map Raw.c_inj, h8, eqv_same])
  rw [h1, h2, h3, h4, h5, h6, h7, h8]
theorem eqv_val (x y : Val) : eqv x.c y.c = eqv x y := by
  rw [Bool.eq_iff_iff, eqv_iff, eqv_iff]
  exact ⟨x.c_inj y, fun h => by rw [h]⟩

set_option maxHeartbeats 4000000 in
/-- same. -/
theorem r320 : ∀ (n k : Nat) (cs ds : List PV), VOk n cs → VOk k ds → res A PrA 320 [.agg cs, .agg ds] = some [.bool (eqv cs ds)]
  | 0, _, _, _, h, _ => h.elim
  | _ + 1, 0, _, _, _, h => h.elim
  | n + 1, k + 1, cs, ds, h, h' => by
    obtain ⟨v, rfl, ⟨h1, h2, h3, h4⟩, ⟨h5, h6, h7⟩, h8, h9, h10⟩ := h
    obtain ⟨w, rfl, ⟨g1, g2, g3, g4⟩, ⟨g5, g6, g7⟩, g8, g9, g10⟩ := h'
    have ih := r320 n k
    unfold lenOk at h5 h6 h7 g5 g6 g7
    have hk := fun t u => r334 t u v.keys w.keys (by omega) (by omega) (fun r hr => (h8 r hr).val) (fun r hr => (g8 r hr).val) (fun r hr q hq => ih r q (h8 r hr) (g8 q hq))
    have hi := fun t u => r334 t u v.items w.items (by omega) (by omega) (fun r hr => (h9 r hr).val) (fun r hr => (g9 r hr).val) (fun r hr q hq => ih r q (h9 r hr) (g9 q hq))
    have hr := fun t u => r333 t u v.rest w.rest (by omega) (by omega)
    rw [eqv_val]
    obtain ⟨a1, a2, a3, a4, a5, a6, a7, a8⟩ := v
    obtain ⟨b1, b2, b3, b4, b5, b6, b7, b8⟩ := w
    unfold Val.c
    dsimp only at *
    clear ih
    refine res_of a320 rfl rfl ?_
    simp only [F320]
    simp (disch := omega) only [go_sem]
    have no : ∀ {p q : Val}, p ≠ q → (some [PV.bool false] : Option (List PV)) = some [PV.bool (eqv p q)] := fun h => by rw [eqv_ne h]
    refine Br.ofP (fun e => ?_) (fun e => ?_) <;> simp (disch := omega) only [go_sem, e]
    rotate_left
    · exact no (fun q => e (by cases q; rfl))
    subst e
    refine Br.ofP (fun e => ?_) (fun e => ?_) <;> simp (disch := omega) only [go_sem, e]
    rotate_left
    · exact no (fun q => e (by cases q; rfl))
    subst e
    refine Br.ofP (fun e => ?_) (fun e => ?_) <;> simp (disch := omega) only [go_sem, e]
    rotate_left
    · exact no (fun q => e (by cases q; rfl))
    subst e
    refine Br.ofP (fun e => ?_) (fun e => ?_) <;> simp (disch := omega) only [go_sem, e]
    rotate_left
    · exact no (fun q => e (by cases q; rfl))
    subst e
    refine Br.ofP (fun e => ?_) (fun e => ?_) <;> simp (disch := omega) only [go_sem, e]
    rotate_left
    · exact no (fun q => e (by cases q; rfl))
    subst e
    simp (disch := omega) only [go_sem, hr]
    refine Br.of (fun e => ?_) (fun e => ?_) <;> simp (disch := omega) only [go_sem, e]
    rotate_left
    · exact no (fun q => eqv_no.1 e (by cases q; rfl))
    have e := eqv_iff.1 e
    subst e
    simp (disch := omega) only [go_sem, hk]
    refine Br.of (fun e => ?_) (fun e => ?_) <;> simp (disch := omega) only [go_sem, e]
    rotate_left
    · exact no (fun q => eqv_no.1 e (by cases q; rfl))
    have e := eqv_iff.1 e
    subst e
    simp (disch := omega) only [go_sem, hi]
    congr 3
    rw [Bool.eq_iff_iff, eqv_iff, eqv_iff]
    exact ⟨fun e => by rw [e], fun q => by cases q; rfl⟩
theorem r320v {cs ds : List PV} (h : ∃ n, VOk n cs) (h' : ∃ n, VOk n ds) : res A PrA 320 [.agg cs, .agg ds] = some [.bool (eqv cs ds)] := by
  obtain ⟨n, h⟩ := h
  obtain ⟨k, h'⟩ := h'
  exact r320 n k cs ds h h'
/-- SameValues, given SameValue. -/
theorem r336 (t u : Nat) (l m : List (List PV)) (hl : l.length ≤ 2 ^ 63 - 1) (_hm : m.length ≤ 2 ^ 63 - 1) (vl : ∀ r ∈ l, ∃ v : Val, r = v.c) (vm : ∀ r ∈ m, ∃ v : Val, r = v.c)
    (hr : ∀ r ∈ l, ∀ q ∈ m, res A PrA 330 [.agg r, .agg q] = some [.bool (eqv r q)]) : res A PrA 336 [.lst t l, .lst u m] = some [.bool (eqv l m)] := by
  refine res_of a336 rfl rfl ?_
  simp only [F336]
  simp (disch := omega) only [go_sem]
  refine Br.ofP (fun h => ?_) (fun h => ?_) <;> simp (disch := omega) only [go_sem]
  · refine W.find (l.zip m) (fun q => !eqv q.1 q.2) (fun k => ⟨[(0, .pv (.lst t l)), (1, .pv (.lst u m)), (5, .pv (.int .i64 k))], ⟨[], [], []⟩⟩) rfl (fun k q hq hk hfd => ?_) (fun hn => ?_)
    · obtain ⟨h1, h2⟩ := zip_get hq
      rw [zip_len (by omega)] at hk
      have hc := hr q.1 (List.mem_of_getElem? h1) q.2 (List.mem_of_getElem? h2)
      obtain ⟨v, hv⟩ := vl q.1 (List.mem_of_getElem? h1)
      obtain ⟨w, hw⟩ := vm q.2 (List.mem_of_getElem? h2)
      generalize eqv q.1 q.2 = e at hc hfd ⊢
      rw [hv, hw] at hc
      rw [hv] at h1
      rw [hw] at h2
      unfold Val.c at hc h1 h2
      simp (disch := omega) only [go_sem]
      refine Br.ofP (fun c => ?_) (fun c => (c (by omega)).elim)
      simp (disch := omega) only [go_sem, h1, h2, hc]
      refine Br.of (fun g => ?_) (fun g => ?_) <;> simp (disch := omega) only [go_sem]
      · exact findK.of (by rw [g]; rfl) rfl
      · rw [(hfd (by rw [g]; rfl)).ne]
    · have hz : (l.zip m).length = l.length := zip_len (by omega)
      rw [hz]
      simp (disch := omega) only [go_sem]
      rw [hn.eq (by omega), eqv_same]
  · rw [eqv_ne (fun e => h (by rw [e]))]
set_option maxHeartbeats 4000000 in
/-- SameValue. -/
theorem r330 : ∀ (n k : Nat) (cs ds : List PV), VOk n cs → VOk k ds → res A PrA 330 [.agg cs, .agg ds] = some [.bool (eqv cs ds)]
  | 0, _, _, _, h, _ => h.elim
  | _ + 1, 0, _, _, _, h => h.elim
  | n + 1, k + 1, cs, ds, h, h' => by
    obtain ⟨v, rfl, ⟨h1, h2, h3, h4⟩, ⟨h5, h6, h7⟩, h8, h9, h10⟩ := h
    obtain ⟨w, rfl, ⟨g1, g2, g3, g4⟩, ⟨g5, g6, g7⟩, g8, g9, g10⟩ := h'
    have ih := r330 n k
    unfold lenOk at h5 h6 h7 g5 g6 g7
    have hk := fun t u => r336 t u v.keys w.keys (by omega) (by omega) (fun r hr => (h8 r hr).val) (fun r hr => (g8 r hr).val) (fun r hr q hq => ih r q (h8 r hr) (g8 q hq))
    have hi := fun t u => r336 t u v.items w.items (by omega) (by omega) (fun r hr => (h9 r hr).val) (fun r hr => (g9 r hr).val) (fun r hr q hq => ih r q (h9 r hr) (g9 q hq))
    rw [eqv_val]
    obtain ⟨a1, a2, a3, a4, a5, a6, a7, a8⟩ := v
    obtain ⟨b1, b2, b3, b4, b5, b6, b7, b8⟩ := w
    unfold Val.c
    dsimp only at *
    clear ih
    refine res_of a330 rfl rfl ?_
    simp only [F330]
    simp (disch := omega) only [go_sem]
    have no : ∀ {p q : Val}, p ≠ q → (some [PV.bool false] : Option (List PV)) = some [PV.bool (eqv p q)] := fun h => by rw [eqv_ne h]
    refine Br.ofP (fun e => ?_) (fun e => ?_) <;> simp (disch := omega) only [go_sem, e]
    rotate_left
    · exact no (fun q => e (by cases q; rfl))
    subst e
    refine Br.ofP (fun e => ?_) (fun e => ?_) <;> simp (disch := omega) only [go_sem, e]
    rotate_left
    · exact no (fun q => e (by cases q; rfl))
    subst e
    refine Br.ofP (fun e => ?_) (fun e => ?_) <;> simp (disch := omega) only [go_sem, e]
    rotate_left
    · exact no (fun q => e (by cases q; rfl))
    subst e
    refine Br.ofP (fun e => ?_) (fun e => ?_) <;> simp (disch := omega) only [go_sem, e]
    rotate_left
    · exact no (fun q => e (by cases q; rfl))
    subst e
    refine Br.ofP (fun e => ?_) (fun e => ?_) <;> simp (disch := omega) only [go_sem, e]
    rotate_left
    · exact no (fun q => e (by cases q; rfl))
    subst e
    refine Br.ofP (fun e => ?_) (fun e => ?_) <;> simp (disch := omega) only [go_sem]
    rotate_left
    · exact no (fun q => e (by cases q; rfl))
    refine W.find (a8.zip b8) (fun q => !eqv q.1 q.2) (fun k => ⟨[(2, .ptr 2 0), (3, .ptr 3 0), (5, .pv (.int .i64 k))], ⟨[(2, [.pv (.int .i64 a1), .pv (.bool a2), .pv (.int .i64 a3), .pv (.str a4), .pv (.int .i64 a5), .pv (.lst 0 a6), .pv (.lst 0 a7), .pv (.lst 0 (a8.map Raw.c))]), (3, [.pv (.int .i64 a1), .pv (.bool a2), .pv (.int .i64 a3), .pv (.str a4), .pv (.int .i64 a5), .pv (.lst 0 b6), .pv (.lst 0 b7), .pv (.lst 0 (b8.map Raw.c))])], [], []⟩⟩) rfl (fun k q hq hk' hfd => ?_) (fun hn => ?_)
    · obtain ⟨q1, q2⟩ := zip_get hq
      rw [zip_len (by omega)] at hk'
      simp (disch := omega) only [go_sem]
      refine Br.ofP (fun c => ?_) (fun c => (c (by omega)).elim)
      simp (disch := omega) only [go_sem, q1, q2, Raw.c]
      rw [← eqv_raw]
      refine Br.of (fun g => ?_) (fun g => ?_) <;> simp (disch := omega) only [go_sem]
      · exact findK.of (by rw [g]; rfl) rfl
      · exact no (fun q => eqv_no.1 (hfd (by rw [g]; rfl)).ne (by cases q; rfl))
    · have hz : (a8.zip b8).length = a8.length := zip_len (by omega)
      rw [hz]
      have e := hn.eq (by omega)
      subst e
      simp (disch := omega) only [go_sem, hk]
      refine Br.of (fun e => ?_) (fun e => ?_) <;> simp (disch := omega) only [go_sem, e]
      rotate_left
      · exact no (fun q => eqv_no.1 e (by cases q; rfl))
      have e := eqv_iff.1 e
      subst e
      simp (disch := omega) only [go_sem, hi]
      congr 3
      rw [Bool.eq_iff_iff, eqv_iff, eqv_iff]
      exact ⟨fun e => by rw [e], fun q => by cases q; rfl⟩
theorem r330v {cs ds : List PV} (h : ∃ n, VOk n cs) (h' : ∃ n, VOk n ds) : res A PrA 330 [.agg cs, .agg ds] = some [.bool (eqv cs ds)] := by
  obtain ⟨n, h⟩ := h
  obtain ⟨k, h'⟩ := h'
  exact r330 n k cs ds h h'
end Go.Pv

/-
  Chapter 07: members, types and schemas, are they one?
-/
namespace Go.Pv

theorem Mem.c_inj (x y : Mem) (h : x.c = y.c) : x = y := by
  obtain ⟨a1, a2, a3, a4, a5, v⟩ := x
  obtain ⟨b1, b2, b3, b4, b5, w⟩ := y
  simp only [Mem.c, List.cons.injEq, PV.int.injEq, PV.bool.injEq, PV.str.injEq, true_and] at h
  obtain ⟨h1, h2, h3, h4, h5, h6⟩ := h
  have h6 : v = w := Val.c_inj v w (by simp only [Val.c, List.cons.injEq, PV.int.injEq, PV.bool.injEq, PV.str.injEq, true_and]; exact h6)
  rw [h1, h2, h3, h4, h5, h6]
set_option maxHeartbeats 4000000 in
theorem r319 (x y : Mem) (hx : x.ok) (hy : y.ok) : res A PrA 319 [.agg x.c, .agg y.c] = some [.bool (eqv x y)] := by
  have hv := r320v hx.2.2.2 hy.2.2.2
  rw [eqv_val] at hv
  obtain ⟨a1, a2, a3, a4, a5, v⟩ := x
  obtain ⟨b1, b2, b3, b4, b5, w⟩ := y
  unfold Mem.c
  unfold Val.c at hv
  dsimp only at *
  have no : ∀ {p q : Mem}, p ≠ q → (some [PV.bool false] : Option (List PV)) = some [PV.bool (eqv p q)] := fun h => by rw [eqv_ne h]
  refine res_of a319 rfl rfl ?_
  simp only [F319]
  simp (disch := omega) only [go_sem]
  refine Br.ofP (fun e => ?_) (fun e => ?_) <;> simp (disch := omega) only [go_sem, e]
  rotate_left
  · exact no (fun q => e (by cases q; rfl))
  subst e
  refine Br.ofP (fun e => ?_) (fun e => ?_) <;> simp (disch := omega) only [go_sem, e]
  rotate_left
  · exact no (fun q => e (by cases q; rfl))
  subst e
  refine Br.ofP (fun e => ?_) (fun e => ?_) <;> simp (disch := omega) only [go_sem, e]
  rotate_left
  · exact no (fun q => e (by cases q; rfl))
  subst e
  refine Br.ofP (fun e => ?_) (fun e => ?_) <;> simp (disch := omega) only [go_sem, e]
  rotate_left
  · exact no (fun q => e (by cases q; rfl))
  subst e
  refine Br.ofP (fun e => ?_) (fun e => ?_) <;> simp (disch := omega) only [go_sem, e]
  rotate_left
  · exact no (fun q => e (by cases q; rfl))
  subst e
  simp (disch := omega) only [go_sem, hv]
  congr 3
  rw [Bool.eq_iff_iff, eqv_iff, eqv_iff]
  exact ⟨fun e => by rw [e], fun q => by cases q; rfl⟩
set_option maxHeartbeats 4000000 in
theorem r316 (x y : Mem) (hx : x.ok) (hy : y.ok) : res A PrA 316 [.agg x.c, .agg y.c] = some [.bool (eqv x y)] := by
  have hv := r330v hx.2.2.2 hy.2.2.2
  rw [eqv_val] at hv
  obtain ⟨a1, a2, a3, a4, a5, v⟩ := x
  obtain ⟨b1, b2, b3, b4, b5, w⟩ := y
  unfold Mem.c
  unfold Val.c at hv
  dsimp only at *
  have no : ∀ {p q : Mem}, p ≠ q → (some [PV.bool false] : Option (List PV)) = some [PV.bool (eqv p q)] := fun h => by rw [eqv_ne h]
  refine res_of a316 rfl rfl ?_
  simp only [F316]
  simp (disch := omega) only [go_sem]
  refine Br.ofP (fun e => ?_) (fun e => ?_) <;> simp (disch := omega) only [go_sem, e]
  rotate_left
  · exact no (fun q => e (by cases q; rfl))
  subst e
  refine Br.ofP (fun e => ?_) (fun e => ?_) <;> simp (disch := omega) only [go_sem, e]
  rotate_left
  · exact no (fun q => e (by cases q; rfl))
  subst e
  refine Br.ofP (fun e => ?_) (fun e => ?_) <;> simp (disch := omega) only [go_sem, e]
  rotate_left
  · exact no (fun q => e (by cases q; rfl))
  subst e
  refine Br.ofP (fun e => ?_) (fun e => ?_) <;> simp (disch := omega) only [go_sem, e]
  rotate_left
  · exact no (fun q => e (by cases q; rfl))
  subst e
  refine Br.ofP (fun e => ?_) (fun e => ?_) <;> simp (disch := omega) only [go_sem, e]
  rotate_left
  · exact no (fun q => e (by cases q; rfl))
  subst e
  simp (disch := omega) only [go_sem, hv]
  congr 3
  rw [Bool.eq_iff_iff, eqv_iff, eqv_iff]
  exact ⟨fun e => by rw [e], fun q => by cases q; rfl⟩
set_option maxHeartbeats 4000000 in
theorem r318 (t u : Nat) (l m : List Mem) (hl : l.length ≤ 2 ^ 63 - 1) (_hm : m.length ≤ 2 ^ 63 - 1) (vl : ∀ r ∈ l, r.ok) (vm : ∀ r ∈ m, r.ok) : res A PrA 318 [.lst t (l.map Mem.c), .lst u (m.map Mem.c), .func 319 []] = some [.bool (eqv l m)] := by
  refine res_of a318 rfl rfl ?_
  simp only [F318]
  simp (disch := omega) only [go_sem]
  refine Br.ofP (fun h => ?_) (fun h => ?_) <;> simp (disch := omega) only [go_sem]
  · refine W.find (l.zip m) (fun q => !eqv q.1 q.2) (fun k => ⟨[(1, .pv (.lst u (m.map Mem.c))), (2, .pv (.func 319 [])), (15, .pv (.lst t (l.map Mem.c))), (16, .pv (.int .i64 l.length)), (17, .pv (.int .i64 k))], ⟨[], [], []⟩⟩) rfl (fun k q hq hk hfd => ?_) (fun hn => ?_)
    · obtain ⟨h1, h2⟩ := zip_get hq
      rw [zip_len (by omega)] at hk
      have hc := r319 q.1 q.2 (vl q.1 (List.mem_of_getElem? h1)) (vm q.2 (List.mem_of_getElem? h2))
      unfold Mem.c at hc
      simp (disch := omega) only [go_sem]
      refine Br.ofP (fun c => ?_) (fun c => (c (by omega)).elim)
      simp (disch := omega) only [go_sem, h1, h2, Mem.c, hc]
      refine Br.of (fun g => ?_) (fun g => ?_) <;> simp (disch := omega) only [go_sem]
      · exact findK.of (by rw [g]; rfl) rfl
      · rw [(hfd (by rw [g]; rfl)).ne]
    · have hz : (l.zip m).length = l.length := zip_len (by omega)
      rw [hz]
      simp (disch := omega) only [go_sem]
      rw [hn.eq (by omega), eqv_same]
  · rw [eqv_ne (fun e => h (by rw [e]))]
set_option maxHeartbeats 8000000 in
theorem r297 (x y : Typ) (hx : x.ok) (hy : y.ok) : res A PrA 297 [.agg x.c, .agg y.c] = some [.bool (eqv x y)] := by
  obtain ⟨_, ⟨lx1, lx2⟩, _, lx3⟩ := hx
  obtain ⟨_, ⟨ly1, ly2⟩, _, ly3⟩ := hy
  unfold lenOk at *
  have hs := fun t u => r317 t u x.syms y.syms (by omega) (by omega)
  have hm := fun t u => r318 t u x.mems y.mems (by omega) (by omega) lx3 ly3
  obtain ⟨a1, a2, a3, a4, a5, a6, a7, a8, a9, a10⟩ := x
  obtain ⟨b1, b2, b3, b4, b5, b6, b7, b8, b9, b10⟩ := y
  unfold Typ.c
  dsimp only at *
  have no : ∀ {p q : Typ}, p ≠ q → (some [PV.bool false] : Option (List PV)) = some [PV.bool (eqv p q)] := fun h => by rw [eqv_ne h]
  refine res_of a297 rfl rfl ?_
  simp only [F297]
  simp (disch := omega) only [go_sem]
  refine Br.ofP (fun e => ?_) (fun e => ?_) <;> simp (disch := omega) only [go_sem, e]
  rotate_left
  · exact no (fun q => e (by cases q; rfl))
  subst e
  refine Br.ofP (fun e => ?_) (fun e => ?_) <;> simp (disch := omega) only [go_sem, e]
  rotate_left
  · exact no (fun q => e (by cases q; rfl))
  subst e
  refine Br.ofP (fun e => ?_) (fun e => ?_) <;> simp (disch := omega) only [go_sem, e]
  rotate_left
  · exact no (fun q => e (by cases q; rfl))
  subst e
  refine Br.ofP (fun e => ?_) (fun e => ?_) <;> simp (disch := omega) only [go_sem, e]
  rotate_left
  · exact no (fun q => e (by cases q; rfl))
  subst e
  refine Br.ofP (fun e => ?_) (fun e => ?_) <;> simp (disch := omega) only [go_sem, e]
  rotate_left
  · exact no (fun q => e (by cases q; rfl))
  subst e
  refine Br.ofP (fun e => ?_) (fun e => ?_) <;> simp (disch := omega) only [go_sem, e]
  rotate_left
  · exact no (fun q => e (by cases q; rfl))
  subst e
  refine Br.ofP (fun e => ?_) (fun e => ?_) <;> simp (disch := omega) only [go_sem, e]
  rotate_left
  · exact no (fun q => e (by cases q; rfl))
  subst e
  refine Br.ofP (fun e => ?_) (fun e => ?_) <;> simp (disch := omega) only [go_sem, e]
  rotate_left
  · exact no (fun q => e (by cases q; rfl))
  subst e
  simp (disch := omega) only [go_sem, hs]
  refine Br.of (fun e => ?_) (fun e => ?_) <;> simp (disch := omega) only [go_sem, e]
  rotate_left
  · exact no (fun q => eqv_no.1 e (by cases q; rfl))
  have e := eqv_iff.1 e
  subst e
  simp (disch := omega) only [go_sem, hm]
  congr 3
  rw [Bool.eq_iff_iff, eqv_iff, eqv_iff]
  exact ⟨fun e => by rw [e], fun q => by cases q; rfl⟩
set_option maxHeartbeats 8000000 in
theorem r295 (x y : Typ) (hx : x.ok) (hy : y.ok) : res A PrA 295 [.agg x.c, .agg y.c] = some [.bool (eqv x y)] := by
  obtain ⟨_, ⟨lx1, lx2⟩, _, lx3⟩ := hx
  obtain ⟨_, ⟨ly1, ly2⟩, _, ly3⟩ := hy
  unfold lenOk at *
  obtain ⟨a1, a2, a3, a4, a5, a6, a7, a8, a9, a10⟩ := x
  obtain ⟨b1, b2, b3, b4, b5, b6, b7, b8, b9, b10⟩ := y
  unfold Typ.c
  dsimp only at *
  have no : ∀ {p q : Typ}, p ≠ q → (some [PV.bool false] : Option (List PV)) = some [PV.bool (eqv p q)] := fun h => by rw [eqv_ne h]
  refine res_of a295 rfl rfl ?_
  simp only [F295]
  simp (disch := omega) only [go_sem]
  refine Br.ofP (fun e => ?_) (fun e => ?_) <;> simp (disch := omega) only [go_sem, e]
  rotate_left
  · exact no (fun q => e (by cases q; rfl))
  subst e
  refine Br.ofP (fun e => ?_) (fun e => ?_) <;> simp (disch := omega) only [go_sem, e]
  rotate_left
  · exact no (fun q => e (by cases q; rfl))
  subst e
  refine Br.ofP (fun e => ?_) (fun e => ?_) <;> simp (disch := omega) only [go_sem, e]
  rotate_left
  · exact no (fun q => e (by cases q; rfl))
  subst e
  refine Br.ofP (fun e => ?_) (fun e => ?_) <;> simp (disch := omega) only [go_sem, e]
  rotate_left
  · exact no (fun q => e (by cases q; rfl))
  subst e
  refine Br.ofP (fun e => ?_) (fun e => ?_) <;> simp (disch := omega) only [go_sem, e]
  rotate_left
  · exact no (fun q => e (by cases q; rfl))
  subst e
  refine Br.ofP (fun e => ?_) (fun e => ?_) <;> simp (disch := omega) only [go_sem, e]
  rotate_left
  · exact no (fun q => e (by cases q; rfl))
  subst e
  refine Br.ofP (fun e => ?_) (fun e => ?_) <;> simp (disch := omega) only [go_sem, e]
  rotate_left
  · exact no (fun q => e (by cases q; rfl))
  subst e
  refine Br.ofP (fun e => ?_) (fun e => ?_) <;> simp (disch := omega) only [go_sem, e]
  rotate_left
  · exact no (fun q => e (by cases q; rfl))
  subst e
  refine Br.ofP (fun e => ?_) (fun e => ?_) <;> simp (disch := omega) only [go_sem, e]
  rotate_left
  · exact no (fun q => e (by cases q; rfl))
  refine Br.ofP (fun e2 => ?_) (fun e2 => ?_) <;> simp (disch := omega) only [go_sem, e2]
  rotate_left
  · exact no (fun q => e2 (by cases q; rfl))
  refine W.find (a6.zip b6) (fun q => !eqv q.1 q.2) (fun k => ⟨[(2, .ptr 2 0), (3, .ptr 3 0), (5, .pv (.int .i64 k))], ⟨[(2, [.pv (.int .i64 a1), .pv (.str a2), .pv (.int .i64 a3), .pv (.int .i64 a4), .pv (.int .i64 a5), .pv (.lst 0 (a6.map Sym.c)), .pv (.lst 0 (a7.map Mem.c)), .pv (.int .i64 a8), .pv (.int .i64 a9), .pv (.bool a10)]), (3, [.pv (.int .i64 a1), .pv (.str a2), .pv (.int .i64 a3), .pv (.int .i64 a4), .pv (.int .i64 a5), .pv (.lst 0 (b6.map Sym.c)), .pv (.lst 0 (b7.map Mem.c)), .pv (.int .i64 a8), .pv (.int .i64 a9), .pv (.bool a10)])], [], []⟩⟩) rfl (fun k q hq hk hfd => ?_) (fun hn => ?_)
  · obtain ⟨h1, h2⟩ := zip_get hq
    rw [zip_len (by omega)] at hk
    simp (disch := omega) only [go_sem]
    refine Br.ofP (fun c => ?_) (fun c => (c (by omega)).elim)
    simp (disch := omega) only [go_sem, h1, h2, Sym.c]
    rw [← eqv_sym]
    refine Br.of (fun g => ?_) (fun g => ?_) <;> simp (disch := omega) only [go_sem]
    · exact findK.of (by rw [g]; rfl) rfl
    · exact no (fun q => eqv_no.1 (hfd (by rw [g]; rfl)).ne (by cases q; rfl))
  · have hz : (a6.zip b6).length = a6.length := zip_len (by omega)
    rw [hz]
    have e := hn.eq (by omega)
    subst e
    simp (disch := omega) only [go_sem]
    refine W.find (a7.zip b7) (fun q => !eqv q.1 q.2) (fun k => ⟨[(2, .ptr 2 0), (3, .ptr 3 0), (6, .pv (.int .i64 k))], ⟨[(2, [.pv (.int .i64 a1), .pv (.str a2), .pv (.int .i64 a3), .pv (.int .i64 a4), .pv (.int .i64 a5), .pv (.lst 0 (a6.map Sym.c)), .pv (.lst 0 (a7.map Mem.c)), .pv (.int .i64 a8), .pv (.int .i64 a9), .pv (.bool a10)]), (3, [.pv (.int .i64 a1), .pv (.str a2), .pv (.int .i64 a3), .pv (.int .i64 a4), .pv (.int .i64 a5), .pv (.lst 0 (a6.map Sym.c)), .pv (.lst 0 (b7.map Mem.c)), .pv (.int .i64 a8), .pv (.int .i64 a9), .pv (.bool a10)])], [], []⟩⟩) rfl (fun k q hq hk hfd => ?_) (fun hn => ?_)
    · obtain ⟨h1, h2⟩ := zip_get hq
      rw [zip_len (by omega)] at hk
      have hc := r316 q.1 q.2 (lx3 q.1 (List.mem_of_getElem? h1)) (ly3 q.2 (List.mem_of_getElem? h2))
      unfold Mem.c at hc
      simp (disch := omega) only [go_sem]
      refine Br.ofP (fun c => ?_) (fun c => (c (by omega)).elim)
      simp (disch := omega) only [go_sem, h1, h2, Mem.c, hc]
      refine Br.of (fun g => ?_) (fun g => ?_) <;> simp (disch := omega) only [go_sem]
      · exact findK.of (by rw [g]; rfl) rfl
      · exact no (fun q => eqv_no.1 (hfd (by rw [g]; rfl)).ne (by cases q; rfl))
    · have hz : (a7.zip b7).length = a7.length := zip_len (by omega)
      rw [hz]
      have e := hn.eq (by omega)
      subst e
      simp (disch := omega) only [go_sem]
      rw [eqv_same]
end Go.Pv

/-
  Chapter 07: schemas, are they one? And the law of it.
-/
namespace Go.Pv
set_option maxHeartbeats 4000000 in
theorem r296 (t u : Nat) (l m : List Typ) (hl : l.length ≤ 2 ^ 63 - 1) (_hm : m.length ≤ 2 ^ 63 - 1) (vl : ∀ r ∈ l, r.ok) (vm : ∀ r ∈ m, r.ok) : res A PrA 296 [.lst t (l.map Typ.c), .lst u (m.map Typ.c), .func 297 []] = some [.bool (eqv l m)] := by
  refine res_of a296 rfl rfl ?_
  simp only [F296]
  simp (disch := omega) only [go_sem]
  refine Br.ofP (fun h => ?_) (fun h => ?_) <;> simp (disch := omega) only [go_sem]
  · refine W.find (l.zip m) (fun q => !eqv q.1 q.2) (fun k => ⟨[(1, .pv (.lst u (m.map Typ.c))), (2, .pv (.func 297 [])), (15, .pv (.lst t (l.map Typ.c))), (16, .pv (.int .i64 l.length)), (17, .pv (.int .i64 k))], ⟨[], [], []⟩⟩) rfl (fun k q hq hk hfd => ?_) (fun hn => ?_)
    · obtain ⟨h1, h2⟩ := zip_get hq
      rw [zip_len (by omega)] at hk
      have hc := r297 q.1 q.2 (vl q.1 (List.mem_of_getElem? h1)) (vm q.2 (List.mem_of_getElem? h2))
      unfold Typ.c at hc
      simp (disch := omega) only [go_sem]
      refine Br.ofP (fun c => ?_) (fun c => (c (by omega)).elim)
      simp (disch := omega) only [go_sem, h1, h2, Typ.c, hc]
      refine Br.of (fun g => ?_) (fun g => ?_) <;> simp (disch := omega) only [go_sem]
      · exact findK.of (by rw [g]; rfl) rfl
      · rw [(hfd (by rw [g]; rfl)).ne]
    · have hz : (l.zip m).length = l.length := zip_len (by omega)
      rw [hz]
      simp (disch := omega) only [go_sem]
      rw [hn.eq (by omega), eqv_same]
  · rw [eqv_ne (fun e => h (by rw [e]))]
theorem r278 (t u : Nat) (l m : List Typ) (hl : l.length ≤ 2 ^ 63 - 1) (hm : m.length ≤ 2 ^ 63 - 1) (vl : ∀ r ∈ l, r.ok) (vm : ∀ r ∈ m, r.ok) : res A PrA 278 [.agg [.lst t (l.map Typ.c)], .agg [.lst u (m.map Typ.c)]] = some [.bool (eqv l m)] := by
  refine res_of a278 rfl rfl ?_
  simp only [F278]
  have hc := r296 t u l m hl hm vl vm
  simp (disch := omega) only [go_sem, hc]
set_option maxHeartbeats 4000000 in
theorem r277 (t u : Nat) (l m : List Typ) (hl : l.length ≤ 2 ^ 63 - 1) (_hm : m.length ≤ 2 ^ 63 - 1) (vl : ∀ r ∈ l, r.ok) (vm : ∀ r ∈ m, r.ok) : res A PrA 277 [.agg [.lst t (l.map Typ.c)], .agg [.lst u (m.map Typ.c)]] = some [.bool (eqv l m)] := by
  refine res_of a277 rfl rfl ?_
  simp only [F277]
  simp (disch := omega) only [go_sem]
  refine Br.ofP (fun h => ?_) (fun h => ?_) <;> simp (disch := omega) only [go_sem]
  · refine W.find (l.zip m) (fun q => !eqv q.1 q.2) (fun k => ⟨[(2, .ptr 2 0), (3, .ptr 3 0), (5, .pv (.int .i64 k))], ⟨[(2, [.pv (.lst t (l.map Typ.c))]), (3, [.pv (.lst u (m.map Typ.c))])], [], []⟩⟩) rfl (fun k q hq hk hfd => ?_) (fun hn => ?_)
    · obtain ⟨h1, h2⟩ := zip_get hq
      rw [zip_len (by omega)] at hk
      have hc := r295 q.1 q.2 (vl q.1 (List.mem_of_getElem? h1)) (vm q.2 (List.mem_of_getElem? h2))
      unfold Typ.c at hc
      simp (disch := omega) only [go_sem]
      refine Br.ofP (fun c => ?_) (fun c => (c (by omega)).elim)
      simp (disch := omega) only [go_sem, h1, h2, Typ.c, hc]
      refine Br.of (fun g => ?_) (fun g => ?_) <;> simp (disch := omega) only [go_sem]
      · exact findK.of (by rw [g]; rfl) rfl
      · rw [(hfd (by rw [g]; rfl)).ne]
    · have hz : (l.zip m).length = l.length := zip_len (by omega)
      rw [hz]
      simp (disch := omega) only [go_sem]
      rw [hn.eq (by omega), eqv_same]
  · rw [eqv_ne (fun e => h (by rw [e]))]
set_option maxHeartbeats 1000000 in
/-- SchemaEqual, given that the chapter is awake. -/
theorem r263 (r265 : res A PrA 265 [] = some [.bool true]) (l m : List Typ) (hl : lenOk l) (hm : lenOk m) (ho : ∀ t ∈ l, t.ok) (hp : ∀ t ∈ m, t.ok) : res A PrA 263 [.agg [.lst 0 (l.map Typ.c)], .agg [.lst 0 (m.map Typ.c)]] = some [.bool true] := by
  refine res_of a263 rfl rfl ?_
  simp only [F263]
  unfold lenOk at hl hm
  have h266 := fun u => r266 u l ho
  have h266' := fun u => r266 u m hp
  have e1 := fun t u => r277 t u l m (by omega) (by omega) ho hp
  have e2 := fun t u => r278 t u l m (by omega) (by omega) ho hp
  have e4 := fun t u => r278 t u m l (by omega) (by omega) hp ho
  have e6 := fun t u => r278 t u l l (by omega) (by omega) ho ho
  rw [eqv_comm m l] at e4
  rw [eqv_same] at e6
  generalize few l = f at h266
  generalize few m = g at h266'
  generalize eqv l m = b at e1 e2 e4
  simp (disch := omega) only [go_sem, r265, h266]
  cases f with
  | false => simp (disch := omega) only [go_sem, r265]
  | true =>
    simp (disch := omega) only [go_sem, h266']
    cases g with
    | false => simp (disch := omega) only [go_sem, r265]
    | true => simp (disch := omega) only [go_sem, e1, e2, e4, e6]

end Go.Pv

/-
  Chapter 07: names.
-/
namespace Go.Pv

def letB (x : Int) : Bool := decide (x = 95) || (decide (97 ≤ x) && decide (x ≤ 122)) || (decide (65 ≤ x) && decide (x ≤ 90))
def digB (x : Int) : Bool := decide (48 ≤ x) && decide (x ≤ 57)
theorem res_true {p : Bool} (h : p = true) : (some [PV.bool true] : Option (List PV)) = some [PV.bool p] := by rw [h]
theorem res_false {p : Bool} (h : p = false) : (some [PV.bool false] : Option (List PV)) = some [PV.bool p] := by rw [h]
@[go_sem] theorem r323 (x : Int) : res A PrA 323 [.int .u8 x] = some [.bool (letB x)] := by
  refine res_of a323 rfl rfl ?_
  simp only [F323]
  simp (disch := omega) only [go_sem]
  unfold letB
  repeat' (refine Br.ofP (fun h => ?_) (fun h => ?_) <;> simp (disch := omega) only [go_sem, h])
  all_goals (congr 3; rw [Bool.eq_iff_iff]; simp; omega)
@[go_sem] theorem r324 (x : Int) : res A PrA 324 [.int .u8 x] = some [.bool (digB x)] := by
  refine res_of a324 rfl rfl ?_
  simp only [F324]
  simp (disch := omega) only [go_sem]
  unfold digB
  repeat' (refine Br.ofP (fun h => ?_) (fun h => ?_) <;> simp (disch := omega) only [go_sem, h])
  all_goals (congr 3; rw [Bool.eq_iff_iff]; simp; omega)
@[go_sem] theorem r327 (x : Int) : res A PrA 327 [.int .u8 x] = some [.bool (letB x)] := by
  refine res_of a327 rfl rfl ?_
  simp only [F327]
  simp (disch := omega) only [go_sem]
  unfold letB
  repeat' (refine Br.ofP (fun h => ?_) (fun h => ?_) <;> simp (disch := omega) only [go_sem, h])
  all_goals (congr 3; rw [Bool.eq_iff_iff]; simp; omega)
@[go_sem] theorem r328 (x : Int) : res A PrA 328 [.int .u8 x] = some [.bool (digB x)] := by
  refine res_of a328 rfl rfl ?_
  simp only [F328]
  simp (disch := omega) only [go_sem]
  unfold digB
  repeat' (refine Br.ofP (fun h => ?_) (fun h => ?_) <;> simp (disch := omega) only [go_sem, h])
  all_goals (congr 3; rw [Bool.eq_iff_iff]; simp; omega)
/-- The bytes of a string, as numbers. -/
def bytesI (s : ByteArray) : List Int := s.data.toList.map fun b => (b.toNat : Int)
theorem bytesI_len (s : ByteArray) : (bytesI s).length = s.size := by
  show (s.data.toList.map _).length = s.data.size
  rw [List.length_map, Array.length_toList]
theorem ixs_ok {s : ByteArray} {i : Int} {x : Int} (h0 : 0 ≤ i) (h : (bytesI s)[i.toNat]? = some x) : ixsV (some i) (.pv (.str s)) = some (.pv (.int .u8 x)) := by
  have hlt := (List.getElem?_eq_some_iff.1 h).1
  rw [bytesI_len] at hlt
  have h1 : s[i.toNat]? = some (s[i.toNat]'hlt) := getElem?_pos s i.toNat hlt
  simp only [ixsV, inRange_some h0 (show i < (s.size : Int) by omega), h1]
  simp only [bytesI, List.getElem?_map] at h
  have h2 : s.data.toList[i.toNat]? = some (s[i.toNat]'hlt) := by
    rw [Array.getElem?_toList]
    exact Array.getElem?_eq_getElem hlt
  rw [h2] at h
  simp only [Option.map_some, Option.some.injEq] at h
  rw [h]
def nameL : List Int → Bool
  | [] => false
  | x :: r => decide ((x :: r).length ≤ 24) && letB x && !(x :: r).any fun y => !letB y && !digB y
/-- Is it a name? -/
def isName (s : ByteArray) : Bool := nameL (bytesI s)
theorem r306 (s : ByteArray) (hs : strOk s) : res A PrA 306 [.str s] = some [.bool (isName s)] := by
  refine res_of a306 rfl rfl ?_
  simp only [F306]
  simp (disch := omega) only [go_sem]
  refine Br.ofP (fun e => ?_) (fun e => ?_) <;> simp (disch := omega) only [go_sem, e]
  · rfl
  have hb := bytesI_len s
  unfold strOk at hs
  unfold isName
  generalize hl : bytesI s = l at hb
  cases l with
  | nil => exact (e (by
      obtain ⟨⟨d⟩⟩ := s
      simp only [ByteArray.size, List.size_toArray, List.length_nil] at hb
      rw [List.eq_nil_of_length_eq_zero hb.symm])).elim
  | cons x r =>
    have hx : (bytesI s)[(0 : Int).toNat]? = some x := by rw [hl]; rfl
    have h0 := ixs_ok (Int.le_refl 0) hx
    refine Br.ofP (fun e2 => ?_) (fun e2 => ?_) <;> simp (disch := omega) only [go_sem, e2]
    · refine res_false ?_
      have : ¬ (x :: r).length ≤ 24 := by omega
      simp only [nameL, this, decide_false, Bool.false_and]
    simp (disch := omega) only [go_sem, h0]
    refine Br.of (fun e3 => ?_) (fun e3 => ?_) <;> simp (disch := omega) only [go_sem, e3]
    rotate_left
    · refine res_false ?_
      simp only [nameL, e3, Bool.and_false, Bool.false_and]
    · refine W.find (x :: r) (fun y => !letB y && !digB y) (fun k => ⟨[(0, .pv (.str s)), (18, .pv (.int .i64 s.size)), (19, .pv (.int .i64 k))], ⟨[], [], []⟩⟩) rfl (fun k y hy hk hfd => ?_) (fun hn => ?_)
      · have hy' : (bytesI s)[(k : Int).toNat]? = some y := by rw [hl, Int.toNat_natCast]; exact hy
        have hk' := ixs_ok (Int.natCast_nonneg k) hy'
        simp (disch := omega) only [go_sem]
        refine Br.ofP (fun c => ?_) (fun c => (c (by omega)).elim)
        simp (disch := omega) only [go_sem, hk']
        have done : (!letB y && !digB y) = true → (some [PV.bool false] : Option (List PV)) = some [.bool (nameL (x :: r))] := fun g => by
          refine res_false ?_
          simp only [nameL, (hfd g).any, Bool.not_true, Bool.and_false]
        refine Br.of (fun g => ?_) (fun g => ?_) <;> simp (disch := omega) only [go_sem, hk', g]
        · exact findK.of (by simp [g]) rfl
        · refine Br.of (fun g2 => ?_) (fun g2 => ?_) <;> simp (disch := omega) only [go_sem, g2]
          · exact findK.of (by simp [g2]) rfl
          · exact done (by simp [g, g2])
      · simp (disch := omega) only [go_sem, hb]
        refine res_true ?_
        have h24 : (x :: r).length ≤ 24 := by omega
        simp only [nameL, h24, e3, hn.any, decide_true, Bool.not_false, Bool.and_self]
theorem r310 (s : ByteArray) (hs : strOk s) : res A PrA 310 [.str s] = some [.bool (isName s)] := by
  refine res_of a310 rfl rfl ?_
  simp only [F310]
  simp (disch := omega) only [go_sem]
  refine Br.ofP (fun e => ?_) (fun e => ?_) <;> simp (disch := omega) only [go_sem, e]
  · rfl
  have hb := bytesI_len s
  unfold strOk at hs
  unfold isName
  generalize hl : bytesI s = l at hb
  cases l with
  | nil => exact (e (by
      obtain ⟨⟨d⟩⟩ := s
      simp only [ByteArray.size, List.size_toArray, List.length_nil] at hb
      rw [List.eq_nil_of_length_eq_zero hb.symm])).elim
  | cons x r =>
    have hx : (bytesI s)[(0 : Int).toNat]? = some x := by rw [hl]; rfl
    have h0 := ixs_ok (Int.le_refl 0) hx
    refine Br.ofP (fun e2 => ?_) (fun e2 => ?_) <;> simp (disch := omega) only [go_sem, e2]
    · refine res_false ?_
      have : ¬ (x :: r).length ≤ 24 := by omega
      simp only [nameL, this, decide_false, Bool.false_and]
    simp (disch := omega) only [go_sem, h0]
    refine Br.of (fun e3 => ?_) (fun e3 => ?_) <;> simp (disch := omega) only [go_sem, e3]
    rotate_left
    · refine res_false ?_
      simp only [nameL, e3, Bool.and_false, Bool.false_and]
    · refine W.find (x :: r) (fun y => !letB y && !digB y) (fun k => ⟨[(0, .pv (.str s)), (3, .pv (.int .i64 k))], ⟨[], [], []⟩⟩) rfl (fun k y hy hk hfd => ?_) (fun hn => ?_)
      · have hy' : (bytesI s)[(k : Int).toNat]? = some y := by rw [hl, Int.toNat_natCast]; exact hy
        have hk' := ixs_ok (Int.natCast_nonneg k) hy'
        simp (disch := omega) only [go_sem]
        refine Br.ofP (fun c => ?_) (fun c => (c (by omega)).elim)
        simp (disch := omega) only [go_sem, hk']
        have done : (!letB y && !digB y) = true → (some [PV.bool false] : Option (List PV)) = some [.bool (nameL (x :: r))] := fun g => by
          refine res_false ?_
          simp only [nameL, (hfd g).any, Bool.not_true, Bool.and_false]
        refine Br.of (fun g => ?_) (fun g => ?_) <;> simp (disch := omega) only [go_sem, hk', g]
        · exact findK.of (by simp [g]) rfl
        · refine Br.of (fun g2 => ?_) (fun g2 => ?_) <;> simp (disch := omega) only [go_sem, g2]
          · exact findK.of (by simp [g2]) rfl
          · exact done (by simp [g, g2])
      · simp (disch := omega) only [go_sem, hb]
        refine res_true ?_
        have h24 : (x :: r).length ≤ 24 := by omega
        simp only [nameL, h24, e3, hn.any, decide_true, Bool.not_false, Bool.and_self]
end Go.Pv

/-
  Chapter 07: ids and names of symbols and members.
-/
namespace Go.Pv

def strs (l : List ByteArray) : List (List PV) := l.map fun s => [.str s]
@[go_sem] theorem strs_length (l : List ByteArray) : (strs l).length = l.length := by simp [strs]
@[go_sem] theorem strs_get (l : List ByteArray) (i : Nat) : (strs l)[i]? = l[i]?.map fun s => [.str s] := by simp [strs]
theorem strs_snoc (l : List ByteArray) (x : ByteArray) : strs l ++ [[.str x]] = strs (l ++ [x]) := by simp [strs]
abbrev Nm := Int × ByteArray
def prevI (l : List Nm) (k : Nat) : Int := ((l[k - 1]?).map (·.1)).getD 0
def badNm (l : List Nm) (k : Nat) (p : Nm) : Bool := decide (p.1 < 1) || decide (1000 < p.1) || (decide (0 < k) && decide (p.1 ≤ prevI l k)) || hasS ((l.map (·.2)).take k) p.2 || !isName p.2
/-- What is wrong at a place. -/
def badAt (l : List Nm) (k : Nat) : Bool := match l[k]? with
  | some p => badNm l k p
  | none => false
def idsOk (l : List Nm) : Bool := !(List.range l.length).any (badAt l)
theorem range_get {n k x : Nat} (h : (List.range n)[k]? = some x) : x = k ∧ k < n := by
  obtain ⟨h1, h2⟩ := List.getElem?_eq_some_iff.1 h
  simp at h1 h2
  exact ⟨h2.symm, h1⟩
set_option maxHeartbeats 1000000 in
/-- ids. -/
theorem r325 (t u : Nat) (l : List Nm) (hl : l.length ≤ 2 ^ 63 - 1) (hs : ∀ p ∈ l, strOk p.2) : res A PrA 325 [.lst t (ints (l.map (·.1))), .lst u (strs (l.map (·.2)))] = some [.bool (idsOk l && decide (l.length ≤ 16))] := by
  refine res_of a325 rfl rfl ?_
  simp only [F325]
  simp (disch := omega) only [go_sem]
  refine W.find (List.range l.length) (badAt l) (fun k => ⟨[(0, .pv (.lst t (ints (l.map (·.1))))), (1, .pv (.lst u (strs (l.map (·.2))))), (5, .map 0), (9, .pv (.lst t (ints (l.map (·.1))))), (10, .pv (.int .i64 l.length)), (11, .pv (.int .i64 k))], ⟨[], [], [seenS ((l.map (·.2)).take k)]⟩⟩) ?_ (fun k x hx hk hfd => ?_) (fun hn => ?_)
  · simp [seenS]
  · obtain ⟨rfl, hk⟩ := range_get hx
    have hp := List.getElem?_eq_getElem hk
    generalize l[x] = p at hp
    have h1 : (l.map (·.1))[x]? = some p.1 := by rw [List.getElem?_map, hp]; rfl
    have h2 : (l.map (·.2))[x]? = some p.2 := by rw [List.getElem?_map, hp]; rfl
    have hnm := r306 p.2 (hs p (List.mem_of_getElem? hp))
    have hb : badAt l x = badNm l x p := by simp only [badAt, hp]
    have done : badNm l x p = true → (some [PV.bool false] : Option (List PV)) = some [PV.bool (idsOk l && decide (l.length ≤ 16))] := fun g => by
      refine res_false ?_
      rw [← hb] at g
      simp only [idsOk, (hfd g).any, Bool.not_true, Bool.false_and]
    rw [hb]
    have hins : hasS ((l.map (·.2)).take x) p.2 = false → insS ((l.map (·.2)).take x) p.2 = (l.map (·.2)).take (x + 1) := fun h => by
      rw [insS, h, List.take_add_one, List.getElem?_map, hp]
      rfl
    simp (disch := omega) only [go_sem]
    refine Br.ofP (fun c => ?_) (fun c => (c (by omega)).elim)
    simp (disch := omega) only [go_sem, h1]
    refine Br.ofP (fun c1 => ?_) (fun c1 => ?_) <;> simp (disch := omega) only [go_sem, c1]
    · exact done (by simp [badNm, c1])
    refine Br.ofP (fun c2 => ?_) (fun c2 => ?_) <;> simp (disch := omega) only [go_sem, c2]
    · exact done (by simp [badNm, c2])
    have fin : (decide (0 < x) && decide (p.1 ≤ prevI l x)) = false → badNm l x p = (hasS ((l.map (·.2)).take x) p.2 || !isName p.2) := fun g => by
      have d1 : decide (p.1 < 1) = false := by simp; omega
      have d2 : decide (1000 < p.1) = false := by simp; omega
      simp only [badNm, d1, d2, g, Bool.false_or]
    have hx1 : 0 < x → (l.map (·.1))[x - 1]? = some (prevI l x) := fun h => by
      have hq : l[x - 1]? = some (l[x - 1]'(by omega)) := List.getElem?_eq_getElem (by omega)
      rw [List.getElem?_map, prevI, hq]
      rfl
    have hcast : 0 < x → (x : Int) - 1 = ((x - 1 : Nat) : Int) := fun h => by omega
    refine Br.ofP (fun c3 => ?_) (fun c3 => ?_) <;> simp (disch := omega) only [go_sem, c3]
    · have hq : l[x - 1]? = some (l[x - 1]'(by omega)) := List.getElem?_eq_getElem (by omega)
      have hpv : (l[x - 1]'(by omega)).1 = prevI l x := by rw [prevI, hq]; rfl
      simp (disch := omega) only [go_sem, hcast (by omega), hq, hpv]
      refine Br.ofP (fun c4 => ?_) (fun c4 => ?_) <;> simp (disch := omega) only [go_sem, c4, hp]
      · exact done (by simp [badNm, c4, show 0 < x by omega])
      refine Br.of (fun c5 => ?_) (fun c5 => ?_) <;> simp (disch := omega) only [go_sem, c5, hnm, hp]
      · exact done (by simp [badNm, c5])
      refine Br.of (fun c6 => ?_) (fun c6 => ?_) <;> simp (disch := omega) only [go_sem, c6, hp]
      · refine findK.of ?_ ?_
        · rw [fin (by simp; omega), c5, c6]
          rfl
        · rw [hins c5]
          rfl
      · exact done (by simp [badNm, c6])
    · simp (disch := omega) only [go_sem, hp]
      refine Br.of (fun c5 => ?_) (fun c5 => ?_) <;> simp (disch := omega) only [go_sem, c5, hnm, hp]
      · exact done (by simp [badNm, c5])
      refine Br.of (fun c6 => ?_) (fun c6 => ?_) <;> simp (disch := omega) only [go_sem, c6, hp]
      · refine findK.of ?_ ?_
        · rw [fin (by simp; omega), c5, c6]
          rfl
        · rw [hins c5]
          rfl
      · exact done (by simp [badNm, c6])
  · rw [List.length_range]
    simp (disch := omega) only [go_sem]
    simp [idsOk, hn.any]
    omega
end Go.Pv

/-
  Chapter 07: symbols.
-/
namespace Go.Pv

@[go_sem] theorem app_tls (h : Heap) (x : ByteArray) : appendV h 1 (.tl []) (.tl [[.str x]]) = some (.own h.ar.length 0 0 1, { push := [⟨0, 1, .inl (strs [x])⟩], base := h.ar.length }) := app_tlr h 1 [] [.str x] rfl (by simp) (by simp)
@[go_sem] theorem app_owns (h : Heap) (id ver off len : Nat) (x : ByteArray) : appendV h 1 (.own id ver off len) (.tl [[.str x]]) = (ownArr h id ver).bind (apR id ver off len 1 [.str x]) := app_ownr h id ver off len 1 [.str x] rfl
@[go_sem] theorem apR_str {id ver len : Nat} {x : ByteArray} {l : List ByteArray} (h1 : len = l.length) (h2 : l.length + 1 ≤ 2147483648) : apR id ver 0 len 1 [.str x] ⟨ver, 1, .inl (strs l)⟩ = some (.own id (ver + 1) 0 (len + 1), { ar := some (id, ⟨ver + 1, 1, .inl (strs (l ++ [x]))⟩) }) := by
  rw [apR_ok (by rw [strs_length]; exact h1) (by rw [strs_length]; exact h2), strs_snoc]
/-- Two lists that grow side by side. -/
def twV (i k : Nat) : V := match k with
  | 0 => .tl []
  | j + 1 => .own i j 0 (j + 1)
def twA (A B : List (List PV)) : List Arr := match A.length with
  | 0 => []
  | j + 1 => [⟨j, 1, .inl A⟩, ⟨j, 1, .inl B⟩]
def Sym.nm (s : Sym) : Nm := (s.id, s.name)
def symsOk (l : List Sym) : Bool := decide (0 < l.length) && (idsOk (l.map Sym.nm) && decide (l.length ≤ 16))
set_option maxHeartbeats 1000000 in
/-- symbols. -/
theorem r307 (t : Nat) (l : List Sym) (hl : l.length ≤ 2147483648) (hs : ∀ p ∈ l, strOk p.name) : res A PrA 307 [.lst t (l.map Sym.c)] = some [.bool (symsOk l)] := by
  refine res_of a307 rfl rfl ?_
  simp only [F307]
  simp (disch := omega) only [go_sem]
  refine W.upto l.length (fun k => ⟨[(0, .pv (.lst t (l.map Sym.c))), (3, twV 0 k), (4, twV 1 k), (7, .pv (.lst t (l.map Sym.c))), (8, .pv (.int .i64 l.length)), (9, .pv (.int .i64 k))], ⟨[], twA (ints ((l.take k).map (·.id))) (strs ((l.take k).map (·.name))), []⟩⟩) (fun _ => True) rfl trivial (fun k hk _ => ?_)
  rcases Nat.lt_or_ge k l.length with hlt | hge
  · have hp := List.getElem?_eq_getElem hlt
    generalize l[k] = p at hp
    have t1 : (l.take (k + 1)).map (·.id) = (l.take k).map (·.id) ++ [p.id] := by rw [List.take_add_one, hp, List.map_append]; rfl
    have t2 : (l.take (k + 1)).map (·.name) = (l.take k).map (·.name) ++ [p.name] := by rw [List.take_add_one, hp, List.map_append]; rfl
    cases k with
    | zero =>
      simp only [twV, twA, List.take_zero, List.map_nil, ints_nil, List.length_nil]
      simp (disch := omega) only [go_sem]
      refine Br.ofP (fun c => ?_) (fun c => (c (by omega)).elim)
      simp (disch := omega) only [go_sem, hp, Sym.c]
      refine .of (by omega) ?_ trivial
      rw [t1, t2]
      rfl
    | succ j =>
      have l1 : ((l.take (j + 1)).map (·.id)).length = j + 1 := by simp; omega
      have l2 : ((l.take (j + 1)).map (·.name)).length = j + 1 := by simp; omega
      generalize (l.take (j + 1)).map (·.id) = A at t1 l1
      generalize (l.take (j + 1)).map (·.name) = B at t2 l2
      simp only [twV, twA, ints_length, l1]
      simp (disch := omega) only [go_sem]
      refine Br.ofP (fun c => ?_) (fun c => (c (by omega)).elim)
      simp (disch := omega) only [go_sem, hp, Sym.c]
      have l3 : ((l.take (j + 1 + 1)).map (·.id)).length = j + 1 + 1 := by rw [t1]; simp [l1]
      refine .of (by omega) ?_ trivial
      simp only [ints_length, l3]
      rw [t1, t2]
      rfl
  · obtain rfl : k = l.length := by omega
    rw [List.take_length]
    have nm1 : l.map (·.id) = (l.map Sym.nm).map (·.1) := by rw [List.map_map]; rfl
    have nm2 : l.map (·.name) = (l.map Sym.nm).map (·.2) := by rw [List.map_map]; rfl
    have h325 := fun t u => r325 t u (l.map Sym.nm) (by simp; omega) (fun p hp => by
      obtain ⟨q, hq, rfl⟩ := List.mem_map.1 hp
      exact hs q hq)
    rw [nm1, nm2]
    rw [List.length_map] at h325
    unfold symsOk
    cases hn : l.length with
    | zero =>
      have h0 : ¬ (0 : Int) < l.length := by omega
      simp only [twV, twA, hn, ints_length, List.length_map]
      simp (disch := omega) only [go_sem, h0]
    | succ j =>
      have l1 : ((l.map Sym.nm).map (·.1)).length = j + 1 := by simp [hn]
      have l2 : ((l.map Sym.nm).map (·.2)).length = j + 1 := by simp [hn]
      rw [hn] at h325
      generalize (l.map Sym.nm).map (·.1) = A at l1 h325
      generalize (l.map Sym.nm).map (·.2) = B at l2 h325
      simp only [twV, twA, ints_length, l1]
      simp (disch := omega) only [go_sem]
      have d1 : A.take (j + 1) = A := List.take_of_length_le (by omega)
      have d2 : (strs B).take (j + 1) = strs B := List.take_of_length_le (by rw [strs_length]; omega)
      refine Br.ofP (fun c => ?_) (fun c => (c (by omega)).elim)
      simp (disch := omega) only [go_sem, c, d1, d2, h325]
      have h0 : 0 < j + 1 := by omega
      simp [h0]
end Go.Pv

/-
  Chapter 07: members.
-/
namespace Go.Pv

def zeroVal : Val := ⟨0, false, 0, ⟨#[]⟩, 0, [], [], []⟩
theorem zero_ok : ∃ n, VOk n zeroVal.c := by
  refine ⟨1, zeroVal, rfl, ⟨?_, ?_, ?_, ?_⟩, ⟨?_, ?_, ?_⟩, fun r hr => (List.not_mem_nil hr).elim, fun r hr => (List.not_mem_nil hr).elim, fun r hr => (List.not_mem_nil hr).elim⟩ <;> simp [zeroVal, I64, strOk, lenOk]
  exact Nat.zero_le _
theorem r326 {v : Val} (h : ∃ n, VOk n v.c) : res A PrA 326 [.agg v.c] = some [.bool (eqv v zeroVal)] := by
  refine res_of a326 rfl rfl ?_
  simp only [F326]
  have hc := r320v h zero_ok
  rw [eqv_val] at hc
  unfold zeroVal Val.c at *
  simp only [List.map_nil] at hc
  simp (disch := omega) only [go_sem, hc]
/-- What is wrong with a member. -/
noncomputable def memBad (rec : Bool) (m : Mem) : Bool := (!rec && (m.crit || m.has)) || (m.crit && m.has) || (!m.has && !eqv m.dflt zeroVal)
def Mem.nm (s : Mem) : Nm := (s.id, s.name)
noncomputable def memsOk (rec : Bool) (l : List Mem) : Bool := !l.any (memBad rec) && ((rec || decide (0 < l.length)) && (idsOk (l.map Mem.nm) && decide (l.length ≤ 16)))
theorem fin_false {p : Bool} (h : p = false) : (some [PV.bool false] : Option (List PV)) = some [PV.bool p] := by rw [h]
set_option maxHeartbeats 4000000 in
/-- members. -/
theorem r308 (t : Typ) (ht : t.ok) (hl : t.mems.length ≤ 2147483648) (hk : t.kind = 5 ∨ t.kind = 6) : res A PrA 308 [.agg t.c] = some [.bool (memsOk (decide (t.kind = 5)) t.mems)] := by
  obtain ⟨_, ⟨_, _⟩, _, ho⟩ := ht
  obtain ⟨a1, a2, a3, a4, a5, a6, l, a8, a9, a10⟩ := t
  unfold Typ.c
  dsimp only at *
  refine res_of a308 rfl rfl ?_
  simp only [F308]
  simp (disch := omega) only [go_sem]
  refine W.find l (memBad (decide (a1 = 5))) (fun k => ⟨[(1, .ptr 1 0), (3, twV 0 k), (4, twV 1 k), (8, .pv (.lst 0 (l.map Mem.c))), (9, .pv (.int .i64 l.length)), (10, .pv (.int .i64 k))], ⟨[(1, [.pv (.int .i64 a1), .pv (.str a2), .pv (.int .i64 a3), .pv (.int .i64 a4), .pv (.int .i64 a5), .pv (.lst 0 (a6.map Sym.c)), .pv (.lst 0 (l.map Mem.c)), .pv (.int .i64 a8), .pv (.int .i64 a9), .pv (.bool a10)])], twA (ints ((l.take k).map (·.id))) (strs ((l.take k).map (·.name))), []⟩⟩) rfl (fun k p hp hlt hfd => ?_) (fun hn => ?_)
  · have t1 : (l.take (k + 1)).map (·.id) = (l.take k).map (·.id) ++ [p.id] := by rw [List.take_add_one, hp, List.map_append]; rfl
    have t2 : (l.take (k + 1)).map (·.name) = (l.take k).map (·.name) ++ [p.name] := by rw [List.take_add_one, hp, List.map_append]; rfl
    obtain ⟨_, _, _, hd⟩ := ho p (List.mem_of_getElem? hp)
    have hz := r326 hd
    have done : memBad (decide (a1 = 5)) p = true → (some [PV.bool false] : Option (List PV)) = some [PV.bool (memsOk (decide (a1 = 5)) l)] := fun g => by
      refine fin_false ?_
      simp only [memsOk, (hfd g).any, Bool.not_true, Bool.false_and]
    have hz0 : eqv p.dflt zeroVal = eqv p.dflt zeroVal := rfl
    generalize hzz : eqv p.dflt zeroVal = z at hz
    unfold Val.c at hz
    have hbad : memBad (decide (a1 = 5)) p = ((!decide (a1 = 5) && (p.crit || p.has)) || (p.crit && p.has) || (!p.has && !z)) := by rw [memBad, hzz]
    rw [hbad] at done ⊢
    cases k with
    | zero =>
      simp only [twV, twA, List.take_zero, List.map_nil, ints_nil, List.length_nil]
      simp (disch := omega) only [go_sem]
      refine Br.ofP (fun c => ?_) (fun c => (c (by omega)).elim)
      simp (disch := omega) only [go_sem, hp, Mem.c]
      repeat' (first
        | (refine Br.ofP (fun h => ?_) (fun h => ?_) <;> simp (disch := omega) only [go_sem, h])
        | (refine Br.of (fun h => ?_) (fun h => ?_) <;> simp (disch := omega) only [go_sem, h, hz]))
      all_goals first
        | (refine done ?_; simp_all; done)
        | (refine findK.of (by simp_all; done) ?_
           rw [t1, t2]
           first
             | rfl
             | (rw [show a1 = 6 by omega]; rfl))
    | succ j =>
      have l1 : ((l.take (j + 1)).map (·.id)).length = j + 1 := by simp; omega
      have l2 : ((l.take (j + 1)).map (·.name)).length = j + 1 := by simp; omega
      have l3 : ((l.take (j + 1 + 1)).map (·.id)).length = j + 1 + 1 := by rw [t1]; simp; omega
      generalize (l.take (j + 1)).map (·.id) = A at t1 l1
      generalize (l.take (j + 1)).map (·.name) = B at t2 l2
      simp only [twV, twA, ints_length, l1]
      simp (disch := omega) only [go_sem]
      refine Br.ofP (fun c => ?_) (fun c => (c (by omega)).elim)
      simp (disch := omega) only [go_sem, hp, Mem.c]
      repeat' (first
        | (refine Br.ofP (fun h => ?_) (fun h => ?_) <;> simp (disch := omega) only [go_sem, h])
        | (refine Br.of (fun h => ?_) (fun h => ?_) <;> simp (disch := omega) only [go_sem, h, hz]))
      all_goals first
        | (refine done ?_; simp_all; done)
        | (refine findK.of (by simp_all; done) ?_
           simp only [ints_length, l3]
           rw [t1, t2]
           first
             | rfl
             | (rw [show a1 = 6 by omega]; rfl))
  · rw [List.take_length]
    have nm1 : l.map (·.id) = (l.map Mem.nm).map (·.1) := by rw [List.map_map]; rfl
    have nm2 : l.map (·.name) = (l.map Mem.nm).map (·.2) := by rw [List.map_map]; rfl
    have h325 := fun t u => r325 t u (l.map Mem.nm) (by simp; omega) (fun p hp => by
      obtain ⟨q, hq, rfl⟩ := List.mem_map.1 hp
      exact (ho q hq).2.1)
    rw [nm1, nm2]
    rw [List.length_map] at h325
    unfold memsOk
    rw [hn.any]
    cases hn : l.length with
    | zero =>
      have hnil : l = [] := List.eq_nil_of_length_eq_zero hn
      subst hnil
      simp only [List.map_nil, ints, strs] at h325
      simp only [twV, twA, hn, ints_length, List.length_map]
      simp (disch := omega) only [go_sem]
      refine Br.ofP (fun c => ?_) (fun c => ?_) <;> simp (disch := omega) only [go_sem, c, h325]
      refine Br.ofP (fun c2 => absurd c2 (by omega)) (fun c2 => ?_)
      simp (disch := omega) only [go_sem, c2]
      simp [c]
    | succ j =>
      have l1 : ((l.map Mem.nm).map (·.1)).length = j + 1 := by simp [hn]
      have l2 : ((l.map Mem.nm).map (·.2)).length = j + 1 := by simp [hn]
      rw [hn] at h325
      generalize (l.map Mem.nm).map (·.1) = A at l1 h325
      generalize (l.map Mem.nm).map (·.2) = B at l2 h325
      simp only [twV, twA, ints_length, l1]
      simp (disch := omega) only [go_sem]
      have d1 : A.take (j + 1) = A := List.take_of_length_le (by omega)
      have d2 : (strs B).take (j + 1) = strs B := List.take_of_length_le (by rw [strs_length]; omega)
      refine Br.ofP (fun c => ?_) (fun c => ?_) <;> simp (disch := omega) only [go_sem, c, d1, d2, h325]
      refine Br.ofP (fun c2 => ?_) (fun c2 => absurd (show (0 : Int) < ((j + 1 : Nat) : Int) by omega) c2)
      simp (disch := omega) only [go_sem, c, c2, d1, d2, h325]
      simp
end Go.Pv

/-
  Chapter 07: the document's symbols and members.
-/
namespace Go.Pv

def okId (b n : Int) : Bool := decide (b < n) && (decide (1 ≤ n) && decide (n ≤ 1000))
theorem r329 (b n : Int) : res A PrA 329 [.int .i64 b, .int .i64 n] = some [.bool (okId b n)] := by
  refine res_of a329 rfl rfl ?_
  simp only [F329]
  simp (disch := omega) only [go_sem]
  unfold okId
  repeat' (refine Br.ofP (fun h => ?_) (fun h => ?_) <;> simp (disch := omega) only [go_sem, h])
  all_goals simp [*]
def befI (l : List Nm) (k : Nat) : Int := match k with
  | 0 => 0
  | _ + 1 => prevI l k
theorem bad_of (l : List Nm) (k : Nat) (p : Nm) : badNm l k p = (!okId (befI l k) p.1 || !isName p.2 || hasS ((l.map (·.2)).take k) p.2) := by
  have h : (decide (p.1 < 1) || decide (1000 < p.1) || (decide (0 < k) && decide (p.1 ≤ prevI l k))) = !okId (befI l k) p.1 := by
    unfold okId
    rw [Bool.eq_iff_iff]
    cases k with
    | zero =>
      rw [Bool.not_eq_true', Bool.and_eq_false_iff, Bool.and_eq_false_iff, decide_eq_false_iff_not, decide_eq_false_iff_not, decide_eq_false_iff_not]
      simp only [befI, Bool.or_eq_true, Bool.and_eq_true, decide_eq_true_eq]
      omega
    | succ j =>
      rw [Bool.not_eq_true', Bool.and_eq_false_iff, Bool.and_eq_false_iff, decide_eq_false_iff_not, decide_eq_false_iff_not, decide_eq_false_iff_not]
      simp only [befI, Bool.or_eq_true, Bool.and_eq_true, decide_eq_true_eq]
      omega
  unfold badNm
  rw [h]
  generalize (!okId (befI l k) p.1) = x
  generalize hasS _ _ = y
  generalize isName _ = z
  cases x <;> cases y <;> cases z <;> rfl
theorem idsOk_no {l : List Nm} {k : Nat} {p : Nm} (hp : l[k]? = some p) (h : badNm l k p = true) : idsOk l = false := by
  have hk := (List.getElem?_eq_some_iff.1 hp).1
  unfold idsOk
  rw [Bool.not_eq_false', List.any_eq_true]
  exact ⟨k, List.mem_range.2 hk, by simp only [badAt, hp]; exact h⟩
theorem has_any {α : Type} (nm : α → Nm) (l : List α) (k : Nat) (x : ByteArray) : hasS (((l.map nm).map (·.2)).take k) x = (l.take k).any fun q => decide ((nm q).2 = x) := by
  unfold hasS
  rw [← List.map_take, ← List.map_take, List.any_map, List.any_map]
  rfl
theorem bef_next {l : List Nm} {k : Nat} {p : Nm} (hp : l[k]? = some p) : befI l (k + 1) = p.1 := by
  show prevI l (k + 1) = p.1
  unfold prevI
  rw [Nat.add_sub_cancel, hp]
  rfl
set_option maxHeartbeats 1000000 in
/-- symbols. -/
theorem r311 (t : Nat) (l : List Sym) (hl : l.length ≤ 2147483648) (hs : ∀ p ∈ l, strOk p.name) : res A PrA 311 [.lst t (l.map Sym.c)] = some [.bool (symsOk l)] := by
  refine res_of a311 rfl rfl ?_
  simp only [F311]
  simp (disch := omega) only [go_sem]
  refine W.find (List.range l.length) (badAt (l.map Sym.nm)) (fun k => ⟨[(0, .pv (.lst t (l.map Sym.c))), (3, .pv (.int .i64 (befI (l.map Sym.nm) k))), (4, .pv (.int .i64 k))], ⟨[], [], []⟩⟩) rfl (fun k x hx hk hfd => ?_) (fun hn => ?_)
  · obtain ⟨rfl, hk⟩ := range_get hx
    have hp := List.getElem?_eq_getElem hk
    generalize l[x] = p at hp
    have hq : (l.map Sym.nm)[x]? = some p.nm := by rw [List.getElem?_map, hp]; rfl
    have hnm := r310 p.name (hs p (List.mem_of_getElem? hp))
    have hid := r329 (befI (l.map Sym.nm) x) p.id
    have hb : badAt (l.map Sym.nm) x = (!okId (befI (l.map Sym.nm) x) p.id || !isName p.name || (l.take x).any fun q => decide (q.name = p.name)) := by
      simp only [badAt, hq]
      rw [bad_of, has_any]
      rfl
    have done : badAt (l.map Sym.nm) x = true → (some [PV.bool false] : Option (List PV)) = some [PV.bool (symsOk l)] := fun g => by
      refine fin_false ?_
      simp only [badAt, hq] at g
      simp only [symsOk, idsOk_no hq g, Bool.false_and, Bool.and_false]
    rw [hb] at done ⊢
    simp (disch := omega) only [go_sem]
    refine Br.ofP (fun c => ?_) (fun c => (c (by omega)).elim)
    simp (disch := omega) only [go_sem, hp, Sym.c, hid]
    refine Br.of (fun c1 => ?_) (fun c1 => ?_) <;> simp (disch := omega) only [go_sem, c1, hp, Sym.c, hnm]
    rotate_left
    · exact done (by simp [c1])
    refine Br.of (fun c2 => ?_) (fun c2 => ?_) <;> simp (disch := omega) only [go_sem, c2]
    rotate_left
    · exact done (by simp [c2])
    refine W.find (l.take x) (fun q => decide (q.name = p.name)) (fun j => ⟨[(0, .pv (.lst t (l.map Sym.c))), (4, .pv (.int .i64 x)), (5, .pv (.int .i64 j))], ⟨[], [], []⟩⟩) rfl (fun j q hj hjl hfd2 => ?_) (fun hn => ?_)
    · have hjl' : j < x ∧ j < l.length := by rw [List.length_take] at hjl; omega
      have hj' : l[j]? = some q := by
        rw [List.getElem?_take, if_pos hjl'.1] at hj
        exact hj
      simp (disch := omega) only [go_sem]
      refine Br.ofP (fun c => ?_) (fun c => (c (by omega)).elim)
      simp (disch := omega) only [go_sem, hp, hj', Sym.c]
      refine Br.ofP (fun c3 => ?_) (fun c3 => ?_) <;> simp (disch := omega) only [go_sem, c3]
      · exact done (by rw [(hfd2 (by simp [c3])).any, Bool.or_true])
      · exact findK.of (by simp [c3]) rfl
    · have hlx : (l.take x).length = x := by rw [List.length_take]; omega
      rw [hlx]
      simp (disch := omega) only [go_sem, hp, Sym.c]
      refine findK.of ?_ ?_
      · rw [hn.any, c1, c2]
        rfl
      · rw [bef_next hq]
        rfl
  · rw [List.length_range]
    simp (disch := omega) only [go_sem]
    have hi : idsOk (l.map Sym.nm) = true := by
      unfold idsOk
      rw [List.length_map, hn.any]
      rfl
    refine Br.ofP (fun c3 => ?_) (fun c3 => ?_) <;> simp (disch := omega) only [go_sem, c3]
    · have h0 : 0 < l.length := by omega
      simp [symsOk, hi, h0]
      omega
    · have h0 : ¬ 0 < l.length := by omega
      simp [symsOk, h0]
noncomputable def badMem (rec : Bool) (l : List Mem) (k : Nat) : Bool := match l[k]? with
  | some m => memBad rec m
  | none => false
set_option maxHeartbeats 4000000 in
/-- members. -/
theorem r312 (t : Nat) (l : List Mem) (rec : Bool) (hl : l.length ≤ 2147483648) (ho : ∀ p ∈ l, p.ok) : res A PrA 312 [.lst t (l.map Mem.c), .bool rec] = some [.bool (memsOk rec l)] := by
  refine res_of a312 rfl rfl ?_
  simp only [F312]
  simp (disch := omega) only [go_sem]
  refine W.find (List.range l.length) (fun k => badAt (l.map Mem.nm) k || badMem rec l k) (fun k => ⟨[(0, .pv (.lst t (l.map Mem.c))), (1, .pv (.bool rec)), (5, .pv (.int .i64 (befI (l.map Mem.nm) k))), (6, .pv (.int .i64 k))], ⟨[], [], []⟩⟩) rfl (fun k x hx hk hfd => ?_) (fun hn => ?_)
  · obtain ⟨rfl, hk⟩ := range_get hx
    have hp := List.getElem?_eq_getElem hk
    generalize l[x] = p at hp
    clear hfd
    have hq : (l.map Mem.nm)[x]? = some p.nm := by rw [List.getElem?_map, hp]; rfl
    obtain ⟨_, hsn, _, hd⟩ := ho p (List.mem_of_getElem? hp)
    have hnm := r310 p.name hsn
    have hid := r329 (befI (l.map Mem.nm) x) p.id
    have hz := r330v hd zero_ok
    rw [eqv_val] at hz
    have hb : badAt (l.map Mem.nm) x = (!okId (befI (l.map Mem.nm) x) p.id || !isName p.name || (l.take x).any fun q => decide (q.name = p.name)) := by
      simp only [badAt, hq]
      rw [bad_of, has_any]
      rfl
    have done : (badAt (l.map Mem.nm) x || memBad rec p) = true → (some [PV.bool false] : Option (List PV)) = some [PV.bool (memsOk rec l)] := fun g => by
      refine fin_false ?_
      rcases Bool.or_eq_true _ _ |>.mp g with g | g
      · simp only [badAt, hq] at g
        simp only [memsOk, idsOk_no hq g, Bool.false_and, Bool.and_false]
      · have : l.any (memBad rec) = true := List.any_eq_true.2 ⟨p, List.mem_of_getElem? hp, g⟩
        simp only [memsOk, this, Bool.not_true, Bool.false_and]
    have hbm : badMem rec l x = memBad rec p := by simp only [badMem, hp]
    rw [hbm]
    rw [hb] at done ⊢
    unfold memBad at done ⊢
    generalize eqv p.dflt zeroVal = z at hz done ⊢
    unfold zeroVal Val.c at hz
    simp only [List.map_nil] at hz
    simp (disch := omega) only [go_sem]
    refine Br.ofP (fun c => ?_) (fun c => (c (by omega)).elim)
    simp (disch := omega) only [go_sem, hp, Mem.c, hid]
    refine Br.of (fun c1 => ?_) (fun c1 => ?_) <;> simp (disch := omega) only [go_sem, c1, hnm]
    rotate_left
    · exact done (by simp [c1])
    refine Br.of (fun c2 => ?_) (fun c2 => ?_) <;> simp (disch := omega) only [go_sem, c2]
    rotate_left
    · exact done (by simp [c2])
    repeat' (refine Br.of (fun h => ?_) (fun h => ?_) <;> simp (disch := omega) only [go_sem, h, hz])
    all_goals subst_vars
    all_goals first
      | (refine done ?_
         simp [*]
         done)
      | skip
    all_goals
      refine W.find (l.take x) (fun q => decide (q.name = p.name)) ((fun (b : V) (cs : List V) => fun j => ⟨[(0, .pv (.lst t (l.map Mem.c))), (1, b), (6, .pv (.int .i64 x)), (7, .ptr 7 0), (8, .pv (.int .i64 (j : Nat)))], ⟨[(7, cs)], [], []⟩⟩) _ _) rfl (fun j q hj hjl hfd2 => ?_) (fun hn => ?_)
      · have hjl' : j < x ∧ j < l.length := by rw [List.length_take] at hjl; omega
        have hj' : l[j]? = some q := by
          rw [List.getElem?_take, if_pos hjl'.1] at hj
          exact hj
        simp (disch := omega) only [go_sem]
        refine Br.ofP (fun c => ?_) (fun c => (c (by omega)).elim)
        simp (disch := omega) only [go_sem, hj', Mem.c]
        refine Br.ofP (fun c3 => ?_) (fun c3 => ?_) <;> simp (disch := omega) only [go_sem, c3]
        · exact done (by rw [(hfd2 (by simp [c3])).any]; simp)
        · exact findK.of (by simp [c3]) rfl
      · have hlx : (l.take x).length = x := by rw [List.length_take]; omega
        rw [hlx]
        simp (disch := omega) only [go_sem]
        refine findK.of ?_ ?_
        · rw [hn.any, c1, c2]
          simp [*]
        · rw [bef_next hq]
          rfl
  · rw [List.length_range]
    simp (disch := omega) only [go_sem]
    have ha := hn.any
    rw [List.any_eq_false] at ha
    have hi : idsOk (l.map Mem.nm) = true := by
      unfold idsOk
      rw [Bool.not_eq_true', List.any_eq_false]
      intro k hk
      rw [List.length_map] at hk
      have := ha k hk
      simp only [Bool.or_eq_true, not_or] at this
      exact this.1
    have hb : l.any (memBad rec) = false := by
      rw [List.any_eq_false]
      intro m hm
      obtain ⟨k, hk⟩ := List.mem_iff_getElem?.1 hm
      have := ha k (List.mem_range.2 (List.getElem?_eq_some_iff.1 hk).1)
      simp only [Bool.or_eq_true, not_or, badMem, hk] at this
      simpa using this.2
    refine Br.ofP (fun c3 => ?_) (fun c3 => ?_) <;> simp (disch := omega) only [go_sem, c3]
    · refine Br.of (fun c4 => ?_) (fun c4 => ?_) <;> simp (disch := omega) only [go_sem, c4]
      · subst c4
        have n3 : l.length ≤ 16 := by omega
        simp only [memsOk, hi, hb, n3]
        simp
      · subst c4
        have n3 : l.length ≤ 16 := by omega
        simp only [memsOk, hi, hb, n3]
        congr 3
        rw [Bool.eq_iff_iff]
        simp
        omega
    · have n3 : ¬ l.length ≤ 16 := by omega
      simp only [memsOk, hi, hb, n3]
      simp
end Go.Pv

/-
  Chapter 07: the form of a type, in two ways.
-/
namespace Go.Pv

def zeroTyp : Typ := ⟨0, ⟨#[]⟩, 0, 0, 0, [], [], 0, 0, false⟩
/-- The fields that belong to a type's kind. -/
def plainTy (t : Typ) : Typ :=
  if t.kind = 1 then { zeroTyp with kind := 1 }
  else if t.kind = 2 then { zeroTyp with kind := 2, low := t.low, high := t.high }
  else if t.kind = 3 then { zeroTyp with kind := 3, max := t.max }
  else if t.kind = 4 then { zeroTyp with kind := 4, name := t.name, syms := t.syms, opn := t.opn }
  else if t.kind = 5 then { zeroTyp with kind := 5, name := t.name, mems := t.mems }
  else if t.kind = 6 then { zeroTyp with kind := 6, name := t.name, mems := t.mems, opn := t.opn }
  else if t.kind = 7 then { zeroTyp with kind := 7, max := t.max, elem := t.elem }
  else if t.kind = 8 then { zeroTyp with kind := 8, max := t.max, key := t.key, elem := t.elem }
  else { zeroTyp with kind := t.kind, elem := t.elem }
theorem kind_cases (k : Int) : k = 1 ∨ k = 2 ∨ k = 3 ∨ k = 4 ∨ k = 5 ∨ k = 6 ∨ k = 7 ∨ k = 8 ∨ (k ≠ 1 ∧ k ≠ 2 ∧ k ≠ 3 ∧ k ≠ 4 ∧ k ≠ 5 ∧ k ≠ 6 ∧ k ≠ 7 ∧ k ≠ 8) := by omega
theorem zeroTyp_ok : zeroTyp.ok := by
  refine ⟨?_, ?_, fun s hs => (List.not_mem_nil hs).elim, fun s hs => (List.not_mem_nil hs).elim⟩ <;> simp [zeroTyp, I64, strOk, lenOk]
  exact Nat.zero_le _
theorem plainT_ok {t : Typ} (h : t.ok) : (plainTy t).ok := by
  obtain ⟨⟨h0, h1, h2, h3, h4, h5, h6⟩, ⟨h7, h8⟩, h9, h10⟩ := h
  obtain ⟨⟨z0, z1, z2, z3, z4, z5, z6⟩, ⟨z7, z8⟩, z9, z10⟩ := zeroTyp_ok
  have kk : I64 1 ∧ I64 2 ∧ I64 3 ∧ I64 4 ∧ I64 5 ∧ I64 6 ∧ I64 7 ∧ I64 8 := by simp [I64]
  obtain ⟨k1, k2, k3, k4, k5, k6, k7, k8⟩ := kk
  unfold plainTy
  repeat' split
  all_goals exact ⟨⟨by assumption, by assumption, by assumption, by assumption, by assumption, by assumption, by assumption⟩, ⟨by assumption, by assumption⟩, by assumption, by assumption⟩
set_option maxHeartbeats 4000000 in
theorem r309 (t : Typ) : res A PrA 309 [.agg t.c] = some [.agg (plainTy t).c] := by
  obtain ⟨k, a2, a3, a4, a5, a6, a7, a8, a9, a10⟩ := t
  refine res_of a309 rfl rfl ?_
  simp only [F309]
  unfold plainTy Typ.c zeroTyp
  dsimp only
  rcases kind_cases k with rfl | rfl | rfl | rfl | rfl | rfl | rfl | rfl | ⟨n1, n2, n3, n4, n5, n6, n7, n8⟩
  all_goals simp (disch := omega) only [go_sem, *]
  all_goals simp
end Go.Pv

/-
  Chapter 07: is a type right, apart from the indices of types?
-/
namespace Go.Pv

noncomputable def kindOk (t : Typ) : Bool :=
  if t.kind = 2 then decide (t.low ≤ t.high)
  else if t.kind = 3 then decide (0 ≤ t.max) && decide (t.max ≤ 200)
  else if t.kind = 4 then symsOk t.syms
  else if t.kind = 5 then memsOk true t.mems
  else if t.kind = 6 then memsOk false t.mems
  else if t.kind = 7 then decide (0 ≤ t.max) && decide (t.max ≤ 50)
  else if t.kind = 8 then decide (0 ≤ t.max) && decide (t.max ≤ 50)
  else true
noncomputable def ownOk (t : Typ) : Bool := (decide (1 ≤ t.kind) && decide (t.kind ≤ 9)) && (eqv t (plainTy t) && ((!(decide (4 ≤ t.kind) && decide (t.kind ≤ 6)) || isName t.name) && kindOk t))
/-- Lists are not long. -/
structure Typ.short (t : Typ) : Prop where
  syms : t.syms.length ≤ 1048576
  mems : t.mems.length ≤ 1048576
set_option maxHeartbeats 4000000 in
/-- own. -/
theorem r285 (t : Typ) (ht : t.ok) (hs : t.short) : res A PrA 285 [.agg t.c] = some [.bool (ownOk t)] := by
  have h309 := r309 t
  have h295 := r295 t (plainTy t) ht (plainT_ok ht)
  obtain ⟨⟨o0, o1, _⟩, ⟨_, _⟩, oS, oM⟩ := ht
  have h310 := r310 t.name o1
  have h286 := r286 t.kind
  have h311 := fun u => r311 u t.syms (by have := hs.syms; omega) (fun p hp => (oS p hp).2)
  have h312 := fun u b => r312 u t.mems b (by have := hs.mems; omega) oM
  unfold ownOk
  generalize eqv t (plainTy t) = e at h295
  generalize plainTy t = p at h295 h309
  have hnm : ∀ b, e = false → (some [PV.bool false] : Option (List PV)) = some [PV.bool (b && (e && ((!(decide (4 ≤ t.kind) && decide (t.kind ≤ 6)) || isName t.name) && kindOk t)))] := fun b h => by
    rw [h, Bool.false_and, Bool.and_false]
  unfold Typ.c at *
  refine res_of a285 rfl rfl ?_
  simp only [F285]
  simp (disch := omega) only [go_sem]
  refine Br.ofP (fun c1 => ?_) (fun c1 => ?_) <;> simp (disch := omega) only [go_sem, c1]
  · have : ¬ 1 ≤ t.kind := by omega
    simp [this]
  refine Br.ofP (fun c2 => ?_) (fun c2 => ?_) <;> simp (disch := omega) only [go_sem, c2]
  · have : ¬ t.kind ≤ 9 := by omega
    simp [this]
  have k1 : decide (1 ≤ t.kind) = true := by simp; omega
  have k2 : decide (t.kind ≤ 9) = true := by simp; omega
  rw [k1, k2]
  simp (disch := omega) only [go_sem, h309, h295]
  refine Br.of (fun c3 => ?_) (fun c3 => ?_) <;> simp (disch := omega) only [go_sem, c3, h286]
  subst c3
  unfold kindOk
  by_cases hn : 4 ≤ t.kind ∧ t.kind ≤ 6
  · have c4 : (decide (4 ≤ t.kind) && decide (t.kind ≤ 6)) = true := by simp [hn]
    rw [c4]
    simp (disch := omega) only [go_sem, h310]
    refine Br.of (fun c5 => ?_) (fun c5 => ?_) <;> simp (disch := omega) only [go_sem, c5]
    have hk : t.kind = 4 ∨ t.kind = 5 ∨ t.kind = 6 := by omega
    rcases hk with hk | hk | hk
    all_goals simp (disch := omega) only [go_sem, hk, h311, h312]
    all_goals simp [c5]
  · have c4 : (decide (4 ≤ t.kind) && decide (t.kind ≤ 6)) = false := by
      rw [Bool.eq_false_iff]
      simp
      omega
    rw [c4]
    simp (disch := omega) only [go_sem]
    have hk : t.kind = 1 ∨ t.kind = 2 ∨ t.kind = 3 ∨ t.kind = 7 ∨ t.kind = 8 ∨ t.kind = 9 := by omega
    rcases hk with hk | hk | hk | hk | hk | hk
    all_goals simp (disch := omega) only [go_sem, hk]
    all_goals first
      | (simp [hk]
         done)
      | (refine Br.ofP (fun c6 => ?_) (fun c6 => ?_) <;> simp (disch := omega) only [go_sem, c6]
         all_goals simp [hk])

theorem eqv_zero {t p : Typ} {k : Int} {z : Typ} (h : z = zeroTyp ↔ t = p) (_hk : k = k) : eqv z zeroTyp = eqv t p := by
  rw [Bool.eq_iff_iff, eqv_iff, eqv_iff]
  exact h
set_option maxHeartbeats 8000000 in
/-- form. -/
theorem r283 (t : Typ) (ht : t.ok) (hs : t.short) : res A PrA 283 [.agg t.c] = some [.bool (ownOk t)] := by
  have h297 := fun z hz => r297 z zeroTyp hz zeroTyp_ok
  have h308 := r308 t ht (by have := hs.mems; omega)
  have ht' := ht
  obtain ⟨⟨o0, o1, o2, o3, o4, o5, o6⟩, ⟨l1, l2⟩, oS, oM⟩ := ht
  have h306 := r306 t.name o1
  have h307 := fun u => r307 u t.syms (by have := hs.syms; omega) (fun p hp => (oS p hp).2)
  obtain ⟨k, a2, a3, a4, a5, a6, a7, a8, a9, a10⟩ := t
  unfold ownOk plainTy kindOk
  unfold zeroTyp Typ.c at *
  dsimp only at *
  refine res_of a283 rfl rfl ?_
  simp only [F283]
  simp (disch := omega) only [go_sem]
  have no : ∀ {z : Bool}, z = false → (some [PV.bool false] : Option (List PV)) = some [PV.bool z] := fun h => by rw [h]
  have ze : ∀ {x y z p : Typ}, (x = y ↔ z = p) → eqv x y = eqv z p := fun {x y z p} h => by
    rw [Bool.eq_iff_iff, eqv_iff, eqv_iff]
    exact h
  have okz : ∀ (k : Int) (a2 : ByteArray) (a3 a4 a5 : Int) (a6 : List Sym) (a7 : List Mem) (a8 a9 : Int) (a10 : Bool), I64 k → strOk a2 → I64 a3 → I64 a4 → I64 a5 → lenOk a6 → lenOk a7 → (∀ s ∈ a6, s.ok) → (∀ m ∈ a7, m.ok) → I64 a8 → I64 a9 → (⟨k, a2, a3, a4, a5, a6, a7, a8, a9, a10⟩ : Typ).ok :=
    fun k a2 a3 a4 a5 a6 a7 a8 a9 a10 h1 h2 h3 h4 h5 h6 h7 h8 h9 h10 h11 => ⟨⟨h1, h2, h3, h4, h5, h10, h11⟩, ⟨h6, h7⟩, h8, h9⟩
  have i0 : I64 0 := by simp [I64]
  have s0 : strOk ⟨#[]⟩ := by simp [strOk]; exact Nat.zero_le _
  have y0 : lenOk ([] : List Sym) := by simp [lenOk]
  have m0 : lenOk ([] : List Mem) := by simp [lenOk]
  have y1 : ∀ s ∈ ([] : List Sym), s.ok := fun s hs => (List.not_mem_nil hs).elim
  have m1 : ∀ s ∈ ([] : List Mem), s.ok := fun s hs => (List.not_mem_nil hs).elim
  rcases kind_cases k with rfl | rfl | rfl | rfl | rfl | rfl | rfl | rfl | ⟨n1, n2, n3, n4, n5, n6, n7, n8⟩
  · have hz := h297 ⟨0, a2, a3, a4, a5, a6, a7, a8, a9, a10⟩ (okz _ _ _ _ _ _ _ _ _ _ i0 o1 o2 o3 o4 l1 l2 oS oM o5 o6)
    simp only [List.map_nil] at hz
    simp (disch := omega) only [go_sem, hz]
    rw [ze (z := ⟨1, a2, a3, a4, a5, a6, a7, a8, a9, a10⟩) (p := ⟨1, ⟨#[]⟩, 0, 0, 0, [], [], 0, 0, false⟩) (by simp)]
  · have hz := h297 ⟨0, a2, 0, 0, a5, a6, a7, a8, a9, a10⟩ (okz _ _ _ _ _ _ _ _ _ _ i0 o1 i0 i0 o4 l1 l2 oS oM o5 o6)
    simp only [List.map_nil] at hz
    simp (disch := omega) only [go_sem]
    refine Br.ofP (fun c => ?_) (fun c => ?_) <;> simp (disch := omega) only [go_sem, c, hz]
    · rw [ze (z := ⟨2, a2, a3, a4, a5, a6, a7, a8, a9, a10⟩) (p := ⟨2, ⟨#[]⟩, a3, a4, 0, [], [], 0, 0, false⟩) (by simp)]
  · have hz := h297 ⟨0, a2, a3, a4, 0, a6, a7, a8, a9, a10⟩ (okz _ _ _ _ _ _ _ _ _ _ i0 o1 o2 o3 i0 l1 l2 oS oM o5 o6)
    simp only [List.map_nil] at hz
    simp (disch := omega) only [go_sem]
    refine Br.ofP (fun c => ?_) (fun c => ?_) <;> simp (disch := omega) only [go_sem, c]
    · refine Br.ofP (fun c2 => ?_) (fun c2 => ?_) <;> simp (disch := omega) only [go_sem, c2, hz]
      · rw [ze (z := ⟨3, a2, a3, a4, a5, a6, a7, a8, a9, a10⟩) (p := ⟨3, ⟨#[]⟩, 0, 0, a5, [], [], 0, 0, false⟩) (by simp)]
        simp [c]
  · have hz := h297 ⟨0, ⟨#[]⟩, a3, a4, a5, [], a7, a8, a9, false⟩ (okz _ _ _ _ _ _ _ _ _ _ i0 s0 o2 o3 o4 y0 l2 y1 oM o5 o6)
    simp only [List.map_nil] at hz
    simp (disch := omega) only [go_sem, h306]
    refine Br.of (fun c => ?_) (fun c => ?_) <;> simp (disch := omega) only [go_sem, c, h307]
    · refine Br.of (fun c2 => ?_) (fun c2 => ?_) <;> simp (disch := omega) only [go_sem, c2, hz]
      · rw [ze (z := ⟨4, a2, a3, a4, a5, a6, a7, a8, a9, a10⟩) (p := ⟨4, a2, 0, 0, 0, a6, [], 0, 0, a10⟩) (by simp)]
        simp [c]
  · have hz := h297 ⟨0, ⟨#[]⟩, a3, a4, a5, a6, [], a8, a9, a10⟩ (okz _ _ _ _ _ _ _ _ _ _ i0 s0 o2 o3 o4 l1 m0 oS m1 o5 o6)
    simp only [List.map_nil] at hz
    have h308 := h308 (by simp)
    simp (disch := omega) only [go_sem, h306]
    refine Br.of (fun c => ?_) (fun c => ?_) <;> simp (disch := omega) only [go_sem, c, h308]
    · cases a10 with
      | false =>
        simp (disch := omega) only [go_sem]
        refine Br.of (fun c2 => ?_) (fun c2 => ?_) <;> simp (disch := omega) only [go_sem, c2, hz]
        rw [ze (z := ⟨5, a2, a3, a4, a5, a6, a7, a8, a9, false⟩) (p := ⟨5, a2, 0, 0, 0, [], a7, 0, 0, false⟩) (by simp)]
        have c2' : memsOk true a7 = true := by simpa using c2
        simp [c]
      | true =>
        simp (disch := omega) only [go_sem]
        refine Br.of (fun c2 => ?_) (fun c2 => ?_) <;> simp (disch := omega) only [go_sem, c2, hz]
        rw [ze (z := ⟨5, a2, a3, a4, a5, a6, a7, a8, a9, true⟩) (p := ⟨5, a2, 0, 0, 0, [], a7, 0, 0, false⟩) (by simp)]
        have c2' : memsOk true a7 = true := by simpa using c2
        simp [c]
    · cases a10 <;> simp (disch := omega) only [go_sem] <;> exact no (by simp [c])
  · have hz := h297 ⟨0, ⟨#[]⟩, a3, a4, a5, a6, [], a8, a9, false⟩ (okz _ _ _ _ _ _ _ _ _ _ i0 s0 o2 o3 o4 l1 m0 oS m1 o5 o6)
    simp only [List.map_nil] at hz
    have h308 := h308 (by simp)
    simp (disch := omega) only [go_sem, h306]
    refine Br.of (fun c => ?_) (fun c => ?_) <;> simp (disch := omega) only [go_sem, c, h308]
    · cases a10 with
      | false =>
        simp (disch := omega) only [go_sem]
        refine Br.of (fun c2 => ?_) (fun c2 => ?_) <;> simp (disch := omega) only [go_sem, c2, hz]
        rw [ze (z := ⟨6, a2, a3, a4, a5, a6, a7, a8, a9, false⟩) (p := ⟨6, a2, 0, 0, 0, [], a7, 0, 0, false⟩) (by simp)]
        have c2' : memsOk false a7 = true := by simpa using c2
        simp [c]
      | true =>
        simp (disch := omega) only [go_sem]
        refine Br.of (fun c2 => ?_) (fun c2 => ?_) <;> simp (disch := omega) only [go_sem, c2, hz]
        rw [ze (z := ⟨6, a2, a3, a4, a5, a6, a7, a8, a9, true⟩) (p := ⟨6, a2, 0, 0, 0, [], a7, 0, 0, true⟩) (by simp)]
        have c2' : memsOk false a7 = true := by simpa using c2
        simp [c]
    · cases a10 <;> simp (disch := omega) only [go_sem] <;> exact no (by simp [c])
  · have hz := h297 ⟨0, a2, a3, a4, 0, a6, a7, a8, 0, a10⟩ (okz _ _ _ _ _ _ _ _ _ _ i0 o1 o2 o3 i0 l1 l2 oS oM o5 i0)
    simp only [List.map_nil] at hz
    simp (disch := omega) only [go_sem]
    refine Br.ofP (fun c => ?_) (fun c => ?_) <;> simp (disch := omega) only [go_sem, c]
    · refine Br.ofP (fun c2 => ?_) (fun c2 => ?_) <;> simp (disch := omega) only [go_sem, c2, hz]
      · rw [ze (z := ⟨7, a2, a3, a4, a5, a6, a7, a8, a9, a10⟩) (p := ⟨7, ⟨#[]⟩, 0, 0, a5, [], [], 0, a9, false⟩) (by simp)]
        simp [c]
  · have hz := h297 ⟨0, a2, a3, a4, 0, a6, a7, 0, 0, a10⟩ (okz _ _ _ _ _ _ _ _ _ _ i0 o1 o2 o3 i0 l1 l2 oS oM i0 i0)
    simp only [List.map_nil] at hz
    simp (disch := omega) only [go_sem]
    refine Br.ofP (fun c => ?_) (fun c => ?_) <;> simp (disch := omega) only [go_sem, c]
    · refine Br.ofP (fun c2 => ?_) (fun c2 => ?_) <;> simp (disch := omega) only [go_sem, c2, hz]
      · rw [ze (z := ⟨8, a2, a3, a4, a5, a6, a7, a8, a9, a10⟩) (p := ⟨8, ⟨#[]⟩, 0, 0, a5, [], [], a8, a9, false⟩) (by simp)]
        simp [c]
  · have hz := h297 ⟨0, a2, a3, a4, a5, a6, a7, a8, 0, a10⟩ (okz _ _ _ _ _ _ _ _ _ _ i0 o1 o2 o3 o4 l1 l2 oS oM o5 i0)
    simp only [List.map_nil] at hz
    simp (disch := omega) only [go_sem, n1, n2, n3, n4, n5, n6, n7, n8]
    refine Br.ofP (fun c => ?_) (fun c => ?_) <;> simp (disch := omega) only [go_sem, c, hz]
    · rw [ze (z := ⟨k, a2, a3, a4, a5, a6, a7, a8, a9, a10⟩) (p := ⟨k, ⟨#[]⟩, 0, 0, 0, [], [], 0, a9, false⟩) (by simp)]
      simp [c]
    · refine no ?_
      have : (decide (1 ≤ k) && decide (k ≤ 9)) = false := by
        rw [Bool.eq_false_iff]
        simp
        omega
      rw [this, Bool.false_and]
end Go.Pv

/-
  Schemas of a bulk.
-/
namespace Go.Pv

theorem lst_small {M t : Nat} {rows : List (List PV)} (h : Small M (.lst t rows)) : rows.length ≤ M ∧ ∀ r ∈ rows, ∀ c ∈ r, Small M c := by
  cases h with
  | lst _ _ h1 h2 => exact ⟨h1, h2⟩
theorem typ_short {t : Typ} (h : ∀ c ∈ t.c, Small 1048576 c) : t.short := by
  have h1 := (lst_small (h (.lst 0 (t.syms.map Sym.c)) (by simp [Typ.c]))).1
  have h2 := (lst_small (h (.lst 0 (t.mems.map Mem.c)) (by simp [Typ.c]))).1
  rw [List.length_map] at h1 h2
  exact ⟨h1, h2⟩
theorem sch_small {l : List Typ} (h : ∀ c ∈ [PV.lst 0 (l.map Typ.c)], Small 1048576 c) : l.length ≤ 1048576 ∧ ∀ t ∈ l, t.short := by
  obtain ⟨h1, h2⟩ := lst_small (h _ (List.mem_singleton.2 rfl))
  rw [List.length_map] at h1
  exact ⟨h1, fun t ht => typ_short (h2 _ (List.mem_map_of_mem ht))⟩
end Go.Pv

/-
  Chapter 07: the types that a type uses.
-/
namespace Go.Pv

def keysT (t : Typ) : List Int := if t.kind = 8 then [t.key] else []
def elemsT (t : Typ) : List Int := if 7 ≤ t.kind then [t.elem] else []
/-- The types that a type uses, with repetitions. -/
def usesT (t : Typ) : List Int := t.mems.map (·.type) ++ keysT t ++ elemsT t
set_option maxHeartbeats 2000000 in
/-- uses. -/
theorem r284 (t : Typ) (hs : t.short) : res A PrA 284 [.agg t.c] = some [.lst 0 (ints (usesT t))] := by
  have hl := hs.mems
  obtain ⟨k, a2, a3, a4, a5, a6, l, a8, a9, a10⟩ := t
  unfold usesT keysT elemsT Typ.c
  dsimp only at *
  refine res_of a284 rfl rfl ?_
  simp only [F284]
  simp (disch := omega) only [go_sem]
  refine W.upto l.length (fun j => ⟨[(1, .ptr 1 0), (3, grV 0 (ints ((l.take j).map (·.type)))), (7, .pv (.lst 0 (l.map Mem.c))), (8, .pv (.int .i64 l.length)), (9, .pv (.int .i64 j))], ⟨[(1, [.pv (.int .i64 k), .pv (.str a2), .pv (.int .i64 a3), .pv (.int .i64 a4), .pv (.int .i64 a5), .pv (.lst 0 (a6.map Sym.c)), .pv (.lst 0 (l.map Mem.c)), .pv (.int .i64 a8), .pv (.int .i64 a9), .pv (.bool a10)])], grA 1 (ints ((l.take j).map (·.type))), []⟩⟩) (fun _ => True) rfl trivial (fun j hj _ => ?_)
  rcases Nat.lt_or_ge j l.length with hlt | hge
  · have hp := List.getElem?_eq_getElem hlt
    generalize l[j] = p at hp
    have t1 : (l.take (j + 1)).map (·.type) = (l.take j).map (·.type) ++ [p.type] := by rw [List.take_add_one, hp, List.map_append]; rfl
    have l1 : ((l.take j).map (·.type)).length = j := by simp; omega
    generalize (l.take j).map (·.type) = u at t1 l1
    simp (disch := omega) only [go_sem]
    refine Br.ofP (fun c => ?_) (fun c => (c (by omega)).elim)
    simp (disch := omega) only [go_sem, hp, Mem.c]
    refine .of (by omega) ?_ trivial
    rw [t1]
    rfl
  · obtain rfl : j = l.length := by omega
    rw [List.take_length]
    have l1 : (l.map (·.type)).length = l.length := by simp
    generalize l.map (·.type) = u at l1
    simp (disch := omega) only [go_sem]
    refine Br.ofP (fun c => ?_) (fun c => ?_) <;> simp (disch := omega) only [go_sem, c]
    · have l2 : (u ++ [a8]).length = l.length + 1 := by simp [l1]
      have h7 : 7 ≤ k := by omega
      simp (disch := omega) only [go_sem]
      simp [c]
    · refine Br.ofP (fun c2 => ?_) (fun c2 => ?_) <;> simp (disch := omega) only [go_sem, c2]
      · simp [c]
      · simp [c]
set_option maxHeartbeats 2000000 in
/-- uses, of the document. -/
theorem r287 (t : Typ) (hs : t.short) (h9 : t.kind ≤ 9) : res A PrA 287 [.agg t.c] = some [.lst 0 (ints (usesT t))] := by
  have hl := hs.mems
  obtain ⟨k, a2, a3, a4, a5, a6, l, a8, a9, a10⟩ := t
  unfold usesT keysT elemsT Typ.c
  dsimp only at *
  refine res_of a287 rfl rfl ?_
  simp only [F287]
  simp (disch := omega) only [go_sem]
  refine W.upto l.length (fun j => ⟨[(1, .ptr 1 0), (3, grV 0 (ints ((l.take j).map (·.type)))), (4, .pv (.int .i64 j))], ⟨[(1, [.pv (.int .i64 k), .pv (.str a2), .pv (.int .i64 a3), .pv (.int .i64 a4), .pv (.int .i64 a5), .pv (.lst 0 (a6.map Sym.c)), .pv (.lst 0 (l.map Mem.c)), .pv (.int .i64 a8), .pv (.int .i64 a9), .pv (.bool a10)])], grA 1 (ints ((l.take j).map (·.type))), []⟩⟩) (fun _ => True) rfl trivial (fun j hj _ => ?_)
  rcases Nat.lt_or_ge j l.length with hlt | hge
  · have hp := List.getElem?_eq_getElem hlt
    generalize l[j] = p at hp
    have t1 : (l.take (j + 1)).map (·.type) = (l.take j).map (·.type) ++ [p.type] := by rw [List.take_add_one, hp, List.map_append]; rfl
    have l1 : ((l.take j).map (·.type)).length = j := by simp; omega
    generalize (l.take j).map (·.type) = u at t1 l1
    simp (disch := omega) only [go_sem]
    refine Br.ofP (fun c => ?_) (fun c => (c (by omega)).elim)
    simp (disch := omega) only [go_sem, hp, Mem.c]
    refine .of (by omega) ?_ trivial
    rw [t1]
    rfl
  · obtain rfl : j = l.length := by omega
    rw [List.take_length]
    have l1 : (l.map (·.type)).length = l.length := by simp
    generalize l.map (·.type) = u at l1
    have l2 : (u ++ [a8]).length = l.length + 1 := by simp [l1]
    simp (disch := omega) only [go_sem]
    refine Br.ofP (fun c => ?_) (fun c => ?_) <;> simp (disch := omega) only [go_sem, c]
    refine Br.ofP (fun c2 => ?_) (fun c2 => ?_) <;> simp (disch := omega) only [go_sem, c, c2]
    refine Br.ofP (fun c3 => ?_) (fun c3 => ?_) <;> simp (disch := omega) only [go_sem, c3]
    have h7 : ¬ 7 ≤ k := by omega
    simp [c, h7]
/-- KeyKind. -/
theorem r288 (k : Int) : res A PrA 288 [.int .i64 k] = some [.bool (decide (1 ≤ k) && decide (k ≤ 4))] := by
  refine res_of a288 rfl rfl ?_
  simp only [F288]
  simp (disch := omega) only [go_sem]
  refine Br.ofP (fun c => ?_) (fun c => ?_) <;> simp (disch := omega) only [go_sem, c]
end Go.Pv

