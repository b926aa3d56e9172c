/-
  What the functions of the law give.
-/
import Derived.Test.YtnhbggnlnfcpkaaC3
set_option linter.unusedSimpArgs false
set_option linter.unusedVariables false
/-
  Chapter 05: topological orders.
-/
namespace Go.Pv
def topRes (n : Nat) (es : List (Int × Int)) : List PV := match topF n es n with
  | some L => [.lst 0 (ints L), .int .i64 0]
  | none => [.lst 0 [], .int .i64 9]
theorem topF_stop {n : Nat} {es : List (Int × Int)} {k : Nat} (h : topF n es k = none) : ∀ j, topF n es (k + j) = none
  | 0 => h
  | j + 1 => by
    show (topF n es (k + j)).bind _ = none
    rw [topF_stop h j]
    rfl
theorem topRes_none {n : Nat} {es : List (Int × Int)} {k : Nat} {L : List Int} (h : topF n es k = some L) (hk : k < n) (hr : (List.range n).any (fun (v : Nat) => ready es L v) = false) : topRes n es = [.lst 0 [], .int .i64 9] := by
  have h1 : topF n es (k + 1) = none := by
    show (topF n es k).bind _ = none
    rw [h]
    show (if (List.range n).any (fun (v : Nat) => ready es L v) = true then some (L ++ [leastN n (ready es L)]) else none) = none
    rw [hr]
    rfl
  have h2 := topF_stop h1 (n - (k + 1))
  rw [show k + 1 + (n - (k + 1)) = n by omega] at h2
  unfold topRes
  rw [h2]
theorem topRes_some {n : Nat} {es : List (Int × Int)} {L : List Int} (h : topF n es n = some L) : topRes n es = [.lst 0 (ints L), .int .i64 0] := by
  unfold topRes
  rw [h]
theorem topF_next {n : Nat} {es : List (Int × Int)} {k : Nat} {L : List Int} (h : topF n es k = some L) (hr : (List.range n).any (fun (v : Nat) => ready es L v) = true) : topF n es (k + 1) = some (L ++ [leastN n (ready es L)]) := by
  show (topF n es k).bind _ = _
  rw [h]
  show (if (List.range n).any (fun (v : Nat) => ready es L v) = true then some (L ++ [leastN n (ready es L)]) else none) = _
  rw [if_pos hr]
/-- A bump is a store. -/
theorem bump_get {d : List Int} {x : Int} (h0 : 0 ≤ x) (h1 : x < d.length) : d[x.toNat]? = some (d.getD x.toNat (-1)) := by
  have : x.toNat < d.length := by omega
  simp [this]
set_option maxHeartbeats 4000000 in
/-- Topological. -/
theorem r356 (t : Nat) (n : Int) (es : List (Int × Int)) (hn : n ≤ 12 ∨ 2000 < n) (hl : es.length ≤ 2 ^ 63 - 1) : res A PrA 356 [.int .i64 n, .lst t (prs es)] = some (if gErr n es = 0 then topRes n.toNat es else [.lst 0 [], .int .i64 (gErr n es)]) := by
  refine res_of a356 rfl rfl ?_
  simp only [F356]
  have h128 := r128 t n es hl
  simp (disch := omega) only [go_sem, h128]
  refine Br.ofP (fun h1 => ?_) (fun h1 => ?_) <;> simp (disch := omega) only [go_sem, h1]
  rw [if_pos h1]
  obtain ⟨f1, f2, f3, f4⟩ := gErr_zero h1
  obtain ⟨m, rfl⟩ := Int.eq_ofNat_of_zero_le f1
  rw [Int.toNat_natCast] at f4 ⊢
  have h115 := r115 t m es (by omega) (by omega) f4
  have hok := succs_ok f4 (by omega)
  have hsl := succs_len m es
  simp (disch := omega) only [go_sem, h115]
  refine W.fold (succs m es) (fun d r => r.foldl (bump 1) d) (List.replicate m 0) (fun j d => ⟨[(0, .pv (.int .i64 m)), (7, .pv (.lst 0 (lls (succs m es)))), (8, .own 0 0 0 m), (28, .pv (.lst 0 (lls (succs m es)))), (29, .pv (.int .i64 (succs m es).length)), (30, .pv (.int .i64 j))], ⟨[], [⟨0, 1, .inl (ints d)⟩], []⟩⟩) (fun j d => CInv m (succs m es) j d) rfl (CInv.zero m _) (fun j r d hr hj _ hi => ?_) (fun d _ hi => ?_)
  · obtain ⟨r1, r2⟩ := hok r (List.mem_of_getElem? hr)
    have hs := hi.succ hr r2
    have hdl : d.length = m := hi.len
    have hval : ∀ x : Int, 0 ≤ x → x < m → 0 ≤ d.getD x.toNat (-1) ∧ d.getD x.toNat (-1) ≤ 100000 * 12 := fun x x0 x1 => by
      have h := hi.val x.toNat (by omega)
      have := pendF_le (f := pend (succs m es) [] (x.toNat : Int)) (m := 100000) (n := j) (fun u hu => by
        have hu2 := List.getElem?_eq_getElem (l := succs m es) (i := u) (by omega)
        have := (hok _ (List.getElem_mem (l := succs m es) (n := u) (by omega))).1
        unfold pend nxt
        simp only [List.not_mem_nil, if_false, List.getD_eq_getElem?_getD, Int.toNat_natCast, hu2, Option.getD_some]
        exact Nat.le_trans List.count_le_length this)
      omega
    simp (disch := omega) only [go_sem]
    refine Br.ofP (fun c => ?_) (fun c => (c (by omega)).elim)
    simp (disch := omega) only [go_sem, hr]
    refine W.fold r (bump 1) d (fun i d => ⟨[(0, .pv (.int .i64 m)), (7, .pv (.lst 0 (lls (succs m es)))), (8, .own 0 0 0 m), (28, .pv (.lst 0 (lls (succs m es)))), (29, .pv (.int .i64 (succs m es).length)), (30, .pv (.int .i64 j)), (34, .pv (.lst 0 (ints r))), (35, .pv (.int .i64 r.length)), (36, .pv (.int .i64 i))], ⟨[], [⟨0, 1, .inl (ints d)⟩], []⟩⟩) (fun _ _ => True) rfl trivial (fun i x d' hx hi2 hacc _ => ?_) (fun d' hacc _ => ?_)
    · obtain ⟨b1, b2⟩ := bump_fold 1 (r.take i) d (by rw [hdl]; exact fun y hy => r2 y (List.mem_of_mem_take hy))
      rw [← hacc] at b1 b2
      obtain ⟨x0, x1⟩ := r2 x (List.mem_of_getElem? hx)
      have hv := b2 x.toNat (by omega)
      obtain ⟨v1, v2⟩ := hval x x0 x1
      have hct := List.count_le_length (a := ((x.toNat : Nat) : Int)) (l := r.take i)
      rw [List.length_take] at hct
      have hg := bump_get (d := d') x0 (by omega)
      have hbd : bump 1 d' x = d'.set x.toNat (d'.getD x.toNat (-1) + 1) := rfl
      rw [hbd]
      generalize d'.getD x.toNat (-1) = y at *
      simp (disch := omega) only [go_sem]
      refine Br.ofP (fun c => ?_) (fun c => (c (by omega)).elim)
      simp (disch := omega) only [go_sem, hx, hg]
      exact foldK.of rfl trivial
    · simp (disch := omega) only [go_sem]
      rw [hacc]
      exact foldK.of rfl hs
  · rw [hsl] at hi
    have hK := hi.done
    clear hi
    simp (disch := omega) only [go_sem]
    refine W.loop (α := Nat × List Int × List Int) (fun q => ⟨[(7, .pv (.lst 0 (lls (succs m es)))), (8, .own 0 0 0 m), (13, grV 1 (ints q.2.1)), (48, .pv (.int .i64 m)), (49, .pv (.int .i64 q.1))], ⟨[], ⟨0, 1, .inl (ints q.2.2)⟩ :: grA 1 (ints q.2.1), []⟩⟩)
      (fun q => q.1 ≤ m ∧ topF m es q.1 = some q.2.1 ∧ KInv m (succs m es) q.2.1 q.2.2) (fun q => m - q.1) (0, [], d) rfl ⟨Nat.zero_le _, rfl, hK⟩ fun q hq => ?_
    obtain ⟨k, L, d⟩ := q
    obtain ⟨k1, k2, k3⟩ := hq
    dsimp only at k1 k2 k3
    have hLl := (topF_ok k2).len
    have hdl := k3.len
    have htk : d.take m = d := List.take_of_length_le (by omega)
    simp (disch := omega) only [go_sem]
    refine Br.ofP (fun c => ?_) (fun c => ?_)
    · obtain ⟨a1, a2⟩ := atL_least hdl (k3.zero_iff f4 (topF_ok k2))
      cases hr : (List.range m).any (fun (v : Nat) => ready es L v) with
      | false =>
        have := a2 hr
        simp (disch := omega) only [go_sem, htk]
        refine Br.ofP (fun c2 => ?_) (fun c2 => (c2 (by omega)).elim)
        simp (disch := omega) only [go_sem]
        rw [topRes_none k2 (by omega) hr]
      | true =>
        have ha := a1 hr
        have hnx := topF_next k2 hr
        obtain ⟨l1, l2, l3⟩ := least_ready hr
        have hKs := k3.step f4 (topF_ok k2) l1 l2 l3
        generalize leastN m (ready es L) = x at *
        have hxg := bump_get (d := d) l1 (by omega)
        have hsv : (succs m es)[x.toNat]? = some (nxt (succs m es) x) := by
          have : x.toNat < (succs m es).length := by rw [succs_len]; omega
          simp [nxt, this]
        obtain ⟨q1, q2⟩ := hok _ (List.mem_of_getElem? hsv)
        simp (disch := omega) only [go_sem, htk, ha]
        refine Br.ofP (fun c2 => absurd c2 (by omega)) (fun c2 => ?_)
        simp (disch := omega) only [go_sem, idxR_int, hsv]
        have hd0 : (d.set x.toNat (-1)).length = m := by rw [List.length_set, hdl]
        have hval : ∀ v : Nat, v < m → -1 ≤ (d.set x.toNat (-1)).getD v (-1) ∧ (d.set x.toNat (-1)).getD v (-1) ≤ 100000 * 12 := fun v hv => by
          have h := k3.val v hv
          have := pendF_le (f := pend (succs m es) L v) (m := 100000) (n := m) (fun u hu => by
            have hu2 := List.getElem?_eq_getElem (l := succs m es) (i := u) (by omega)
            have := (hok _ (List.getElem_mem (l := succs m es) (n := u) (by omega))).1
            unfold pend nxt
            simp only [List.getD_eq_getElem?_getD, Int.toNat_natCast, hu2, Option.getD_some]
            split
            · omega
            · exact Nat.le_trans List.count_le_length this)
          by_cases e : x.toNat = v
          · rw [← e]
            have : (d.set x.toNat (-1)).getD x.toNat (-1) = -1 := by simp [show x.toNat < d.length by omega]
            omega
          · have hg : (d.set x.toNat (-1)).getD v (-1) = d.getD v (-1) := by
              simp only [List.getD_eq_getElem?_getD, List.getElem?_set_ne e]
            rw [hg, h]
            split <;> omega
        generalize d.set x.toNat (-1) = d0 at *
        generalize nxt (succs m es) x = r at *
        refine W.fold r (bump (-1)) d0 (fun i d => ⟨[(7, .pv (.lst 0 (lls (succs m es)))), (8, .own 0 0 0 m), (13, grV 1 (ints (L ++ [x]))), (48, .pv (.int .i64 m)), (49, .pv (.int .i64 k)), (65, .pv (.lst 0 (ints r))), (66, .pv (.int .i64 r.length)), (67, .pv (.int .i64 i))], ⟨[], ⟨0, 1, .inl (ints d)⟩ :: grA 1 (ints (L ++ [x])), []⟩⟩) (fun _ _ => True) rfl trivial (fun i y d' hy hi hacc _ => ?_) (fun d' hacc _ => ?_)
        · obtain ⟨b1, b2⟩ := bump_fold (-1) (r.take i) d0 (by rw [hd0]; exact fun y hy => q2 y (List.mem_of_mem_take hy))
          rw [← hacc] at b1 b2
          obtain ⟨y0, y1⟩ := q2 y (List.mem_of_getElem? hy)
          have hv := b2 y.toNat (by omega)
          obtain ⟨v1, v2⟩ := hval y.toNat (by omega)
          have hct := List.count_le_length (a := ((y.toNat : Nat) : Int)) (l := r.take i)
          rw [List.length_take] at hct
          have hg := bump_get (d := d') y0 (by omega)
          have hbd : bump (-1) d' y = d'.set y.toNat (d'.getD y.toNat (-1) - 1) := rfl
          rw [hbd]
          generalize d'.getD y.toNat (-1) = z at *
          simp (disch := omega) only [go_sem]
          refine Br.ofP (fun c => ?_) (fun c => (c (by omega)).elim)
          simp (disch := omega) only [go_sem, hy, hg]
          exact foldK.of rfl trivial
        · simp (disch := omega) only [go_sem]
          rw [← hacc] at hKs
          exact ⟨(k + 1, L ++ [x], d'), ⟨by show k + 1 ≤ m; omega, hnx, hKs⟩, by show m - (k + 1) < m - k; omega, rfl⟩
    · obtain rfl : k = m := by omega
      simp (disch := omega) only [go_sem]
      rw [topRes_some k2]
end Go.Pv

/-
  Chapter 05: topological orders, as the document says; the law.
-/
namespace Go.Pv
/-- contains, of the document. -/
theorem r375 (t : Nat) (l : List Int) (x : Int) (hl : l.length ≤ 2000000000) : res A PrA 375 [.lst t (ints l), .int .i64 x] = some [.bool (l.contains x)] := by
  refine res_of a375 rfl rfl ?_
  simp only [F375]
  simp (disch := omega) only [go_sem]
  refine W.find l (fun y => decide (y = x)) (fun k => ⟨[(0, .pv (.lst t (ints l))), (1, .pv (.int .i64 x)), (5, .pv (.int .i64 k))], ⟨[], [], []⟩⟩) rfl (fun k y hy hk hfd => ?_) (fun hn => ?_)
  · simp (disch := omega) only [go_sem]
    refine Br.ofP (fun h => ?_) (fun h => (h (by omega)).elim)
    simp (disch := omega) only [go_sem, hy]
    refine Br.ofP (fun h2 => ?_) (fun h2 => ?_) <;> simp (disch := omega) only [go_sem]
    · have : x ∈ l := by rw [← h2]; exact List.mem_of_getElem? hy
      simp [this]
    · exact findK.of (by simp [h2]) rfl
  · simp (disch := omega) only [go_sem]
    have : x ∉ l := fun hm => by
      have := List.any_eq_false.1 hn.any x hm
      simp at this
    simp [this]
/-- Whether one vertex leads to another. -/
def leads (n : Nat) (es : List (Int × Int)) (v w : Int) : Bool := decide (0 ≤ (distsTo n es [w]).getD v.toNat (-1))
/-- connected, of the document. -/
theorem r373 (t : Nat) (n : Nat) (es : List (Int × Int)) (v w : Int) (hn : n ≤ 12) (hl : es.length ≤ 2 ^ 63 - 1) (hz : gErr n es = 0) (hv : 0 ≤ v ∧ v < n) (hw : 0 ≤ w ∧ w < n) : res A PrA 373 [.int .i64 n, .lst t (prs es), .int .i64 v, .int .i64 w] = some [.bool (leads n es v w)] := by
  refine res_of a373 rfl rfl ?_
  simp only [F373]
  obtain ⟨f1, f2, f3, f4⟩ := gErr_zero hz
  rw [Int.toNat_natCast] at f4
  have hbe : gErrL (n : Int) es [w] = 0 := by
    unfold gErrL
    rw [if_neg (by rw [hz]; decide)]
    simp only [List.any_cons, List.any_nil, Bool.or_false]
    rw [if_neg (by simp; omega)]
  have i1 : ints [w] = [[PV.int .i64 w]] := rfl
  have h350 := r350 t 0 n es [w] (by omega) hl (by show 1 ≤ 2000000000; decide)
  rw [if_pos hbe, Int.toNat_natCast, i1] at h350
  have hdl := distsTo_len (to := [w]) f4 (by omega) (fun x hx => by rw [List.mem_singleton.1 hx]; exact hw)
  unfold leads
  generalize distsTo n es [w] = d at *
  have hdv : d[v.toNat]? = some (d.getD v.toNat (-1)) := by
    have : v.toNat < d.length := by omega
    simp [this]
  generalize d.getD v.toNat (-1) = dv at *
  simp (disch := omega) only [go_sem, h350, idxR_int, hdv]
/-- Whether there is a cycle. -/
def cycB (n : Nat) (es : List (Int × Int)) : Bool := es.any fun e => leads n es e.2 e.1
theorem cycB_iff {n : Nat} {es : List (Int × Int)} : cycB n es = true ↔ Cyc n es := by
  unfold cycB leads Cyc
  rw [List.any_eq_true]
  simp only [decide_eq_true_eq]
/-- Cyclic, of the document. -/
theorem r360 (t : Nat) (n : Nat) (es : List (Int × Int)) (hn : n ≤ 12) (hl : es.length ≤ 2 ^ 63 - 1) (hz : gErr n es = 0) : res A PrA 360 [.int .i64 n, .lst t (prs es)] = some [.bool (cycB n es)] := by
  refine res_of a360 rfl rfl ?_
  simp only [F360]
  obtain ⟨f1, f2, f3, f4⟩ := gErr_zero hz
  rw [Int.toNat_natCast] at f4
  simp (disch := omega) only [go_sem]
  refine W.find es (fun e => leads n es e.2 e.1) (fun k => ⟨[(0, .pv (.int .i64 n)), (1, .pv (.lst t (prs es))), (5, .pv (.int .i64 k))], ⟨[], [], []⟩⟩) rfl (fun k e he hk hfd => ?_) (fun hn => ?_)
  · have hi := f4 e (List.mem_of_getElem? he)
    have h373 := r373 t n es e.2 e.1 hn hl hz hi.2 hi.1
    simp (disch := omega) only [go_sem]
    refine Br.ofP (fun h => ?_) (fun h => (h (by omega)).elim)
    simp (disch := omega) only [go_sem, he, h373]
    refine Br.of (fun h2 => ?_) (fun h2 => ?_) <;> simp (disch := omega) only [go_sem]
    · have : cycB n es = true := (hfd h2).any
      rw [this]
    · exact findK.of h2 rfl
  · simp (disch := omega) only [go_sem]
    have : cycB n es = false := hn.any
    rw [this]
theorem topRes_cyc {n : Nat} {es : List (Int × Int)} (hg : inG n es) (hl : es.length ≤ 100000) (h : cycB n es = true) : topRes n es = [.lst 0 [], .int .i64 9] := by
  unfold topRes
  cases hT : topF n es n with
  | none => rfl
  | some L => exact absurd (cycB_iff.1 h) (top_acyclic hg hl hT)
theorem topF_any {n : Nat} {es : List (Int × Int)} (hg : inG n es) (hl : es.length ≤ 100000) (h : cycB n es = false) {k : Nat} {L : List Int} (hL : topF n es k = some L) (hk : k < n) : (List.range n).any (fun (v : Nat) => ready es L v) = true := by
  cases hr : (List.range n).any (fun (v : Nat) => ready es L v) with
  | true => rfl
  | false =>
    have := cycB_iff.2 (stuck_cyclic hg hl hL hk hr)
    rw [h] at this
    cases this
/-- Ready, as far as the first i edges say. -/
def readyTo (es : List (Int × Int)) (L : List Int) (v : Int) (i : Nat) : Bool := !L.contains v && (es.take i).all fun e => !decide (e.2 = v) || L.contains e.1
theorem readyTo_all {es : List (Int × Int)} {L : List Int} {v : Int} : readyTo es L v es.length = ready es L v := by
  unfold readyTo ready
  rw [List.take_length]
theorem readyTo_no {es : List (Int × Int)} {L : List Int} {v : Int} {i : Nat} (h : readyTo es L v i = false) : ready es L v = false := by
  cases hr : ready es L v with
  | false => rfl
  | true =>
    unfold ready at hr
    unfold readyTo at h
    rw [Bool.and_eq_true, List.all_eq_true] at hr
    rw [hr.1, Bool.true_and, List.all_eq_false] at h
    obtain ⟨e, he, h⟩ := h
    exact absurd (hr.2 e (List.mem_of_mem_take he)) h
theorem readyTo_succ {es : List (Int × Int)} {L : List Int} {v : Int} {i : Nat} {e : Int × Int} (he : es[i]? = some e) (h : readyTo es L v i = true) : readyTo es L v (i + 1) = (!decide (e.2 = v) || L.contains e.1) := by
  unfold readyTo at h ⊢
  rw [Bool.and_eq_true] at h
  rw [List.take_add_one, he, List.all_append, h.1, h.2]
  simp
theorem readyTo_zero (es : List (Int × Int)) (L : List Int) (v : Int) : readyTo es L v 0 = !L.contains v := by simp [readyTo]
set_option maxHeartbeats 4000000 in
/-- Topological, of the document. -/
theorem r357 (t : Nat) (n : Int) (es : List (Int × Int)) (hn : n ≤ 12 ∨ 2000 < n) (hl : es.length ≤ 2 ^ 63 - 1) : res A PrA 357 [.int .i64 n, .lst t (prs es)] = some (if gErr n es = 0 then topRes n.toNat es else [.lst 0 [], .int .i64 (gErr n es)]) := by
  refine res_of a357 rfl rfl ?_
  simp only [F357]
  have h348 := r348 t n es hl
  simp (disch := omega) only [go_sem, h348]
  refine Br.ofP (fun h1 => ?_) (fun h1 => ?_) <;> simp (disch := omega) only [go_sem, h1]
  rw [if_pos h1]
  obtain ⟨f1, f2, f3, f4⟩ := gErr_zero h1
  obtain ⟨m, rfl⟩ := Int.eq_ofNat_of_zero_le f1
  rw [Int.toNat_natCast] at f4 ⊢
  have h360 := r360 t m es (by omega) hl h1
  simp (disch := omega) only [go_sem, h360]
  refine Br.of (fun hc => ?_) (fun hc => ?_) <;> simp (disch := omega) only [go_sem]
  · rw [topRes_cyc f4 (by omega) hc]
  refine W.loop (α := Nat × List Int) (fun q => ⟨[(0, .pv (.int .i64 m)), (1, .pv (.lst t (prs es))), (7, grV 0 (ints q.2))], ⟨[], grA 1 (ints q.2), []⟩⟩) (fun q => q.1 ≤ m ∧ topF m es q.1 = some q.2) (fun q => m - q.1) (0, []) rfl ⟨Nat.zero_le _, rfl⟩ fun q hq => ?_
  obtain ⟨k, L⟩ := q
  obtain ⟨k1, k2⟩ := hq
  dsimp only at k1 k2
  have hLl := (topF_ok k2).len
  have h375 := fun t x => r375 t L x (by omega)
  simp (disch := omega) only [go_sem]
  refine Br.ofP (fun c => ?_) (fun c => ?_)
  · have hr := topF_any f4 (by omega) hc k2 (by omega)
    have hnx := topF_next k2 hr
    simp (disch := omega) only [go_sem]
    refine W.find (List.range m) (fun (v : Nat) => ready es L v) (fun v => ⟨[(0, .pv (.int .i64 m)), (1, .pv (.lst t (prs es))), (7, grV 0 (ints L)), (8, .pv (.int .i64 v))], ⟨[], grA 1 (ints L), []⟩⟩) rfl (fun v y hy hv hfd => ?_) (fun hnw => ?_)
    · rw [List.length_range] at hv
      rw [List.getElem?_range hv] at hy
      cases hy
      simp (disch := omega) only [go_sem]
      refine Br.ofP (fun c => ?_) (fun c => (c (by omega)).elim)
      simp (disch := omega) only [go_sem, h375]
      refine W.upto es.length (fun i => ⟨[(0, .pv (.int .i64 m)), (1, .pv (.lst t (prs es))), (7, grV 0 (ints L)), (8, .pv (.int .i64 v)), (9, .pv (.bool (readyTo es L v i))), (10, .pv (.int .i64 i))], ⟨[], grA 1 (ints L), []⟩⟩) (fun _ => True) ?_ trivial fun i hi _ => ?_
      · rw [readyTo_zero]
        rfl
      · rcases Nat.lt_or_ge i es.length with hlt | hge
        · have di : decide ((i : Int) < es.length) = true := by rw [decide_eq_true_eq]; omega
          obtain ⟨e, he⟩ : ∃ e, es[i]? = some e := ⟨es[i], List.getElem?_eq_getElem hlt⟩
          cases hb : readyTo es L v i with
          | false =>
            simp (disch := omega) only [go_sem, di]
            exact findK.of (readyTo_no hb) rfl
          | true =>
            have hs := readyTo_succ he hb
            simp (disch := omega) only [go_sem, di, he]
            by_cases c2 : e.2 = (v : Int)
            · have d2 : decide (e.2 = (v : Int)) = true := by simp [c2]
              simp (disch := omega) only [go_sem, d2, he, h375]
              refine .of (by omega) ?_ trivial
              rw [hs, d2]
              rfl
            · have d2 : decide (e.2 = (v : Int)) = false := by simp [c2]
              simp (disch := omega) only [go_sem, d2]
              refine .of (by omega) ?_ trivial
              rw [hs, d2]
              rfl
        · obtain rfl : i = es.length := by omega
          have di : decide ((es.length : Int) < es.length) = false := by simp
          rw [readyTo_all]
          cases hb : ready es L v with
          | false =>
            simp (disch := omega) only [go_sem]
            exact findK.of rfl rfl
          | true =>
            have hle : leastN m (ready es L) = (v : Int) := by
              unfold leastN
              rw [(hfd hb).find]
            rw [hle] at hnx
            simp (disch := omega) only [go_sem]
            exact ⟨(k + 1, L ++ [(v : Int)]), ⟨by show k + 1 ≤ m; omega, hnx⟩, by show m - (k + 1) < m - k; omega, rfl⟩
    · have : (List.range m).any (fun (v : Nat) => ready es L v) = false := hnw.any
      rw [hr] at this
      cases this
  · obtain rfl : k = m := by omega
    simp (disch := omega) only [go_sem]
    rw [topRes_some k2]
theorem topRes_cases {n : Nat} {es : List (Int × Int)} : (∃ L : List Int, L.length = n ∧ topRes n es = [.lst 0 (ints L), .int .i64 0]) ∨ topRes n es = [.lst 0 [], .int .i64 9] := by
  cases h : topF n es n with
  | none => exact .inr (by unfold topRes; rw [h])
  | some L => exact .inl ⟨L, (topF_ok h).len, topRes_some h⟩
set_option maxHeartbeats 4000000 in
/-- GraphTopological, given that the chapter is awake. -/
theorem r341 (r345 : res A PrA 345 [] = some [.bool true]) (n : Int) (es : List (Int × Int)) (hl : es.length ≤ 2 ^ 63 - 1) : res A PrA 341 [.int .i64 n, .lst 0 (prs es)] = some [.bool true] := by
  refine res_of a341 rfl rfl ?_
  simp only [F341]
  have h346 := fun t => r346 t n es hl
  simp (disch := omega) only [go_sem, r345, h346]
  cases hf : fewG n es.length with
  | false => simp (disch := omega) only [go_sem, r345]
  | true =>
    obtain ⟨hl2, hn⟩ := few_true hf
    have h356 := fun t => r356 t n es hn hl
    have h357 := fun t => r357 t n es hn hl
    simp (disch := omega) only [go_sem]
    by_cases h1 : gErr n es = 0
    · rw [if_pos h1] at h356 h357
      obtain ⟨hb, hb2, _⟩ := gErr_zero h1
      rcases topRes_cases (n := n.toNat) (es := es) with ⟨L, hL, hT⟩ | hT
      · rw [hT] at h356 h357
        rcases clonePrs (es := es) (by omega) with ⟨rfl, hc⟩ | ⟨h0, hc⟩
        · simp only [prs_nil] at h356 h357
          simp (disch := omega) only [go_sem, hc, h356, h357]
        · simp (disch := omega) only [go_sem, hc, h356, h357, List.take_length]
      · rw [hT] at h356 h357
        rcases clonePrs (es := es) (by omega) with ⟨rfl, hc⟩ | ⟨h0, hc⟩
        · simp only [prs_nil] at h356 h357
          simp (disch := omega) only [go_sem, hc, h356, h357]
        · simp (disch := omega) only [go_sem, hc, h356, h357, List.take_length]
    · rw [if_neg h1] at h356 h357
      generalize gErr n es = e at *
      rcases clonePrs (es := es) (by omega) with ⟨rfl, hc⟩ | ⟨h0, hc⟩
      · simp only [prs_nil] at h356 h357
        simp (disch := omega) only [go_sem, hc, h356, h357]
      · simp (disch := omega) only [go_sem, hc, h356, h357, List.take_length]
end Go.Pv

/-
  Chapter 05 is awake: computed.
-/
namespace Go.Pv
theorem r345 : res A PrA 345 [] = some [.bool true] := res_some.2 ⟨3000, by kernel_rfl⟩
end Go.Pv

/-
  Drafts and actions that a law is given.
-/
namespace Go.Pv
variable {P : Program}

theorem slice_dec {α : Type} {c : α → List PV} {ok : α → Prop} {n : Nat} {t el : TypeId} {cs : List PV} (hu : P.underlying t = some (.slice el)) (he : ∀ cs, typed P n el cs → ∃ x, cs = c x ∧ ok x) (h : typed P (n + 1) t cs) : ∃ l : List α, cs = [.lst 0 (l.map c)] ∧ l.length ≤ 2 ^ 63 - 1 ∧ ∀ x ∈ l, ok x := by
  obtain ⟨rows, rfl, hl, hr⟩ := typed_slice hu h
  obtain ⟨l, rfl⟩ := rows_map (c := fun x : {x : α // ok x} => c x.1) (rows := rows) (fun r hr' => by
    obtain ⟨x, rfl, hx⟩ := he r (hr r hr')
    exact ⟨⟨x, hx⟩, rfl⟩)
  refine ⟨l.map (·.1), by simp [], by simpa [maxLen] using hl, fun x hx => ?_⟩
  obtain ⟨y, _, rfl⟩ := List.mem_map.1 hx
  exact y.2
theorem u8_min : IntKind.min .u8 = 0 := by decide
theorem u8_max : IntKind.max .u8 = 255 := by decide

structure DraftT (P : Program) (td tl ta tu : TypeId) : Prop where
  d : ∃ fs, P.underlying td = some (.struct fs) ∧ fs.toList.map (·.type) = [tu, tl]
  l : P.underlying tl = some (.slice ta)
  a : ∃ fs, P.underlying ta = some (.struct fs) ∧ fs.toList.map (·.type) = [tu, tu, tu]
  u : P.underlying tu = some (.int .u8)
theorem arc_typed {td tl ta tu : TypeId} (T : DraftT P td tl ta tu) {n : Nat} (cs : List PV) (h : typed P (n + 2) ta cs) : ∃ x : Arc, cs = x.c ∧ x.ok := by
  obtain ⟨fs, hu, hts⟩ := T.a
  obtain ⟨r0, q0, rfl, h0, r1, q1, rfl, h1, r2, q2, rfl, h2, rfl⟩ := typed_struct hu hts h
  obtain ⟨x, rfl, hx⟩ := typed_int T.u h0
  obtain ⟨y, rfl, hy⟩ := typed_int T.u h1
  obtain ⟨z, rfl, hz⟩ := typed_int T.u h2
  rw [u8_min, u8_max] at hx hy hz
  exact ⟨⟨x, y, z⟩, rfl, hx, hy, hz⟩
theorem draft_typed {td tl ta tu : TypeId} (T : DraftT P td tl ta tu) {n : Nat} (cs : List PV) (h : typed P (n + 4) td cs) : ∃ d : Draft, cs = [.int .u8 d.n, .lst 0 (d.arcs.map Arc.c)] ∧ d.ok := by
  obtain ⟨fs, hu, hts⟩ := T.d
  obtain ⟨r0, q0, rfl, h0, r1, q1, rfl, h1, rfl⟩ := typed_struct hu hts h
  obtain ⟨x, rfl, hx⟩ := typed_int T.u h0
  rw [u8_min, u8_max] at hx
  obtain ⟨l, rfl, hl, hok⟩ := slice_dec T.l (arc_typed T (n := n)) h1
  exact ⟨⟨x, l⟩, rfl, hx, hl, hok⟩
def draftArg {td tl ta tu : TypeId} (T : DraftT P td tl ta tu) : Arg P td Draft where
  pv d := .agg [.int .u8 d.n, .lst 0 (d.arcs.map Arc.c)]
  ok := Draft.ok
  dec cs h := by
    obtain ⟨d, rfl, hd⟩ := draft_typed (n := 8) T cs h
    obtain ⟨fs, hu, _⟩ := T.d
    exact ⟨d, hd, by simp only [argPV, isAgg_struct hu, if_true]⟩
structure ActT (P : Program) (tl ta ti tb : TypeId) : Prop where
  l : P.underlying tl = some (.slice ta)
  a : ∃ fs, P.underlying ta = some (.struct fs) ∧ fs.toList.map (·.type) = [tb, ti]
  i : P.underlying ti = some (.int .i64)
  b : P.underlying tb = some .bool
theorem act_typed {tl ta ti tb : TypeId} (T : ActT P tl ta ti tb) {n : Nat} (cs : List PV) (h : typed P (n + 2) ta cs) : ∃ x : Bool × Int, cs = actC x ∧ True := by
  obtain ⟨fs, hu, hts⟩ := T.a
  obtain ⟨r0, q0, rfl, h0, r1, q1, rfl, h1, rfl⟩ := typed_struct hu hts h
  obtain ⟨b, rfl⟩ := typed_bool T.b h0
  obtain ⟨x, rfl, _⟩ := typed_int T.i h1
  exact ⟨(b, x), rfl, trivial⟩
def actsArg {tl ta ti tb : TypeId} (T : ActT P tl ta ti tb) : Arg P tl (List (Bool × Int)) where
  pv l := .lst 0 (acts l)
  ok l := l.length ≤ 2 ^ 63 - 1
  dec cs h := by
    obtain ⟨l, rfl, hl, _⟩ := slice_dec T.l (act_typed T (n := 9)) h
    have : isAggT P tl = some false := by simp [isAggT, T.l]
    exact ⟨l, hl, by simp [argPV, this, acts]⟩
/-- A byte. -/
theorem u8_ok {x : Int} (h : IntKind.min .u8 ≤ x ∧ x ≤ IntKind.max .u8) : 0 ≤ x ∧ x ≤ 255 := by
  rwa [u8_min, u8_max] at h

end Go.Pv

/-
  Graphs that a law is given.
-/
namespace Go.Pv
variable {P : Program}

structure GraphT (P : Program) (tl te ti tv : TypeId) : Prop where
  l : P.underlying tl = some (.slice te)
  e : P.underlying te = some (.array 2 ti)
  i : P.underlying ti = some (.int .i64)
  v : P.underlying tv = some (.slice ti)
section
variable {tl te ti tv : TypeId}
def prC (x : Int × Int) : List PV := [.int .i64 x.1, .int .i64 x.2]
theorem pr_typed (T : GraphT P tl te ti tv) {n : Nat} (cs : List PV) (h : typed P (n + 2) te cs) : ∃ x : Int × Int, cs = prC x ∧ True := by
  obtain ⟨r0, q0, rfl, h0, r1, q1, rfl, h1, rfl⟩ := typed_array T.e h
  obtain ⟨x, rfl, _⟩ := typed_int T.i h0
  obtain ⟨y, rfl, _⟩ := typed_int T.i h1
  exact ⟨(x, y), rfl, trivial⟩
def edgesArg (T : GraphT P tl te ti tv) : Arg P tl (List (Int × Int)) where
  pv l := .lst 0 (prs l)
  ok l := l.length ≤ 2 ^ 63 - 1
  dec cs h := by
    obtain ⟨l, rfl, hl, _⟩ := slice_dec T.l (pr_typed T (n := 9)) h
    have : isAggT P tl = some false := by simp [isAggT, T.l]
    exact ⟨l, hl, by simp [argPV, this, prs, prC]⟩
def intsArg (T : GraphT P tl te ti tv) : Arg P tv (List Int) where
  pv l := .lst 0 (ints l)
  ok l := l.length ≤ 2 ^ 63 - 1
  dec cs h := by
    obtain ⟨l, rfl, hl, _⟩ := slice_dec (c := fun x => [PV.int .i64 x]) (ok := fun _ => True) T.v (fun cs hc => by
      obtain ⟨x, rfl, _⟩ := typed_int (n := 10) T.i hc
      exact ⟨x, rfl, trivial⟩) h
    have : isAggT P tv = some false := by simp [isAggT, T.v]
    exact ⟨l, hl, by simp [argPV, this, ints]⟩
def pairArg (T : GraphT P tl te ti tv) : Arg P te (Int × Int) where
  pv x := .agg [.int .i64 x.1, .int .i64 x.2]
  ok x := (-9223372036854775808 ≤ x.1 ∧ x.1 ≤ 9223372036854775807) ∧ (-9223372036854775808 ≤ x.2 ∧ x.2 ≤ 9223372036854775807)
  dec cs h := by
    obtain ⟨r0, q0, rfl, h0, r1, q1, rfl, h1, rfl⟩ := typed_array (n := 11) T.e h
    obtain ⟨x, rfl, hx⟩ := typed_int (n := 10) T.i h0
    obtain ⟨y, rfl, hy⟩ := typed_int (n := 10) T.i h1
    rw [i64_min, i64_max] at hx hy
    have : isAggT P te = some true := by simp [isAggT, T.e]
    exact ⟨(x, y), ⟨hx, hy⟩, by simp only [argPV, this, if_true]; rfl⟩
end
end Go.Pv

