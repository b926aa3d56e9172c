/-
  What the functions of the law give.
-/
import Derived.Test.YtnhbggnlnfcpkaaC4
set_option linter.unusedSimpArgs false
set_option linter.unusedVariables false
/-
  Chapter 05: cycles.
-/
namespace Go.Pv
theorem setAll_take {i : Int} {C o : List Int} {k : Nat} {v : Int} (h : C[k]? = some v) : (setAll i (C.take k) o).set v.toNat i = setAll i (C.take (k + 1)) o := by
  unfold setAll
  rw [List.take_add_one, h, List.foldl_append]
  rfl
theorem at0_idx {l : List Int} {v : Int} {n : Nat} (hl : l.length = n) (hv : 0 ≤ v ∧ v < n) : l[v.toNat]? = some (at0 l v) := by
  have : v.toNat < l.length := by omega
  simp [at0, this]
def cycRes (n : Nat) (es : List (Int × Int)) : List PV := match cycE n es with
  | some e => [.lst 0 (ints (cycP n es e)), .bool true, .int .i64 0]
  | none => [.lst 0 [], .bool false, .int .i64 0]
set_option maxHeartbeats 8000000 in
theorem r358 (t : Nat) (n : Int) (es : List (Int × Int)) (hn : n ≤ 12 ∨ 2000 < n) (hl : es.length ≤ 2 ^ 63 - 1) : res A PrA 358 [.int .i64 n, .lst t (prs es)] = some (if gErr n es = 0 then cycRes n.toNat es else [.lst 0 [], .bool false, .int .i64 (gErr n es)]) := by
  refine res_of a358 rfl rfl ?_
  simp only [F358]
  have hS : gErr n es = 0 → StrongOk n.toNat (nxt (succs n.toNat es)) (strongL n.toNat (nxt (succs n.toNat es))) := fun h1 => by
    obtain ⟨f1, f2, f3, f4⟩ := gErr_zero h1
    exact strongL_ok (nxt_in (succs_ok f4 (by omega)))
  have h353 := r353 t n es hn hl _ hS
  by_cases h1 : gErr n es = 0
  rotate_left
  · rw [if_neg h1] at h353 ⊢
    have de : decide (gErr n es = 0) = false := by simp [h1]
    simp (disch := omega) only [go_sem, h353, de]
  rw [if_pos h1] at h353 ⊢
  obtain ⟨f1, f2, f3, f4⟩ := gErr_zero h1
  have hS := hS h1
  obtain ⟨m, rfl⟩ := Int.eq_ofNat_of_zero_le f1
  rw [Int.toNat_natCast] at f4 hS h353 ⊢
  obtain ⟨q1, q2⟩ := hS.lens
  have hce := fun e he => comp_edge (e := e) f4 (by omega) hS he
  have hcl := compL_len hS
  have hco := fun k hk => compTo_ok hS k hk
  have hco0 : compTo m (strongL m (nxt (succs m es))) 0 = List.replicate m 0 := rfl
  have hcos : ∀ k, compTo m (strongL m (nxt (succs m es))) (k + 1) = setAll (k : Int) ((strongL m (nxt (succs m es))).getD k []) (compTo m (strongL m (nxt (succs m es))) k) := fun k => rfl
  have hcd : compL m (strongL m (nxt (succs m es))) = compTo m (strongL m (nxt (succs m es))) (strongL m (nxt (succs m es))).length := rfl
  generalize strongL m (nxt (succs m es)) = L at *
  simp (disch := omega) only [go_sem, h353]
  refine W.upto L.length (fun k => ⟨[(0, .pv (.int .i64 m)), (1, .pv (.lst t (prs es))), (9, .own 0 0 0 m), (29, .pv (.lst 0 (lls L))), (30, .pv (.int .i64 L.length)), (31, .pv (.int .i64 k))], ⟨[], [⟨0, 1, .inl (ints (compTo m L k))⟩], []⟩⟩) (fun _ => True) (by rw [hco0]; rfl) trivial fun k hk _ => ?_
  have hcs := hcos k
  obtain ⟨hk1, _⟩ := hco k hk
  simp (disch := omega) only [go_sem]
  refine Br.ofP (fun c => ?_) (fun c => ?_)
  · have hx := List.getElem?_eq_getElem (l := L) (i := k) (by omega)
    generalize L[k]'(by omega) = C at hx
    have hg : L.getD k [] = C := by simp [hx]
    rw [hg] at hcs
    have hCm := List.mem_of_getElem? hx
    have hC2 := q2 C hCm
    have hCr := fun v hv => ((hS.cs C hCm).2.2 v hv).1
    generalize hck : compTo m L k = o at *
    simp (disch := omega) only [go_sem, hx]
    refine W.upto C.length (fun j => ⟨[(0, .pv (.int .i64 m)), (1, .pv (.lst t (prs es))), (9, .own 0 0 0 m), (10, .pv (.int .i64 k)), (29, .pv (.lst 0 (lls L))), (30, .pv (.int .i64 L.length)), (31, .pv (.int .i64 k)), (36, .pv (.lst 0 (ints C))), (37, .pv (.int .i64 C.length)), (38, .pv (.int .i64 j))], ⟨[], [⟨0, 1, .inl (ints (setAll (k : Int) (C.take j) o))⟩], []⟩⟩) (fun _ => True) rfl trivial fun j hj _ => ?_
    simp (disch := omega) only [go_sem]
    refine Br.ofP (fun c2 => ?_) (fun c2 => ?_)
    · have hy := List.getElem?_eq_getElem (l := C) (i := j) (by omega)
      have hv := hCr _ (List.getElem_mem (l := C) (n := j) (by omega))
      generalize C[j]'(by omega) = v at hy hv
      have hst := setAll_take (i := (k : Int)) (o := o) hy
      have hlen : (setAll (k : Int) (C.take j) o).length = m := by
        rw [(setAll_get (k : Int) (C.take j) o (fun x hx => by rw [hk1]; exact hCr x (List.mem_of_mem_take hx))).1, hk1]
      generalize setAll (k : Int) (C.take j) o = o2 at *
      simp (disch := omega) only [go_sem, hy, idxR_int]
      refine .of (by omega) ?_ trivial
      rw [hst]
      rfl
    · obtain rfl : j = C.length := by omega
      simp (disch := omega) only [go_sem]
      refine .of (by omega) ?_ trivial
      rw [hcs, List.take_length]
      rfl
  · obtain rfl : k = L.length := by omega
    rw [← hcd] at hk1 ⊢
    generalize compL m L = o at *
    simp (disch := omega) only [go_sem]
    refine W.find es (fun e => leads m es e.2 e.1) (fun k => ⟨[(0, .pv (.int .i64 m)), (1, .pv (.lst t (prs es))), (9, .own 0 0 0 m), (48, .pv (.lst t (prs es))), (49, .pv (.int .i64 es.length)), (50, .pv (.int .i64 k))], ⟨[], [⟨0, 1, .inl (ints o)⟩], []⟩⟩) rfl (fun k e he hk hfd => ?_) (fun hnf => ?_)
    · have hm := List.mem_of_getElem? he
      have hi := f4 e hm
      have ho1 := at0_idx hk1 hi.1
      have ho2 := at0_idx hk1 hi.2
      have hd := hce e hm
      generalize at0 o e.1 = x1 at *
      generalize at0 o e.2 = x2 at *
      simp (disch := omega) only [go_sem]
      refine Br.ofP (fun h => ?_) (fun h => (h (by omega)).elim)
      simp (disch := omega) only [go_sem, he, idxR_int, ho1, ho2, hd]
      refine Br.of (fun h2 => ?_) (fun h2 => ?_)
      · have hfe : cycE m es = some e := (hfd h2).find
        have hb : gErrL (m : Int) es [e.2, e.1] = 0 := by
          unfold gErrL
          rw [if_neg (by rw [h1]; decide)]
          simp only [List.any_cons, List.any_nil, Bool.or_false]
          rw [if_neg (by simp; omega)]
        have h351 := r351 t m es e.2 e.1 hn hl
        have h2' := h2
        unfold leads at h2'
        rw [decide_eq_true_eq] at h2'
        rw [if_pos hb, Int.toNat_natCast, if_neg (by omega)] at h351
        have hr : cycRes m es = [.lst 0 (ints (cycP m es e)), .bool true, .int .i64 0] := by unfold cycRes; rw [hfe]
        have hcp : pathG m es (distsTo m es [e.1]) e.2 = cycP m es e := rfl
        rw [hcp] at h351
        rw [hr]
        simp (disch := omega) only [go_sem, h351]
      · simp (disch := omega) only [go_sem]
        exact findK.of h2 rfl
    · have hr : cycRes m es = [.lst 0 [], .bool false, .int .i64 0] := by
        unfold cycRes
        have : cycE m es = none := List.find?_eq_none.2 fun e he => by
          have := List.any_eq_false.1 hnf.any e he
          simpa using this
        rw [this]
      rw [hr]
      simp (disch := omega) only [go_sem]
theorem isCyc_step (es : List (Int × Int)) (l : List Int) (i : Nat) : (!(l.take i).contains (l.getD i 0) && decide ((l.getD i 0, l.getD ((i + 1) % l.length) 0) ∈ es)) = !((l.take i).contains (l.getD i 0) || !decide ((l.getD i 0, l.getD ((i + 1) % l.length) 0) ∈ es)) := by
  cases (l.take i).contains (l.getD i 0) <;> simp
theorem isCyc_any {es : List (Int × Int)} {l : List Int} : isCyc es l = (decide (0 < l.length) && !(List.range l.length).any fun i => (l.take i).contains (l.getD i 0) || !decide ((l.getD i 0, l.getD ((i + 1) % l.length) 0) ∈ es)) := by
  unfold isCyc
  congr 1
  rw [List.not_any_eq_all_not]
  congr 1
  funext i
  exact isCyc_step es l i
theorem isCyc_no {es : List (Int × Int)} {l : List Int} (h : ((List.range l.length).any fun i => (l.take i).contains (l.getD i 0) || !decide ((l.getD i 0, l.getD ((i + 1) % l.length) 0) ∈ es)) = true) : isCyc es l = false := by
  rw [isCyc_any, h, Bool.not_true, Bool.and_false]
theorem isCyc_yes {es : List (Int × Int)} {l : List Int} (h : ((List.range l.length).any fun i => (l.take i).contains (l.getD i 0) || !decide ((l.getD i 0, l.getD ((i + 1) % l.length) 0) ∈ es)) = false) : isCyc es l = decide (0 < l.length) := by
  rw [isCyc_any, h, Bool.not_false, Bool.and_true]
set_option maxHeartbeats 4000000 in
theorem r359 (t u : Nat) (n : Int) (es : List (Int × Int)) (l : List Int) (hl : es.length ≤ 2000000000) (hm : l.length ≤ 2000000000) : res A PrA 359 [.int .i64 n, .lst t (prs es), .lst u (ints l)] = some [.bool (isCyc es l)] := by
  refine res_of a359 rfl rfl ?_
  simp only [F359]
  simp (disch := omega) only [go_sem]
  refine W.find (List.range l.length) (fun i => (l.take i).contains (l.getD i 0) || !decide ((l.getD i 0, l.getD ((i + 1) % l.length) 0) ∈ es)) (fun i => ⟨[(1, .pv (.lst t (prs es))), (2, .pv (.lst u (ints l))), (7, .pv (.int .i64 i))], ⟨[], [], []⟩⟩) rfl (fun i y hy hi hfd => ?_) (fun hnf => ?_)
  · rw [List.length_range] at hi
    rw [List.getElem?_range hi] at hy
    cases hy
    have hx : l[i]? = some (l.getD i 0) := by simp [hi]
    have hx2 : l[(i + 1) % l.length]? = some (l.getD ((i + 1) % l.length) 0) := by
      have : (i + 1) % l.length < l.length := Nat.mod_lt _ (by omega)
      simp [this]
    have h375 := fun t => r375 t (l.take i) (l.getD i 0) (by rw [List.length_take]; omega)
    have h369 := r369 t es (l.getD i 0) (l.getD ((i + 1) % l.length) 0) hl
    have hmod : ((i : Int) + 1) % (l.length : Int) = (((i + 1) % l.length : Nat) : Int) := by simp
    have hml : (i + 1) % l.length < l.length := Nat.mod_lt _ (by omega)
    generalize hz : (i + 1) % l.length = z at *
    generalize l.getD i 0 = vi at *
    generalize l.getD z 0 = vz at *
    have hl0 : decide (0 < l.length) = true := by rw [decide_eq_true_eq]; omega
    have hno := fun h => (hfd h).any
    simp (disch := omega) only [go_sem]
    refine Br.ofP (fun h => ?_) (fun h => (h (by omega)).elim)
    simp (disch := omega) only [go_sem, hx, h375]
    cases hb1 : (l.take i).contains vi with
    | true =>
      rw [hb1] at hno
      simp (disch := omega) only [go_sem]
      rw [isCyc_no (hno rfl)]
    | false =>
      rw [hb1] at hno hfd
      simp (disch := omega) only [go_sem, hx, idxR_int, hmod, hx2, h369]
      by_cases hb2 : (vi, vz) ∈ es
      · have d2 : decide ((vi, vz) ∈ es) = true := by simp [hb2]
        simp (disch := omega) only [go_sem, d2]
        exact findK.of (by rw [d2]; rfl) rfl
      · have d2 : decide ((vi, vz) ∈ es) = false := by simp [hb2]
        rw [d2] at hno
        simp (disch := omega) only [go_sem, d2]
        rw [isCyc_no (hno rfl)]
  · rw [List.length_range]
    simp (disch := omega) only [go_sem]
    rw [isCyc_yes hnf.any]
    congr 3
    simp
end Go.Pv

/-
  Chapter 05: the laws of Cycle and Components.
-/
namespace Go.Pv
set_option maxHeartbeats 4000000 in
theorem r342 (r345 : res A PrA 345 [] = some [.bool true]) (n : Int) (es : List (Int × Int)) (hl : es.length ≤ 2 ^ 63 - 1) : res A PrA 342 [.int .i64 n, .lst 0 (prs es)] = some [.bool true] := by
  refine res_of a342 rfl rfl ?_
  simp only [F342]
  have h346 := fun t => r346 t n es hl
  simp (disch := omega) only [go_sem, r345, h346]
  cases hf : fewG n es.length with
  | false => simp (disch := omega) only [go_sem, r345]
  | true =>
    obtain ⟨hl2, hn⟩ := few_true hf
    have h348 := fun t => r348 t n es hl
    have h358 := fun t => r358 t n es hn hl
    have h356 := fun t => r356 t n es hn hl
    have d0 : decide (((0 : Nat) : Int) = 0) = true := rfl
    simp (disch := omega) only [go_sem]
    by_cases h1 : gErr n es = 0
    · rw [if_pos h1] at h358 h356
      have d1 : decide (gErr n es = 0) = true := by simp [h1]
      obtain ⟨f1, f2, f3, f4⟩ := gErr_zero h1
      obtain ⟨m, rfl⟩ := Int.eq_ofNat_of_zero_le f1
      rw [Int.toNat_natCast] at f4 h358 h356
      have h360 := fun t => r360 t m es (by omega) hl h1
      have hce : (∃ e, cycE m es = some e) ∨ cycE m es = none := by
        cases cycE m es with
        | none => exact .inr rfl
        | some e => exact .inl ⟨e, rfl⟩
      rcases hce with ⟨e, hce⟩ | hce
      · obtain ⟨c1, c2, c3⟩ := cycE_some hce
        obtain ⟨k1, k2⟩ := cycP_ok f4 (by omega) c2 c3
        have hr : cycRes m es = [.lst 0 (ints (cycP m es e)), .bool true, .int .i64 0] := by unfold cycRes; rw [hce]
        rw [hr] at h358
        rw [topRes_cyc f4 (by omega) c1] at h356
        have h359 := fun t u => r359 t u m es (cycP m es e) (by omega) (by omega)
        rw [k1] at h359
        generalize cycP m es e = q at *
        rcases clonePrs (es := es) (by omega) with ⟨rfl, hc⟩ | ⟨h0, hc⟩
        · simp only [prs_nil] at h358 h356 h359 h348
          simp (disch := omega) only [go_sem, hc, h348, h356, h358, h359, h1]
        · simp (disch := omega) only [go_sem, hc, h348, h356, h358, h359, List.take_length, h1]
      · have hr : cycRes m es = [.lst 0 [], .bool false, .int .i64 0] := by unfold cycRes; rw [hce]
        have hcb := cycE_none hce
        rw [hr] at h358
        rw [hcb] at h360
        obtain ⟨L, hL⟩ := top_exists f4 (by omega) hcb m (Nat.le_refl _)
        rw [topRes_some hL] at h356
        rcases clonePrs (es := es) (by omega) with ⟨rfl, hc⟩ | ⟨h0, hc⟩
        · simp only [prs_nil] at h358 h356 h360 h348
          simp (disch := omega) only [go_sem, hc, h348, h356, h358, h360, h1, d0]
        · simp (disch := omega) only [go_sem, hc, h348, h356, h358, h360, List.take_length, h1, d0]
    · rw [if_neg h1] at h358
      have d1 : decide (gErr n es = 0) = false := by simp [h1]
      generalize gErr n es = e at *
      rcases clonePrs (es := es) (by omega) with ⟨rfl, hc⟩ | ⟨h0, hc⟩
      · simp only [prs_nil] at h358 h348
        simp (disch := omega) only [go_sem, hc, h348, h358, d1, d0]
      · simp (disch := omega) only [go_sem, hc, h348, h358, List.take_length, d1, d0]
structure GDr where
  n : Int
  es : List (Int × Int)
def pr8 (x : Int × Int) : List PV := [.int .u8 x.1, .int .u8 x.2]
def GDr.ok (x : GDr) : Prop := (0 ≤ x.n ∧ x.n ≤ 255) ∧ x.es.length ≤ 2 ^ 63 - 1 ∧ ∀ e ∈ x.es, (0 ≤ e.1 ∧ e.1 ≤ 255) ∧ (0 ≤ e.2 ∧ e.2 ≤ 255)
def prs8 (l : List (Int × Int)) : List (List PV) := l.map pr8
@[go_sem] theorem prs8_length (l : List (Int × Int)) : (prs8 l).length = l.length := by simp [prs8]
@[go_sem] theorem prs8_get (l : List (Int × Int)) (i : Nat) : (prs8 l)[i]? = l[i]?.map fun x => [.int .u8 x.1, .int .u8 x.2] := by
  simp [prs8]
  rfl
def modE (n : Int) (e : Int × Int) : Int × Int := (e.1 % n, e.2 % n)
def GDr.edges (x : GDr) : List (Int × Int) := (x.es.take 30).map (modE (1 + x.n % 9))
set_option maxHeartbeats 2000000 in
theorem r361 (t : Nat) (x : GDr) (hx : x.ok) : res A PrA 361 [.agg [.int .u8 x.n, .lst t (prs8 x.es)]] = some [.int .i64 (1 + x.n % 9), .lst 0 (prs x.edges), .bool (decide ((x.es.length : Int) ≤ 30))] := by
  refine res_of a361 rfl rfl ?_
  simp only [F361]
  obtain ⟨x1, x2, x3⟩ := hx
  unfold GDr.edges
  simp (disch := omega) only [go_sem]
  generalize hq : 1 + x.n % 9 = q
  refine W.upto (x.es.take 30).length (fun k => ⟨[(1, .ptr 1 0), (5, .pv (.int .i64 q)), (6, grV 0 (prs (((x.es.take 30).take k).map (modE q)))), (7, .pv (.int .i64 k))], ⟨[(1, [.pv (.int .u8 x.n), .pv (.lst t (prs8 x.es))])], grA 2 (prs (((x.es.take 30).take k).map (modE q))), []⟩⟩) (fun _ => True) rfl trivial fun k hk _ => ?_
  have l0 : (x.es.take 30).length = min 30 x.es.length := List.length_take
  rcases Nat.lt_or_ge k (x.es.take 30).length with hlt | hge
  · have hy := List.getElem?_eq_getElem hlt
    generalize (x.es.take 30)[k] = e at hy
    have hy' : x.es[k]? = some e := by rw [List.getElem?_take, if_pos (by omega)] at hy; exact hy
    have hm := x3 e (List.mem_of_getElem? hy')
    have t1 : ((x.es.take 30).take (k + 1)).map (modE q) = ((x.es.take 30).take k).map (modE q) ++ [modE q e] := by rw [List.take_add_one, hy, List.map_append]; rfl
    have l1 : (((x.es.take 30).take k).map (modE q)).length = k := by simp; omega
    generalize ((x.es.take 30).take k).map (modE q) = w at t1 l1
    have l2 : (prs w).length = k := by rw [prs_length, l1]
    have q1 : decide ((k : Int) < (x.es.length : Int)) = true := by rw [decide_eq_true_eq]; omega
    have q2 : decide ((k : Int) < 30) = true := by rw [decide_eq_true_eq]; omega
    simp (disch := omega) only [go_sem, q1, q2, hy']
    refine .of (by omega) ?_ trivial
    rw [t1]
    rfl
  · obtain rfl : k = (x.es.take 30).length := by omega
    rw [List.take_length]
    have l1 : ((x.es.take 30).map (modE q)).length = min 30 x.es.length := by rw [List.length_map, l0]
    generalize (x.es.take 30).map (modE q) = w at l1
    rcases Nat.lt_or_ge x.es.length 30 with hc | hc
    · have e1 : (((x.es.take 30).length : Nat) : Int) = (x.es.length : Int) := by omega
      rw [e1]
      have q1 : decide ((x.es.length : Int) < (x.es.length : Int)) = false := by simp
      simp (disch := omega) only [go_sem]
    · have e1 : (((x.es.take 30).length : Nat) : Int) = 30 := by omega
      rw [e1]
      have q2 : decide ((30 : Int) < 30) = false := by simp
      cases q1 : decide ((30 : Int) < (x.es.length : Int)) with
      | false => simp (disch := omega) only [go_sem, q1]
      | true => simp (disch := omega) only [go_sem, q1]
theorem r362 (x : Int × Int) : res A PrA 362 [.agg [.int .i64 x.1, .int .i64 x.2]] = some [.bool (decide (x.1 = x.2))] := by
  refine res_of a362 rfl rfl ?_
  simp only [F362]
  simp (disch := omega) only [go_sem]
theorem r138c (g t : Nat) (l : List (Int × Int)) (p : Int × Int → Bool) (hl : l.length ≤ 2 ^ 63 - 1) (hi : inls A g = false) (hp : PrA g = none) (ht : takes A g = false) (hf : ∀ x ∈ l, res A PrA g [.agg [.int .i64 x.1, .int .i64 x.2]] = some [.bool (p x)]) : res A PrA 138 [.lst t (prs l), .func g []] = some [.int .i64 (idxP p l)] := by
  refine res_of a138 rfl rfl ?_
  simp only [F138]
  simp (disch := omega) only [go_sem]
  refine W.find l p (fun k => ⟨[(0, .pv (.lst t (prs l))), (1, .pv (.func g [])), (7, .pv (.int .i64 l.length)), (8, .pv (.int .i64 k))], ⟨[], [], []⟩⟩) rfl (fun k x hx hk hfd => ?_) (fun hn => ?_)
  · have hfx := hf x (List.mem_of_getElem? hx)
    simp (disch := omega) only [go_sem]
    refine Br.ofP (fun h => ?_) (fun h => (h (by omega)).elim)
    simp (disch := omega) only [go_sem, hx, CW_none hi hp ht, hfx]
    refine Br.of (fun h2 => ?_) (fun h2 => ?_) <;> simp (disch := omega) only [go_sem]
    · rw [(hfd h2).idxP]
    · exact findK.of h2 rfl
  · simp (disch := omega) only [go_sem]
    rw [hn.idxP]
theorem r134c (t : Nat) (l : List (Int × Int)) (hl : l.length ≤ 2 ^ 63 - 1) : res A PrA 134 [.lst t (prs l), .func 362 []] = some [.bool (l.any fun e => decide (e.1 = e.2))] := by
  refine res_of a134 rfl rfl ?_
  simp only [F134]
  have := r138c 362 t l (fun e => decide (e.1 = e.2)) hl (by kernel_rfl) (by kernel_rfl) (by kernel_rfl) (fun x _ => r362 x)
  simp (disch := omega) only [go_sem, this]
  rw [idxP_pos]
theorem GDr.good {x : GDr} (_hx : x.ok) : 1 ≤ 1 + x.n % 9 ∧ 1 + x.n % 9 ≤ 9 ∧ x.edges.length ≤ 30 ∧ gErr (1 + x.n % 9) x.edges = 0 := by
  have h1 : 0 ≤ x.n % 9 := Int.emod_nonneg _ (by decide)
  have h2 : x.n % 9 < 9 := Int.emod_lt_of_pos _ (by decide)
  have hl : x.edges.length ≤ 30 := by
    unfold GDr.edges
    rw [List.length_map, List.length_take]
    omega
  refine ⟨by omega, by omega, hl, ?_⟩
  unfold gErr
  rw [if_neg (by omega), if_neg]
  rintro (h | h)
  · omega
  · obtain ⟨e, he, hb⟩ := List.any_eq_true.1 h
    unfold GDr.edges at he
    obtain ⟨y, _, rfl⟩ := List.mem_map.1 he
    have a1 := Int.emod_nonneg y.1 (b := 1 + x.n % 9) (by omega)
    have a2 := Int.emod_nonneg y.2 (b := 1 + x.n % 9) (by omega)
    have b1 := Int.emod_lt_of_pos y.1 (b := 1 + x.n % 9) (by omega)
    have b2 := Int.emod_lt_of_pos y.2 (b := 1 + x.n % 9) (by omega)
    unfold badP modE at hb
    simp only [Bool.or_eq_true, decide_eq_true_eq] at hb
    omega
set_option maxHeartbeats 8000000 in
theorem r343 (r345 : res A PrA 345 [] = some [.bool true]) (x : GDr) (hx : x.ok) : res A PrA 343 [.agg [.int .u8 x.n, .lst 0 (prs8 x.es)]] = some [.bool true] := by
  refine res_of a343 rfl rfl ?_
  simp only [F343]
  have h361 := fun t => r361 t x hx
  obtain ⟨g1, g2, g3, g4⟩ := GDr.good hx
  simp (disch := omega) only [go_sem, r345, h361]
  refine Br.ofP (fun c => ?_) (fun c => ?_)
  rotate_left
  · simp (disch := omega) only [go_sem, r345]
  simp (disch := omega) only [go_sem]
  generalize x.edges = es at *
  generalize 1 + x.n % 9 = n at *
  clear h361 c hx
  obtain ⟨f1, f2, f3, f4⟩ := gErr_zero g4
  obtain ⟨m, rfl⟩ := Int.eq_ofNat_of_zero_le f1
  rw [Int.toNat_natCast] at f4
  have hS := strongL_ok (nxt_in (succs_ok f4 (by omega)))
  have h353 := fun t => r353 t m es (by omega) (by omega) _ (fun _ => hS)
  have h358 := fun t => r358 t m es (by omega) (by omega)
  rw [if_pos g4, Int.toNat_natCast] at h358
  have h353 : ∀ t, res A PrA 353 [.int .i64 m, .lst t (prs es)] = some [.lst 0 (lls (strongL m (nxt (succs m es)))), .int .i64 0] := fun t => by
    have := h353 t
    rwa [if_pos g4] at this
  have h134 := fun t => r134c t es (by omega)
  have hcc := cyc_comps f4 (by omega) hS
  obtain ⟨q1, q2⟩ := hS.lens
  have hreach := fun C hC v hv => reachG_comp f4 (by omega) hS (C := C) hC (v := v) hv
  have hin := fun C hC v hv => ((hS.cs C hC).2.2 v hv).1
  generalize strongL m (nxt (succs m es)) = L at *
  have hcb : ∃ l, cycRes m es = [.lst 0 l, .bool (cycB m es), .int .i64 0] := by
    unfold cycRes
    cases hce : cycE m es with
    | none => exact ⟨_, by rw [cycE_none hce]⟩
    | some e => exact ⟨_, by rw [(cycE_some hce).1]⟩
  obtain ⟨cl, hcb⟩ := hcb
  rw [hcb, hcc] at h358
  have hd : decide ((L.length : Int) < m) = decide (L.length < m) := by
    by_cases h : L.length < m
    · rw [decide_eq_true h, decide_eq_true (by omega)]
    · rw [decide_eq_false h, decide_eq_false (by omega)]
  generalize hb1 : decide (L.length < m) = b1 at *
  generalize hb2 : (es.any fun e => decide (e.1 = e.2)) = b2 at *
  have hz : ∀ l : List Int, (∀ v ∈ l, 0 ≤ v ∧ v < (m : Int)) → gErrL (m : Int) es l = 0 := fun l h => by
    unfold gErrL
    rw [if_neg (by rw [g4]; decide), if_neg]
    intro hx
    obtain ⟨v, hv, hb⟩ := List.any_eq_true.1 hx
    have := h v hv
    simp only [Bool.or_eq_true, decide_eq_true_eq] at hb
    omega
  cases b1 <;> cases b2 <;> simp (disch := omega) only [go_sem, h353, h358, h134, hd]
  all_goals
    refine W.upto L.length (fun k => ⟨[(3, .pv (.int .i64 m)), (4, .pv (.lst 0 (prs es))), (65, .pv (.lst 0 (lls L))), (66, .pv (.int .i64 L.length)), (67, .pv (.int .i64 k))], ⟨[], [], []⟩⟩) (fun _ => True) rfl trivial fun k hk _ => ?_
    simp (disch := omega) only [go_sem]
    refine Br.ofP (fun c => ?_) (fun c => ?_)
    rotate_left
    · simp (disch := omega) only [go_sem]
    have hx := List.getElem?_eq_getElem (l := L) (i := k) (by omega)
    generalize L[k]'(by omega) = C at hx
    have hC := List.mem_of_getElem? hx
    have hCl := q2 C hC
    have hCin := hin C hC
    have hCr := hreach C hC
    simp (disch := omega) only [go_sem, hx]
    refine W.upto C.length (fun j => ⟨[(3, .pv (.int .i64 m)), (4, .pv (.lst 0 (prs es))), (13, .pv (.lst 0 (ints C))), (65, .pv (.lst 0 (lls L))), (66, .pv (.int .i64 L.length)), (67, .pv (.int .i64 k)), (71, .pv (.lst 0 (ints C))), (72, .pv (.int .i64 C.length)), (73, .pv (.int .i64 j))], ⟨[], [], []⟩⟩) (fun _ => True) rfl trivial fun j hj _ => ?_
    simp (disch := omega) only [go_sem]
    refine Br.ofP (fun c2 => ?_) (fun c2 => ?_)
    · have hy := List.getElem?_eq_getElem (l := C) (i := j) (by omega)
      have hv := List.getElem_mem (l := C) (n := j) (by omega)
      generalize C[j]'(by omega) = v at hy hv
      have i1 : ints [v] = [[PV.int .i64 v]] := rfl
      have h363a := fun t u => r363 t u m es [v] (by omega) (by omega) (by show 1 ≤ 2000000000; decide)
      have h363b := fun t u => r363 t u m es C (by omega) (by omega) (by omega)
      rw [if_pos (hz [v] (fun x hx => by rw [List.mem_singleton.1 hx]; exact hCin v hv)), Int.toNat_natCast, hCr v hv, i1] at h363a
      rw [if_pos (hz C hCin), Int.toNat_natCast] at h363b
      have hq : (reachG m es C).length ≤ 2000 := by
        have hlv := levels_len (nx := nxt (succs m es)) (nxt_in (succs_ok f4 (by omega))) hCin
        have := there_len (levels (nxt (succs m es)) m C)
        rw [hlv] at this
        unfold reachG
        omega
      generalize reachG m es C = q at *
      simp (disch := omega) only [go_sem, hy, h363a, h363b]
      exact .of (by omega) rfl trivial
    · obtain rfl : j = C.length := by omega
      simp (disch := omega) only [go_sem]
      exact .of (by omega) rfl trivial
end Go.Pv

/-
  Chapter 05 is awake: computed.
-/
namespace Go.Pv
theorem r345 : res A PrA 345 [] = some [.bool true] := res_some.2 ⟨3000, by kernel_rfl⟩
end Go.Pv

/-
  Drafts and actions that a law is given.
-/
namespace Go.Pv
variable {P : Program}

theorem slice_dec {α : Type} {c : α → List PV} {ok : α → Prop} {n : Nat} {t el : TypeId} {cs : List PV} (hu : P.underlying t = some (.slice el)) (he : ∀ cs, typed P n el cs → ∃ x, cs = c x ∧ ok x) (h : typed P (n + 1) t cs) : ∃ l : List α, cs = [.lst 0 (l.map c)] ∧ l.length ≤ 2 ^ 63 - 1 ∧ ∀ x ∈ l, ok x := by
  obtain ⟨rows, rfl, hl, hr⟩ := typed_slice hu h
  obtain ⟨l, rfl⟩ := rows_map (c := fun x : {x : α // ok x} => c x.1) (rows := rows) (fun r hr' => by
    obtain ⟨x, rfl, hx⟩ := he r (hr r hr')
    exact ⟨⟨x, hx⟩, rfl⟩)
  refine ⟨l.map (·.1), by simp [], by simpa [maxLen] using hl, fun x hx => ?_⟩
  obtain ⟨y, _, rfl⟩ := List.mem_map.1 hx
  exact y.2
theorem u8_min : IntKind.min .u8 = 0 := by decide
theorem u8_max : IntKind.max .u8 = 255 := by decide

theorem u8_ok {x : Int} (h : IntKind.min .u8 ≤ x ∧ x ≤ IntKind.max .u8) : 0 ≤ x ∧ x ≤ 255 := by
  rwa [u8_min, u8_max] at h

end Go.Pv

/-
  Graphs that a law is given.
-/
namespace Go.Pv
variable {P : Program}

structure GraphT (P : Program) (tl te ti tv : TypeId) : Prop where
  l : P.underlying tl = some (.slice te)
  e : P.underlying te = some (.array 2 ti)
  i : P.underlying ti = some (.int .i64)
  v : P.underlying tv = some (.slice ti)
section
variable {tl te ti tv : TypeId}
def prC (x : Int × Int) : List PV := [.int .i64 x.1, .int .i64 x.2]
theorem pr_typed (T : GraphT P tl te ti tv) {n : Nat} (cs : List PV) (h : typed P (n + 2) te cs) : ∃ x : Int × Int, cs = prC x ∧ True := by
  obtain ⟨r0, q0, rfl, h0, r1, q1, rfl, h1, rfl⟩ := typed_array T.e h
  obtain ⟨x, rfl, _⟩ := typed_int T.i h0
  obtain ⟨y, rfl, _⟩ := typed_int T.i h1
  exact ⟨(x, y), rfl, trivial⟩
def edgesArg (T : GraphT P tl te ti tv) : Arg P tl (List (Int × Int)) where
  pv l := .lst 0 (prs l)
  ok l := l.length ≤ 2 ^ 63 - 1
  dec cs h := by
    obtain ⟨l, rfl, hl, _⟩ := slice_dec T.l (pr_typed T (n := 9)) h
    have : isAggT P tl = some false := by simp [isAggT, T.l]
    exact ⟨l, hl, by simp [argPV, this, prs, prC]⟩
end
end Go.Pv

/-
  Descriptions of graphs that a law is given.
-/
namespace Go.Pv
variable {P : Program}

structure GDrT (P : Program) (tg tl te tu : TypeId) : Prop where
  g : ∃ fs, P.underlying tg = some (.struct fs) ∧ fs.toList.map (·.type) = [tu, tl]
  l : P.underlying tl = some (.slice te)
  e : P.underlying te = some (.array 2 tu)
  u : P.underlying tu = some (.int .u8)
theorem pr8_typed {tg tl te tu : TypeId} (T : GDrT P tg tl te tu) {n : Nat} (cs : List PV) (h : typed P (n + 2) te cs) : ∃ x : Int × Int, cs = pr8 x ∧ ((0 ≤ x.1 ∧ x.1 ≤ 255) ∧ (0 ≤ x.2 ∧ x.2 ≤ 255)) := by
  obtain ⟨r0, q0, rfl, h0, r1, q1, rfl, h1, rfl⟩ := typed_array T.e h
  obtain ⟨x, rfl, hx⟩ := typed_int T.u h0
  obtain ⟨y, rfl, hy⟩ := typed_int T.u h1
  exact ⟨(x, y), rfl, u8_ok hx, u8_ok hy⟩
def gdrArg {tg tl te tu : TypeId} (T : GDrT P tg tl te tu) : Arg P tg GDr where
  pv x := .agg [.int .u8 x.n, .lst 0 (prs8 x.es)]
  ok := GDr.ok
  dec cs h := by
    obtain ⟨fs, hu, hts⟩ := T.g
    obtain ⟨r0, q0, rfl, h0, r1, q1, rfl, h1, rfl⟩ := typed_struct (n := 11) hu hts h
    obtain ⟨x, rfl, hx⟩ := typed_int T.u h0
    obtain ⟨l, rfl, hl, hok⟩ := slice_dec T.l (pr8_typed T (n := 8)) h1
    exact ⟨⟨x, l⟩, ⟨u8_ok hx, hl, hok⟩, by simp only [argPV, isAgg_struct hu, if_true]; rfl⟩
end Go.Pv

