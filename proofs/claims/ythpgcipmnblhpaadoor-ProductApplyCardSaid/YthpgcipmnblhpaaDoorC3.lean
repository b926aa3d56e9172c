/-
  What the functions of the law give.
-/
import Derived.Test.YthpgcipmnblhpaaDoorC2
import Derived.Shelf.Strings.Builder1
set_option linter.unusedSimpArgs false
set_option linter.unusedVariables false
/-
  Chapter 29: Moves, Apply; the laws of Valid, Fits, Moves, Apply.
-/
namespace Go.Pv
theorem side_len {es : List Edge} {cap st : Int} {i o : List Int} {send : Bool} {label q : Int} {i' o' : List Int} (hs : (sideC es cap st i o send label).1 = some (q, i', o')) : i'.length ≤ i.length + 1 ∧ o'.length ≤ o.length + 1 := by
  unfold sideC at hs
  cases hn : nextE st send label es with
  | none => rw [hn] at hs; cases hs
  | some t =>
    rw [hn] at hs
    dsimp only at hs
    split at hs
    · injection hs with h1
      injection h1 with h1 h3
      injection h3 with h3 h4
      subst h1 h3 h4
      simp
    · cases i with
      | nil => cases hs
      | cons z r =>
        dsimp only at hs
        split at hs
        · injection hs with h1
          injection h1 with h1 h3
          injection h3 with h3 h4
          subst h1 h3 h4
          simp
          omega
        · cases hs
theorem after_len (a b : Auto) (cap x y : Int) (l m : List Int) (mv : Mov) : (afterC a b cap x y l m mv).1.toA.length ≤ l.length + 1 ∧ (afterC a b cap x y l m mv).1.toB.length ≤ m.length + 1 := by
  unfold afterC
  split
  · rcases hs : sideC a.edges cap x l m mv.send mv.label with ⟨_ | ⟨q, i, o⟩, ok⟩
    · exact ⟨Nat.zero_le _, Nat.zero_le _⟩
    · exact side_len (q := q) (by rw [hs])
  · split
    · rcases hs : sideC b.edges cap y m l mv.send mv.label with ⟨_ | ⟨q, i, o⟩, ok⟩
      · exact ⟨Nat.zero_le _, Nat.zero_le _⟩
      · have := side_len (q := q) (i' := i) (o' := o) (by rw [hs])
        exact ⟨this.2, this.1⟩
    · exact ⟨Nat.zero_le _, Nat.zero_le _⟩
theorem chkE_sys {a b : Auto} {cap x y : Int} {l m : List Int} (h : sysErr a b cap ≠ 0) : chkE a b cap x y l m = sysErr a b cap := if_pos h
theorem chkE_no {a b : Auto} {cap x y : Int} {l m : List Int} (h : sysErr a b cap = 0) (h2 : fitsB a b cap x y l m = false) : chkE a b cap x y l m = 1 := by
  unfold chkE
  rw [if_neg (by simp [h]), if_neg (by simp [h2])]
theorem chkE_yes {a b : Auto} {cap x y : Int} {l m : List Int} (h : sysErr a b cap = 0) (h2 : fitsB a b cap x y l m = true) : chkE a b cap x y l m = 0 := by
  unfold chkE
  rw [if_neg (by simp [h]), if_pos h2]
theorem fitsB_iff {a b : Auto} {cap x y : Int} {l m : List Int} : fitsB a b cap x y l m = true ↔ sysErr a b cap = 0 ∧ (0 ≤ x ∧ x < a.states) ∧ (0 ≤ y ∧ y < b.states) ∧ chanB l cap = true ∧ chanB m cap = true := by
  unfold fitsB
  simp only [Bool.and_eq_true, decide_eq_true_eq]
  constructor
  · rintro ⟨⟨⟨⟨⟨⟨h1, h2⟩, h3⟩, h4⟩, h5⟩, h6⟩, h7⟩
    exact ⟨h1, ⟨h2, h3⟩, ⟨h4, h5⟩, h6, h7⟩
  · rintro ⟨h1, ⟨h2, h3⟩, ⟨h4, h5⟩, h6, h7⟩
    exact ⟨⟨⟨⟨⟨⟨h1, h2⟩, h3⟩, h4⟩, h5⟩, h6⟩, h7⟩
theorem side_fits {a : Auto} (h : a.Good) {cap st : Int} {i o : List Int} {send : Bool} {label q : Int} {i' o' : List Int} (hi : chanB i cap = true) (ho : chanB o cap = true) (hs : sideC a.edges cap st i o send label = (some (q, i', o'), true)) : (0 ≤ q ∧ q < a.states) ∧ chanB i' cap = true ∧ chanB o' cap = true := by
  unfold sideC at hs
  cases hn : nextE st send label a.edges with
  | none => rw [hn] at hs; cases hs
  | some t =>
    rw [hn] at hs
    dsimp only at hs
    have hm := (nextE_some (h.asc.imp fun h => .inl h)).1 hn
    have hf := h.fit _ hm
    unfold Edge.fits at hf
    simp only [Bool.and_eq_true, decide_eq_true_eq] at hf
    split at hs
    · injection hs with h1 h2
      injection h1 with h1
      injection h1 with h1 h3
      injection h3 with h3 h4
      subst h1 h3 h4
      have h2 := of_decide_eq_true h2
      refine ⟨by omega, hi, ?_⟩
      unfold chanB at ho ⊢
      simp only [Bool.and_eq_true, decide_eq_true_eq, Bool.not_eq_true'] at ho ⊢
      refine ⟨by rw [List.length_append]; simp; omega, ?_⟩
      rw [List.any_append, ho.2]
      simp [badL]
      omega
    · cases i with
      | nil => cases hs
      | cons z r =>
        dsimp only at hs
        split at hs
        · injection hs with h1 h2
          injection h1 with h1
          injection h1 with h1 h3
          injection h3 with h3 h4
          subst h1 h3 h4
          refine ⟨by omega, ?_, ho⟩
          unfold chanB at hi ⊢
          simp only [Bool.and_eq_true, decide_eq_true_eq, Bool.not_eq_true', List.any_cons, Bool.or_eq_false_iff, List.length_cons] at hi ⊢
          exact ⟨by omega, hi.2.2⟩
        · cases hs
theorem fits_after {a b : Auto} {cap x y : Int} {l m : List Int} {mv : Mov} (h : fitsB a b cap x y l m = true) (ho : (afterC a b cap x y l m mv).2 = true) : fitsB a b cap (afterC a b cap x y l m mv).1.a (afterC a b cap x y l m mv).1.b (afterC a b cap x y l m mv).1.toA (afterC a b cap x y l m mv).1.toB = true := by
  obtain ⟨h1, h2, h3, h4, h5⟩ := fitsB_iff.1 h
  obtain ⟨ga, gb, _, _⟩ := sys_good h1
  rw [fitsB_iff]
  refine ⟨h1, ?_⟩
  revert ho
  unfold afterC
  split
  · cases hs : sideC a.edges cap x l m mv.send mv.label with
    | mk r ok =>
      cases r with
      | none =>
        intro ho
        exfalso
        have ho : ok = true := ho
        subst ho
        unfold sideC at hs
        cases hn : nextE x mv.send mv.label a.edges with
        | none => rw [hn] at hs; cases hs
        | some q =>
          rw [hn] at hs
          dsimp only at hs
          split at hs
          · cases hs
          · cases l with
            | nil => cases hs
            | cons z r => dsimp only at hs; split at hs <;> cases hs
      | some r =>
        obtain ⟨q, i, o⟩ := r
        intro ho
        have ho : ok = true := ho
        subst ho
        obtain ⟨g1, g2, g3⟩ := side_fits ga h4 h5 hs
        exact ⟨g1, h3, g2, g3⟩
  · split
    · cases hs : sideC b.edges cap y m l mv.send mv.label with
      | mk r ok =>
        cases r with
        | none =>
          intro ho
          exfalso
          have ho : ok = true := ho
          subst ho
          unfold sideC at hs
          cases hn : nextE y mv.send mv.label b.edges with
          | none => rw [hn] at hs; cases hs
          | some q =>
            rw [hn] at hs
            dsimp only at hs
            split at hs
            · cases hs
            · cases m with
              | nil => cases hs
              | cons z r => dsimp only at hs; split at hs <;> cases hs
        | some r =>
          obtain ⟨q, i, o⟩ := r
          intro ho
          have ho : ok = true := ho
          subst ho
          obtain ⟨g1, g2, g3⟩ := side_fits gb h5 h4 hs
          exact ⟨h2, g1, g3, g2⟩
    · intro ho
      cases ho

theorem r171 (a b : Auto) (cap : Int) (x y : Int) (l m : List Int) (ha : a.edges.length ≤ 2 ^ 63 - 1) (hb : b.edges.length ≤ 2 ^ 63 - 1) (hl : l.length ≤ 2000000000) (hm : m.length ≤ 2000000000) : res A PrA 171 [.agg [.int .i64 a.states, .int .i64 a.start, .lst 0 (a.edges.map Edge.c), .int .i64 b.states, .int .i64 b.start, .lst 0 (b.edges.map Edge.c), .int .i64 cap], .agg [.int .i64 x, .int .i64 y, .lst 0 (ints l), .lst 0 (ints m)]] = some (if chkE a b cap x y l m = 0 then [.lst 0 (mvs3 (movesC a b cap x y l m)), .int .i64 0] else [.lst 0 [], .int .i64 (chkE a b cap x y l m)]) := by
  refine res_of a171 rfl rfl ?_
  simp only [F171]
  by_cases h1 : chkE a b cap x y l m = 0
  · have hs : sysErr a b cap = 0 := by
      unfold chkE at h1
      by_cases h : sysErr a b cap = 0
      · exact h
      · rw [if_pos h] at h1
        exact h1
    obtain ⟨ga, gb, _, _⟩ := sys_good hs
    have h186 := r186 a b cap x y l m (by have := ga.len; omega) (by have := gb.len; omega) hl hm (movesC_asc ga.asc gb.asc)
    have d1 : decide (chkE a b cap x y l m = 0) = true := by simp [h1]
    simp (disch := omega) only [go_sem, d1, h186]
    rw [if_pos h1]
  · have d1 : decide (chkE a b cap x y l m = 0) = false := by simp [h1]
    simp (disch := omega) only [go_sem, d1]
    rw [if_neg h1]
def applyC (a b : Auto) (cap x y : Int) (l m : List Int) (mv : Mov) : List PV := if chkE a b cap x y l m = 0 then (if (afterC a b cap x y l m mv).2 = true then [cfgP (afterC a b cap x y l m mv).1, .int .i64 0] else [cfgP cfg0, .int .i64 11]) else [cfgP cfg0, .int .i64 (chkE a b cap x y l m)]
set_option maxHeartbeats 1000000 in
theorem r174 (a b : Auto) (cap : Int) (x y : Int) (l m : List Int) (mv : Mov) (ha : a.edges.length ≤ 2 ^ 63 - 1) (hb : b.edges.length ≤ 2 ^ 63 - 1) (hl : l.length ≤ 2000000000) (hm : m.length ≤ 2000000000) : res A PrA 174 [.agg [.int .i64 a.states, .int .i64 a.start, .lst 0 (a.edges.map Edge.c), .int .i64 b.states, .int .i64 b.start, .lst 0 (b.edges.map Edge.c), .int .i64 cap], .agg [.int .i64 x, .int .i64 y, .lst 0 (ints l), .lst 0 (ints m)], .agg [.int .i64 mv.party, .bool mv.send, .int .i64 mv.label]] = some (applyC a b cap x y l m mv) := by
  refine res_of a174 rfl rfl ?_
  simp only [F174]
  unfold applyC
  have h182 := r182 a b cap x y l m mv ha hb hl hm
  by_cases h1 : chkE a b cap x y l m = 0
  · have d1 : decide (chkE a b cap x y l m = 0) = true := by simp [h1]
    rw [if_pos h1]
    cases h2 : (afterC a b cap x y l m mv).2 with
    | true =>
      rw [h2] at h182
      generalize (afterC a b cap x y l m mv).1 = c at *
      simp (disch := omega) only [go_sem, d1, h182]
    | false =>
      rw [h2] at h182
      generalize (afterC a b cap x y l m mv).1 = c at *
      simp (disch := omega) only [go_sem, d1, h182]
      rfl
  · have d1 : decide (chkE a b cap x y l m = 0) = false := by simp [h1]
    rw [if_neg h1]
    simp (disch := omega) only [go_sem, d1]
    rfl
set_option maxHeartbeats 1000000 in
theorem r175 (a b : Auto) (cap : Int) (x y : Int) (l m : List Int) (mv : Mov) (ha : a.edges.length ≤ 2 ^ 63 - 1) (hb : b.edges.length ≤ 2 ^ 63 - 1) (hl : l.length ≤ 2000000000) (hm : m.length ≤ 2000000000) : res A PrA 175 [.agg [.int .i64 a.states, .int .i64 a.start, .lst 0 (a.edges.map Edge.c), .int .i64 b.states, .int .i64 b.start, .lst 0 (b.edges.map Edge.c), .int .i64 cap], .agg [.int .i64 x, .int .i64 y, .lst 0 (ints l), .lst 0 (ints m)], .agg [.int .i64 mv.party, .bool mv.send, .int .i64 mv.label]] = some (applyC a b cap x y l m mv) := by
  refine res_of a175 rfl rfl ?_
  simp only [F175]
  unfold applyC
  have h183 := r183 a b cap x y l m mv ha hb hl hm
  by_cases h1 : sysErr a b cap = 0
  · have d1 : decide (sysErr a b cap = 0) = true := by simp [h1]
    cases hf : fitsB a b cap x y l m with
    | false =>
      rw [chkE_no h1 hf, if_neg (by decide)]
      simp (disch := omega) only [go_sem, d1, hf]
      rfl
    | true =>
      rw [chkE_yes h1 hf, if_pos rfl]
      cases h2 : (afterC a b cap x y l m mv).2 with
      | true =>
        rw [h2] at h183
        generalize (afterC a b cap x y l m mv).1 = c at *
        simp (disch := omega) only [go_sem, d1, hf, h183]
      | false =>
        rw [h2] at h183
        generalize (afterC a b cap x y l m mv).1 = c at *
        simp (disch := omega) only [go_sem, d1, hf, h183]
        rfl
  · have d1 : decide (sysErr a b cap = 0) = false := by simp [h1]
    rw [chkE_sys h1, if_neg h1]
    simp (disch := omega) only [go_sem, d1]
    rfl
theorem mov_dec (a b : Mov) : (decide (a.party = b.party) && (decide (a.send = b.send) && decide (a.label = b.label))) = decide (a = b) := by
  obtain ⟨a1, a2, a3⟩ := a
  obtain ⟨b1, b2, b3⟩ := b
  by_cases h1 : a1 = b1 <;> by_cases h2 : a2 = b2 <;> by_cases h3 : a3 = b3 <;> simp [h1, h2, h3]
set_option maxHeartbeats 1000000 in
@[go_sem] theorem r172 (t u : Nat) (a b : List Mov) (ha : a.length ≤ 2 ^ 63 - 1) (_hb : b.length ≤ 2 ^ 63 - 1) : res A PrA 172 [.lst t (mvs3 a), .lst u (mvs3 b)] = some [.bool (decide (a = b))] := by
  refine res_of a172 rfl rfl ?_
  simp only [F172]
  simp (disch := omega) only [go_sem]
  refine Br.ofP (fun h => ?_) (fun h => ?_) <;> simp (disch := omega) only [go_sem, h]
  case refine_2 =>
    have : ¬ a = b := fun e => h (by rw [e])
    simp [this]
  refine W.upto a.length (fun k => ⟨[(0, .pv (.lst t (mvs3 a))), (1, .pv (.lst u (mvs3 b))), (5, .pv (.int .i64 k))], ⟨[], [], []⟩⟩) (fun k => a.take k = b.take k) rfl rfl fun k hk hi => ?_
  simp (disch := omega) only [go_sem]
  refine Br.ofP (fun g => ?_) (fun g => ?_)
  · obtain ⟨x, hx⟩ := get_at (l := a) (k := k) (by omega)
    obtain ⟨y, hy⟩ := get_at (l := b) (k := k) (by omega)
    simp (disch := omega) only [go_sem, hx, hy, mov_dec]
    refine Br.ofP (fun f => ?_) (fun f => ?_) <;> simp (disch := omega) only [go_sem, f]
    · exact .of (by omega) rfl (take_step hx hy hi f)
    · have : ¬ a = b := fun e => f (by rw [e, hy] at hx; exact (Option.some.inj hx).symm)
      simp [this]
  · simp (disch := omega) only [go_sem]
    have := takes_all (k := k) (by omega) (by omega) hi
    simp [this]
set_option maxHeartbeats 2000000 in
theorem r141 (r150 : res A PrA 150 [] = some [.bool true]) (a b : Auto) (cap : Int) (ha : a.edges.length ≤ 2 ^ 63 - 1) (hb : b.edges.length ≤ 2 ^ 63 - 1) : res A PrA 141 [.agg [.int .i64 a.states, .int .i64 a.start, .lst 0 (a.edges.map Edge.c), .int .i64 b.states, .int .i64 b.start, .lst 0 (b.edges.map Edge.c), .int .i64 cap]] = some [.bool true] := by
  refine res_of a141 rfl rfl ?_
  simp only [F141]
  have h151 := r151 0 0 a b cap 0 0 0 0 [] [] ha hb (by decide) (by decide)
  have h154 := r154 0 0 0 0 a.start b.start a.start b.start [] [] [] [] (by decide) (by decide) (by decide) (by decide)
  simp only [ints_nil] at h151 h154
  cases hf : fewS a b [] [] with
  | false =>
    rw [hf] at h151
    simp (disch := omega) only [go_sem, r150, h151]
  | true =>
    rw [hf] at h151
    simp (disch := omega) only [go_sem, r150, h151, h154]
set_option maxHeartbeats 2000000 in
theorem r142 (r150 : res A PrA 150 [] = some [.bool true]) (a b : Auto) (cap : Int) (x y : Int) (l m : List Int) (ha : a.edges.length ≤ 2 ^ 63 - 1) (hb : b.edges.length ≤ 2 ^ 63 - 1) (hl : l.length ≤ 2 ^ 63 - 1) (hm : m.length ≤ 2 ^ 63 - 1) : res A PrA 142 [.agg [.int .i64 a.states, .int .i64 a.start, .lst 0 (a.edges.map Edge.c), .int .i64 b.states, .int .i64 b.start, .lst 0 (b.edges.map Edge.c), .int .i64 cap], .agg [.int .i64 x, .int .i64 y, .lst 0 (ints l), .lst 0 (ints m)]] = some [.bool true] := by
  refine res_of a142 rfl rfl ?_
  simp only [F142]
  have h151 := r151 0 0 a b cap 0 0 x y l m ha hb hl hm
  cases hf : fewS a b l m with
  | false =>
    rw [hf] at h151
    simp (disch := omega) only [go_sem, r150, h151]
  | true =>
    rw [hf] at h151
    unfold fewS at hf
    simp only [Bool.and_eq_true, decide_eq_true_eq] at hf
    simp (disch := omega) only [go_sem, r150, h151]
set_option maxHeartbeats 2000000 in
theorem r148 (r150 : res A PrA 150 [] = some [.bool true]) (a b : Auto) (cap : Int) (x y : Int) (l m : List Int) (ha : a.edges.length ≤ 2 ^ 63 - 1) (hb : b.edges.length ≤ 2 ^ 63 - 1) (hl : l.length ≤ 2 ^ 63 - 1) (hm : m.length ≤ 2 ^ 63 - 1) : res A PrA 148 [.agg [.int .i64 a.states, .int .i64 a.start, .lst 0 (a.edges.map Edge.c), .int .i64 b.states, .int .i64 b.start, .lst 0 (b.edges.map Edge.c), .int .i64 cap], .agg [.int .i64 x, .int .i64 y, .lst 0 (ints l), .lst 0 (ints m)]] = some [.bool true] := by
  refine res_of a148 rfl rfl ?_
  simp only [F148]
  have h151 := r151 0 0 a b cap 0 0 x y l m ha hb hl hm
  cases hf : fewS a b l m with
  | false =>
    rw [hf] at h151
    simp (disch := omega) only [go_sem, r150, h151]
  | true =>
    rw [hf] at h151
    unfold fewS at hf
    simp only [Bool.and_eq_true, decide_eq_true_eq] at hf
    have h171 := r171 a b cap x y l m ha hb (by omega) (by omega)
    have h173 := r173 a b cap x y l m (by omega) (by omega) (by omega) (by omega)
    have hml : (movesC a b cap x y l m).length ≤ 2000000 := by
      have h1 := mvsOf_len a b cap x y l m 0 x a.edges
      have h2 := mvsOf_len a b cap x y l m 1 y b.edges
      unfold movesC
      rw [List.length_append]
      omega
    generalize movesC a b cap x y l m = q at *
    have d0 : decide (((0 : Nat) : Int) = 0) = true := rfl
    by_cases h1 : sysErr a b cap = 0
    · cases hft : fitsB a b cap x y l m with
      | false =>
        rw [chkE_no h1 hft, if_neg (by decide)] at h171
        simp (disch := omega) only [go_sem, r150, h151, h171, h1, hft, d0]
      | true =>
        rw [chkE_yes h1 hft, if_pos rfl] at h171
        simp (disch := omega) only [go_sem, r150, h151, h171, h1, hft, h173]
    · rw [chkE_sys h1, if_neg h1] at h171
      have d1 : decide (sysErr a b cap = 0) = false := by simp [h1]
      simp (disch := omega) only [go_sem, r150, h151, h171, d1, d0]
set_option maxHeartbeats 4000000 in
theorem r149 (r150 : res A PrA 150 [] = some [.bool true]) (a b : Auto) (cap : Int) (x y : Int) (l m : List Int) (mv : Mov) (ha : a.edges.length ≤ 2 ^ 63 - 1) (hb : b.edges.length ≤ 2 ^ 63 - 1) (hl : l.length ≤ 2 ^ 63 - 1) (hm : m.length ≤ 2 ^ 63 - 1) : res A PrA 149 [.agg [.int .i64 a.states, .int .i64 a.start, .lst 0 (a.edges.map Edge.c), .int .i64 b.states, .int .i64 b.start, .lst 0 (b.edges.map Edge.c), .int .i64 cap], .agg [.int .i64 x, .int .i64 y, .lst 0 (ints l), .lst 0 (ints m)], .agg [.int .i64 mv.party, .bool mv.send, .int .i64 mv.label]] = some [.bool true] := by
  refine res_of a149 rfl rfl ?_
  simp only [F149]
  have h151 := r151 0 0 a b cap 0 0 x y l m ha hb hl hm
  cases hf : fewS a b l m with
  | false =>
    rw [hf] at h151
    simp (disch := omega) only [go_sem, r150, h151]
  | true =>
    rw [hf] at h151
    unfold fewS at hf
    simp only [Bool.and_eq_true, decide_eq_true_eq] at hf
    have h174 := r174 a b cap x y l m mv ha hb (by omega) (by omega)
    have h175 := r175 a b cap x y l m mv ha hb (by omega) (by omega)
    obtain ⟨hal, hbl⟩ := after_len a b cap x y l m mv
    have h154 := fun e : Int => r154 0 0 0 0 0 0 0 0 [] [] [] [] (by decide) (by decide) (by decide) (by decide)
    simp only [ints_nil] at h154
    unfold applyC at h174 h175
    have e00 : cfg0.toA = [] := rfl
    have e01 : cfg0.toB = [] := rfl
    have e02 : cfg0.a = 0 := rfl
    have e03 : cfg0.b = 0 := rfl
    by_cases h1 : chkE a b cap x y l m = 0
    · rw [if_pos h1] at h174 h175
      cases h2 : (afterC a b cap x y l m mv).2 with
      | true =>
        rw [h2, if_pos rfl] at h174 h175
        have hfit : fitsB a b cap x y l m = true := by
          unfold chkE at h1
          by_cases h : sysErr a b cap = 0
          · rw [if_neg (by simp [h])] at h1
            cases hx : fitsB a b cap x y l m with
            | true => rfl
            | false => rw [hx] at h1; simp at h1
          · rw [if_pos h] at h1
            exact absurd h1 h
        have hfa := fits_after hfit h2
        generalize (afterC a b cap x y l m mv).1 = c at *
        simp (disch := omega) only [go_sem, r150, h151, h174, h175, hfa]
      | false =>
        rw [h2, if_neg (by decide)] at h174 h175
        simp only [cfgP_eq, e00, e01, e02, e03, ints_nil] at h174 h175
        simp (disch := omega) only [go_sem, r150, h151, h174, h175, h154 0]
    · rw [if_neg h1] at h174 h175
      simp only [cfgP_eq, e00, e01, e02, e03, ints_nil] at h174 h175
      have d1 : decide (chkE a b cap x y l m = 0) = false := by simp [h1]
      simp (disch := omega) only [go_sem, r150, h151, h174, h175, h154 0, d1]
end Go.Pv

/-
  Chapter 29: Run.
-/
namespace Go.Pv
def afterG (a b : Auto) (cap : Int) (c : Cfg) (mv : Mov) : Cfg × Bool := afterC a b cap c.a c.b c.toA c.toB mv
def stepTo (a b : Auto) (cap : Int) (c : Cfg) (l : List Mov) : Cfg := l.foldl (fun c mv => (afterG a b cap c mv).1) c
def runBad (a b : Auto) (cap : Int) (c : Cfg) (l : List Mov) (i : Nat) : Bool := !(afterG a b cap (stepTo a b cap c (l.take i)) (l.getD i default)).2
def runN (a b : Auto) (cap : Int) (c : Cfg) (l : List Mov) : Nat := ((List.range l.length).find? (runBad a b cap c l)).getD l.length
theorem stepTo_len (a b : Auto) (cap : Int) : ∀ (l : List Mov) (c : Cfg), (stepTo a b cap c l).toA.length ≤ c.toA.length + l.length ∧ (stepTo a b cap c l).toB.length ≤ c.toB.length + l.length
  | [], c => ⟨Nat.le_refl _, Nat.le_refl _⟩
  | mv :: l, c => by
    have h := after_len a b cap c.a c.b c.toA c.toB mv
    obtain ⟨g1, g2⟩ := stepTo_len a b cap l (afterC a b cap c.a c.b c.toA c.toB mv).1
    have e : stepTo a b cap c (mv :: l) = stepTo a b cap (afterC a b cap c.a c.b c.toA c.toB mv).1 l := rfl
    rw [e, List.length_cons]
    omega
theorem stepTo_succ {a b : Auto} {cap : Int} {c : Cfg} {l : List Mov} {k : Nat} {mv : Mov} (h : l[k]? = some mv) : stepTo a b cap c (l.take (k + 1)) = (afterG a b cap (stepTo a b cap c (l.take k)) mv).1 := by
  unfold stepTo
  rw [List.take_add_one, h, List.foldl_append]
  rfl

set_option maxHeartbeats 4000000 in
theorem r161 (t : Nat) (a b : Auto) (cap : Int) (l : List Mov) (ha : a.edges.length ≤ 2 ^ 63 - 1) (hb : b.edges.length ≤ 2 ^ 63 - 1) (hl : l.length ≤ 1000000) : res A PrA 161 [.agg [.int .i64 a.states, .int .i64 a.start, .lst 0 (a.edges.map Edge.c), .int .i64 b.states, .int .i64 b.start, .lst 0 (b.edges.map Edge.c), .int .i64 cap], .lst t (mvs3 l)] = some (if sysErr a b cap = 0 then [cfgP (stepTo a b cap ⟨a.start, b.start, [], []⟩ (l.take (runN a b cap ⟨a.start, b.start, [], []⟩ l))), .int .i64 (runN a b cap ⟨a.start, b.start, [], []⟩ l : Nat), .int .i64 0] else [cfgP cfg0, .int .i64 0, .int .i64 (sysErr a b cap)]) := by
  refine res_of a161 rfl rfl ?_
  simp only [F161]
  by_cases h1 : sysErr a b cap = 0
  rotate_left
  · have d1 : decide (sysErr a b cap = 0) = false := by simp [h1]
    rw [if_neg h1]
    simp (disch := omega) only [go_sem, d1]
    rfl
  have d1 : decide (sysErr a b cap = 0) = true := by simp [h1]
  rw [if_pos h1]
  generalize hc0 : (⟨a.start, b.start, [], []⟩ : Cfg) = c0
  have hca : c0.toA.length = 0 ∧ c0.toB.length = 0 := by subst hc0; exact ⟨rfl, rfl⟩
  simp (disch := omega) only [go_sem, d1]
  have hs0 : stepTo a b cap c0 (l.take 0) = c0 := rfl
  refine W.find (List.range l.length) (runBad a b cap c0 l) (fun k => ⟨[(1, .pv (.lst t (mvs3 l))), (2, .ptr 2 0), (4, .ptr 4 0), (8, .ptr 8 0), (21, .pv (.lst t (mvs3 l))), (22, .pv (.int .i64 l.length)), (23, .pv (.int .i64 k))], ⟨[(2, [.pv (.int .i64 a.states), .pv (.int .i64 a.start), .pv (.lst 0 (a.edges.map Edge.c)), .pv (.int .i64 b.states), .pv (.int .i64 b.start), .pv (.lst 0 (b.edges.map Edge.c)), .pv (.int .i64 cap)]), (4, [.pv (.int .i64 0), .pv (.int .i64 0), .tl [], .tl []]), (8, [.pv (.int .i64 (stepTo a b cap c0 (l.take k)).a), .pv (.int .i64 (stepTo a b cap c0 (l.take k)).b), .pv (.lst 0 (ints (stepTo a b cap c0 (l.take k)).toA)), .pv (.lst 0 (ints (stepTo a b cap c0 (l.take k)).toB))])], [], []⟩⟩) ?_ (fun k y hy hk hfd => ?_) (fun hn => ?_)
  · rw [hs0, ← hc0]
    rfl
  · rw [List.length_range] at hk
    rw [List.getElem?_range hk] at hy
    cases hy
    obtain ⟨mv, hmv⟩ := get_at (l := l) (k := k) hk
    have hlen := stepTo_len a b cap (l.take k) c0
    have htl : (l.take k).length ≤ k := by rw [List.length_take]; omega
    have hss := stepTo_succ (a := a) (b := b) (cap := cap) (c := c0) hmv
    have hbad : runBad a b cap c0 l k = !(afterG a b cap (stepTo a b cap c0 (l.take k)) mv).2 := by
      unfold runBad
      rw [List.getD_eq_getElem?_getD, hmv]
      rfl
    have hrn : runBad a b cap c0 l k = true → runN a b cap c0 l = k := fun h => by
      unfold runN
      rw [(hfd h).find]
      rfl
    rw [hbad] at hrn hfd
    generalize hcc : stepTo a b cap c0 (l.take k) = c at *
    have h182 := r182 a b cap c.a c.b c.toA c.toB mv ha hb (by omega) (by omega)
    have hG : afterC a b cap c.a c.b c.toA c.toB mv = afterG a b cap c mv := rfl
    rw [hG] at h182
    generalize afterG a b cap c mv = r at *
    obtain ⟨c', ok⟩ := r
    dsimp only at h182 hss hrn hfd
    simp (disch := omega) only [go_sem]
    refine Br.ofP (fun h => ?_) (fun h => (h (by omega)).elim)
    simp (disch := omega) only [go_sem, hmv, h182]
    cases ok with
    | true =>
      simp (disch := omega) only [go_sem]
      refine findK.of (by rw [hbad]; rfl) ?_
      rw [hss]
      rfl
    | false =>
      simp (disch := omega) only [go_sem]
      rw [hrn rfl, hcc]
  · have hrn : runN a b cap c0 l = l.length := by
      unfold runN
      rw [hn.find]
      rfl
    rw [hrn, List.length_range]
    simp (disch := omega) only [go_sem]

set_option maxHeartbeats 4000000 in
theorem r163 (t : Nat) (a b : Auto) (cap : Int) (l : List Mov) (ha : a.edges.length ≤ 2 ^ 63 - 1) (hb : b.edges.length ≤ 2 ^ 63 - 1) (hl : l.length ≤ 1000000) : res A PrA 163 [.agg [.int .i64 a.states, .int .i64 a.start, .lst 0 (a.edges.map Edge.c), .int .i64 b.states, .int .i64 b.start, .lst 0 (b.edges.map Edge.c), .int .i64 cap], .lst t (mvs3 l)] = some (if sysErr a b cap = 0 then [cfgP (stepTo a b cap ⟨a.start, b.start, [], []⟩ (l.take (runN a b cap ⟨a.start, b.start, [], []⟩ l))), .int .i64 (runN a b cap ⟨a.start, b.start, [], []⟩ l : Nat), .int .i64 0] else [cfgP cfg0, .int .i64 0, .int .i64 (sysErr a b cap)]) := by
  refine res_of a163 rfl rfl ?_
  simp only [F163]
  by_cases h1 : sysErr a b cap = 0
  rotate_left
  · have d1 : decide (sysErr a b cap = 0) = false := by simp [h1]
    rw [if_neg h1]
    simp (disch := omega) only [go_sem, d1]
    rfl
  have d1 : decide (sysErr a b cap = 0) = true := by simp [h1]
  rw [if_pos h1]
  generalize hc0 : (⟨a.start, b.start, [], []⟩ : Cfg) = c0
  have hca : c0.toA.length = 0 ∧ c0.toB.length = 0 := by subst hc0; exact ⟨rfl, rfl⟩
  simp (disch := omega) only [go_sem, d1]
  have hs0 : stepTo a b cap c0 (l.take 0) = c0 := rfl
  refine W.find (List.range l.length) (runBad a b cap c0 l) (fun k => ⟨[(1, .pv (.lst t (mvs3 l))), (2, .ptr 2 0), (4, .ptr 4 0), (8, .ptr 8 0), (9, .pv (.int .i64 k))], ⟨[(2, [.pv (.int .i64 a.states), .pv (.int .i64 a.start), .pv (.lst 0 (a.edges.map Edge.c)), .pv (.int .i64 b.states), .pv (.int .i64 b.start), .pv (.lst 0 (b.edges.map Edge.c)), .pv (.int .i64 cap)]), (4, [.pv (.int .i64 0), .pv (.int .i64 0), .tl [], .tl []]), (8, [.pv (.int .i64 (stepTo a b cap c0 (l.take k)).a), .pv (.int .i64 (stepTo a b cap c0 (l.take k)).b), .pv (.lst 0 (ints (stepTo a b cap c0 (l.take k)).toA)), .pv (.lst 0 (ints (stepTo a b cap c0 (l.take k)).toB))])], [], []⟩⟩) ?_ (fun k y hy hk hfd => ?_) (fun hn => ?_)
  · rw [hs0, ← hc0]
    rfl
  · rw [List.length_range] at hk
    rw [List.getElem?_range hk] at hy
    cases hy
    obtain ⟨mv, hmv⟩ := get_at (l := l) (k := k) hk
    have hlen := stepTo_len a b cap (l.take k) c0
    have htl : (l.take k).length ≤ k := by rw [List.length_take]; omega
    have hss := stepTo_succ (a := a) (b := b) (cap := cap) (c := c0) hmv
    have hbad : runBad a b cap c0 l k = !(afterG a b cap (stepTo a b cap c0 (l.take k)) mv).2 := by
      unfold runBad
      rw [List.getD_eq_getElem?_getD, hmv]
      rfl
    have hrn : runBad a b cap c0 l k = true → runN a b cap c0 l = k := fun h => by
      unfold runN
      rw [(hfd h).find]
      rfl
    rw [hbad] at hrn hfd
    generalize hcc : stepTo a b cap c0 (l.take k) = c at *
    have h183 := r183 a b cap c.a c.b c.toA c.toB mv ha hb (by omega) (by omega)
    have hG : afterC a b cap c.a c.b c.toA c.toB mv = afterG a b cap c mv := rfl
    rw [hG] at h183
    generalize afterG a b cap c mv = r at *
    obtain ⟨c', ok⟩ := r
    dsimp only at h183 hss hrn hfd
    simp (disch := omega) only [go_sem]
    refine Br.ofP (fun h => ?_) (fun h => (h (by omega)).elim)
    simp (disch := omega) only [go_sem, hmv, h183]
    cases ok with
    | true =>
      simp (disch := omega) only [go_sem]
      refine findK.of (by rw [hbad]; rfl) ?_
      rw [hss]
      rfl
    | false =>
      simp (disch := omega) only [go_sem]
      rw [hrn rfl, hcc]
  · have hrn : runN a b cap c0 l = l.length := by
      unfold runN
      rw [hn.find]
      rfl
    rw [hrn, List.length_range]
    simp (disch := omega) only [go_sem]


theorem cloneMvs {l : List Mov} (hm : l.length ≤ 2147483648) : (l = [] ∧ ∀ h, cloneP 3 [.pv (.lst 0 [])] h = some (.tl [], {})) ∨ (l ≠ [] ∧ ∀ h, cloneP 3 [.pv (.lst 0 (mvs3 l))] h = some (.own h.ar.length 0 0 l.length, { push := [⟨0, 3, .inl (mvs3 l)⟩], base := h.ar.length })) := by
  rcases cloneCases (k := 3) (rows := mvs3 l) (fun r hr => by obtain ⟨x, _, rfl⟩ := List.mem_map.1 hr; rfl) (by rw [mvs3_length]; omega) with ⟨h0, hc⟩ | ⟨h0, hc⟩
  · cases l with
    | nil => exact .inl ⟨rfl, hc⟩
    | cons x r => simp [mvs3] at h0
  · rw [mvs3_length] at hc
    exact .inr ⟨fun h => h0 (by rw [h]; rfl), hc⟩
set_option maxHeartbeats 4000000 in
theorem r143 (r150 : res A PrA 150 [] = some [.bool true]) (a b : Auto) (cap : Int) (l : List Mov) (ha : a.edges.length ≤ 2 ^ 63 - 1) (hb : b.edges.length ≤ 2 ^ 63 - 1) (hl : l.length ≤ 2 ^ 63 - 1) : res A PrA 143 [.agg [.int .i64 a.states, .int .i64 a.start, .lst 0 (a.edges.map Edge.c), .int .i64 b.states, .int .i64 b.start, .lst 0 (b.edges.map Edge.c), .int .i64 cap], .lst 0 (mvs3 l)] = some [.bool true] := by
  refine res_of a143 rfl rfl ?_
  simp only [F143]
  have h151 := r151 0 0 a b cap 0 0 0 0 [] [] ha hb (by decide) (by decide)
  simp only [ints_nil] at h151
  cases hf : fewS a b [] [] with
  | false =>
    rw [hf] at h151
    simp (disch := omega) only [go_sem, r150, h151]
  | true =>
    rw [hf] at h151
    simp (disch := omega) only [go_sem, r150, h151]
    refine Br.ofP (fun c => ?_) (fun c => ?_) <;> simp (disch := omega) only [go_sem, c, r150]
    have h161 := fun t => r161 t a b cap l ha hb (by omega)
    have h163 := fun t => r163 t a b cap l ha hb (by omega)
    have hsl := stepTo_len a b cap (l.take (runN a b cap ⟨a.start, b.start, [], []⟩ l)) ⟨a.start, b.start, [], []⟩
    have htl : (l.take (runN a b cap ⟨a.start, b.start, [], []⟩ l)).length ≤ 30 := by rw [List.length_take]; omega
    simp only [List.length_nil, Nat.zero_add] at hsl
    generalize stepTo a b cap ⟨a.start, b.start, [], []⟩ (l.take (runN a b cap ⟨a.start, b.start, [], []⟩ l)) = cc at *
    generalize runN a b cap ⟨a.start, b.start, [], []⟩ l = n at *
    have h154 := r154 0 0 0 0 0 0 0 0 [] [] [] [] (by decide) (by decide) (by decide) (by decide)
    simp only [ints_nil] at h154
    have e00 : cfg0.toA = [] := rfl
    have e01 : cfg0.toB = [] := rfl
    have e02 : cfg0.a = 0 := rfl
    have e03 : cfg0.b = 0 := rfl
    by_cases h1 : sysErr a b cap = 0
    · rw [if_pos h1] at h161 h163
      rcases cloneMvs (l := l) (by omega) with ⟨rfl, hc⟩ | ⟨h0, hc⟩
      · simp only [mvs3_nil] at h161 h163
        simp (disch := omega) only [go_sem, hc, h161, h163]
      · have htm : (mvs3 l).take l.length = mvs3 l := List.take_of_length_le (Nat.le_of_eq (mvs3_length l))
        simp (disch := omega) only [go_sem, hc, h161, h163, htm]
    · rw [if_neg h1] at h161 h163
      simp only [cfgP_eq, e00, e01, e02, e03, ints_nil] at h161 h163
      rcases cloneMvs (l := l) (by omega) with ⟨rfl, hc⟩ | ⟨h0, hc⟩
      · simp only [mvs3_nil] at h161 h163
        simp (disch := omega) only [go_sem, hc, h161, h163, h154]
      · have htm : (mvs3 l).take l.length = mvs3 l := List.take_of_length_le (Nat.le_of_eq (mvs3_length l))
        simp (disch := omega) only [go_sem, hc, h161, h163, htm, h154]
end Go.Pv

/-
  Chapter 29 is awake: computed.
-/
namespace Go.Pv
theorem r150 : res A PrA 150 [] = some [.bool true] := res_some.2 ⟨3000, by kernel_rfl⟩
end Go.Pv

/-
  Drafts and actions that a law is given.
-/
namespace Go.Pv
variable {P : Program}

theorem slice_dec {α : Type} {c : α → List PV} {ok : α → Prop} {n : Nat} {t el : TypeId} {cs : List PV} (hu : P.underlying t = some (.slice el)) (he : ∀ cs, typed P n el cs → ∃ x, cs = c x ∧ ok x) (h : typed P (n + 1) t cs) : ∃ l : List α, cs = [.lst 0 (l.map c)] ∧ l.length ≤ 2 ^ 63 - 1 ∧ ∀ x ∈ l, ok x := by
  obtain ⟨rows, rfl, hl, hr⟩ := typed_slice hu h
  obtain ⟨l, rfl⟩ := rows_map (c := fun x : {x : α // ok x} => c x.1) (rows := rows) (fun r hr' => by
    obtain ⟨x, rfl, hx⟩ := he r (hr r hr')
    exact ⟨⟨x, hx⟩, rfl⟩)
  refine ⟨l.map (·.1), by simp [], by simpa [maxLen] using hl, fun x hx => ?_⟩
  obtain ⟨y, _, rfl⟩ := List.mem_map.1 hx
  exact y.2
end Go.Pv

/-
  Systems, configurations, moves that a law is given.
-/
namespace Go.Pv
variable {P : Program}

structure SysT (P : Program) (ts tc tl tm ta te le li ti tb : TypeId) : Prop where
  s : ∃ fs, P.underlying ts = some (.struct fs) ∧ fs.toList.map (·.type) = [ta, ta, ti]
  c : ∃ fs, P.underlying tc = some (.struct fs) ∧ fs.toList.map (·.type) = [ti, ti, li, li]
  l : P.underlying tl = some (.slice tm)
  m : ∃ fs, P.underlying tm = some (.struct fs) ∧ fs.toList.map (·.type) = [ti, tb, ti]
  a : ∃ fs, P.underlying ta = some (.struct fs) ∧ fs.toList.map (·.type) = [ti, ti, le]
  le : P.underlying le = some (.slice te)
  e : ∃ fs, P.underlying te = some (.struct fs) ∧ fs.toList.map (·.type) = [ti, tb, ti, ti]
  li : P.underlying li = some (.slice ti)
  i : P.underlying ti = some (.int .i64)
  b : P.underlying tb = some .bool
variable {ts tc tl tm ta te le li ti tb : TypeId}
theorem sedge_typed (T : SysT P ts tc tl tm ta te le li ti tb) {n : Nat} (cs : List PV) (h : typed P (n + 2) te cs) : ∃ x : Edge, cs = x.c ∧ True := by
  obtain ⟨fs, hu, hts⟩ := T.e
  obtain ⟨r0, q0, rfl, h0, r1, q1, rfl, h1, r2, q2, rfl, h2, r3, q3, rfl, h3, rfl⟩ := typed_struct hu hts h
  obtain ⟨x, rfl, _⟩ := typed_int T.i h0
  obtain ⟨y, rfl⟩ := typed_bool T.b h1
  obtain ⟨z, rfl, _⟩ := typed_int T.i h2
  obtain ⟨u, rfl, _⟩ := typed_int T.i h3
  exact ⟨⟨x, y, z, u⟩, rfl, trivial⟩
theorem mov_typed (T : SysT P ts tc tl tm ta te le li ti tb) {n : Nat} (cs : List PV) (h : typed P (n + 2) tm cs) : ∃ x : Mov, cs = x.c ∧ True := by
  obtain ⟨fs, hu, hts⟩ := T.m
  obtain ⟨r0, q0, rfl, h0, r1, q1, rfl, h1, r2, q2, rfl, h2, rfl⟩ := typed_struct hu hts h
  obtain ⟨x, rfl, _⟩ := typed_int T.i h0
  obtain ⟨y, rfl⟩ := typed_bool T.b h1
  obtain ⟨z, rfl, _⟩ := typed_int T.i h2
  exact ⟨⟨x, y, z⟩, rfl, trivial⟩
theorem aut_typed (T : SysT P ts tc tl tm ta te le li ti tb) {n : Nat} (cs : List PV) (h : typed P (n + 4) ta cs) : ∃ a : Auto, cs = [.int .i64 a.states, .int .i64 a.start, .lst 0 (a.edges.map Edge.c)] ∧ a.edges.length ≤ 2 ^ 63 - 1 := by
  obtain ⟨fs, hu, hts⟩ := T.a
  obtain ⟨r0, q0, rfl, h0, r1, q1, rfl, h1, r2, q2, rfl, h2, rfl⟩ := typed_struct hu hts h
  obtain ⟨x, rfl, _⟩ := typed_int T.i h0
  obtain ⟨y, rfl, _⟩ := typed_int T.i h1
  obtain ⟨l, rfl, hl, _⟩ := slice_dec T.le (sedge_typed T (n := n)) h2
  exact ⟨⟨x, y, l⟩, rfl, hl⟩
theorem ints_typed (T : SysT P ts tc tl tm ta te le li ti tb) {n : Nat} (cs : List PV) (h : typed P (n + 2) li cs) : ∃ l : List Int, cs = [.lst 0 (ints l)] ∧ l.length ≤ 2 ^ 63 - 1 := by
  obtain ⟨l, rfl, hl, _⟩ := slice_dec (c := fun x => [PV.int .i64 x]) (ok := fun _ => True) T.li (fun cs hc => by
    obtain ⟨x, rfl, _⟩ := typed_int (n := n) T.i hc
    exact ⟨x, rfl, trivial⟩) h
  exact ⟨l, rfl, hl⟩
def sysArg (T : SysT P ts tc tl tm ta te le li ti tb) : Arg P ts (Auto × Auto × Int) where
  pv x := .agg [.int .i64 x.1.states, .int .i64 x.1.start, .lst 0 (x.1.edges.map Edge.c), .int .i64 x.2.1.states, .int .i64 x.2.1.start, .lst 0 (x.2.1.edges.map Edge.c), .int .i64 x.2.2]
  ok x := x.1.edges.length ≤ 2 ^ 63 - 1 ∧ x.2.1.edges.length ≤ 2 ^ 63 - 1
  dec cs h := by
    obtain ⟨fs, hu, hts⟩ := T.s
    obtain ⟨r0, q0, rfl, h0, r1, q1, rfl, h1, r2, q2, rfl, h2, rfl⟩ := typed_struct (n := 11) hu hts h
    obtain ⟨a, rfl, ha⟩ := aut_typed T (n := 7) _ h0
    obtain ⟨b, rfl, hb⟩ := aut_typed T (n := 7) _ h1
    obtain ⟨c, rfl, _⟩ := typed_int (n := 10) T.i h2
    exact ⟨⟨a, b, c⟩, ⟨ha, hb⟩, by simp only [argPV, isAgg_struct hu, if_true]; rfl⟩
def cfgArg (T : SysT P ts tc tl tm ta te le li ti tb) : Arg P tc Cfg where
  pv x := .agg [.int .i64 x.a, .int .i64 x.b, .lst 0 (ints x.toA), .lst 0 (ints x.toB)]
  ok x := x.toA.length ≤ 2 ^ 63 - 1 ∧ x.toB.length ≤ 2 ^ 63 - 1
  dec cs h := by
    obtain ⟨fs, hu, hts⟩ := T.c
    obtain ⟨r0, q0, rfl, h0, r1, q1, rfl, h1, r2, q2, rfl, h2, r3, q3, rfl, h3, rfl⟩ := typed_struct (n := 11) hu hts h
    obtain ⟨a, rfl, _⟩ := typed_int (n := 10) T.i h0
    obtain ⟨b, rfl, _⟩ := typed_int (n := 10) T.i h1
    obtain ⟨l, rfl, hl⟩ := ints_typed T (n := 9) _ h2
    obtain ⟨m, rfl, hm⟩ := ints_typed T (n := 9) _ h3
    exact ⟨⟨a, b, l, m⟩, ⟨hl, hm⟩, by simp only [argPV, isAgg_struct hu, if_true]; rfl⟩
def movArg (T : SysT P ts tc tl tm ta te le li ti tb) : Arg P tm Mov where
  pv x := .agg [.int .i64 x.party, .bool x.send, .int .i64 x.label]
  ok _ := True
  dec cs h := by
    obtain ⟨x, rfl, _⟩ := mov_typed T (n := 10) _ h
    obtain ⟨fs, hu, _⟩ := T.m
    exact ⟨x, trivial, by simp only [argPV, isAgg_struct hu, if_true]; rfl⟩
def mvsArg (T : SysT P ts tc tl tm ta te le li ti tb) : Arg P tl (List Mov) where
  pv l := .lst 0 (l.map Mov.c)
  ok l := l.length ≤ 2 ^ 63 - 1
  dec cs h := by
    obtain ⟨l, rfl, hl, _⟩ := slice_dec T.l (mov_typed T (n := 9)) h
    have : isAggT P tl = some false := by simp [isAggT, T.l]
    exact ⟨l, hl, by simp [argPV, this]⟩
end Go.Pv

/-
  strings.Builder: what its methods leave as it was, exactly.
-/
namespace Go.Pv
open Go.Shelf Go.RowKit Go.Proofs
variable {P : Program} {ρ : Ren}

structure Kept (b : Nat) (v : Value) (w w' : World) : Prop where
  os : w'.os = w.os
  tape : w'.tape = w.tape
  output : w'.output = w.output
  size : w.heap.size ≤ w'.heap.size
  block : ∀ k, k < w.heap.size → k ≠ b → some k ≠ v.ownBlock → w'.heap[k]? = w.heap[k]?
  drawn : w.drawn ≤ w'.drawn

theorem app_drawn {w : World} {base : Nat} {t u ty e : TypeId} {i : TypeInfo} (ht : P.underlying t = some (.slice e)) (hu : P.underlying u = some .string) (hi : P.info? e = some i) (hz : i.zero = some (.int .u8 0))
    (hsize : i.size = 1) (hby : i.bytes = 1) {v : Value} {n : Nat} {xs : List Value} (hown : w.ownsRow base e 1 v n xs) {s : ByteArray} (h63 : n + s.size ≤ maxLen) (hbytes : n + s.size ≤ 140737488355328) {v' : Value} {w' : World}
    (hr : (Builtin.append_ #[t, u] ty #[v, .string s]).run P w = .ok v' w') : w.drawn ≤ w'.drawn := by
  have hsmall : n + s.size ≤ 9223372036854775807 := by simp only [maxLen] at h63; omega
  have hxl : xs.length = n := by simpa using hown.1
  rcases hown.2 with ⟨rfl, rfl⟩ | ⟨g, cap, cur, rfl, _, hg, hnc, _, hcs, _⟩
  · by_cases hm : s.size = 0
    · have hf := Lib.run_firstCells_string (P := P) w 1 s
      rw [hm] at hf
      have h2 : (Builtin.append_ #[t, u] ty #[.slice none 0 0, .string s]).run P w = .ok (.slice none 0 0) w := by
        simp [Builtin.append_, run_underlying ht, run_underlying hu, sizeOf, typeInfo, hi, hsize, Builtin.lenOf, hm, hf]
      rw [h2] at hr
      cases hr
      exact Nat.le_refl _
    · have h2 := run_append_nil_string (P := P) w t u ty e i (.int .u8 0) ht hu hi hz s (by omega) (by omega) (by rw [hby]; omega)
      rw [h2] at hr
      cases hr
      exact Nat.le_succ _
  · by_cases hroom : n + s.size ≤ cap
    · have hcs' : cur.size = cap := by simpa using hcs
      have h2 := Lib.run_append_room_string (P := P) w t u ty e i ht hu hi hsize g n cap cur hg s hroom (by omega)
      rw [h2] at hr
      cases hr
      exact Nat.le_refl _
    · have holds : ∀ j u, xs[j]? = some u → w.cell? ((⟨g, 0, none⟩ : Addr).add j) = some u := hown.cells (g := g) rfl
      have h2 := Lib.run_append_grow_string (P := P) w t u ty e i (.int .u8 0) ht hu hi hz ⟨g, 0, none⟩ n cap xs (by rw [hsize]; simpa using hxl) holds s (by omega) (by omega) (by rw [hby]; exact growslice_fits (by omega) (by omega))
      rw [h2] at hr
      cases hr
      exact Nat.le_succ _

theorem app_block {w : World} {base : Nat} {t u ty e : TypeId} {i : TypeInfo} (ht : P.underlying t = some (.slice e)) (hu : P.underlying u = some .string) (hi : P.info? e = some i) (hz : i.zero = some (.int .u8 0))
    (hsize : i.size = 1) (hby : i.bytes = 1) {v : Value} {n : Nat} {xs : List Value} (hown : w.ownsRow base e 1 v n xs) {s : ByteArray} (h63 : n + s.size ≤ maxLen) (hbytes : n + s.size ≤ 140737488355328) {v' : Value} {w' : World}
    (hr : (Builtin.append_ #[t, u] ty #[v, .string s]).run P w = .ok v' w') : ∀ g, v'.ownBlock = some g → v.ownBlock = some g ∨ w.heap.size ≤ g := by
  have hsmall : n + s.size ≤ 9223372036854775807 := by simp only [maxLen] at h63; omega
  have hxl : xs.length = n := by simpa using hown.1
  rcases hown.2 with ⟨rfl, rfl⟩ | ⟨g, cap, cur, rfl, _, hg, hnc, _, hcs, _⟩
  · by_cases hm : s.size = 0
    · have hf := Lib.run_firstCells_string (P := P) w 1 s
      rw [hm] at hf
      have h2 : (Builtin.append_ #[t, u] ty #[.slice none 0 0, .string s]).run P w = .ok (.slice none 0 0) w := by
        simp [Builtin.append_, run_underlying ht, run_underlying hu, sizeOf, typeInfo, hi, hsize, Builtin.lenOf, hm, hf]
      rw [h2] at hr
      cases hr
      exact fun g h => .inl h
    · have h2 := run_append_nil_string (P := P) w t u ty e i (.int .u8 0) ht hu hi hz s (by omega) (by omega) (by rw [hby]; omega)
      rw [h2] at hr
      cases hr
      exact fun g' h => .inr (by cases h; exact Nat.le_refl _)
  · by_cases hroom : n + s.size ≤ cap
    · have hcs' : cur.size = cap := by simpa using hcs
      have h2 := Lib.run_append_room_string (P := P) w t u ty e i ht hu hi hsize g n cap cur hg s hroom (by omega)
      rw [h2] at hr
      cases hr
      exact fun g' h => .inl h
    · have holds : ∀ j u, xs[j]? = some u → w.cell? ((⟨g, 0, none⟩ : Addr).add j) = some u := hown.cells (g := g) rfl
      have h2 := Lib.run_append_grow_string (P := P) w t u ty e i (.int .u8 0) ht hu hi hz ⟨g, 0, none⟩ n cap xs (by rw [hsize]; simpa using hxl) holds s (by omega) (by omega) (by rw [hby]; exact growslice_fits (by omega) (by omega))
      rw [h2] at hr
      cases hr
      exact fun g' h => .inr (by cases h; exact Nat.le_refl _)

theorem heap_set_ne (w : World) (b k o : Nat) (x : Value) (h : k ≠ b) : (w.setCell ⟨b, o, none⟩ x).heap[k]? = w.heap[k]? := by
  simp only [World.setCell, Array.getElem?_modify]
  rw [if_neg (fun e => h e.symm)]

section
variable {w : World}
theorem wpList_str_own {ops : Array Oper} {rest : List Oper} {o : Oper} {a : Act} {Q : Exit → Act → World → Prop} (hgd : o.guard = none) (sl x : Operand) (t u : TypeId)
    (ho : o.op = .call { callee := .builtin .append, args := #[sl, x], argTypes := #[t, u] })
    (base : Nat) (e : TypeId) (i : TypeInfo) (ht : P.underlying t = some (.slice e)) (hu : P.underlying u = some .string) (hi : P.info? e = some i) (hz : i.zero = some (.int .u8 0))
    (hsize : i.size = 1) (hby : i.bytes = 1)
    (v : Value) (n : Nat) (xs : List Value) (hs : a.eval sl = v) (hown : w.ownsRow base e 1 v n xs) (s : ByteArray) (hx : a.eval x = .string s)
    (h63 : n + s.size ≤ maxLen) (hbytes : n + s.size ≤ 140737488355328) (hbase : base ≤ w.heap.size)
    (h : ∀ v' w', w'.ownsRow base e 1 v' (n + s.size) (xs ++ Lib.strCells s) → w.grownBy w' v.ownBlock → w.drawn ≤ w'.drawn → (∀ g, v'.ownBlock = some g → v.ownBlock = some g ∨ w.heap.size ≤ g) → wpList P ops Q rest (a.put o.dst v') w') : wpList P ops Q (o :: rest) a w := by
  refine wpList_plain hgd fun K hK => ?_
  obtain ⟨v', w', hr, h2, h3, h4⟩ := Lib.run_append_own_string (P := P) w base t u o.type e i ht hu hi hz hsize hby v n xs hown s h63 hbytes hbase
  have hdr := app_drawn ht hu hi hz hsize hby hown h63 hbytes hr
  have hblk := app_block ht hu hi hz hsize hby hown h63 hbytes hr
  unfold Oper.wp execOp
  simp only [ho, resolve, invoke, builtin, Sem.run_bind, Sem.run_pure, Result.andThen_ok, List.map_toArray, List.map_cons, List.map_nil, hs, hx, hr]
  exact hK _ _ (h v' w' h2 h3 hdr hblk)
end
theorem bld_check (L : Lays.n240 P ρ) (X : Builder.X72 P ρ) {b : Nat} {p v : Value} {w : World} (hb : w.heap[b]? = some (.cells #[p, v] (ρ.t 72) (0, 0))) (hp : p = .pointer none ∨ p = .pointer (some ⟨b, 0, none⟩)) :
    Calls P (ρ.f 240) #[.pointer (some ⟨b, 0, none⟩)] w fun e w' => e = .returned (.tuple #[]) ∧ (w'.heap[b]? = some (.cells #[.pointer (some ⟨b, 0, none⟩), v] (ρ.t 72) (0, 0)) ∧ (∀ k, k ≠ b → w'.heap[k]? = w.heap[k]?) ∧ w'.heap.size = w.heap.size ∧ w'.os = w.os ∧ w'.tape = w.tape ∧ w'.output = w.output ∧ w'.drawn = w.drawn) := by
  rcases hp with rfl | rfl
  · refine (Any.Builder_copyCheck_fresh L X b w (by rw [Lib.cell_of_heap hb]; rfl) (by simp [World.shape?, hb]) (Lib.frozen_of_heap hb 0)).mono ?_
    rintro e w' ⟨rfl, rfl⟩
    refine ⟨rfl, ?_, fun k hk => heap_set_ne w b k 0 _ hk, by simp [World.setCell], rfl, rfl, rfl, rfl⟩
    simp [World.setCell, Array.getElem?_modify, hb]
  · refine (Any.Builder_copyCheck_used L X b w (by rw [Lib.cell_of_heap hb]; rfl)).mono ?_
    rintro e w' ⟨rfl, rfl⟩
    exact ⟨rfl, hb, fun k hk => rfl, rfl, rfl, rfl, rfl, rfl⟩

set_option maxHeartbeats 4000000 in
set_option maxRecDepth 100000 in
theorem bld_write (L : Lays.n166 P ρ) (X : Builder.Extra P ρ) {K b : Nat} {bs : List Value} {s : ByteArray} {w : World} {p v : Value} (hb : w.heap[b]? = some (.cells #[p, v] (ρ.t 72) (0, 0))) (hp : p = .pointer none ∨ p = .pointer (some ⟨b, 0, none⟩))
    (hown : w.ownsRow K (ρ.t 5) 1 v bs.length bs) (hne : v.ownBlock ≠ some b) (hlen : bs.length + s.size ≤ 140737488355328) (hK : K ≤ w.heap.size) :
    Calls P (ρ.f 166) #[.pointer (some ⟨b, 0, none⟩), .string s] w fun e w' => e = .returned (.tuple #[.int .i64 s.size, .nilIface]) ∧ (∃ v', (w'.heap[b]? = some (.cells #[.pointer (some ⟨b, 0, none⟩), v'] (ρ.t 72) (0, 0)) ∧ w'.ownsRow K (ρ.t 5) 1 v' (bs ++ Lib.strCells s).length (bs ++ Lib.strCells s) ∧ v'.ownBlock ≠ some b) ∧ (∀ g, v'.ownBlock = some g → v.ownBlock = some g ∨ w.heap.size ≤ g)) ∧ Kept b v w w' := by
  obtain ⟨i0, hi, hz0, hz1, hz2⟩ := info_parts X.infoByte
  have hlt : b < w.heap.size := (Array.getElem?_eq_some_iff.1 hb).1
  have mixed := L.mixed
  have t72 := L.t72; have a72 := L.a72; have z72 := L.z72; have v72 := L.v72; have u72 := run_underlying L.t72
  have t70 := L.t70; have a70 := L.a70; have z70 := L.z70; have v70 := L.v70; have u70 := run_underlying L.t70
  have t37 := L.t37; have a37 := L.a37; have z37 := L.z37; have v37 := L.v37; have u37 := run_underlying L.t37
  have t3 := L.t3; have a3 := L.a3; have z3 := L.z3; have v3 := L.v3; have u3 := run_underlying L.t3
  have t9 := L.t9; have a9 := L.a9; have z9 := L.z9; have v9 := L.v9; have u9 := run_underlying L.t9
  have t4 := L.t4; have a4 := L.a4; have z4 := L.z4; have v4 := L.v4; have u4 := run_underlying L.t4
  have t164 := L.t164; have a164 := L.a164; have z164 := L.z164; have v164 := L.v164; have u164 := run_underlying L.t164
  have t5 := X.t5; have a5 := X.a5; have z5 := X.z5; have v5 := X.v5; have u5 := run_underlying X.t5
  have e240 : ∀ args w, (callFunc (ρ.f 240) args).run P w = .ok (.enter (ρ.f 240) args) w := enters_of L.f240 (by kernel_rfl) rfl
  go_enter L.f166, Body.n166_ntmps ρ
  go_wp2_with (go_at_fn (ρ.f 240); refine (bld_check { L with } X.toX72 hb hp).mono ?_)
  rintro e w1 ⟨rfl, hb1, hk1, hz1', ho1, ht1, hu1, hd1⟩
  have hown1 : w1.ownsRow K (ρ.t 5) 1 v bs.length bs := hown.kept (row := some b) ⟨ho1, ht1, hu1, by omega, fun k _ hk => hk1 k (fun e => hk (by rw [e]))⟩ (Or.inr hne)
  have c0 : w1.cell? ⟨b, 0, none⟩ = some (.pointer (some ⟨b, 0, none⟩)) := by rw [Lib.cell_of_heap hb1]; rfl
  have c1 : w1.cell? ⟨b, 1, none⟩ = some v := by rw [Lib.cell_of_heap hb1]; rfl
  go_wp2_with (at_builtin; refine wpList_str_own rfl _ _ (ρ.t 37) (ρ.t 9) rfl K (ρ.t 5) i0 L.t37 L.t9 hi hz0 hz1 hz2 _ _ _ rfl hown1 s rfl ?c3 ?c4 ?c5 ?_)
  case c3 => unfold maxLen; omega
  case c4 => omega
  case c5 => omega
  intro v' w2 hown' hgrow hdr hblk
  have hb2 : w2.heap[b]? = some (.cells #[.pointer (some ⟨b, 0, none⟩), v] (ρ.t 72) (0, 0)) := by
    rw [hgrow.block b (by omega) (fun e => hne e.symm)]
    exact hb1
  have d0 : w2.cell? ⟨b, 0, none⟩ = some (.pointer (some ⟨b, 0, none⟩)) := by rw [Lib.cell_of_heap hb2]; rfl
  have d1 : w2.cell? ⟨b, 1, none⟩ = some v := by rw [Lib.cell_of_heap hb2]; rfl
  have f1 : w2.frozen? ⟨b, 1, none⟩ = false := Lib.frozen_of_heap hb2 1
  obtain ⟨ao, n', cap, rfl⟩ : ∃ ao n' cap, v' = .slice ao n' cap := by
    rcases hown'.2 with ⟨hv, _⟩ | ⟨g, cap, cur, hv, _⟩
    · exact ⟨_, _, _, hv⟩
    · exact ⟨_, _, _, hv⟩
  go_wp2
  go_ret2
  have hTe : ρ.t 72 ≠ ρ.t 5 := X.neB5
  have hne' := Lib.ownBlock_ne hown' hb2 hTe
  refine ⟨rfl, ⟨.slice ao n' cap, ⟨?_, ?_, hne'⟩, fun g hg => ?_⟩, ⟨?_, ?_, ?_, ?_, fun k hk hkb hkv => ?_, ?_⟩⟩
  · simp [World.setCell, Array.getElem?_modify, hb2]
  · rw [List.length_append, Lib.strCells_length]
    exact hown'.kept (row := some b) ⟨rfl, rfl, rfl, by simp [World.setCell], fun k _ hk => heap_set_ne _ _ _ _ _ (fun e => hk (by rw [e]))⟩ (Or.inr hne')
  · rcases hblk g hg with h | h
    · exact .inl h
    · exact .inr (by omega)
  · exact hgrow.os.trans ho1
  · exact hgrow.tape.trans ht1
  · exact hgrow.output.trans hu1
  · have := hgrow.size
    simp [World.setCell]
    omega
  · rw [heap_set_ne _ _ _ _ _ hkb, hgrow.block k (by omega) hkv, hk1 k hkb]
  · show w.drawn ≤ w2.drawn
    omega

theorem heap_freeze_ne (w : World) (p : Addr) (n k : Nat) (h : k ≠ p.block) : (w.freeze p n).heap[k]? = w.heap[k]? := by
  unfold World.freeze
  split
  · rfl
  · simp only [Array.getElem?_modify]
    rw [if_neg (fun e => h e.symm)]
theorem freeze_size (w : World) (p : Addr) (n : Nat) : w.heap.size ≤ (w.drew.freeze p n).heap.size := by
  unfold World.freeze
  split
  · exact Nat.le_refl _
  · show w.heap.size ≤ (w.heap.modify _ _).size
    rw [Array.size_modify]
    exact Nat.le_refl _
set_option maxHeartbeats 4000000 in
set_option maxRecDepth 100000 in
theorem bld_string (L : Lays.n169 P ρ) (X : Builder.Extra P ρ) {K b : Nat} {l : List UInt8} {w : World} {p v : Value} (hbk : w.heap[b]? = some (.cells #[p, v] (ρ.t 72) (0, 0))) (hown : w.ownsRow K (ρ.t 5) 1 v (Lib.byteCells l).length (Lib.byteCells l)) (h0 : l ≠ []) :
    Calls P (ρ.f 169) #[.pointer (some ⟨b, 0, none⟩)] w fun e w' => e = .returned (.string ⟨l.toArray⟩) ∧ Kept b v w w' := by
  have hl0 : l.length ≠ 0 := by simpa using h0
  rw [Lib.byteCells_length] at hown
  obtain ⟨g, cap, cur, rfl, hbg, hg, hnc, hcm, hcs, htake⟩ : ∃ g cap cur, v = .slice (some ⟨g, 0, none⟩) l.length cap ∧ K ≤ g ∧ w.heap[g]? = some (.cells cur (ρ.t 5) (0, 0)) ∧ l.length ≤ cap ∧ cap ≤ maxLen ∧ cur.size = cap * 1 ∧ cur.toList.take (l.length * 1) = Lib.byteCells l := by
    rcases hown.2 with ⟨_, hz⟩ | ⟨g, cap, cur, hv, r⟩
    · exact absurd hz hl0
    · exact ⟨g, cap, cur, hv, r⟩
  have c1 : w.drew.cell? ⟨b, 1, none⟩ = some (.slice (some ⟨g, 0, none⟩) l.length cap) := by
    have : w.drew.heap[b]? = some (.cells #[p, .slice (some ⟨g, 0, none⟩) l.length cap] (ρ.t 72) (0, 0)) := hbk
    rw [Lib.cell_of_heap this]; rfl
  have hSD : (Builtin.unsafeSliceData_ #[(ρ.t 37)] (ρ.t 127) #[.slice (some ⟨g, 0, none⟩) l.length cap]).run P w.drew = .ok (.pointer (some ⟨g, 0, none⟩)) w.drew :=
    Lib.run_unsafeSliceData_row _ _ _ _ _ _ (by omega)
  have hUS : (Builtin.unsafeString_ #[(ρ.t 127), (ρ.t 3)] (ρ.t 9) #[.pointer (some ⟨g, 0, none⟩), .int .i64 l.length]).run P w.drew = .ok (.string ⟨l.toArray⟩) (w.drew.freeze ⟨g, 0, none⟩ l.length) := by
    refine Lib.run_unsafeString_row w.drew (ρ.t 127) (ρ.t 3) (ρ.t 9) (ρ.t 5) L.t127 X.cellsByte g cur.size (by have hg' : w.drew.heap[g]? = some (.cells cur (ρ.t 5) (0, 0)) := hg; simp [World.shape?, hg']) l h0 (by omega) (by unfold maxLen at hcm; omega) ?_
    intro j x hx
    have := hown.cells (g := g) rfl j (.int .u8 x.toNat) (by simp [Lib.byteCells, hx])
    exact this
  have mixed := L.mixed
  have t72 := L.t72; have a72 := L.a72; have z72 := L.z72; have v72 := L.v72; have u72 := run_underlying L.t72
  have t70 := L.t70; have a70 := L.a70; have z70 := L.z70; have v70 := L.v70; have u70 := run_underlying L.t70
  have t37 := L.t37; have a37 := L.a37; have z37 := L.z37; have v37 := L.v37; have u37 := run_underlying L.t37
  have t127 := L.t127; have a127 := L.a127; have z127 := L.z127; have v127 := L.v127; have u127 := run_underlying L.t127
  have t3 := L.t3; have a3 := L.a3; have z3 := L.z3; have v3 := L.v3; have u3 := run_underlying L.t3
  have t9 := L.t9; have a9 := L.a9; have z9 := L.z9; have v9 := L.v9; have u9 := run_underlying L.t9
  have t5 := X.t5; have a5 := X.a5; have z5 := X.z5; have v5 := X.v5; have u5 := run_underlying X.t5
  go_enter L.f169, Body.n169_ntmps ρ
  go_wp2
  go_region_o
  all_goals (go_wp2; go_ret; exact ⟨rfl, ⟨by simp [World.freeze]; split <;> rfl, by simp [World.freeze]; split <;> rfl, by simp [World.freeze]; split <;> rfl, freeze_size w _ _, fun k _ _ hkv => heap_freeze_ne _ _ _ _ (fun e => hkv (by rw [e]; rfl)), by unfold World.freeze; split <;> exact Nat.le_succ _⟩⟩)
end Go.Pv

/-
  Code that writes to a builder: stretches of it run as the interpreter has it, the builder's calls by their contracts; the builder's blocks are none of the interpreter's.
-/
namespace Go.Pv
variable {P : Program} {N M : Nat → Nat} {W : Nat → Prop} {L L' L0 : Lx} {e e' e0 : Emb} {h : Heap} {w w' w0 : World} {Φ : Nat → List PV → Option (List PV)} {Pr : Prims} {Tk : Nat → Bool} {pb : List Nat} {A : Nat → Option AFunc}

def Wx (W : Nat → Prop) (G : List Nat) : Nat → Prop := fun k => W k ∧ k ∉ G
theorem HR.foreign {G G' : List Nat} (hr : HR N L e (Wx W G) h w) (hLG : ∀ g ∈ G, ∀ t, ¬ L t g) (hk : ∀ k, k < w.heap.size → k ∉ G → w'.heap[k]? = w.heap[k]?) (hz : w.heap.size ≤ w'.heap.size)
    (hn : ∀ g ∈ G', g ∈ G ∨ w.heap.size ≤ g) (_hs : ∀ g ∈ G, g ∈ G') (hlt : ∀ g ∈ G', g < w'.heap.size) : HR N L e (Wx W G') h w' ∧ Ext L e w L e w' := by
  have hT : ∀ b, b ∈ G → ¬ owned e b ∧ (∀ t, ¬ L t b) ∧ ∀ id, id < e.nm → e.mp id ≠ b := fun b hb => by
    refine ⟨fun ho => ?_, hLG b hb, fun id hi he => ?_⟩
    · rcases ho with ⟨s, hs', rfl⟩ | ⟨id, hi, hk', rfl⟩
      · exact (hr.wbx s hs').1.2 hb
      · exact (hr.war id hi hk').1.2 hb
    · subst he
      exact (hr.wmp id hi).1.2 hb
  obtain ⟨h1, h2⟩ := hr.quiet2 (L' := L) (w' := w') (fun b => b ∈ G) hT hk hz (fun _ _ h => h) (fun _ _ h => .inl h)
  refine ⟨{ h1 with wbx := fun s hs' => ⟨⟨(hr.wbx s hs').1.1, fun hg => ?_⟩, (h1.wbx s hs').2⟩, war := fun id hi hk' => ⟨⟨(hr.war id hi hk').1.1, fun hg => ?_⟩, (h1.war id hi hk').2⟩, wmp := fun id hi => ⟨⟨(hr.wmp id hi).1.1, fun hg => ?_⟩, (h1.wmp id hi).2⟩, wide := fun b hb => ⟨(h1.wide b hb).1, fun hg => ?_⟩ }, h2⟩
  · rcases hn _ hg with hg | hg
    · exact (hr.wbx s hs').1.2 hg
    · have := hr.lt_bx hs'
      omega
  · rcases hn _ hg with hg | hg
    · exact (hr.war id hi hk').1.2 hg
    · have := hr.lt_ar hi hk'
      omega
  · rcases hn _ hg with hg | hg
    · exact (hr.wmp id hi).1.2 hg
    · have := hr.lt_mp hi
      omega
  · exact Nat.lt_irrefl _ (Nat.lt_of_lt_of_le (hlt b hg) hb)
def FSp (N : Nat → Nat) (W : Nat → Prop) (G : List Nat) (nt : Nat) (L0 : Lx) (e0 : Emb) (w0 : World) (b : Nat) (s : St) (a : Act) (w : World) : Prop :=
  ∃ L e, SR N (Wx W G) L e nt s a w ∧ Fr W w0 w ∧ (∀ t b, L0 t b → L t b) ∧ (∀ t b, L t b → L0 t b ∨ (t = 0 ∧ W b)) ∧ XExt L0 e0 w0 L e w ∧ (0 < e.na ∧ e.ar 0 = b ∧ e.ad 0 = 0) ∧ ∀ g ∈ G, (∀ t, ¬ L t g) ∧ w0.heap.size ≤ g ∧ g < w.heap.size
def BS (T E : TypeId) (K : Nat) (G : List Nat) (b : Nat) (bs : List Value) (w : World) : Prop :=
  b ∈ G ∧ ∃ p v, w.heap[b]? = some (.cells #[p, v] T (0, 0)) ∧ (p = .pointer none ∨ p = .pointer (some ⟨b, 0, none⟩)) ∧ w.ownsRow K E 1 v bs.length bs ∧ v.ownBlock ≠ some b ∧ ∀ g, v.ownBlock = some g → g ∈ G
theorem ownsRow_same {K : Nat} {E : TypeId} {v : Value} {n : Nat} {xs : List Value} (ho : w.ownsRow K E 1 v n xs) (hg : ∀ g, v.ownBlock = some g → w'.heap[g]? = w.heap[g]?) : w'.ownsRow K E 1 v n xs := by
  refine ⟨ho.1, ?_⟩
  rcases ho.2 with hn | ⟨g, cap, cur, rfl, hb, hgg, rest⟩
  · exact .inl hn
  · exact .inr ⟨g, cap, cur, rfl, hb, by rw [hg g rfl]; exact hgg, rest⟩
theorem BS.same {T E : TypeId} {K b : Nat} {G : List Nat} {bs : List Value} (hb : BS T E K G b bs w) (hk : ∀ g ∈ G, w'.heap[g]? = w.heap[g]?) : BS T E K G b bs w' := by
  obtain ⟨h1, p, v, h2, h3, h4, h5, h6⟩ := hb
  exact ⟨h1, p, v, by rw [hk b h1]; exact h2, h3, ownsRow_same h4 fun g hg => hk g (h6 g hg), h5, h6⟩
def tomb : Arr := ⟨0, 0, .inl []⟩
theorem FSp.next {G : List Nat} {nt b : Nat} {s s' : St} {a a' : Act} {T E : TypeId} {K : Nat} {bs : List Value} (hsr : SR N (Wx W G) L e nt s a w) (hf : Fr W w0 w) (hs1 : ∀ t b, L0 t b → L t b) (hs2 : ∀ t b, L t b → L0 t b ∨ (t = 0 ∧ W b)) (hx : XExt L0 e0 w0 L e w) (hp : 0 < e.na ∧ e.ar 0 = b ∧ e.ad 0 = 0) (hG : ∀ g ∈ G, (∀ t, ¬ L t g) ∧ w0.heap.size ≤ g ∧ g < w.heap.size)
    (hb : BS T E K G b bs w) (h0 : s.h.ar[0]? = some tomb) (h1 : s'.h.ar[0]? = some tomb) (hsr' : SR N (Wx W G) L' e' nt s' a' w') (hf' : Fr (Wx W G) w w') (g1 : ∀ t b, L t b → L' t b) (g2 : ∀ t b, L' t b → L t b ∨ (t = 0 ∧ Wx W G b)) (gx : XExt L e w L' e' w') : FSp N W G nt L0 e0 w0 b s' a' w' ∧ BS T E K G b bs w' := by
  have hfw : Fr W w w' := ⟨hf'.os, hf'.tape, hf'.output, hf'.size, fun k hk hw => hf'.kept k hk fun hc => hw hc.1, hf'.drawn⟩
  have e1 : e.av 0 = 0 := (hsr.hr.ver 0 _ h0).1
  have e2 : e'.av 0 = 0 := (hsr'.hr.ver 0 _ h1).1
  obtain ⟨_, k2⟩ := gx.av 0 hp.1
  obtain ⟨k3, k4, _⟩ := k2 (by omega)
  refine ⟨⟨L', e', hsr', hf.trans hfw, fun t b hb => g1 t b (hs1 t b hb), fun t b hb => ?_, hx.trans gx, ⟨Nat.lt_of_lt_of_le hp.1 gx.na, k3.trans hp.2.1, k4.trans hp.2.2⟩, fun g hg => ⟨fun t ht => ?_, (hG g hg).2.1, Nat.lt_of_lt_of_le (hG g hg).2.2 hf'.size⟩⟩, hb.same fun g hg => hf'.kept g (hG g hg).2.2 fun hc => hc.2 hg⟩
  · rcases g2 t b hb with hb | ⟨hb, hb'⟩
    · exact hs2 t b hb
    · exact .inr ⟨hb, hb'.1⟩
  · rcases g2 t g ht with ht | ⟨_, ht⟩
    · exact (hG g hg).1 t ht
    · exact ht.2 hg
theorem frag_wp {G : List Nat} {nt b n : Nat} {code : Code} {an an' : Ann} {ac : AC} {s s' : St} {ex : Ex} {a : Act} {T E : TypeId} {K : Nat} {bs : List Value} (hc : CodeOk P N M A Pr n) (htr : trCode P N M nt code an = some (ac, an')) (he : exec A Pr n ac s = some (ex, s'))
    (h0 : s.h.ar[0]? = some tomb) (h1 : s'.h.ar[0]? = some tomb) (hs : FSp N W G nt L0 e0 w0 b s a w) (hb : BS T E K G b bs w) :
    code.wp P (fun x a' w' => x = exitOf ex ∧ FSp N W G nt L0 e0 w0 b s' a' w' ∧ BS T E K G b bs w') a w := by
  obtain ⟨L, e, hsr, hf, hs1, hs2, hx, hp, hG⟩ := hs
  refine wp_mono (hc nt code an ac an' htr (Wx W G) L e w s ex s' a w he ⟨L, e, hsr, Fr.refl _ _, fun _ _ h => h, fun _ _ h => .inl h, (Ext.refl _ _ _).x⟩) fun x a' w' hq => ?_
  obtain ⟨rfl, L', e', hsr', hf', g1, g2, gx⟩ := hq
  exact ⟨rfl, FSp.next hsr hf hs1 hs2 hx hp hG hb h0 h1 hsr' hf' g1 g2 gx⟩
theorem ops_then (hΦ : ∀ f ps rs, Φ f ps = some rs → FnR P N f ps rs) (hPr : PrimOk P N Pr) {nt : Nat} {ops : Array Oper} {Q : Exit → Act → World → Prop} {s' : St} (r : Nat) : ∀ (l : List AOper) (j : Nat) (L : Lx) (e : Emb) (s : St) (a : Act) (w : World),
    (∀ (i : Nat) (q : AOper), l[i]? = some q → ∃ o, ops[j + i]? = some o ∧ trOper P N M nt pb ops o = some q) → SR N W L e nt s a w → execOps Φ Pr Tk l s = some s' →
    (∀ a' w' L' e', Nx N W L e w L' e' s'.h w' → SR N W L' e' nt s' a' w' → wpOps P ops Q (List.range' (j + l.length) r) a' w') → wpOps P ops Q (List.range' j (l.length + r)) a w
  | [], j, L, e, s, a, w, _, hs, he, hK => by
    simp [execOps] at he
    subst he
    simpa using hK a w L e (Nx.refl hs.hr) hs
  | q :: l, j, L, e, s, a, w, hl, hs, he, hK => by
    simp only [execOps] at he
    cases hst : stepOp Φ Pr Tk q s with
    | none => simp [hst] at he
    | some st =>
      obtain ⟨s1, t⟩ := st
      simp only [hst] at he
      obtain ⟨o, ho, hq⟩ := hl 0 q rfl
      rw [List.length_cons, show l.length + 1 + r = (l.length + r) + 1 by omega, List.range'_succ, wpOps_cons]
      refine step_wp hs hΦ hPr (by simpa using ho) hq (InsO.refl q) hst fun a1 w1 L1 e1 h1 hs1 => ?_
      refine ops_then hΦ hPr r l (j + 1) L1 e1 s1 a1 w1 (fun i q' hi => ?_) hs1 he (fun a' w' L' e' h2 hs2 => ?_)
      · obtain ⟨o', ho', hq'⟩ := hl (i + 1) q' (by simpa using hi)
        exact ⟨o', by rw [show j + 1 + i = j + (i + 1) by omega]; exact ho', hq'⟩
      · have := hK a' w' L' e' (h1.trans h2) hs2
        rwa [List.length_cons, show j + (l.length + 1) = j + 1 + l.length by omega] at this
theorem prefix_wp {G : List Nat} {nt b : Nat} {s s' : St} {a : Act} {T E : TypeId} {K : Nat} {bs : List Value} (hΦ : ∀ f ps rs, Φ f ps = some rs → FnR P N f ps rs) (hPr : PrimOk P N Pr) {ops : Array Oper} {Q : Exit → Act → World → Prop} (r j : Nat) (l : List AOper)
    (hl : ∀ (i : Nat) (q : AOper), l[i]? = some q → ∃ o, ops[j + i]? = some o ∧ trOper P N M nt pb ops o = some q) (he : execOps Φ Pr Tk l s = some s') (h0 : s.h.ar[0]? = some tomb) (h1 : s'.h.ar[0]? = some tomb)
    (hs : FSp N W G nt L0 e0 w0 b s a w) (hb : BS T E K G b bs w) (hK : ∀ a' w', FSp N W G nt L0 e0 w0 b s' a' w' → BS T E K G b bs w' → wpOps P ops Q (List.range' (j + l.length) r) a' w') : wpOps P ops Q (List.range' j (l.length + r)) a w := by
  obtain ⟨L, e, hsr, hf, hs1, hs2, hx, hp, hG⟩ := hs
  refine ops_then hΦ hPr r l j L e s a w hl hsr he fun a' w' L' e' hn hsr' => ?_
  obtain ⟨k1, k2⟩ := FSp.next hsr hf hs1 hs2 hx hp hG hb h0 h1 hsr' hn.fr hn.ext.sub hn.new hn.ext.x
  exact hK a' w' k1 k2
theorem FSp.ptr {G : List Nat} {nt b t : Nat} {s : St} {a : Act} (hs : FSp N W G nt L0 e0 w0 b s a w) (h0 : s.h.ar[0]? = some tomb) (ht : get s.env t = .aptr 0 0 0 0) : a.tmps.getD t undef = .pointer (some ⟨b, 0, none⟩) := by
  obtain ⟨L, e, hsr, _, _, _, _, hp, _⟩ := hs
  have hv := hsr.env t
  rw [ht] at hv
  generalize a.tmps.getD t undef = vv at hv ⊢
  cases hv with
  | aptr _ _ _ _ ad h1 h2 h3 =>
    have := h3 (hsr.hr.ver 0 _ h0).1.symm
    rw [hp.2.1, hp.2.2] at this
    rw [this]
    simp
theorem FSp.str {G : List Nat} {nt b t : Nat} {s : St} {a : Act} {x : ByteArray} (hs : FSp N W G nt L0 e0 w0 b s a w) (ht : get s.env t = .pv (.str x)) : a.tmps.getD t undef = .string x := by
  obtain ⟨L, e, hsr, _⟩ := hs
  have hv := hsr.env t
  rw [ht] at hv
  generalize a.tmps.getD t undef = vv at hv ⊢
  cases hv with
  | pv _ _ hp =>
    cases hp
    rfl
theorem FSp.built {G G' : List Nat} {nt b : Nat} {s : St} {a : Act} {d : Nat} {v' : Value} {x : V} (hs : FSp N W G nt L0 e0 w0 b s a w) (hd : d < nt) (hk : ∀ k, k < w.heap.size → k ∉ G → w'.heap[k]? = w.heap[k]?) (hz : w.heap.size ≤ w'.heap.size) (ho : w'.os = w.os) (htp : w'.tape = w.tape) (hu : w'.output = w.output) (hdr : w.drawn ≤ w'.drawn)
    (hn : ∀ g ∈ G', g ∈ G ∨ w.heap.size ≤ g) (hsub : ∀ g ∈ G, g ∈ G') (hlt : ∀ g ∈ G', g < w'.heap.size) (hv : ∀ L e, VR N L e w' x v') : FSp N W G' nt L0 e0 w0 b ⟨put s.env (some d) x, s.h⟩ (a.put (some d) v') w' := by
  obtain ⟨L, e, hsr, hf, hs1, hs2, hx, hp, hG⟩ := hs
  obtain ⟨h1, h2⟩ := HR.foreign hsr.hr (fun g hg => (hG g hg).1) hk hz hn hsub hlt
  have hsr1 : SR N (Wx W G') L e nt s a w' := ⟨h1, fun t => (hsr.env t).mono h2, hsr.size, hsr.defers⟩
  have hsr2 := hsr1.put (L' := L) (e' := e) (w' := w') (h' := s.h) (Ext.refl _ _ _) h1 (d := some d) (by simpa using hd) (hv L e)
  have hfw : Fr W w0 w' := ⟨ho.trans hf.os, htp.trans hf.tape, hu.trans hf.output, Nat.le_trans hf.size hz, fun k hk1 hw => by
    rw [hk k (Nat.lt_of_lt_of_le hk1 hf.size) fun hg => by have := (hG k hg).2.1; omega]
    exact hf.kept k hk1 hw, Nat.le_trans hf.drawn hdr⟩
  refine ⟨L, e, hsr2, hfw, hs1, hs2, hx.trans h2.x, hp, fun g hg => ⟨fun t ht => ?_, ?_, hlt g hg⟩⟩
  · rcases hn g hg with hg' | hg'
    · exact (hG g hg').1 t ht
    · have := hsr.hr.lsz t g ht
      omega
  · rcases hn g hg with hg' | hg'
    · exact (hG g hg').2.1
    · have := hf.size
      omega
end Go.Pv

/-
  The builder's calls, in the walk.
-/
namespace Go.Pv
open Go.Shelf Go.RowKit Go.Proofs
variable {P : Program} {N M : Nat → Nat} {W : Nat → Prop} {L L' L0 : Lx} {e e' e0 : Emb} {h : Heap} {w w' w0 : World} {ρ : Ren}

theorem write_wp (LL : Lays.n166 P ρ) (X : Builder.Extra P ρ) (hent : ∀ args w, (callFunc (ρ.f 166) args).run P w = .ok (.enter (ρ.f 166) args) w) {G : List Nat} {nt b i d : Nat} {s : St} {a : Act} {bs : List Value} {str : ByteArray} {ops : Array Oper} {o : Oper} {x : Operand} {ats : Array TypeId} {Q : Exit → Act → World → Prop} {KK : Act → World → Prop}
    (hi : ops[i]? = some o) (hg : o.guard = none) (hop : o.op = .call { callee := .value (.func (ρ.f 166)), args := #[.tmp 3, x], argTypes := ats }) (hd : o.dst = some d) (hdn : d < nt)
    (hs : FSp N W G nt L0 e0 w0 b s a w) (hb : BS (ρ.t 72) (ρ.t 5) w0.heap.size G b bs w) (h0 : s.h.ar[0]? = some tomb) (h3 : get s.env 3 = .aptr 0 0 0 0) (hx : a.eval x = .string str) (hlen : bs.length + str.size ≤ 140737488355328)
    (hK : ∀ a' w' G', FSp N W G' nt L0 e0 w0 b ⟨put s.env (some d) .any, s.h⟩ a' w' → BS (ρ.t 72) (ρ.t 5) w0.heap.size G' b (bs ++ Lib.strCells str) w' → KK a' w') : wpOp P ops Q i KK a w := by
  have hp := hs.ptr h0 h3
  have hsz : w0.heap.size ≤ w.heap.size := by obtain ⟨_, _, _, hf, _⟩ := hs; exact hf.size
  have hGl : ∀ g ∈ G, g < w.heap.size := by obtain ⟨_, _, _, _, _, _, _, _, hG⟩ := hs; exact fun g hg => (hG g hg).2.2
  obtain ⟨hbG, p, v, b1, b2, b3, b4, b5⟩ := hb
  unfold wpOp
  simp only [hi]
  rw [if_pos (by simp [Region.wanted, hg])]
  refine .inl ?_
  unfold Oper.wp
  have hrun : (execOp a.eval o).run P w = (callFunc (ρ.f 166) #[.pointer (some ⟨b, 0, none⟩), .string str]).run P w := by
    have e3 : a.eval (.tmp 3) = .pointer (some ⟨b, 0, none⟩) := hp
    have ef : a.eval (.func (ρ.f 166)) = .func (.func (ρ.f 166)) #[] #[] := rfl
    simp [execOp, hop, resolve, Deferred.ofValue, ef, e3, hx, invoke]
  rw [hrun, hent, Oper.upon_enter]
  refine Calls.mono (bld_write LL X b1 b2 b3 b4 hlen hsz) fun en w' hh => ?_
  obtain ⟨rfl, ⟨v', ⟨c1, c2, c3⟩, c4⟩, kp⟩ := hh
  rw [hd]
  have hkk : ∀ k, k < w.heap.size → k ∉ G → w'.heap[k]? = w.heap[k]? := fun k hk hkG => kp.block k hk (fun e => hkG (e ▸ hbG)) fun e => hkG (b5 k e.symm)
  have hGl' : ∀ g, v'.ownBlock = some g → g < w'.heap.size := fun g hg => by
    rcases c2.2 with ⟨rfl, _⟩ | ⟨g', cap, cur, rfl, _, hgg, _⟩
    · cases hg
    · cases hg
      exact (Array.getElem?_eq_some_iff.1 hgg).1
  cases hv' : v'.ownBlock with
  | none =>
    refine hK _ _ G (hs.built hdn hkk kp.size kp.os kp.tape kp.output kp.drawn (fun g hg => .inl hg) (fun g hg => hg) (fun g hg => Nat.lt_of_lt_of_le (hGl g hg) kp.size) (fun _ _ => .any _)) ⟨hbG, _, _, c1, .inr rfl, c2, c3, fun g hg => by rw [hv'] at hg; cases hg⟩
  | some g0 =>
    refine hK _ _ (g0 :: G) (hs.built hdn hkk kp.size kp.os kp.tape kp.output kp.drawn (fun g hg => ?_) (fun g hg => List.mem_cons_of_mem _ hg) (fun g hg => ?_) (fun _ _ => .any _)) ⟨List.mem_cons_of_mem _ hbG, _, _, c1, .inr rfl, c2, c3, fun g hg => by rw [hv'] at hg; cases hg; exact List.mem_cons_self ..⟩
    · rcases List.mem_cons.1 hg with rfl | hg
      · rcases c4 g hv' with h | h
        · exact .inl (b5 g h)
        · exact .inr h
      · exact .inl hg
    · rcases List.mem_cons.1 hg with rfl | hg
      · exact hGl' g hv'
      · exact Nat.lt_of_lt_of_le (hGl g hg) kp.size
theorem string_wp (LL : Lays.n169 P ρ) (X : Builder.Extra P ρ) (hent : ∀ args w, (callFunc (ρ.f 169) args).run P w = .ok (.enter (ρ.f 169) args) w) {G : List Nat} {nt b i d : Nat} {s : St} {a : Act} {l : List UInt8} {ops : Array Oper} {o : Oper} {ats : Array TypeId} {Q : Exit → Act → World → Prop} {KK : Act → World → Prop}
    (hi : ops[i]? = some o) (hg : o.guard = none) (hop : o.op = .call { callee := .value (.func (ρ.f 169)), args := #[.tmp 3], argTypes := ats }) (hd : o.dst = some d) (hdn : d < nt)
    (hs : FSp N W G nt L0 e0 w0 b s a w) (hb : BS (ρ.t 72) (ρ.t 5) w0.heap.size G b (Lib.byteCells l) w) (hl0 : l ≠ []) (h0 : s.h.ar[0]? = some tomb) (h3 : get s.env 3 = .aptr 0 0 0 0)
    (hK : ∀ a' w', FSp N W G nt L0 e0 w0 b ⟨put s.env (some d) (.pv (.str ⟨l.toArray⟩)), s.h⟩ a' w' → KK a' w') : wpOp P ops Q i KK a w := by
  have hp := hs.ptr h0 h3
  have hGl : ∀ g ∈ G, g < w.heap.size := by obtain ⟨_, _, _, _, _, _, _, _, hG⟩ := hs; exact fun g hg => (hG g hg).2.2
  obtain ⟨hbG, p, v, b1, b2, b3, b4, b5⟩ := hb
  unfold wpOp
  simp only [hi]
  rw [if_pos (by simp [Region.wanted, hg])]
  refine .inl ?_
  unfold Oper.wp
  have hrun : (execOp a.eval o).run P w = (callFunc (ρ.f 169) #[.pointer (some ⟨b, 0, none⟩)]).run P w := by
    have e3 : a.eval (.tmp 3) = .pointer (some ⟨b, 0, none⟩) := hp
    have ef : a.eval (.func (ρ.f 169)) = .func (.func (ρ.f 169)) #[] #[] := rfl
    simp [execOp, hop, resolve, Deferred.ofValue, ef, e3, invoke]
  rw [hrun, hent, Oper.upon_enter]
  refine Calls.mono (bld_string LL X b1 b3 hl0) fun en w' hh => ?_
  obtain ⟨rfl, kp⟩ := hh
  rw [hd]
  have hkk : ∀ k, k < w.heap.size → k ∉ G → w'.heap[k]? = w.heap[k]? := fun k hk hkG => kp.block k hk (fun e => hkG (e ▸ hbG)) fun e => hkG (b5 k e.symm)
  exact hK _ _ (hs.built hdn hkk kp.size kp.os kp.tape kp.output kp.drawn (fun g hg => .inl hg) (fun g hg => hg) (fun g hg => Nat.lt_of_lt_of_le (hGl g hg) kp.size) (fun _ _ => .pv _ _ (.str _)))
theorem new_wp {nt i d : Nat} {s : St} {a : Act} {T E : TypeId} {ops : Array Oper} {o : Oper} {Q : Exit → Act → World → Prop} {KK : Act → World → Prop}
    (hi : ops[i]? = some o) (hg : o.guard = none) (hrun : ∀ w, (execOp a.eval o).run P w = .ok (.value (.pointer (some ⟨w.heap.size, 0, none⟩))) (w.alloc (.cells #[.pointer none, .slice none 0 0] T))) (hd : o.dst = some d) (hdn : d < nt)
    (hs : FrS N W nt L0 e0 w0 s a w) (har : s.h.ar = [])
    (hK : ∀ a' w' b, FSp N W [b] nt L0 e0 w0 b ⟨put s.env (some d) (.aptr 0 0 0 0), { s.h with ar := [tomb] }⟩ a' w' → BS T E w0.heap.size [b] b [] w' → KK a' w') : wpOp P ops Q i KK a w := by
  unfold wpOp
  simp only [hi]
  rw [if_pos (by simp [Region.wanted, hg])]
  refine .inl ?_
  unfold Oper.wp
  rw [hrun w, Oper.upon_value, hd]
  obtain ⟨L, e, hsr, hf, h1, h2, hx⟩ := hs
  have hna : e.na = 0 := by rw [hsr.hr.na, har]; rfl
  have hsz : (w.alloc (.cells #[.pointer none, .slice none 0 0] T)).heap.size = w.heap.size + 1 := by simp
  have hold : ∀ k, k < w.heap.size → (w.alloc (.cells #[.pointer none, .slice none 0 0] T)).heap[k]? = w.heap[k]? := fun k hk => Lib.alloc_old w _ k hk
  have hnew : (w.alloc (.cells #[.pointer none, .slice none 0 0] T)).heap[w.heap.size]? = some (.cells #[.pointer none, .slice none 0 0] T (0, 0)) := heap_alloc_new w _
  have hr0 : HR N L e (Wx W []) s.h w := by
    have hr := hsr.hr
    exact { hr with wbx := fun s hs => ⟨⟨(hr.wbx s hs).1, by simp⟩, (hr.wbx s hs).2⟩, war := fun id hi hk => ⟨⟨(hr.war id hi hk).1, by simp⟩, (hr.war id hi hk).2⟩, wmp := fun id hi => ⟨⟨(hr.wmp id hi).1, by simp⟩, (hr.wmp id hi).2⟩, wide := fun b hb => ⟨hr.wide b hb, by simp⟩ }
  obtain ⟨g1, g2⟩ := hr0.foreign (G' := [w.heap.size]) (w' := w.alloc (.cells #[.pointer none, .slice none 0 0] T)) (fun g hg => by simp at hg) (fun k hk _ => hold k hk) (by omega) (fun g hg => .inr (Nat.le_of_eq (List.mem_singleton.1 hg).symm)) (fun g hg => by simp at hg) (fun g hg => by rw [List.mem_singleton.1 hg]; omega)
  have ho1 : (w.alloc (.cells #[.pointer none, .slice none 0 0] T)).os = w.os := rfl
  have ho2 : (w.alloc (.cells #[.pointer none, .slice none 0 0] T)).tape = w.tape := rfl
  have ho3 : (w.alloc (.cells #[.pointer none, .slice none 0 0] T)).output = w.output := rfl
  have ho4 : (w.alloc (.cells #[.pointer none, .slice none 0 0] T)).drawn = w.drawn := rfl
  generalize w.alloc (.cells #[.pointer none, .slice none 0 0] T) = w1 at *
  have hx1 : Ext L e w1 L { e with ar := fun _ => w.heap.size, ad := fun _ => 0 } w1 := { Ext.refl L e w1 with av := fun id hid => by rw [hna] at hid; omega }
  have hr1 : HR N L { e with ar := fun _ => w.heap.size, ad := fun _ => 0 } (Wx W [w.heap.size]) s.h w1 := by
    refine { g1 with bx := fun s cs hc => ⟨(g1.bx s cs hc).1, fun j c hj => ?_⟩, ar := fun id a ha => ?_, war := fun id hi => ?_, dba := fun s id _ hi => ?_, daa := fun i j hi => ?_ }
    · obtain ⟨k1, v, k2, k3⟩ := (g1.bx s cs hc).2 j c hj
      exact ⟨k1, v, k2, k3.mono hx1⟩
    · rw [har] at ha
      simp at ha
    · have hi : id < e.na := hi
      omega
    · have hi : id < e.na := hi
      omega
    · have hi : i < e.na := hi
      omega
  have nr := Nx.room hr1 1
  have hh : s.h.room 1 = { s.h with ar := [tomb] } := by
    unfold Heap.room
    rw [har]
    rfl
  rw [hh] at nr
  have hpin : 0 < (({ e with ar := fun _ => w.heap.size, ad := fun _ => 0 } : Emb).room 1).na := by
    show 0 < e.na + 1
    omega
  have hav : (({ e with ar := fun _ => w.heap.size, ad := fun _ => 0 } : Emb).room 1).av 0 = 0 := (nr.hr.ver 0 tomb rfl).1
  have hextA : Ext L e w L (({ e with ar := fun _ => w.heap.size, ad := fun _ => 0 } : Emb).room 1) w1 := (g2.trans hx1).trans nr.ext
  have hsr1 : SR N (Wx W [w.heap.size]) L (({ e with ar := fun _ => w.heap.size, ad := fun _ => 0 } : Emb).room 1) nt ⟨s.env, { s.h with ar := [tomb] }⟩ a w1 := ⟨nr.hr, fun t => (hsr.env t).mono hextA, hsr.size, hsr.defers⟩
  have hsr2 := hsr1.put (L' := L) (w' := w1) (h' := { s.h with ar := [tomb] }) (Ext.refl _ _ _) nr.hr (d := some d) (by simpa using hdn) (v := .aptr 0 0 0 0) (v' := .pointer (some ⟨w.heap.size, 0, none⟩)) (.aptr 0 0 0 0 _ hpin (by omega) fun _ => by simp [Emb.room])
  have hw0 := hf.size
  refine hK _ _ w.heap.size ⟨L, _, hsr2, ?_, h1, h2, hx.trans hextA.x, ⟨hpin, rfl, rfl⟩, fun g hg => ?_⟩ ⟨by simp, _, _, hnew, .inl rfl, World.ownsRow_nil _ _ _ _, by simp [Value.ownBlock], fun g hg => by simp [Value.ownBlock] at hg⟩
  · exact ⟨ho1.trans hf.os, ho2.trans hf.tape, ho3.trans hf.output, by omega, fun k hk hw => (hold k (Nat.lt_of_lt_of_le hk hw0)).trans (hf.kept k hk hw), by rw [ho4]; exact hf.drawn⟩
  · rw [List.mem_singleton.1 hg]
    exact ⟨fun t ht => by have := hsr.hr.lsz t _ ht; omega, hw0, by omega⟩
end Go.Pv

/-
  A function that writes the texts of small numbers to a builder: the whole walk, over the pieces of its code.
-/
namespace Go.Pv
open Go.Shelf Go.RowKit Go.Proofs
variable {P : Program} {N M : Nat → Nat} {W : Nat → Prop} {L L' L0 : Lx} {e e' e0 : Emb} {h : Heap} {w w' w0 : World} {ρ : Ren} {A : Nat → Option AFunc} {Pr : Prims}

theorem fnr_of_wp {f : Nat} {go : Func} {code : Code} {fn : AFunc} {ps rs : List PV} {s' : St} (f1 : P.funcs[N f]? = some go) (f2 : go.body = some code) (f3 : (go.name == "runtime.NumGoroutine") = false) (f4 : ps.length ≤ go.ntmps) (f6 : mapO (trRes P) go.results.toList = some fn.results)
    (hw : ∀ (T : Option Nat) (L : Lx) (e : Emb) (w : World) (a : Act), FrS N (Wc w T) go.ntmps L e w ⟨entry 0 ps, entryHeap ps⟩ a w → code.wp P (QQ N (Wc w T) go.ntmps L e w .ret s') a w) (hl : leave fn s' = some rs) : FnR P N f ps rs := by
  intro L w T args hlsz har
  refine .inr ⟨by simp only [beq_eq_false_iff_ne, ne_eq] at f3; simp [callFunc, f1, f2, f3], ?_⟩
  refine calls_of_wp f1 f2 ?_
  obtain ⟨e, e1, e2⟩ := entry_rel hlsz har
  have hlen : args.size = ps.length := by
    have : args.toList.length = ps.length := by
      generalize args.toList = al at har
      cases har with
      | plain _ _ hl _ => exact hl
      | take _ _ _ _ _ _ _ hl _ => simp [hl]
    simpa using this
  have hst : FrS N (Wc w T) go.ntmps L e w ⟨entry 0 ps, entryHeap ps⟩ { tmps := args ++ Array.replicate (go.ntmps - args.size) undef, defers := [] } w := by
    refine ⟨L, e, ⟨e1, fun t => ?_, ?_, rfl⟩, Fr.refl _ _, fun _ _ hb => hb, fun _ _ hb => .inl hb, (Ext.refl _ _ _).x⟩
    · rw [get_entry]
      simp only [Nat.zero_le, if_true, Nat.sub_zero]
      cases hp : ps[t]? with
      | none => exact .any _
      | some p =>
        obtain ⟨v, h1, h2⟩ := e2 t p hp
        have hlt : t < args.size := by rw [hlen]; exact (List.getElem?_eq_some_iff.1 hp).1
        have : (args ++ Array.replicate (go.ntmps - args.size) undef).getD t undef = v := by
          apply arr_getD_toList
          rw [Array.toList_append, List.getElem?_append_left (by simpa using hlt)]
          exact h1
        show VR N L e w (V.ofArg p) _
        rw [this]
        exact h2
    · simp
      omega
  refine wp_mono (hw T L e w _ hst) fun xx a1 w1 hq => ?_
  obtain ⟨rfl, hs1⟩ := hq
  obtain ⟨v, r1, r2⟩ := leave_sound hs1 f6 hl
  exact ⟨hs1.choose_spec.choose_spec.1.defers, v, r1, r2⟩

def FB (N : Nat → Nat) (W : Nat → Prop) (T E : TypeId) (nt : Nat) (L0 : Lx) (e0 : Emb) (w0 : World) (b : Nat) (s : St) (bs : List Value) (a : Act) (w : World) : Prop :=
  ∃ G, FSp N W G nt L0 e0 w0 b s a w ∧ BS T E w0.heap.size G b bs w
def Piece (P : Program) (N M : Nat → Nat) (nt : Nat) (code : Code) (ac : AC) : Prop := ∃ an an', trCode P N M nt code an = some (ac, an')
theorem piece_wp (hc : ∀ n, CodeOk P N M A Pr n) {T E : TypeId} {nt b : Nat} {code : Code} {ac : AC} {s s' : St} {ex : Ex} {bs : List Value} {a : Act} {Q : Exit → Act → World → Prop} (hp : Piece P N M nt code ac) (he : Runs A Pr ac s ex s') (h0 : s.h.ar[0]? = some tomb) (h1 : s'.h.ar[0]? = some tomb)
    (hs : FB N W T E nt L0 e0 w0 b s bs a w) (hK : ∀ a' w', FB N W T E nt L0 e0 w0 b s' bs a' w' → Q (exitOf ex) a' w') : code.wp P Q a w := by
  obtain ⟨an, an', htr⟩ := hp
  obtain ⟨n, he⟩ := he
  obtain ⟨G, h2, h3⟩ := hs
  refine wp_mono (frag_wp (hc n) htr he h0 h1 h2 h3) fun x a' w' hq => ?_
  obtain ⟨rfl, k1, k2⟩ := hq
  exact hK a' w' ⟨G, k1, k2⟩

end Go.Pv

/-
  The text of a configuration: pieces of its code, as they run.
-/
namespace Go.Pv
variable {A : Nat → Option AFunc} {Pr : Prims}

theorem runs_W {c : AC} {s t : St} {x : Ex} (h : W A Pr c s (fun ex s' => ex = x ∧ s' = t)) : Runs A Pr c s x t := by
  obtain ⟨ex, s', h1, rfl, rfl⟩ := h
  exact h1
theorem runs_WO {l : List AOper} {s t : St} (h : WO A Pr l s (fun s' => s' = t)) : RunsOps A Pr l s t := by
  obtain ⟨s', h1, rfl⟩ := h
  exact h1
def key0 : AC := .region [⟨some 1, .box 1 4 (.tmp 0), none⟩, ⟨some 2, .mov (.val (.pv (.str ⟨#[]⟩))), none⟩] [1] [1]
def key2 : AC := .region [⟨some 8, .fld 0 (.tmp 1), none⟩, ⟨some 9, .load 1 false (.tmp 8), none⟩, ⟨some 10, .fld 1 (.tmp 1), none⟩, ⟨some 11, .load 1 false (.tmp 10), none⟩, ⟨some 12, .lit 1 [.pv (.int .i64 0)] 2 [(0, 1, .tmp 9), (1, 1, .tmp 11)], none⟩, ⟨some 13, .fld 2 (.tmp 1), none⟩, ⟨some 14, .load 1 false (.tmp 13), none⟩, ⟨some 15, .fld 3 (.tmp 1), none⟩, ⟨some 16, .load 1 false (.tmp 15), none⟩, ⟨some 17, .lit 1 [.tl []] 3 [(0, 1, .tmp 12), (1, 1, .tmp 14), (2, 1, .tmp 16)], none⟩, ⟨some 18, .len 0 (.tmp 17), none⟩, ⟨some 19, .mov (.val (.pv (.int .i64 0))), none⟩] [3, 17, 18, 19] []
def key3 : AC := .region [⟨some 20, .bin .lss (.tmp 19) (.tmp 18), none⟩] [3, 17, 18, 19, 20] []
def key20 : AC := .cond (.tmp 20) .skip (.exit 0)
def key4 : AC := .region [⟨some 21, .idx 1 (.tmp 17) (.tmp 19), none⟩, ⟨some 22, .load 1 false (.tmp 21), none⟩, ⟨some 5, .mov (.tmp 22), none⟩] [3, 5, 17, 18, 19] []
def key5 : AC := .region [⟨some 23, .mov (.tmp 5), none⟩, ⟨some 24, .len 0 (.tmp 23), none⟩, ⟨some 25, .mov (.val (.pv (.int .i64 0))), none⟩] [3, 17, 18, 19, 23, 24, 25] []
def key6 : AC := .region [⟨some 26, .bin .lss (.tmp 25) (.tmp 24), none⟩] [3, 17, 18, 19, 23, 24, 25, 26] []
def key26 : AC := .cond (.tmp 26) .skip (.exit 2)
def key7 : AC := .region [⟨some 27, .idx 1 (.tmp 23) (.tmp 25), none⟩, ⟨some 28, .load 1 false (.tmp 27), none⟩, ⟨some 7, .mov (.tmp 28), none⟩] [3, 7, 17, 18, 19, 23, 24, 25] []
def key8 : List AOper := [⟨some 29, .mov (.tmp 7), none⟩, ⟨some 30, .call (.val (.func 194 [])) [.tmp 29], none⟩, ⟨some 31, .bin .add (.tmp 30) (.val (.pv (.str ⟨#[44]⟩))), none⟩]
def key9 : AC := .region [⟨some 33, .bin .add (.tmp 25) (.val (.pv (.int .i64 1))), none⟩, ⟨some 25, .mov (.tmp 33), none⟩] [3, 17, 18, 19, 23, 24, 25] []
def key11 : AC := .region [⟨some 35, .bin .add (.tmp 19) (.val (.pv (.int .i64 1))), none⟩, ⟨some 19, .mov (.tmp 35), none⟩] [3, 17, 18, 19] []
def key12 : List AOper := [⟨some 2, .mov (.tmp 36), none⟩]

section
variable (a b : Int) (l m : List Int) (t u : Nat)
def keyX (k : Nat) : V := if k = 0 then .tl (ints [a, b]) else if k = 1 then .pv (.lst t (ints l)) else .pv (.lst u (ints m))
def keyXL (k : Nat) : List Int := if k = 0 then [a, b] else if k = 1 then l else m
def keyH : Heap := ⟨[], [tomb, ⟨0, 1, .inr [[keyX a b l m t u 0], [keyX a b l m t u 1], [keyX a b l m t u 2]]⟩], []⟩
def keyO (k : Nat) : List (Nat × V) := [(3, .aptr 0 0 0 0), (17, .own 1 0 0 3), (18, .pv (.int .i64 3)), (19, .pv (.int .i64 k))]
def keyI (k j : Nat) : List (Nat × V) := [(3, .aptr 0 0 0 0), (17, .own 1 0 0 3), (18, .pv (.int .i64 3)), (19, .pv (.int .i64 k)), (23, keyX a b l m t u k), (24, .pv (.int .i64 (keyXL a b l m k).length)), (25, .pv (.int .i64 j))]
end
variable {a b : Int} {l m : List Int} {t u : Nat}
def keyN (a b : Int) (l m : List Int) (t u : Nat) (k j : Nat) (n : Int) : List (Nat × V) := [(3, .aptr 0 0 0 0), (7, .pv (.int .i64 n)), (17, .own 1 0 0 3), (18, .pv (.int .i64 3)), (19, .pv (.int .i64 k)), (23, keyX a b l m t u k), (24, .pv (.int .i64 (keyXL a b l m k).length)), (25, .pv (.int .i64 j))]
theorem run0 : Runs A Pr key0 ⟨[(0, .agg [.pv (.int .i64 a), .pv (.int .i64 b), .pv (.lst t (ints l)), .pv (.lst u (ints m))])], ⟨[], [], []⟩⟩ .normal ⟨[(1, .ptr 1 0)], ⟨[(1, [.pv (.int .i64 a), .pv (.int .i64 b), .pv (.lst t (ints l)), .pv (.lst u (ints m))])], [], []⟩⟩ := by
  refine runs_W ?_
  unfold key0
  simp (disch := omega) only [go_sem]
  try first | rfl | exact ⟨rfl, rfl⟩ | (constructor <;> rfl)
theorem run2 : Runs A Pr key2 ⟨[(3, .aptr 0 0 0 0), (1, .ptr 1 0)], ⟨[(1, [.pv (.int .i64 a), .pv (.int .i64 b), .pv (.lst t (ints l)), .pv (.lst u (ints m))])], [tomb], []⟩⟩ .normal ⟨keyO 0, keyH a b l m t u⟩ := by
  refine runs_W ?_
  unfold key2
  simp (disch := omega) only [go_sem]
  try first | rfl | exact ⟨rfl, rfl⟩ | (constructor <;> rfl)
theorem run3 {k : Nat} : Runs A Pr key3 ⟨keyO k, keyH a b l m t u⟩ .normal ⟨keyO k ++ [(20, .pv (.bool (decide ((k : Int) < 3))))], keyH a b l m t u⟩ := by
  refine runs_W ?_
  unfold key3 keyO
  simp (disch := omega) only [go_sem]
  try first | rfl | exact ⟨rfl, rfl⟩ | (constructor <;> rfl)
theorem run20t {k : Nat} : Runs A Pr key20 ⟨keyO k ++ [(20, .pv (.bool true))], keyH a b l m t u⟩ .normal ⟨keyO k ++ [(20, .pv (.bool true))], keyH a b l m t u⟩ := by
  refine runs_W ?_
  unfold key20 keyO
  simp (disch := omega) only [go_sem]
  try first | rfl | exact ⟨rfl, rfl⟩ | (constructor <;> rfl)
theorem run20f {k : Nat} : Runs A Pr key20 ⟨keyO k ++ [(20, .pv (.bool false))], keyH a b l m t u⟩ (.exit 0) ⟨keyO k ++ [(20, .pv (.bool false))], keyH a b l m t u⟩ := by
  refine runs_W ?_
  unfold key20 keyO
  simp (disch := omega) only [go_sem]
  try first | rfl | exact ⟨rfl, rfl⟩ | (constructor <;> rfl)
theorem run4 {k : Nat} (hk : k < 3) : Runs A Pr key4 ⟨keyO k ++ [(20, .pv (.bool true))], keyH a b l m t u⟩ .normal ⟨[(3, .aptr 0 0 0 0), (5, keyX a b l m t u k), (17, .own 1 0 0 3), (18, .pv (.int .i64 3)), (19, .pv (.int .i64 k))], keyH a b l m t u⟩ := by
  refine runs_W ?_
  unfold key4 keyO keyH
  obtain rfl | rfl | rfl : k = 0 ∨ k = 1 ∨ k = 2 := by omega
  all_goals
    simp (disch := omega) only [go_sem]
    try first | rfl | exact ⟨rfl, rfl⟩ | (constructor <;> rfl)
theorem run5 {k : Nat} (hk : k < 3) : Runs A Pr key5 ⟨[(3, .aptr 0 0 0 0), (5, keyX a b l m t u k), (17, .own 1 0 0 3), (18, .pv (.int .i64 3)), (19, .pv (.int .i64 k))], keyH a b l m t u⟩ .normal ⟨keyI a b l m t u k 0, keyH a b l m t u⟩ := by
  refine runs_W ?_
  unfold key5 keyI
  obtain rfl | rfl | rfl : k = 0 ∨ k = 1 ∨ k = 2 := by omega
  all_goals
    simp (disch := omega) only [go_sem, keyX, keyXL]
    try first | rfl | exact ⟨rfl, rfl⟩ | (constructor <;> rfl)
theorem run6 {k j : Nat} (hk : k < 3) : Runs A Pr key6 ⟨keyI a b l m t u k j, keyH a b l m t u⟩ .normal ⟨keyI a b l m t u k j ++ [(26, .pv (.bool (decide ((j : Int) < (keyXL a b l m k).length))))], keyH a b l m t u⟩ := by
  refine runs_W ?_
  unfold key6 keyI
  obtain rfl | rfl | rfl : k = 0 ∨ k = 1 ∨ k = 2 := by omega
  all_goals
    simp (disch := omega) only [go_sem, keyX, keyXL]
    try first | rfl | exact ⟨rfl, rfl⟩ | (constructor <;> rfl)
theorem run26t {k j : Nat} : Runs A Pr key26 ⟨keyI a b l m t u k j ++ [(26, .pv (.bool true))], keyH a b l m t u⟩ .normal ⟨keyI a b l m t u k j ++ [(26, .pv (.bool true))], keyH a b l m t u⟩ := by
  refine runs_W ?_
  unfold key26 keyI
  simp (disch := omega) only [go_sem]
  try first | rfl | exact ⟨rfl, rfl⟩ | (constructor <;> rfl)
theorem run26f {k j : Nat} : Runs A Pr key26 ⟨keyI a b l m t u k j ++ [(26, .pv (.bool false))], keyH a b l m t u⟩ (.exit 2) ⟨keyI a b l m t u k j ++ [(26, .pv (.bool false))], keyH a b l m t u⟩ := by
  refine runs_W ?_
  unfold key26 keyI
  simp (disch := omega) only [go_sem]
  try first | rfl | exact ⟨rfl, rfl⟩ | (constructor <;> rfl)
theorem run5x {k : Nat} {x : V} (hk : k < 3) : Runs A Pr key11 ⟨(34, x) :: (keyI a b l m t u k (keyXL a b l m k).length ++ [(26, .pv (.bool false))]), keyH a b l m t u⟩ .normal ⟨keyO (k + 1), keyH a b l m t u⟩ := by
  refine runs_W ?_
  unfold key11 keyI
  obtain rfl | rfl | rfl : k = 0 ∨ k = 1 ∨ k = 2 := by omega
  all_goals
    simp (disch := omega) only [go_sem]
    try first | rfl | exact ⟨rfl, rfl⟩ | (constructor <;> rfl)
theorem run7 {k j : Nat} {n : Int} (hk : k < 3) (hn : (keyXL a b l m k)[j]? = some n) (_hl : l.length ≤ 1000) (_hm : m.length ≤ 1000) : Runs A Pr key7 ⟨keyI a b l m t u k j ++ [(26, .pv (.bool true))], keyH a b l m t u⟩ .normal ⟨keyN a b l m t u k j n, keyH a b l m t u⟩ := by
  refine runs_W ?_
  unfold key7 keyI keyN
  obtain rfl | rfl | rfl : k = 0 ∨ k = 1 ∨ k = 2 := by omega
  · have hn : [a, b][j]? = some n := hn
    simp (disch := omega) only [go_sem, keyX, keyXL]
    simp only [hn, Option.map_some, Option.bind_some, List.length_singleton, if_true, optK]
    refine ⟨_, rfl, ?_⟩
    simp (disch := omega) only [go_sem]
    try first | rfl | exact ⟨rfl, rfl⟩ | (constructor <;> rfl)
  · have hn : l[j]? = some n := hn
    simp (disch := omega) only [go_sem, keyX, keyXL]
    simp only [hn, Option.map_some, Option.bind_some, List.length_singleton, if_true, optK]
    refine ⟨_, rfl, ?_⟩
    simp (disch := omega) only [go_sem]
    try first | rfl | exact ⟨rfl, rfl⟩ | (constructor <;> rfl)
  · have hn : m[j]? = some n := hn
    simp (disch := omega) only [go_sem, keyX, keyXL]
    simp only [hn, Option.map_some, Option.bind_some, List.length_singleton, if_true, optK]
    refine ⟨_, rfl, ?_⟩
    simp (disch := omega) only [go_sem]
    try first | rfl | exact ⟨rfl, rfl⟩ | (constructor <;> rfl)
theorem run9 {k j : Nat} {n : Int} {x y z v : V} (hk : k < 3) (hj : j < 1000) : Runs A Pr key9 ⟨(32, x) :: (31, y) :: (30, z) :: (29, v) :: keyN a b l m t u k j n, keyH a b l m t u⟩ .normal ⟨keyI a b l m t u k (j + 1), keyH a b l m t u⟩ := by
  refine runs_W ?_
  unfold key9 keyI keyN
  obtain rfl | rfl | rfl : k = 0 ∨ k = 1 ∨ k = 2 := by omega
  all_goals
    simp (disch := omega) only [go_sem, keyX]
    try first | rfl | exact ⟨rfl, rfl⟩ | (constructor <;> rfl)
theorem run8 {k j : Nat} {n : Int} {x : ByteArray} (hI : res A Pr 194 [.int .i64 n] = some [.str x]) (h1 : inls A 194 = false) (h2 : Pr 194 = none) (h3 : takes A 194 = false) (hz : x.size ≤ 100) : RunsOps A Pr key8 ⟨keyN a b l m t u k j n, keyH a b l m t u⟩ ⟨(31, .pv (.str (x ++ ⟨#[44]⟩))) :: (30, .pv (.str x)) :: (29, .pv (.int .i64 n)) :: keyN a b l m t u k j n, keyH a b l m t u⟩ := by
  refine runs_WO ?_
  unfold key8 keyN
  simp (disch := omega) only [go_sem]
  rw [CW_CN h1 h2 h3]
  simp (disch := omega) only [go_sem, hI]
  rw [binV_sadd (by simp only [ByteArray.size, List.size_toArray, List.length_cons, List.length_nil] at hz ⊢; omega)]
  simp (disch := omega) only [go_sem]
  try first | rfl | exact ⟨rfl, rfl⟩ | (constructor <;> rfl)
theorem run12 {x : V} {h : Heap} {env : List (Nat × V)} : RunsOps A Pr key12 ⟨(36, x) :: env, h⟩ ⟨(2, x) :: (36, x) :: env, h⟩ := by
  refine runs_WO ?_
  unfold key12
  simp (disch := omega) only [go_sem]
  try first | rfl | exact ⟨rfl, rfl⟩ | (constructor <;> rfl)
end Go.Pv

