/-
  What the functions of the law give.
-/
import Derived.Test.YthpgcipmnblhpaaDoorC1
set_option linter.unusedSimpArgs false
set_option linter.unusedVariables false
/-
  Classes and minimized automata.
-/
namespace Go.Pv

end Go.Pv

/-
  Minimized automata; the law of classes.
-/
namespace Go.Pv

end Go.Pv

/-
  Edges of a state, as the program finds them.
-/
namespace Go.Pv

theorem r77 (g t u : Nat) (cs : List PV) (l : List Edge) (p : Edge → Bool) (hl : l.length ≤ 2 ^ 63 - 1) (hi : inls A g = false) (hp : PrA g = none) (ht : takes A g = false) (hf : ∀ x ∈ l, res A PrA g [.agg [.int .i64 x.fr, .bool x.send, .int .i64 x.label, .int .i64 x.to], .ro u cs] = some [.bool (p x)]) : res A PrA 77 [.lst t (edgs l), .func g [.ro u cs]] = some [.int .i64 (idxP p l)] := by
  refine res_of a77 rfl rfl ?_
  simp only [F77]
  simp (disch := omega) only [go_sem]
  refine W.find l p (fun k => ⟨[(0, .pv (.lst t (edgs l))), (1, .pv (.func g [.ro u cs])), (7, .pv (.int .i64 l.length)), (8, .pv (.int .i64 k))], ⟨[], [], []⟩⟩) rfl (fun k x hx hk hfd => ?_) (fun hn => ?_)
  · have hfx := hf x (List.mem_of_getElem? hx)
    simp (disch := omega) only [go_sem]
    refine Br.ofP (fun h => ?_) (fun h => (h (by omega)).elim)
    simp (disch := omega) only [go_sem, hx, CW_none hi hp ht, hfx]
    refine Br.of (fun h2 => ?_) (fun h2 => ?_) <;> simp (disch := omega) only [go_sem]
    · rw [(hfd h2).idxP]
    · exact findK.of h2 rfl
  · simp (disch := omega) only [go_sem]
    rw [hn.idxP]

@[go_sem] theorem fresh_edgs (bx : List (Nat × List V)) (mp : List (List (PV × PV))) (ar : List Arr) (v n : Nat) (l : List Edge) : keep ⟨bx, ⟨v, 4, .inl (edgs l)⟩ :: ar, mp⟩ true (.own 0 v 0 n) = some (.fr 4 (edgs (l.take n))) := by
  simp [keep, freshc, ownArr, edgs]
@[go_sem] theorem lendA_edgs {id ver v len : Nat} {l : List Edge} (hn : len = l.length) : lendA id ver len ⟨v, 4, .inl (edgs l)⟩ = some ([.fr 4 (edgs l)], some (id, ⟨ver + 1, 0, .inl []⟩)) := by
  subst hn
  simp [lendA, Arr.size, edgs_length]
@[go_sem] theorem edgs_take (l : List Edge) (n : Nat) : (edgs l).take n = edgs (l.take n) := by simp [edgs]
@[go_sem] theorem edgs_drop (l : List Edge) (n : Nat) : (edgs l).drop n = edgs (l.drop n) := by simp [edgs]

end Go.Pv

/-
  Parts of slices that are plain rows.
-/
namespace Go.Pv
theorem rowsFit_rows {k : Nat} {rows : List (List PV)} (h : ∀ r ∈ rows, r.length = k) : rowsFit k (.inl rows) = true := by
  simp only [rowsFit, List.all_eq_true, beq_iff_eq]
  exact h
@[go_sem] theorem rowsFit_ints (l : List Int) : rowsFit 1 (.inl (ints l)) = true := rowsFit_rows fun r hr => by
  obtain ⟨x, _, rfl⟩ := List.mem_map.1 hr
  rfl
@[go_sem] theorem sl_lst_to (g : Opd → V) (h : Heap) (k t : Nat) (rows : List (List PV)) (hi : Opd) :
    sliceV g h k (.pv (.lst t rows)) none (some hi) none = if rowsFit k (.inl rows) = true then (intOf (g hi)).bind fun i => chkR i rows.length (.pv (.lst t (rows.take i.toNat)), {}) else none := by
  cases hf : rowsFit k (.inl rows) with
  | false => simp [sliceV, hf]
  | true =>
    cases hj : intOf (g hi) with
    | none => simp [sliceV, hf, bounds, bound, hj]
    | some i => by_cases h0 : 0 ≤ i ∧ i ≤ rows.length <;> simp [sliceV, hf, bounds, bound, hj, h0, chkR]
@[go_sem] theorem sl_lst_from (g : Opd → V) (h : Heap) (k t : Nat) (rows : List (List PV)) (lo : Opd) :
    sliceV g h k (.pv (.lst t rows)) (some lo) none none = if rowsFit k (.inl rows) = true then (intOf (g lo)).bind fun i => chkR i rows.length (.pv (.lst t (rows.drop i.toNat)), {}) else none := by
  cases hf : rowsFit k (.inl rows) with
  | false => simp [sliceV, hf]
  | true =>
    cases hj : intOf (g lo) with
    | none => simp [sliceV, hf, bounds, bound, hj]
    | some i => by_cases h0 : 0 ≤ i ∧ i ≤ rows.length <;> simp [sliceV, hf, bounds, bound, hj, h0, chkR]
@[go_sem] theorem sl_tl_from (g : Opd → V) (h : Heap) (k : Nat) (rows : List (List PV)) (lo : Opd) :
    sliceV g h k (.tl rows) (some lo) none none = if rowsFit k (.inl rows) = true then (intOf (g lo)).bind fun i => chkR i rows.length (.tl (rows.drop i.toNat), {}) else none := by
  cases hf : rowsFit k (.inl rows) with
  | false => simp [sliceV, hf]
  | true =>
    cases hj : intOf (g lo) with
    | none => simp [sliceV, hf, bounds, bound, hj]
    | some i => by_cases h0 : 0 ≤ i ∧ i ≤ rows.length <;> simp [sliceV, hf, bounds, bound, hj, h0, chkR]
end Go.Pv

/-
  Chapter 29: moves are ordered; systems, configurations.
-/
namespace Go.Pv

theorem r198 {Pr : Prims} (b : Bool) : res A Pr 198 [.bool b] = some [.int .i64 (if b = true then 1 else 0)] := by
  refine res_of a198 rfl rfl ?_
  simp only [F198]
  cases b <;> simp (disch := omega) only [go_sem]
theorem r197 {Pr : Prims} (h66 : Pr 66 = none) (h60 : Pr 60 = none) (h59 : Pr 59 = none) (h198 : Pr 198 = none) (a b : Mov) : res A Pr 197 [.agg a.c, .agg b.c] = some [.int .i64 (Mov.cmp a b)] := by
  refine res_of a197 rfl rfl ?_
  simp only [F197]
  have e59 := fun x y z => r59 (Pr := Pr) 0 [x, y, z] (by simp)
  simp only [ints, List.map_cons, List.map_nil] at e59
  simp (disch := omega) only [go_sem, CW_CN (by kernel_rfl) h60 tk60, CW_CN (by kernel_rfl) h59 tk59, CW_CN (by kernel_rfl) h198 tk198, r60 h66, r198, e59]
  unfold Mov.cmp Edge.cmp Edge.side Mov.e
  by_cases h : cmpI a.label b.label = 0 <;> simp [orI, h]

def sysErr (a b : Auto) (cap : Int) : Int := if a.err ≠ 0 then a.err else if b.err ≠ 0 then b.err else if cap < 1 ∨ 3 < cap then 7 else 0
set_option maxHeartbeats 1000000 in
@[go_sem] theorem r152 (t1 t2 : Nat) (a b : Auto) (cap : Int) (ha : a.edges.length ≤ 2 ^ 63 - 1) (hb : b.edges.length ≤ 2 ^ 63 - 1) : res A PrA 152 [.agg [.int .i64 a.states, .int .i64 a.start, .lst t1 (a.edges.map Edge.c), .int .i64 b.states, .int .i64 b.start, .lst t2 (b.edges.map Edge.c), .int .i64 cap]] = some [.int .i64 (sysErr a b cap)] := by
  refine res_of a152 rfl rfl ?_
  simp only [F152]
  unfold sysErr
  simp (disch := omega) only [go_sem]
  by_cases h1 : a.err = 0
  · by_cases h2 : b.err = 0
    · by_cases h3 : cap < 1
      · simp (disch := omega) only [go_sem, h1, h2, h3]
        simp
      · by_cases h4 : 3 < cap
        · simp (disch := omega) only [go_sem, h1, h2, h3, h4]
          simp
        · simp (disch := omega) only [go_sem, h1, h2, h3, h4]
          simp
    · simp (disch := omega) only [go_sem, h1, h2]
      simp [h2]
  · simp (disch := omega) only [go_sem, h1]
    simp [h1]
set_option maxHeartbeats 1000000 in
@[go_sem] theorem r153 (t1 t2 : Nat) (a b : Auto) (cap : Int) (ha : a.edges.length ≤ 2 ^ 63 - 1) (hb : b.edges.length ≤ 2 ^ 63 - 1) : res A PrA 153 [.agg [.int .i64 a.states, .int .i64 a.start, .lst t1 (a.edges.map Edge.c), .int .i64 b.states, .int .i64 b.start, .lst t2 (b.edges.map Edge.c), .int .i64 cap]] = some [.int .i64 (sysErr a b cap)] := by
  refine res_of a153 rfl rfl ?_
  simp only [F153]
  unfold sysErr
  simp (disch := omega) only [go_sem]
  by_cases h1 : a.err = 0
  · by_cases h2 : b.err = 0
    · by_cases h3 : cap < 1
      · simp (disch := omega) only [go_sem, h1, h2, h3]
        simp
      · by_cases h4 : 3 < cap
        · simp (disch := omega) only [go_sem, h1, h2, h3, h4]
          simp
        · simp (disch := omega) only [go_sem, h1, h2, h3, h4]
          simp
    · simp (disch := omega) only [go_sem, h1, h2]
      simp [h2]
  · simp (disch := omega) only [go_sem, h1]
    simp [h1]
@[go_sem] theorem r155 (t1 t2 : Nat) (a b : Auto) (cap : Int) : res A PrA 155 [.agg [.int .i64 a.states, .int .i64 a.start, .lst t1 (a.edges.map Edge.c), .int .i64 b.states, .int .i64 b.start, .lst t2 (b.edges.map Edge.c), .int .i64 cap]] = some [.agg [.int .i64 a.start, .int .i64 b.start, .lst 0 [], .lst 0 []]] := by
  refine res_of a155 rfl rfl ?_
  simp only [F155]
  simp (disch := omega) only [go_sem]
@[go_sem] theorem r156 (t1 t2 : Nat) (a b : Auto) (cap : Int) : res A PrA 156 [.agg [.int .i64 a.states, .int .i64 a.start, .lst t1 (a.edges.map Edge.c), .int .i64 b.states, .int .i64 b.start, .lst t2 (b.edges.map Edge.c), .int .i64 cap]] = some [.agg [.int .i64 a.start, .int .i64 b.start, .lst 0 [], .lst 0 []]] := by
  refine res_of a156 rfl rfl ?_
  simp only [F156]
  simp (disch := omega) only [go_sem]
@[go_sem] theorem r176 (t u : Nat) (a b : List Int) (ha : a.length ≤ 2 ^ 63 - 1) (_hb : b.length ≤ 2 ^ 63 - 1) : res A PrA 176 [.lst t (ints a), .lst u (ints b)] = some [.bool (decide (a = b))] := by
  refine res_of a176 rfl rfl ?_
  simp only [F176]
  simp (disch := omega) only [go_sem]
  refine Br.ofP (fun h => ?_) (fun h => ?_) <;> simp (disch := omega) only [go_sem, h]
  case refine_2 =>
    have : ¬ a = b := fun e => h (by rw [e])
    simp [this]
  refine W.upto a.length (fun k => ⟨[(0, .pv (.lst t (ints a))), (1, .pv (.lst u (ints b))), (5, .pv (.int .i64 k))], ⟨[], [], []⟩⟩) (fun k => a.take k = b.take k) rfl rfl fun k hk hi => ?_
  simp (disch := omega) only [go_sem]
  refine Br.ofP (fun g => ?_) (fun g => ?_)
  · obtain ⟨x, hx⟩ := get_at (l := a) (k := k) (by omega)
    obtain ⟨y, hy⟩ := get_at (l := b) (k := k) (by omega)
    simp (disch := omega) only [go_sem, hx, hy]
    refine Br.ofP (fun f => ?_) (fun f => ?_) <;> simp (disch := omega) only [go_sem, f]
    · exact .of (by omega) rfl (take_step hx hy hi f)
    · have : ¬ a = b := fun e => f (by rw [e, hy] at hx; exact (Option.some.inj hx).symm)
      simp [this]
  · simp (disch := omega) only [go_sem]
    have := takes_all (k := k) (by omega) (by omega) hi
    simp [this]
@[go_sem] theorem r154 (u1 u2 w1 w2 : Nat) (x y x' y' : Int) (l m l' m' : List Int) (hl : l.length ≤ 2 ^ 63 - 1) (hm : m.length ≤ 2 ^ 63 - 1) (hl' : l'.length ≤ 2 ^ 63 - 1) (hm' : m'.length ≤ 2 ^ 63 - 1) : res A PrA 154 [.agg [.int .i64 x, .int .i64 y, .lst u1 (ints l), .lst u2 (ints m)], .agg [.int .i64 x', .int .i64 y', .lst w1 (ints l'), .lst w2 (ints m')]] = some [.bool (decide ((⟨x, y, l, m⟩ : Cfg) = ⟨x', y', l', m'⟩))] := by
  refine res_of a154 rfl rfl ?_
  simp only [F154]
  simp (disch := omega) only [go_sem]
  by_cases h1 : x = x'
  · by_cases h2 : y = y'
    · by_cases h3 : l = l'
      · simp (disch := omega) only [go_sem, h1, h2, h3]
        simp
      · simp (disch := omega) only [go_sem, h1, h2, h3]
        simp [h3]
    · simp (disch := omega) only [go_sem, h1, h2]
      simp [h2]
  · simp (disch := omega) only [go_sem, h1]
    simp [h1]
def fewS (a b : Auto) (l m : List Int) : Bool := decide (a.edges.length ≤ 110) && decide (b.edges.length ≤ 110) && decide (l.length ≤ 10) && decide (m.length ≤ 10)
@[go_sem] theorem r151 (t1 t2 : Nat) (a b : Auto) (cap : Int) (u1 u2 : Nat) (x y : Int) (l m : List Int) (ha : a.edges.length ≤ 2 ^ 63 - 1) (hb : b.edges.length ≤ 2 ^ 63 - 1) (hl : l.length ≤ 2 ^ 63 - 1) (hm : m.length ≤ 2 ^ 63 - 1) : res A PrA 151 [.agg [.int .i64 a.states, .int .i64 a.start, .lst t1 (a.edges.map Edge.c), .int .i64 b.states, .int .i64 b.start, .lst t2 (b.edges.map Edge.c), .int .i64 cap], .agg [.int .i64 x, .int .i64 y, .lst u1 (ints l), .lst u2 (ints m)]] = some [.bool (fewS a b l m)] := by
  refine res_of a151 rfl rfl ?_
  simp only [F151]
  simp (disch := omega) only [go_sem]
  unfold fewS
  by_cases h1 : a.edges.length ≤ 110
  · have q1 : ((a.edges.length : Int) ≤ 110) := by omega
    by_cases h2 : b.edges.length ≤ 110
    · have q2 : ((b.edges.length : Int) ≤ 110) := by omega
      by_cases h3 : l.length ≤ 10
      · have q3 : ((l.length : Int) ≤ 10) := by omega
        have q4 : decide ((m.length : Int) ≤ 10) = decide (m.length ≤ 10) := by
          by_cases h4 : m.length ≤ 10
          · rw [decide_eq_true h4, decide_eq_true (by omega)]
          · rw [decide_eq_false h4, decide_eq_false (by omega)]
        simp (disch := omega) only [go_sem, q1, q2, q3, q4]
        simp [h1, h2, h3]
      · have q3 : ¬ ((l.length : Int) ≤ 10) := by omega
        simp (disch := omega) only [go_sem, q1, q2, q3]
        simp [h3]
    · have q2 : ¬ ((b.edges.length : Int) ≤ 110) := by omega
      simp (disch := omega) only [go_sem, q1, q2]
      simp [h2]
  · have q1 : ¬ ((a.edges.length : Int) ≤ 110) := by omega
    simp (disch := omega) only [go_sem, q1]
    simp [h1]
@[go_sem] theorem r169 (x y : Int) (l m : List Int) : res A PrA 169 [.agg [.int .i64 x, .int .i64 y, .lst 0 (ints l), .lst 0 (ints m)]] = some [.agg [.int .i64 y, .int .i64 x, .lst 0 (ints m), .lst 0 (ints l)]] := by
  refine res_of a169 rfl rfl ?_
  simp only [F169]
  simp (disch := omega) only [go_sem]
def badL (x : Int) : Bool := decide (x < 1) || decide (1000 < x)
def chanB (l : List Int) (cap : Int) : Bool := decide ((l.length : Int) ≤ cap) && !l.any badL
@[go_sem] theorem r178 (t : Nat) (l : List Int) (cap : Int) (hl : l.length ≤ 2000000000) : res A PrA 178 [.lst t (ints l), .int .i64 cap] = some [.bool (chanB l cap)] := by
  refine res_of a178 rfl rfl ?_
  simp only [F178]
  simp (disch := omega) only [go_sem]
  unfold chanB
  refine W.find l badL (fun k => ⟨[(0, .pv (.lst t (ints l))), (1, .pv (.int .i64 cap)), (5, .pv (.int .i64 k))], ⟨[], [], []⟩⟩) rfl (fun k x hx hk hfd => ?_) (fun hn => ?_)
  · simp (disch := omega) only [go_sem]
    refine Br.ofP (fun h => ?_) (fun h => (h (by omega)).elim)
    simp (disch := omega) only [go_sem, hx]
    by_cases c1 : x < 1
    · simp (disch := omega) only [go_sem, c1]
      rw [(hfd (by simp [badL, c1])).any, Bool.not_true, Bool.and_false]
    · by_cases c2 : 1000 < x
      · simp (disch := omega) only [go_sem, c1, hx, c2]
        rw [(hfd (by simp [badL, c2])).any, Bool.not_true, Bool.and_false]
      · simp (disch := omega) only [go_sem, c1, hx, c2]
        exact findK.of (by simp [badL, c1, c2]) rfl
  · simp (disch := omega) only [go_sem]
    rw [hn.any, Bool.not_false, Bool.and_true]
theorem r188 (x : Int) : res A PrA 188 [.int .i64 x] = some [.bool (badL x)] := by
  refine res_of a188 rfl rfl ?_
  simp only [F188]
  simp (disch := omega) only [go_sem]
  unfold badL
  by_cases c1 : x < 1
  · simp (disch := omega) only [go_sem, c1]
  · simp (disch := omega) only [go_sem, c1]
theorem r117c (g t : Nat) (l : List Int) (p : Int → Bool) (hl : l.length ≤ 2 ^ 63 - 1) (hi : inls A g = false) (hp : PrA g = none) (ht : takes A g = false) (hf : ∀ x ∈ l, res A PrA g [.int .i64 x] = some [.bool (p x)]) : res A PrA 117 [.lst t (ints l), .func g []] = some [.int .i64 (idxP p l)] := by
  refine res_of a117 rfl rfl ?_
  simp only [F117]
  simp (disch := omega) only [go_sem]
  refine W.find l p (fun k => ⟨[(0, .pv (.lst t (ints l))), (1, .pv (.func g [])), (7, .pv (.int .i64 l.length)), (8, .pv (.int .i64 k))], ⟨[], [], []⟩⟩) rfl (fun k x hx hk hfd => ?_) (fun hn => ?_)
  · have hfx := hf x (List.mem_of_getElem? hx)
    simp (disch := omega) only [go_sem]
    refine Br.ofP (fun h => ?_) (fun h => (h (by omega)).elim)
    simp (disch := omega) only [go_sem, hx, CW_none hi hp ht, hfx]
    refine Br.of (fun h2 => ?_) (fun h2 => ?_) <;> simp (disch := omega) only [go_sem]
    · rw [(hfd h2).idxP]
    · exact findK.of h2 rfl
  · simp (disch := omega) only [go_sem]
    rw [hn.idxP]
theorem r108c (t : Nat) (l : List Int) (hl : l.length ≤ 2 ^ 63 - 1) : res A PrA 108 [.lst t (ints l), .func 188 []] = some [.bool (l.any badL)] := by
  refine res_of a108 rfl rfl ?_
  simp only [F108]
  have := r117c 188 t l badL hl (by kernel_rfl) (by kernel_rfl) (by kernel_rfl) (fun x _ => r188 x)
  simp (disch := omega) only [go_sem, this]
  rw [idxP_pos]
@[go_sem] theorem r177 (t : Nat) (l : List Int) (cap : Int) (hl : l.length ≤ 2000000000) : res A PrA 177 [.lst t (ints l), .int .i64 cap] = some [.bool (chanB l cap)] := by
  refine res_of a177 rfl rfl ?_
  simp only [F177]
  have h108 := r108c t l (by omega)
  unfold chanB
  by_cases c : (l.length : Int) ≤ cap
  · simp (disch := omega) only [go_sem, c, h108]
  · simp (disch := omega) only [go_sem, c]
def fitsB (a b : Auto) (cap : Int) (x y : Int) (l m : List Int) : Bool := decide (sysErr a b cap = 0) && decide (0 ≤ x) && decide (x < a.states) && decide (0 ≤ y) && decide (y < b.states) && chanB l cap && chanB m cap
end Go.Pv

/-
  Chapter 29: what fits, what is done.
-/
namespace Go.Pv
theorem bool_le {a b : Int} : decide (0 ≤ min a b) = (decide (0 ≤ a) && decide (0 ≤ b)) := by
  by_cases h1 : 0 ≤ a <;> by_cases h2 : 0 ≤ b <;> simp [h1, h2] <;> omega
set_option maxHeartbeats 2000000 in
@[go_sem] theorem r157 (t1 t2 : Nat) (a b : Auto) (cap : Int) (u1 u2 : Nat) (x y : Int) (l m : List Int) (ha : a.edges.length ≤ 2 ^ 63 - 1) (hb : b.edges.length ≤ 2 ^ 63 - 1) (hl : l.length ≤ 2000000000) (hm : m.length ≤ 2000000000) : res A PrA 157 [.agg [.int .i64 a.states, .int .i64 a.start, .lst t1 (a.edges.map Edge.c), .int .i64 b.states, .int .i64 b.start, .lst t2 (b.edges.map Edge.c), .int .i64 cap], .agg [.int .i64 x, .int .i64 y, .lst u1 (ints l), .lst u2 (ints m)]] = some [.bool (fitsB a b cap x y l m)] := by
  refine res_of a157 rfl rfl ?_
  simp only [F157]
  simp (disch := omega) only [go_sem]
  unfold fitsB
  rw [bool_le]
  cases hb2 : decide (0 ≤ x)
  · cases hb1 : decide (sysErr a b cap = 0) <;> simp (disch := omega) only [go_sem, hb1]
  · cases hb4 : decide (0 ≤ y)
    · cases hb1 : decide (sysErr a b cap = 0) <;> simp (disch := omega) only [go_sem, hb1]
    · cases hb3 : decide (x < a.states)
      · cases hb1 : decide (sysErr a b cap = 0) <;> simp (disch := omega) only [go_sem, hb1, hb3]
      · cases hb5 : decide (y < b.states)
        · cases hb1 : decide (sysErr a b cap = 0) <;> simp (disch := omega) only [go_sem, hb1, hb3, hb5]
        · cases hb1 : decide (sysErr a b cap = 0)
          · simp (disch := omega) only [go_sem, hb1, hb3, hb5]
          · cases hb6 : chanB l cap
            · simp (disch := omega) only [go_sem, hb1, hb3, hb5, hb6]
            · simp (disch := omega) only [go_sem, hb1, hb3, hb5, hb6]
set_option maxHeartbeats 2000000 in
@[go_sem] theorem r158 (t1 t2 : Nat) (a b : Auto) (cap : Int) (u1 u2 : Nat) (x y : Int) (l m : List Int) (ha : a.edges.length ≤ 2 ^ 63 - 1) (hb : b.edges.length ≤ 2 ^ 63 - 1) (hl : l.length ≤ 2000000000) (hm : m.length ≤ 2000000000) : res A PrA 158 [.agg [.int .i64 a.states, .int .i64 a.start, .lst t1 (a.edges.map Edge.c), .int .i64 b.states, .int .i64 b.start, .lst t2 (b.edges.map Edge.c), .int .i64 cap], .agg [.int .i64 x, .int .i64 y, .lst u1 (ints l), .lst u2 (ints m)]] = some [.bool (fitsB a b cap x y l m)] := by
  refine res_of a158 rfl rfl ?_
  simp only [F158]
  unfold fitsB
  simp (disch := omega) only [go_sem]
  cases hb1 : decide (sysErr a b cap = 0)
  · simp (disch := omega) only [go_sem]
  · cases hb2 : decide (0 ≤ x)
    · simp (disch := omega) only [go_sem, hb2]
    · cases hb3 : decide (x < a.states)
      · simp (disch := omega) only [go_sem, hb2, hb3]
      · cases hb4 : decide (0 ≤ y)
        · simp (disch := omega) only [go_sem, hb2, hb3, hb4]
        · cases hb5 : decide (y < b.states)
          · simp (disch := omega) only [go_sem, hb2, hb3, hb4, hb5]
          · cases hb6 : chanB l cap
            · simp (disch := omega) only [go_sem, hb2, hb3, hb4, hb5, hb6]
            · simp (disch := omega) only [go_sem, hb2, hb3, hb4, hb5, hb6]
theorem r181 (t : Nat) (e : Edge) (s : Int) : res A PrA 181 [.agg [.int .i64 e.fr, .bool e.send, .int .i64 e.label, .int .i64 e.to], .ro t [.int .i64 s]] = some [.bool (decide (e.fr = s))] := by
  refine res_of a181 rfl rfl ?_
  simp only [F181]
  simp (disch := omega) only [go_sem]
theorem isEnd_any (s : Int) : ∀ l : List Edge, isEnd s l = !(l.any fun e => decide (e.fr = s))
  | [] => rfl
  | e :: r => by
    unfold isEnd
    rw [List.any_cons, isEnd_any s r]
    by_cases h : e.fr = s <;> simp [h]
theorem r180 (t u : Nat) (l : List Edge) (s : Int) (hl : l.length ≤ 2 ^ 63 - 1) : res A PrA 180 [.lst t (l.map Edge.c), .func 181 [.ro u [.int .i64 s]]] = some [.bool (!isEnd s l)] := by
  refine res_of a180 rfl rfl ?_
  simp only [F180]
  have h77 := r77 181 t u [.int .i64 s] l (fun e => decide (e.fr = s)) hl (by kernel_rfl) (by kernel_rfl) (by kernel_rfl) (fun e _ => r181 u e s)
  have e1 : edgs l = l.map Edge.c := rfl
  rw [e1] at h77
  simp (disch := omega) only [go_sem, h77]
  rw [idxP_pos, isEnd_any, Bool.not_not]
@[go_sem] theorem r179 (t : Nat) (a : Auto) (s : Int) (hl : a.edges.length ≤ 2 ^ 63 - 1) : res A PrA 179 [.agg [.int .i64 a.states, .int .i64 a.start, .lst t (a.edges.map Edge.c)], .int .i64 s] = some [.bool (!isEnd s a.edges)] := by
  refine res_of a179 rfl rfl ?_
  simp only [F179]
  have h180 := fun t u => r180 t u a.edges s hl
  simp (disch := omega) only [go_sem, h180]
def doneB (a b : Auto) (cap : Int) (x y : Int) (l m : List Int) : Bool := fitsB a b cap x y l m && decide (l.length + m.length = 0) && isEnd x a.edges && isEnd y b.edges
set_option maxHeartbeats 2000000 in
@[go_sem] theorem r159 (t1 t2 : Nat) (a b : Auto) (cap : Int) (u1 u2 : Nat) (x y : Int) (l m : List Int) (ha : a.edges.length ≤ 2 ^ 63 - 1) (hb : b.edges.length ≤ 2 ^ 63 - 1) (hl : l.length ≤ 2000000000) (hm : m.length ≤ 2000000000) : res A PrA 159 [.agg [.int .i64 a.states, .int .i64 a.start, .lst t1 (a.edges.map Edge.c), .int .i64 b.states, .int .i64 b.start, .lst t2 (b.edges.map Edge.c), .int .i64 cap], .agg [.int .i64 x, .int .i64 y, .lst u1 (ints l), .lst u2 (ints m)]] = some [.bool (doneB a b cap x y l m)] := by
  refine res_of a159 rfl rfl ?_
  simp only [F159]
  simp (disch := omega) only [go_sem]
  unfold doneB
  cases hb1 : fitsB a b cap x y l m
  · simp (disch := omega) only [go_sem]
  · by_cases hc : l.length + m.length = 0
    · have q1 : ¬ (0 < (l.length : Int) + m.length) := by omega
      simp (disch := omega) only [go_sem, q1]
      cases hb2 : isEnd x a.edges
      · simp (disch := omega) only [go_sem]
      · simp (disch := omega) only [go_sem]
        simp [hc]
    · have q1 : (0 < (l.length : Int) + m.length) := by omega
      simp (disch := omega) only [go_sem, q1]
      rw [decide_eq_false hc]
      rfl
set_option maxHeartbeats 2000000 in
@[go_sem] theorem r160 (t1 t2 : Nat) (a b : Auto) (cap : Int) (u1 u2 : Nat) (x y : Int) (l m : List Int) (ha : a.edges.length ≤ 2 ^ 63 - 1) (hb : b.edges.length ≤ 2 ^ 63 - 1) (hl : l.length ≤ 2000000000) (hm : m.length ≤ 2000000000) : res A PrA 160 [.agg [.int .i64 a.states, .int .i64 a.start, .lst t1 (a.edges.map Edge.c), .int .i64 b.states, .int .i64 b.start, .lst t2 (b.edges.map Edge.c), .int .i64 cap], .agg [.int .i64 x, .int .i64 y, .lst u1 (ints l), .lst u2 (ints m)]] = some [.bool (doneB a b cap x y l m)] := by
  refine res_of a160 rfl rfl ?_
  simp only [F160]
  simp (disch := omega) only [go_sem]
  unfold doneB
  cases hb1 : fitsB a b cap x y l m
  · simp (disch := omega) only [go_sem]
  · by_cases hc : l.length + m.length = 0
    · have q1 : ((l.length : Int) + m.length = 0) := by omega
      simp (disch := omega) only [go_sem, q1]
      cases hb2 : isEnd x a.edges
      · simp (disch := omega) only [go_sem]
      · simp (disch := omega) only [go_sem]
        simp [hc]
    · have q1 : ¬ ((l.length : Int) + m.length = 0) := by omega
      simp (disch := omega) only [go_sem, q1]
      rw [decide_eq_false hc]
      rfl
def chkE (a b : Auto) (cap : Int) (x y : Int) (l m : List Int) : Int := if sysErr a b cap ≠ 0 then sysErr a b cap else if fitsB a b cap x y l m = true then 0 else 1
@[go_sem] theorem r187 (t1 t2 : Nat) (a b : Auto) (cap : Int) (u1 u2 : Nat) (x y : Int) (l m : List Int) (ha : a.edges.length ≤ 2 ^ 63 - 1) (hb : b.edges.length ≤ 2 ^ 63 - 1) (hl : l.length ≤ 2000000000) (hm : m.length ≤ 2000000000) : res A PrA 187 [.agg [.int .i64 a.states, .int .i64 a.start, .lst t1 (a.edges.map Edge.c), .int .i64 b.states, .int .i64 b.start, .lst t2 (b.edges.map Edge.c), .int .i64 cap], .agg [.int .i64 x, .int .i64 y, .lst u1 (ints l), .lst u2 (ints m)]] = some [.int .i64 (chkE a b cap x y l m)] := by
  refine res_of a187 rfl rfl ?_
  simp only [F187]
  simp (disch := omega) only [go_sem]
  unfold chkE
  by_cases h1 : sysErr a b cap = 0
  · simp (disch := omega) only [go_sem, h1]
    cases hb1 : fitsB a b cap x y l m
    · simp (disch := omega) only [go_sem]
      rw [if_neg (by simp [h1])]
    · simp (disch := omega) only [go_sem]
      rw [if_neg (by simp [h1])]
  · simp (disch := omega) only [go_sem, h1]
    simp [h1]
end Go.Pv

/-
  Plain laws: distances.
-/
namespace Go.Pv

structure Dist (n : Nat) (ed : Int → Int → Prop) (fr : List Int) (d : List Int) : Prop where
  len : d.length = n
  low : ∀ v : Nat, v < n → -1 ≤ d.getD v (-1)
  zero : ∀ v : Int, 0 ≤ v → v < n → (d.getD v.toNat (-1) = 0 ↔ v ∈ fr)
  step : ∀ v u : Int, ed v u → 0 ≤ v ∧ v < n ∧ 0 ≤ u ∧ u < n → 0 ≤ d.getD u.toNat (-1) → 0 ≤ d.getD v.toNat (-1) ∧ d.getD v.toNat (-1) ≤ d.getD u.toNat (-1) + 1
  back : ∀ v : Int, 0 ≤ v → v < n → 0 < d.getD v.toNat (-1) → ∃ u, ed v u ∧ 0 ≤ u ∧ u < n ∧ d.getD u.toNat (-1) = d.getD v.toNat (-1) - 1
theorem Dist.le {n : Nat} {ed : Int → Int → Prop} {fr d d' : List Int} (h : Dist n ed fr d) (h' : Dist n ed fr d') : ∀ (k : Nat) (v : Int), 0 ≤ v → v < n → d.getD v.toNat (-1) = (k : Int) → 0 ≤ d'.getD v.toNat (-1) ∧ d'.getD v.toNat (-1) ≤ (k : Int)
  | 0, v, h0, h1, hk => by
    have := (h'.zero v h0 h1).2 ((h.zero v h0 h1).1 hk)
    omega
  | k + 1, v, h0, h1, hk => by
    obtain ⟨u, e1, e2, e3, e4⟩ := h.back v h0 h1 (by omega)
    obtain ⟨g1, g2⟩ := Dist.le h h' k u e2 e3 (by omega)
    obtain ⟨f1, f2⟩ := h'.step v u e1 ⟨h0, h1, e2, e3⟩ g1
    exact ⟨f1, by omega⟩
structure LvInv (nx : Int → List Int) (n : Nat) (fr : List Int) (i : Nat) (s : List Int × List Int) : Prop where
  ok : LvOk n s
  low : ∀ v : Nat, v < n → -1 ≤ s.1.getD v (-1)
  mono : ∀ (j k : Nat) (x y : Int), j ≤ k → s.2[j]? = some x → s.2[k]? = some y → s.1.getD x.toNat (-1) ≤ s.1.getD y.toNat (-1)
  near : ∀ (j : Nat) (x y : Int), s.2[i]? = some x → s.2[j]? = some y → s.1.getD y.toNat (-1) ≤ s.1.getD x.toNat (-1) + 1
  zero : ∀ v : Int, 0 ≤ v → v < n → (s.1.getD v.toNat (-1) = 0 ↔ v ∈ fr)
  done : ∀ (j : Nat) (u x : Int), j < i → s.2[j]? = some u → x ∈ nx u → 0 ≤ s.1.getD x.toNat (-1) ∧ s.1.getD x.toNat (-1) ≤ s.1.getD u.toNat (-1) + 1
  back : ∀ v : Int, 0 ≤ v → v < n → 0 < s.1.getD v.toNat (-1) → ∃ u, v ∈ nx u ∧ 0 ≤ u ∧ u < n ∧ s.1.getD u.toNat (-1) = s.1.getD v.toNat (-1) - 1
theorem lvIn_get {n : Nat} {s : List Int × List Int} (h : LvOk n s) {x d : Int} (hx : 0 ≤ x ∧ x < n) (v : Nat) : (lvIn d s x).1.getD v (-1) = if s.1.getD x.toNat (-1) < 0 ∧ x.toNat = v then d else s.1.getD v (-1) := by
  unfold lvIn
  by_cases hc : s.1.getD x.toNat (-1) < 0
  · rw [if_pos hc]
    dsimp only
    rw [getD_set' (by rw [h.len]; omega)]
    by_cases he : x.toNat = v
    · rw [if_pos he, if_pos ⟨hc, he⟩]
    · rw [if_neg he, if_neg (fun hh => he hh.2)]
  · rw [if_neg hc, if_neg (fun hh => hc hh.1)]
theorem lvIn_snd {s : List Int × List Int} {x d : Int} : (lvIn d s x).2 = if s.1.getD x.toNat (-1) < 0 then s.2 ++ [x] else s.2 := by
  unfold lvIn
  split <;> rfl
theorem LvInv.fold {nx : Int → List Int} {n : Nat} {fr : List Int} (_hn : ∀ v x, x ∈ nx v → 0 ≤ x ∧ x < n) {i : Nat} {v d : Int} : ∀ (l : List Int) (s : List Int × List Int), LvInv nx n fr i s → s.2[i]? = some v → d = s.1.getD v.toNat (-1) + 1 → (∀ x ∈ l, x ∈ nx v ∧ 0 ≤ x ∧ x < n) →
    LvInv nx n fr i (l.foldl (lvIn d) s) ∧ (l.foldl (lvIn d) s).2[i]? = some v ∧ (l.foldl (lvIn d) s).1.getD v.toNat (-1) + 1 = d ∧ (∀ u : Nat, 0 ≤ s.1.getD u (-1) → (l.foldl (lvIn d) s).1.getD u (-1) = s.1.getD u (-1)) ∧ ∀ x ∈ l, 0 ≤ (l.foldl (lvIn d) s).1.getD x.toNat (-1) ∧ (l.foldl (lvIn d) s).1.getD x.toNat (-1) ≤ d
  | [], s, h, hv, hd, _ => ⟨h, hv, hd.symm, fun _ _ => rfl, fun x hx => by cases hx⟩
  | x :: l, s, h, hv, hd, hl => by
    obtain ⟨hxn, hx0, hx1⟩ := hl x (by simp)
    have hvm := (h.ok.mem v).1 (List.mem_of_getElem? hv)
    have htop := h.ok.top v.toNat
    have hg := lvIn_get h.ok (d := d) ⟨hx0, hx1⟩
    have hs2 : (lvIn d s x).2 = if s.1.getD x.toNat (-1) < 0 then s.2 ++ [x] else s.2 := lvIn_snd
    have hok := h.ok.step (x := x) (d := d) ⟨hx0, hx1⟩ ⟨by omega, by omega⟩
    have hnear := fun j y (hy : s.2[j]? = some y) => h.near j v y hv hy
    have hsame : ∀ u : Nat, 0 ≤ s.1.getD u (-1) → (lvIn d s x).1.getD u (-1) = s.1.getD u (-1) := fun u hu => by
      rw [hg, if_neg (fun hh => by rw [hh.2] at hh; omega)]
    have hmemq : ∀ (j : Nat) (y : Int), s.2[j]? = some y → 0 ≤ s.1.getD y.toNat (-1) := fun j y hy => ((h.ok.mem y).1 (List.mem_of_getElem? hy)).2.2
    have hq : ∀ (j : Nat) (y : Int), (lvIn d s x).2[j]? = some y → (s.2[j]? = some y ∧ (lvIn d s x).1.getD y.toNat (-1) = s.1.getD y.toNat (-1)) ∨ (s.2.length = j ∧ y = x ∧ s.1.getD x.toNat (-1) < 0 ∧ (lvIn d s x).1.getD y.toNat (-1) = d) := fun j y hy => by
      rw [hs2] at hy
      by_cases hc : s.1.getD x.toNat (-1) < 0
      · rw [if_pos hc] at hy
        rcases Nat.lt_or_ge j s.2.length with hj | hj
        · rw [List.getElem?_append_left hj] at hy
          exact .inl ⟨hy, hsame _ (hmemq j y hy)⟩
        · rw [List.getElem?_append_right hj] at hy
          obtain ⟨h1, h2⟩ := List.getElem?_eq_some_iff.1 hy
          have hj0 : j - s.2.length = 0 := by simpa using h1
          simp [hj0] at h2
          refine .inr ⟨by omega, h2.symm, hc, ?_⟩
          rw [hg, ← h2, if_pos ⟨hc, rfl⟩]
      · rw [if_neg hc] at hy
        exact .inl ⟨hy, hsame _ (hmemq j y hy)⟩
    have hv' : (lvIn d s x).2[i]? = some v := by
      rw [hs2]
      split
      · rw [List.getElem?_append_left (List.getElem?_eq_some_iff.1 hv).1]; exact hv
      · exact hv
    have hdv : (lvIn d s x).1.getD v.toNat (-1) = s.1.getD v.toNat (-1) := hsame _ hvm.2.2
    have hI : LvInv nx n fr i (lvIn d s x) := by
      refine ⟨hok, fun u hu => ?_, fun j k a b hjk ha hb => ?_, fun j a b ha hb => ?_, fun u h0 h1 => ?_, fun j u y hj hu hy => ?_, fun u h0 h1 hp => ?_⟩
      · rw [hg]
        split
        · omega
        · exact h.low u hu
      · rcases hq j a ha with ⟨a1, a2⟩ | ⟨a1, a2, a3, a4⟩
        · rcases hq k b hb with ⟨b1, b2⟩ | ⟨b1, b2, b3, b4⟩
          · rw [a2, b2]; exact h.mono j k a b hjk a1 b1
          · rw [a2, b4]
            have := hnear j a a1
            omega
        · rcases hq k b hb with ⟨b1, b2⟩ | ⟨b1, b2, b3, b4⟩
          · have := (List.getElem?_eq_some_iff.1 b1).1
            omega
          · rw [a4, b4]; exact Int.le_refl _
      · rw [hv'] at ha
        cases ha
        rw [hdv]
        rcases hq j b hb with ⟨b1, b2⟩ | ⟨b1, b2, b3, b4⟩
        · rw [b2]; exact hnear j b b1
        · rw [b4]; omega
      · rw [← h.zero u h0 h1, hg]
        split
        · rename_i hc
          have : x = u := by omega
          subst this
          constructor
          · intro; omega
          · intro; omega
        · exact Iff.rfl
      · rcases hq j u hu with ⟨b1, b2⟩ | ⟨b1, _, _, _⟩
        · obtain ⟨g1, g2⟩ := h.done j u y hj b1 hy
          rw [hsame _ g1, b2]
          exact ⟨g1, g2⟩
        · have := (List.getElem?_eq_some_iff.1 hv).1
          omega
      · rw [hg] at hp
        rw [hg]
        split at hp
        · rename_i hc
          rw [if_pos hc]
          have : x = u := by omega
          subst this
          exact ⟨v, hxn, hvm.1, hvm.2.1, by rw [hdv]; omega⟩
        · rename_i hc
          rw [if_neg hc]
          obtain ⟨w, w1, w2, w3, w4⟩ := h.back u h0 h1 hp
          exact ⟨w, w1, w2, w3, by rw [hsame _ (by omega)]; exact w4⟩
    obtain ⟨f1, f2, f3, f4, f5⟩ := LvInv.fold (d := d) _hn l _ hI hv' (by rw [hdv]; exact hd) (fun y hy => hl y (List.mem_cons_of_mem _ hy))
    refine ⟨f1, f2, f3, fun u hu => ?_, fun y hy => ?_⟩
    · rw [List.foldl_cons, f4 u (by rw [hsame u hu]; exact hu), hsame u hu]
    · rcases List.mem_cons.1 hy with rfl | hy
      · have hle : 0 ≤ (lvIn d s y).1.getD y.toNat (-1) ∧ (lvIn d s y).1.getD y.toNat (-1) ≤ d := by
          rw [hg]
          split
          · omega
          · rename_i hc
            have hp : 0 ≤ s.1.getD y.toNat (-1) := by
              by_cases hc2 : s.1.getD y.toNat (-1) < 0
              · exact absurd ⟨hc2, rfl⟩ hc
              · omega
            obtain ⟨j, hj⟩ := List.mem_iff_getElem?.1 ((h.ok.mem y).2 ⟨hx0, hx1, hp⟩)
            have := hnear j y hj
            omega
        rw [List.foldl_cons, f4 y.toNat hle.1]
        exact hle
      · exact f5 y hy
theorem LvInv.run {nx : Int → List Int} {n : Nat} {fr : List Int} (hn : ∀ v x, x ∈ nx v → 0 ≤ x ∧ x < n) : ∀ (m i : Nat) (s : List Int × List Int), LvInv nx n fr i s → n ≤ i + m → ∃ j, LvInv nx n fr j (lvRun nx m i s) ∧ (lvRun nx m i s).2.length ≤ j
  | 0, i, s, h, hm => ⟨i, h, Nat.le_trans h.ok.bound (by omega)⟩
  | m + 1, i, s, h, hm => by
    unfold lvRun
    cases hv : s.2[i]? with
    | none => exact ⟨i, h, List.getElem?_eq_none_iff.1 hv⟩
    | some v =>
      have hvm := (h.ok.mem v).1 (List.mem_of_getElem? hv)
      obtain ⟨f1, f2, f3, f4, f5⟩ := LvInv.fold hn (nx v) s h hv rfl (fun x hx => ⟨hx, hn v x hx⟩)
      refine LvInv.run hn m (i + 1) _ ⟨f1.ok, f1.low, f1.mono, fun j x y hx hy => ?_, f1.zero, fun j u x hj hu hx => ?_, f1.back⟩ (by omega)
      · have h1 := f1.near j v y f2 hy
        have h2 := f1.mono i (i + 1) v x (by omega) f2 hx
        omega
      · rcases Nat.lt_or_ge j i with hji | hji
        · exact f1.done j u x hji hu hx
        · obtain rfl : j = i := by omega
          rw [f2] at hu
          cases hu
          have := f5 x hx
          exact ⟨this.1, by omega⟩
theorem sum_set (f : Int → Nat) : ∀ (l : List Int) (i : Nat) (x y : Int), l[i]? = some y → ((l.set i x).map f).sum + f y = (l.map f).sum + f x
  | [], i, x, y, h => by simp at h
  | a :: l, 0, x, y, h => by
    simp at h
    subst h
    simp only [List.set_cons_zero, List.map_cons, List.sum_cons]
    omega
  | a :: l, i + 1, x, y, h => by
    have := sum_set f l i x y (by simpa using h)
    simp only [List.set_cons_succ, List.map_cons, List.sum_cons]
    omega
theorem sum_le (f : Int → Nat) (m : Nat) : ∀ l : List Int, (∀ x ∈ l, f x ≤ m) → (l.map f).sum ≤ m * l.length
  | [], _ => by simp
  | a :: l, h => by
    have h1 := sum_le f m l (fun x hx => h x (List.mem_cons_of_mem _ hx))
    have h2 := h a (by simp)
    simp only [List.map_cons, List.sum_cons, List.length_cons, Nat.mul_add, Nat.mul_one]
    omega
def hasD (d : List Int) : Nat := (d.map fun x => if 0 ≤ x then 1 else 0).sum
def leftD (n : Nat) (d : List Int) : Nat := (d.map fun x => if 0 ≤ x then x.toNat else n).sum
theorem hasD_le (d : List Int) : hasD d ≤ d.length := by
  have := sum_le (fun x => if 0 ≤ x then 1 else 0) 1 d (fun x _ => by split <;> omega)
  unfold hasD
  omega
def relaxes (d : List Int) (e : Int × Int) : Bool := decide (0 ≤ d.getD e.2.toNat (-1)) && (decide (d.getD e.1.toNat (-1) < 0) || decide (d.getD e.2.toNat (-1) + 1 < d.getD e.1.toNat (-1)))
def relax (d : List Int) (e : Int × Int) : List Int := if relaxes d e = true then d.set e.1.toNat (d.getD e.2.toNat (-1) + 1) else d
structure RInv (n : Nat) (es : List (Int × Int)) (fr : List Int) (d : List Int) : Prop where
  len : d.length = n
  low : ∀ v : Nat, v < n → -1 ≤ d.getD v (-1)
  zero : ∀ v : Int, 0 ≤ v → v < n → (d.getD v.toNat (-1) = 0 ↔ v ∈ fr)
  back : ∀ v : Int, 0 ≤ v → v < n → 0 < d.getD v.toNat (-1) → ∃ u, (v, u) ∈ es ∧ 0 ≤ u ∧ u < n ∧ 0 ≤ d.getD u.toNat (-1) ∧ d.getD u.toNat (-1) ≤ d.getD v.toNat (-1) - 1
  top : ∀ v : Nat, v < n → d.getD v (-1) + 1 ≤ hasD d
theorem RInv.relax {n : Nat} {es : List (Int × Int)} {fr d : List Int} (h : RInv n es fr d) {e : Int × Int} (he : e ∈ es) (hi : (0 ≤ e.1 ∧ e.1 < n) ∧ (0 ≤ e.2 ∧ e.2 < n)) (hr : relaxes d e = true) : RInv n es fr (relax d e) ∧ leftD n (relax d e) < leftD n d := by
  obtain ⟨⟨a0, a1⟩, b0, b1⟩ := hi
  have hlen := h.len
  unfold Pv.relax
  rw [if_pos hr]
  simp only [relaxes, Bool.and_eq_true, Bool.or_eq_true, decide_eq_true_eq] at hr
  obtain ⟨hr1, hr2⟩ := hr
  have hal : e.1.toNat < d.length := by omega
  have hg : ∀ v : Nat, (d.set e.1.toNat (d.getD e.2.toNat (-1) + 1)).getD v (-1) = if e.1.toNat = v then d.getD e.2.toNat (-1) + 1 else d.getD v (-1) := fun v => getD_set' hal
  have hget : d[e.1.toNat]? = some (d.getD e.1.toNat (-1)) := by simp [hal]
  have htb := h.top e.2.toNat (by omega)
  have hl1 := h.low e.1.toNat (by omega)
  have hh : hasD d ≤ hasD (d.set e.1.toNat (d.getD e.2.toNat (-1) + 1)) ∧ (d.getD e.1.toNat (-1) < 0 → hasD d + 1 = hasD (d.set e.1.toNat (d.getD e.2.toNat (-1) + 1))) := by
    have := sum_set (fun x => if 0 ≤ x then 1 else 0) d e.1.toNat (d.getD e.2.toNat (-1) + 1) _ hget
    rw [if_pos (show (0 : Int) ≤ d.getD e.2.toNat (-1) + 1 by omega)] at this
    unfold hasD
    constructor
    · split at this <;> omega
    · intro hneg
      rw [if_neg (by omega)] at this
      omega
  have hhl := hasD_le (d.set e.1.toNat (d.getD e.2.toNat (-1) + 1))
  rw [List.length_set, hlen] at hhl
  refine ⟨⟨by rw [List.length_set]; exact hlen, fun v hv => ?_, fun v h0 h1 => ?_, fun v h0 h1 hp => ?_, fun v hv => ?_⟩, ?_⟩
  · rw [hg]
    split
    · omega
    · exact h.low v hv
  · rw [hg, ← h.zero v h0 h1]
    split
    · rename_i hc
      have hv : e.1 = v := by omega
      rw [← hv]
      constructor
      · intro; omega
      · intro; omega
    · exact Iff.rfl
  · rw [hg] at hp
    simp only [hg]
    by_cases hc : e.1.toNat = v.toNat
    · have hv : e.1 = v := by omega
      rw [if_pos hc]
      refine ⟨e.2, by rw [← hv]; exact he, b0, b1, ?_⟩
      by_cases hb : e.1.toNat = e.2.toNat
      · rw [← hb] at hr1 hr2
        omega
      · rw [if_neg hb]
        omega
    · rw [if_neg hc] at hp ⊢
      obtain ⟨u, u1, u2, u3, u4, u5⟩ := h.back v h0 h1 hp
      refine ⟨u, u1, u2, u3, ?_⟩
      split
      · rename_i hu
        rw [hu] at hr2
        omega
      · exact ⟨u4, u5⟩
  · rw [hg]
    split
    · rcases hr2 with hr2 | hr2
      · have := hh.2 hr2
        omega
      · have := h.top e.1.toNat (by omega)
        omega
    · have := h.top v hv
      omega
  · have := sum_set (fun x => if 0 ≤ x then x.toNat else n) d e.1.toNat (d.getD e.2.toNat (-1) + 1) _ hget
    rw [if_pos (show (0 : Int) ≤ d.getD e.2.toNat (-1) + 1 by omega)] at this
    unfold leftD
    rcases hr2 with hr2 | hr2
    · have h2 := hh.2 hr2
      rw [if_neg (by omega)] at this
      omega
    · rw [if_pos (by omega)] at this
      omega
def rstep (q : Bool × List Int) (e : Int × Int) : Bool × List Int := if relaxes q.2 e = true then (true, relax q.2 e) else q
structure PInv (n : Nat) (es : List (Int × Int)) (fr d0 : List Int) (k : Nat) (q : Bool × List Int) : Prop where
  r : RInv n es fr q.2
  no : q.1 = false → q.2 = d0 ∧ ∀ e ∈ es.take k, relaxes d0 e = false
  yes : q.1 = true → leftD n q.2 < leftD n d0
theorem PInv.start {n : Nat} {es : List (Int × Int)} {fr d0 : List Int} (h : RInv n es fr d0) : PInv n es fr d0 0 (false, d0) := ⟨h, fun _ => ⟨rfl, fun e he => by simp at he⟩, fun h => (by cases h)⟩
theorem PInv.step {n : Nat} {es : List (Int × Int)} {fr d0 : List Int} {k : Nat} {q : Bool × List Int} (h : PInv n es fr d0 k q) {e : Int × Int} (he : es[k]? = some e) (hi : (0 ≤ e.1 ∧ e.1 < n) ∧ (0 ≤ e.2 ∧ e.2 < n)) : PInv n es fr d0 (k + 1) (rstep q e) := by
  have ht : es.take (k + 1) = es.take k ++ [e] := by rw [List.take_add_one, he]; rfl
  unfold rstep
  cases hc : relaxes q.2 e with
  | true =>
    rw [if_pos rfl]
    obtain ⟨g1, g2⟩ := h.r.relax (List.mem_of_getElem? he) hi hc
    refine ⟨g1, fun h => (by cases h), fun _ => ?_⟩
    cases hq : q.1 with
    | true => exact Nat.lt_trans g2 (h.yes hq)
    | false => rw [(h.no hq).1] at g2; rw [(h.no hq).1]; exact g2
  | false =>
    rw [if_neg (by simp)]
    refine ⟨h.r, fun hq => ?_, h.yes⟩
    obtain ⟨g1, g2⟩ := h.no hq
    refine ⟨g1, fun x hx => ?_⟩
    rw [ht, List.mem_append, List.mem_singleton] at hx
    rcases hx with hx | rfl
    · exact g2 x hx
    · rw [← g1]; exact hc
end Go.Pv

/-
  Chapter 05: few, errors, reversed edges, as the document says.
-/
namespace Go.Pv

end Go.Pv

/-
  Loops whose rounds leave more than the next round takes.
-/
namespace Go.Pv
variable {A : Nat → Option AFunc} {Pr : Prims}

def rndM {α : Type} (kt kb : List Nat) (S : α → St) (P : α → Prop) (m : α → Nat) (x : α) (Q : Ex → St → Prop) (_t : Tie (kt, kb, S, P, m, x, Q) := .mk) : Ex → St → Prop
  | .normal, s => ∃ y, P y ∧ m y < m x ∧ s.mask kt kb = S y
  | .exit i, s => Q (.exit i) s
  | .ret, s => Q .ret s
@[go_sem] theorem rndM_exit {α : Type} (kt kb : List Nat) (S : α → St) (P : α → Prop) (m : α → Nat) (x : α) (Q : Ex → St → Prop) (i : Nat) (s : St) : rndM kt kb S P m x Q .mk (.exit i) s = Q (.exit i) s := rfl
@[go_sem] theorem rndM_ret {α : Type} (kt kb : List Nat) (S : α → St) (P : α → Prop) (m : α → Nat) (x : α) (Q : Ex → St → Prop) (s : St) : rndM kt kb S P m x Q .mk .ret s = Q .ret s := rfl
@[congr] theorem rndM_congr {α : Type} {kt kb : List Nat} {S : α → St} {P : α → Prop} {m : α → Nat} {x : α} {Q : Ex → St → Prop} {e e' : Ex} {s s' : St} (he : e = e') (hs : s = s') : rndM kt kb S P m x Q .mk e s = rndM kt kb S P m x Q .mk e' s' := by rw [he, hs]

end Go.Pv

/-
  Chapter 05: distances, as the document says.
-/
namespace Go.Pv

end Go.Pv

/-
  Chapter 05: distances and what is reached; the laws of Valid, Distances, Reach.
-/
namespace Go.Pv

theorem cloneCases {k : Nat} {rows : List (List PV)} (hr : ∀ r ∈ rows, r.length = k) (hm : rows.length ≤ 2147483648) : (rows = [] ∧ ∀ h, cloneP k [.pv (.lst 0 rows)] h = some (.tl [], {})) ∨ (rows ≠ [] ∧ ∀ h, cloneP k [.pv (.lst 0 rows)] h = some (.own h.ar.length 0 0 rows.length, { push := [⟨0, k, .inl rows⟩], base := h.ar.length })) := by
  have hf : rowsFit k (.inl rows) = true := by
    simp only [rowsFit, List.all_eq_true, beq_iff_eq]
    exact hr
  by_cases h0 : rows = []
  · subst h0
    exact .inl ⟨rfl, fun h => by simp [cloneP, srcRows, rowsFit]⟩
  · refine .inr ⟨h0, fun h => ?_⟩
    have hl : ¬ rows.length = 0 := fun e => h0 (List.eq_nil_of_length_eq_zero e)
    have h01 : (0 : Nat) ≤ 1 := by decide
    simp [cloneP, srcRows, hf, hl, mostRows, hm]
end Go.Pv

/-
  Chapter 29: what comes after a move.
-/
namespace Go.Pv
theorem cloneIntsT {l : List Int} (hm : l.length ≤ 2147483648) (t : Nat) (ht : t ≤ 1) : (l = [] ∧ ∀ h, cloneP 1 [.pv (.lst t [])] h = some (.tl [], {})) ∨ (l ≠ [] ∧ ∀ h, cloneP 1 [.pv (.lst t (ints l))] h = some (.own h.ar.length 0 0 l.length, { push := [⟨0, 1, .inl (ints l)⟩], base := h.ar.length })) := by
  by_cases h0 : l = []
  · subst h0
    exact .inl ⟨rfl, fun h => by simp [cloneP, srcRows, rowsFit, ht]⟩
  · refine .inr ⟨h0, fun h => ?_⟩
    have hl : ¬ l.length = 0 := fun e => h0 (List.eq_nil_of_length_eq_zero e)
    have hf := rowsFit_ints l
    have hil : (ints l).length = l.length := ints_length l
    simp [cloneP, srcRows, hf, hl, mostRows, hm, ht, hil]
def cfgP (c : Cfg) : PV := .agg [.int .i64 c.a, .int .i64 c.b, .lst 0 (ints c.toA), .lst 0 (ints c.toB)]
@[go_sem] theorem cfgP_eq (c : Cfg) : cfgP c = .agg [.int .i64 c.a, .int .i64 c.b, .lst 0 (ints c.toA), .lst 0 (ints c.toB)] := rfl
def cfg0 : Cfg := ⟨0, 0, [], []⟩
def putC (x y : Int) (party state : Int) (i o : List Int) : Cfg := if party = 0 then ⟨state, y, i, o⟩ else ⟨x, state, o, i⟩
set_option maxHeartbeats 2000000 in
theorem r190 (u1 u2 w1 w2 : Nat) (x y party state : Int) (l m i o : List Int) (hw1 : w1 ≤ 1) (hw2 : w2 ≤ 1) (hi : i.length ≤ 2147483648) (ho : o.length ≤ 2147483648) : res A PrA 190 [.agg [.int .i64 x, .int .i64 y, .lst u1 (ints l), .lst u2 (ints m)], .int .i64 party, .int .i64 state, .lst w1 (ints i), .lst w2 (ints o)] = some [cfgP (putC x y party state i o)] := by
  refine res_of a190 rfl rfl ?_
  simp only [F190]
  unfold putC cfgP
  rcases cloneIntsT hi w1 hw1 with ⟨rfl, hc⟩ | ⟨h0, hc⟩ <;> rcases cloneIntsT ho w2 hw2 with ⟨rfl, hd⟩ | ⟨h2, hd⟩
  all_goals
    by_cases hp : party = 0
    · have dp : decide (party = 0) = true := by simp [hp]
      simp (disch := omega) only [go_sem, dp, hc, hd, List.take_length, if_pos hp]
    · have dp : decide (party = 0) = false := by simp [hp]
      simp (disch := omega) only [go_sem, dp, hc, hd, List.take_length, if_neg hp]

theorem r189 (a b : Auto) (cap : Int) (x y : Int) (l m : List Int) (party : Int) : res A PrA 189 [.agg [.int .i64 a.states, .int .i64 a.start, .lst 0 (a.edges.map Edge.c), .int .i64 b.states, .int .i64 b.start, .lst 0 (b.edges.map Edge.c), .int .i64 cap], .agg [.int .i64 x, .int .i64 y, .lst 0 (ints l), .lst 0 (ints m)], .int .i64 party] = some [if party = 0 then .agg [.int .i64 a.states, .int .i64 a.start, .lst 0 (a.edges.map Edge.c), .int .i64 x, .lst 0 (ints l), .lst 0 (ints m), .int .i64 cap] else .agg [.int .i64 b.states, .int .i64 b.start, .lst 0 (b.edges.map Edge.c), .int .i64 y, .lst 0 (ints m), .lst 0 (ints l), .int .i64 cap]] := by
  refine res_of a189 rfl rfl ?_
  simp only [F189]
  by_cases hp : party = 0
  · have dp : decide (party = 0) = true := by simp [hp]
    simp (disch := omega) only [go_sem, dp, if_pos hp]
  · have dp : decide (party = 0) = false := by simp [hp]
    simp (disch := omega) only [go_sem, dp, if_neg hp]
def sideC (es : List Edge) (cap st : Int) (i o : List Int) (send : Bool) (label : Int) : Option (Int × List Int × List Int) × Bool :=
  match nextE st send label es with
  | none => (none, false)
  | some q => if send = true then (some (q, i, o ++ [label]), decide ((o.length : Int) < cap)) else match i with
    | [] => (none, false)
    | z :: r => if z = label then (some (q, r, o), true) else (none, false)
def afterC (a b : Auto) (cap x y : Int) (l m : List Int) (mv : Mov) : Cfg × Bool :=
  if mv.party = 0 then (match sideC a.edges cap x l m mv.send mv.label with
    | (none, ok) => (cfg0, ok)
    | (some (q, i, o), ok) => (⟨q, y, i, o⟩, ok))
  else if mv.party = 1 then (match sideC b.edges cap y m l mv.send mv.label with
    | (none, ok) => (cfg0, ok)
    | (some (q, i, o), ok) => (⟨x, q, o, i⟩, ok))
  else (cfg0, false)
set_option maxHeartbeats 4000000 in
theorem r182 (a b : Auto) (cap : Int) (x y : Int) (l m : List Int) (mv : Mov) (ha : a.edges.length ≤ 2 ^ 63 - 1) (hb : b.edges.length ≤ 2 ^ 63 - 1) (hl : l.length ≤ 2000000000) (hm : m.length ≤ 2000000000) : res A PrA 182 [.agg [.int .i64 a.states, .int .i64 a.start, .lst 0 (a.edges.map Edge.c), .int .i64 b.states, .int .i64 b.start, .lst 0 (b.edges.map Edge.c), .int .i64 cap], .agg [.int .i64 x, .int .i64 y, .lst 0 (ints l), .lst 0 (ints m)], .agg [.int .i64 mv.party, .bool mv.send, .int .i64 mv.label]] = some [cfgP (afterC a b cap x y l m mv).1, .bool (afterC a b cap x y l m mv).2] := by
  refine res_of a182 rfl rfl ?_
  simp only [F182]
  obtain ⟨p, send, label⟩ := mv
  have h190 := fun u1 u2 w1 w2 x y q s l m i o h1 h2 h3 h4 => r190 u1 u2 w1 w2 x y q s l m i o h1 h2 h3 h4
  have h189 := r189 a b cap x y l m
  by_cases hp : p = 0
  · subst hp
    have d0 : decide (((0 : Nat) : Int) = 0) = true := rfl
    have hA : afterC a b cap x y l m ⟨0, send, label⟩ = (match sideC a.edges cap x l m send label with
      | (none, ok) => (cfg0, ok)
      | (some (q, i, o), ok) => (⟨q, y, i, o⟩, ok)) := rfl
    rw [hA]
    unfold sideC
    have h189 := h189 0
    rw [if_pos rfl] at h189
    cases hn : nextE x send label a.edges with
    | none =>
      simp (disch := omega) only [go_sem, h189, hn, Option.isSome_none, Option.getD_none]
      rfl
    | some q =>
      cases send with
      | true =>
        have htk : (m ++ [label]).take (m.length + 1) = m ++ [label] := List.take_of_length_le (by simp)
        have hml : (m ++ [label]).length = m.length + 1 := by simp
        have h190' := fun u1 u2 w1 w2 h1 h2 => h190 u1 u2 w1 w2 x y 0 q l m l (m ++ [label]) h1 h2 (by omega) (by omega)
        rcases cloneIntsT (l := m) (by omega) 0 (by omega) with ⟨rfl, hd⟩ | ⟨h2, hd⟩
        · simp only [ints_nil, List.nil_append] at h189 h190'
          simp (disch := omega) only [go_sem, h189, h190', hn, hd, Option.isSome_some, Option.getD_some]
          rfl
        · simp (disch := omega) only [go_sem, h189, hn, hd, Option.isSome_some, Option.getD_some, htk, h190']
          rfl
      | false =>
        cases l with
        | nil =>
          simp only [ints_nil] at h189 h190
          simp (disch := omega) only [go_sem, h189, hn, Option.isSome_some, Option.getD_some, d0]
          rfl
        | cons z r =>
          have dz : decide (((r.length + 1 : Nat) : Int) = 0) = false := by rw [decide_eq_false_iff_not]; omega
          simp (disch := omega) only [go_sem, h189, hn, Option.isSome_some, Option.getD_some, dz, idxR_int]
          by_cases hz : z = label
          · have dl : decide (z = label) = true := by simp [hz]
            have hl' : r.length + 1 ≤ 2000000000 := hl
            have h190z := fun u1 u2 w1 w2 l' h1 h2 => h190 u1 u2 w1 w2 x y 0 q l' m r m h1 h2 (by omega) (by omega)
            simp (disch := omega) only [go_sem, dl, h190z, if_pos hz]
            rfl
          · have dl : decide (z = label) = false := by simp [hz]
            simp (disch := omega) only [go_sem, dl, if_neg hz]
            rfl
  · by_cases hp1 : p = 1
    · subst hp1
      have d0 : decide (((0 : Nat) : Int) = 0) = true := rfl
      have hA : afterC a b cap x y l m ⟨1, send, label⟩ = (match sideC b.edges cap y m l send label with
        | (none, ok) => (cfg0, ok)
        | (some (q, i, o), ok) => (⟨x, q, o, i⟩, ok)) := rfl
      rw [hA]
      unfold sideC
      have h189 := h189 1
      rw [if_neg (by decide)] at h189
      cases hn : nextE y send label b.edges with
      | none =>
        simp (disch := omega) only [go_sem, h189, hn, Option.isSome_none, Option.getD_none]
        rfl
      | some q =>
        cases send with
        | true =>
          have htk : (l ++ [label]).take (l.length + 1) = l ++ [label] := List.take_of_length_le (by simp)
          have hml : (l ++ [label]).length = l.length + 1 := by simp
          have h190' := fun u1 u2 w1 w2 h1 h2 => h190 u1 u2 w1 w2 x y 1 q l m m (l ++ [label]) h1 h2 (by omega) (by omega)
          rcases cloneIntsT (l := l) (by omega) 0 (by omega) with ⟨rfl, hd⟩ | ⟨h2, hd⟩
          · simp only [ints_nil, List.nil_append] at h189 h190'
            simp (disch := omega) only [go_sem, h189, h190', hn, hd, Option.isSome_some, Option.getD_some]
            rfl
          · simp (disch := omega) only [go_sem, h189, hn, hd, Option.isSome_some, Option.getD_some, htk, h190']
            rfl
        | false =>
          cases m with
          | nil =>
            simp only [ints_nil] at h189 h190
            simp (disch := omega) only [go_sem, h189, hn, Option.isSome_some, Option.getD_some, d0]
            rfl
          | cons z r =>
            have dz : decide (((r.length + 1 : Nat) : Int) = 0) = false := by rw [decide_eq_false_iff_not]; omega
            simp (disch := omega) only [go_sem, h189, hn, Option.isSome_some, Option.getD_some, dz, idxR_int]
            by_cases hz : z = label
            · have dl : decide (z = label) = true := by simp [hz]
              have hl' : r.length + 1 ≤ 2000000000 := hm
              have h190z := fun u1 u2 w1 w2 l' h1 h2 => h190 u1 u2 w1 w2 x y 1 q l l' r l h1 h2 (by omega) (by omega)
              simp (disch := omega) only [go_sem, dl, h190z, if_pos hz]
              rfl
            · have dl : decide (z = label) = false := by simp [hz]
              simp (disch := omega) only [go_sem, dl, if_neg hz]
              rfl
    · have hA : afterC a b cap x y l m ⟨p, send, label⟩ = (cfg0, false) := by
        unfold afterC
        rw [if_neg hp, if_neg hp1]
      rw [hA]
      have e0 : decide (p = 0) = false := by simp [hp]
      have e1 : decide (p = 1) = false := by simp [hp1]
      simp (disch := omega) only [go_sem, e0, e1]
      rfl
end Go.Pv

/-
  Chapter 29: what comes after a move, of the document.
-/
namespace Go.Pv
@[go_sem] theorem app_tlst0 (h : Heap) : appendV h 1 (.tl []) (.pv (.lst 0 [])) = some (.tl [], {}) := by simp [appendV, srcRows, rowsFit, rowsLen]
theorem app_tlstn {l : List Int} (h0 : l ≠ []) (hm : l.length ≤ 2147483648) (h : Heap) : appendV h 1 (.tl []) (.pv (.lst 0 (ints l))) = some (.own h.ar.length 0 0 l.length, { push := [⟨0, 1, .inl (ints l)⟩], base := h.ar.length }) := by
  have hf := rowsFit_ints l
  have hl : (ints l).length = l.length := ints_length l
  have hn : ¬ l.length = 0 := fun e => h0 (List.eq_nil_of_length_eq_zero e)
  have h00 : rowsFit 1 (.inl []) = true := rfl
  simp [appendV, srcRows, hf, rowsLen, hl, catRows, mostRows, h00, hm, hn]

set_option maxHeartbeats 8000000 in
theorem r192 (a b : Auto) (cap : Int) (x y : Int) (l m : List Int) (send : Bool) (label : Int) (ha : a.edges.length ≤ 2 ^ 63 - 1) (_hb : b.edges.length ≤ 2 ^ 63 - 1) (hl : l.length ≤ 2000000000) (hm : m.length ≤ 2000000000) : res A PrA 192 [.agg [.int .i64 a.states, .int .i64 a.start, .lst 0 (a.edges.map Edge.c), .int .i64 b.states, .int .i64 b.start, .lst 0 (b.edges.map Edge.c), .int .i64 cap], .agg [.int .i64 x, .int .i64 y, .lst 0 (ints l), .lst 0 (ints m)], .bool send, .int .i64 label] = some [cfgP (afterC a b cap x y l m ⟨0, send, label⟩).1, .bool (afterC a b cap x y l m ⟨0, send, label⟩).2] := by
  refine res_of a192 rfl rfl ?_
  simp only [F192]
  have d0 : decide (((0 : Nat) : Int) = 0) = true := rfl
  have hA : afterC a b cap x y l m ⟨0, send, label⟩ = (match sideC a.edges cap x l m send label with
    | (none, ok) => (cfg0, ok)
    | (some (q, i, o), ok) => (⟨q, y, i, o⟩, ok)) := rfl
  rw [hA]
  unfold sideC
  cases hn : nextE x send label a.edges with
  | none =>
    simp (disch := omega) only [go_sem, hn, Option.isSome_none, Option.getD_none]
    rfl
  | some q =>
    have htk : (m ++ [label]).take (m.length + 1) = m ++ [label] := List.take_of_length_le (by simp)
    have hM : m = [] ∨ (m ≠ [] ∧ ∀ h, appendV h 1 (.tl []) (.pv (.lst 0 (ints m))) = some (.own h.ar.length 0 0 m.length, { push := [⟨0, 1, .inl (ints m)⟩], base := h.ar.length })) := by
      by_cases h0 : m = []
      · exact .inl h0
      · exact .inr ⟨h0, app_tlstn h0 (by omega)⟩
    cases send with
    | true =>
      have hL : l = [] ∨ (l ≠ [] ∧ ∀ h, appendV h 1 (.tl []) (.pv (.lst 0 (ints l))) = some (.own h.ar.length 0 0 l.length, { push := [⟨0, 1, .inl (ints l)⟩], base := h.ar.length })) := by
        by_cases h0 : l = []
        · exact .inl h0
        · exact .inr ⟨h0, app_tlstn h0 (by omega)⟩
      rcases hM with rfl | ⟨hm0, hma⟩ <;> rcases hL with rfl | ⟨hl0, hla⟩
      · simp (disch := omega) only [go_sem, hn, Option.isSome_some, Option.getD_some]
      · simp (disch := omega) only [go_sem, hn, Option.isSome_some, Option.getD_some, hla, List.take_length]
      · simp (disch := omega) only [go_sem, hn, Option.isSome_some, Option.getD_some, hma, htk]
      · simp (disch := omega) only [go_sem, hn, Option.isSome_some, Option.getD_some, hla, hma, List.take_length, htk]
    | false =>
      cases l with
      | nil =>
        rcases hM with rfl | ⟨hm0, hma⟩
        · simp (disch := omega) only [go_sem, hn, Option.isSome_some, Option.getD_some, d0]
          rfl
        · simp (disch := omega) only [go_sem, hn, Option.isSome_some, Option.getD_some, d0, hma]
          rfl
      | cons z r =>
        have hl' : r.length + 1 ≤ 2000000000 := hl
        have hla := app_tlstn (l := z :: r) (by simp) (by show r.length + 1 ≤ 2147483648; omega)
        have hzl : (z :: r).length = r.length + 1 := rfl
        rw [hzl] at hla
        have dz : decide (((r.length + 1 : Nat) : Int) = 0) = false := by rw [decide_eq_false_iff_not]; omega
        rcases Classical.em (z = label) with dl | dl
        · have dl' : decide (z = label) = true := by simp [dl]
          rcases hM with rfl | ⟨hm0, hma⟩
          · simp (disch := omega) only [go_sem, hn, Option.isSome_some, Option.getD_some, dz, idxR_int, dl', if_pos dl, hla, Nat.add_sub_cancel, List.take_length]
          · simp (disch := omega) only [go_sem, hn, Option.isSome_some, Option.getD_some, dz, idxR_int, dl', if_pos dl, hla, hma, Nat.add_sub_cancel, List.take_length]
        · have dl' : decide (z = label) = false := by simp [dl]
          rcases hM with rfl | ⟨hm0, hma⟩
          · simp (disch := omega) only [go_sem, hn, Option.isSome_some, Option.getD_some, dz, idxR_int, dl', if_neg dl, hla]
            rfl
          · simp (disch := omega) only [go_sem, hn, Option.isSome_some, Option.getD_some, dz, idxR_int, dl', if_neg dl, hla, hma]
            rfl
def swapC (c : Cfg) : Cfg := ⟨c.b, c.a, c.toB, c.toA⟩
theorem after_swap (a b : Auto) (cap x y : Int) (l m : List Int) (send : Bool) (label : Int) : swapC (afterC b a cap y x m l ⟨0, send, label⟩).1 = (afterC a b cap x y l m ⟨1, send, label⟩).1 ∧ (afterC b a cap y x m l ⟨0, send, label⟩).2 = (afterC a b cap x y l m ⟨1, send, label⟩).2 := by
  have h0 : afterC b a cap y x m l ⟨0, send, label⟩ = (match sideC b.edges cap y m l send label with
    | (none, ok) => (cfg0, ok)
    | (some (q, i, o), ok) => (⟨q, x, i, o⟩, ok)) := rfl
  have h1 : afterC a b cap x y l m ⟨1, send, label⟩ = (match sideC b.edges cap y m l send label with
    | (none, ok) => (cfg0, ok)
    | (some (q, i, o), ok) => (⟨x, q, o, i⟩, ok)) := rfl
  rw [h0, h1]
  rcases sideC b.edges cap y m l send label with ⟨_ | ⟨q, i, o⟩, ok⟩ <;> exact ⟨rfl, rfl⟩
set_option maxHeartbeats 4000000 in
theorem r183 (a b : Auto) (cap : Int) (x y : Int) (l m : List Int) (mv : Mov) (ha : a.edges.length ≤ 2 ^ 63 - 1) (hb : b.edges.length ≤ 2 ^ 63 - 1) (hl : l.length ≤ 2000000000) (hm : m.length ≤ 2000000000) : res A PrA 183 [.agg [.int .i64 a.states, .int .i64 a.start, .lst 0 (a.edges.map Edge.c), .int .i64 b.states, .int .i64 b.start, .lst 0 (b.edges.map Edge.c), .int .i64 cap], .agg [.int .i64 x, .int .i64 y, .lst 0 (ints l), .lst 0 (ints m)], .agg [.int .i64 mv.party, .bool mv.send, .int .i64 mv.label]] = some [cfgP (afterC a b cap x y l m mv).1, .bool (afterC a b cap x y l m mv).2] := by
  refine res_of a183 rfl rfl ?_
  simp only [F183]
  obtain ⟨p, send, label⟩ := mv
  by_cases hp : p = 0
  · subst hp
    have h192 := r192 a b cap x y l m send label ha hb hl hm
    simp (disch := omega) only [go_sem, h192]
  · by_cases hp1 : p = 1
    · subst hp1
      have h192 := r192 b a cap y x m l send label hb ha hm hl
      obtain ⟨e1, e2⟩ := after_swap a b cap x y l m send label
      rw [← e1, ← e2]
      have e0 : decide ((1 : Int) = 0) = false := rfl
      generalize (afterC b a cap y x m l ⟨0, send, label⟩).1 = c at *
      generalize (afterC b a cap y x m l ⟨0, send, label⟩).2 = ok at *
      simp (disch := omega) only [go_sem, h192]
      rfl
    · have hA : afterC a b cap x y l m ⟨p, send, label⟩ = (cfg0, false) := by
        unfold afterC
        rw [if_neg hp, if_neg hp1]
      rw [hA]
      have e0 : decide (p = 0) = false := by simp [hp]
      have e1 : decide (p = 1) = false := by simp [hp1]
      simp (disch := omega) only [go_sem, e0, e1]
      rfl
end Go.Pv

/-
  Chapter 29: the possible moves.
-/
namespace Go.Pv
def mvs3 (l : List Mov) : List (List PV) := l.map Mov.c
@[go_sem] theorem mvs3_length (l : List Mov) : (mvs3 l).length = l.length := by simp [mvs3]
@[go_sem] theorem mvs3_nil : mvs3 [] = [] := rfl
@[go_sem] theorem mvs3_get (l : List Mov) (i : Nat) : (mvs3 l)[i]? = l[i]?.map fun x => [.int .i64 x.party, .bool x.send, .int .i64 x.label] := by simp [mvs3]; rfl
@[go_sem] theorem mvs3_snoc (l : List Mov) (a : Int) (b : Bool) (c : Int) : mvs3 l ++ [[.int .i64 a, .bool b, .int .i64 c]] = mvs3 (l ++ [⟨a, b, c⟩]) := by simp [mvs3, Mov.c]
@[go_sem] theorem grow03 (bx : List (Nat × List V)) (mp : List (List (PV × PV))) (rows : List (List PV)) (a b c : PV) (hm : rows.length + 1 ≤ 2147483648) : appendV ⟨bx, grA 3 rows, mp⟩ 3 (grV 0 rows) (.tl [[a, b, c]]) = some (grV 0 (rows ++ [[a, b, c]]), grT 0 3 rows [a, b, c]) := grow0 bx mp 3 rows [a, b, c] rfl hm
def Edge.mv (p : Int) (e : Edge) : Mov := ⟨p, e.send, e.label⟩
def mvsOf (a b : Auto) (cap x y : Int) (l m : List Int) (p st : Int) (es : List Edge) : List Mov :=
  (es.filter fun e => decide (e.fr = st) && (afterC a b cap x y l m (e.mv p)).2).map (Edge.mv p)
def movesC (a b : Auto) (cap x y : Int) (l m : List Int) : List Mov := mvsOf a b cap x y l m 0 x a.edges ++ mvsOf a b cap x y l m 1 y b.edges
theorem mvsOf_snoc (a b : Auto) (cap x y : Int) (l m : List Int) (p st : Int) {es : List Edge} {k : Nat} {e : Edge} (h : es[k]? = some e) : mvsOf a b cap x y l m p st (es.take (k + 1)) = if e.fr = st ∧ (afterC a b cap x y l m (e.mv p)).2 = true then mvsOf a b cap x y l m p st (es.take k) ++ [e.mv p] else mvsOf a b cap x y l m p st (es.take k) := by
  unfold mvsOf
  rw [List.take_add_one, h, List.filter_append, List.map_append]
  by_cases h1 : e.fr = st
  · cases h2 : (afterC a b cap x y l m (e.mv p)).2 <;> simp [h1, h2]
  · simp [h1]
theorem mvsOf_len (a b : Auto) (cap x y : Int) (l m : List Int) (p st : Int) (es : List Edge) : (mvsOf a b cap x y l m p st es).length ≤ es.length := by
  unfold mvsOf
  rw [List.length_map]
  exact List.length_filter_le _ _

set_option maxHeartbeats 8000000 in
theorem r173 (a b : Auto) (cap : Int) (x y : Int) (l m : List Int) (ha : a.edges.length ≤ 1000000) (hb : b.edges.length ≤ 1000000) (hl : l.length ≤ 2000000000) (hm : m.length ≤ 2000000000) : res A PrA 173 [.agg [.int .i64 a.states, .int .i64 a.start, .lst 0 (a.edges.map Edge.c), .int .i64 b.states, .int .i64 b.start, .lst 0 (b.edges.map Edge.c), .int .i64 cap], .agg [.int .i64 x, .int .i64 y, .lst 0 (ints l), .lst 0 (ints m)]] = some [.lst 0 (mvs3 (movesC a b cap x y l m))] := by
  refine res_of a173 rfl rfl ?_
  simp only [F173]
  have h183 := fun mv => r183 a b cap x y l m mv (by omega) (by omega) hl hm
  simp (disch := omega) only [go_sem]
  refine W.upto 2 (fun k => ⟨[(2, .ptr 2 0), (3, .ptr 3 0), (5, grV 0 (mvs3 (if k = 0 then [] else if k = 1 then mvsOf a b cap x y l m 0 x a.edges else movesC a b cap x y l m))), (6, .pv (.int .i64 k))], ⟨[(2, [.pv (.int .i64 a.states), .pv (.int .i64 a.start), .pv (.lst 0 (a.edges.map Edge.c)), .pv (.int .i64 b.states), .pv (.int .i64 b.start), .pv (.lst 0 (b.edges.map Edge.c)), .pv (.int .i64 cap)]), (3, [.pv (.int .i64 x), .pv (.int .i64 y), .pv (.lst 0 (ints l)), .pv (.lst 0 (ints m))])], grA 3 (mvs3 (if k = 0 then [] else if k = 1 then mvsOf a b cap x y l m 0 x a.edges else movesC a b cap x y l m)), []⟩⟩) (fun _ => True) rfl trivial fun k hk _ => ?_
  have d0 : decide (((0 : Nat) : Int) < 2) = true := rfl
  have d1 : decide (((1 : Nat) : Int) < 2) = true := rfl
  have d2 : decide (((2 : Nat) : Int) < 2) = false := rfl
  have e01 : decide (((0 : Nat) : Int) = 1) = false := rfl
  have e11 : decide (((1 : Nat) : Int) = 1) = true := rfl
  have hl0 := mvsOf_len a b cap x y l m 0 x a.edges
  obtain rfl | rfl | rfl : k = 0 ∨ k = 1 ∨ k = 2 := by omega
  · simp (disch := omega) only [go_sem, d0, e01]
    refine W.upto a.edges.length (fun k => ⟨[(2, .ptr 2 0), (3, .ptr 3 0), (5, grV 0 (mvs3 (mvsOf a b cap x y l m 0 x (a.edges.take k)))), (6, .pv (.int .i64 0)), (7, .pv (.lst 0 (a.edges.map Edge.c))), (8, .pv (.int .i64 x)), (9, .pv (.int .i64 k))], ⟨[(2, [.pv (.int .i64 a.states), .pv (.int .i64 a.start), .pv (.lst 0 (a.edges.map Edge.c)), .pv (.int .i64 b.states), .pv (.int .i64 b.start), .pv (.lst 0 (b.edges.map Edge.c)), .pv (.int .i64 cap)]), (3, [.pv (.int .i64 x), .pv (.int .i64 y), .pv (.lst 0 (ints l)), .pv (.lst 0 (ints m))])], grA 3 (mvs3 (mvsOf a b cap x y l m 0 x (a.edges.take k))), []⟩⟩) (fun _ => True) ?_ trivial fun k hk _ => ?_
    · rw [show mvsOf a b cap x y l m 0 x (a.edges.take 0) = [] from rfl]
      rfl
    simp (disch := omega) only [go_sem]
    refine Br.ofP (fun c => ?_) (fun c => ?_)
    · obtain ⟨e, he⟩ := get_at (l := a.edges) (k := k) (by omega)
      have hlen : (mvsOf a b cap x y l m 0 x (a.edges.take k)).length ≤ k := Nat.le_trans (mvsOf_len a b cap x y l m 0 x _) (by rw [List.length_take]; omega)
      have hs : mvsOf a b cap x y l m 0 x (a.edges.take (k + 1)) = if e.fr = x ∧ (afterC a b cap x y l m ⟨0, e.send, e.label⟩).2 = true then (mvsOf a b cap x y l m 0 x (a.edges.take k)) ++ [⟨0, e.send, e.label⟩] else mvsOf a b cap x y l m 0 x (a.edges.take k) := by
        rw [mvsOf_snoc a b cap x y l m 0 x he]
        rfl
      have h183e := h183 ⟨0, e.send, e.label⟩
      have hql : (mvsOf a b cap x y l m 0 x (a.edges.take k)).length ≤ 3000000 := by omega
      generalize mvsOf a b cap x y l m 0 x (a.edges.take k) = q at *
      have hq2 : (mvs3 q).length ≤ 3000000 := by rw [mvs3_length]; exact hql
      simp (disch := omega) only [go_sem, he]
      by_cases c1 : e.fr = x
      · have e1 : decide (e.fr = x) = true := by simp [c1]
        simp (disch := omega) only [go_sem, e1, h183e]
        refine Br.of (fun g => ?_) (fun g => ?_) <;> simp (disch := omega) only [go_sem, g]
        · refine .of (by omega) ?_ trivial
          rw [hs, if_pos ⟨c1, g⟩]
          rfl
        · refine .of (by omega) ?_ trivial
          rw [hs, if_neg (fun h => by rw [h.2] at g; cases g)]
          rfl
      · have e1 : decide (e.fr = x) = false := by simp [c1]
        simp (disch := omega) only [go_sem, e1]
        refine .of (by omega) ?_ trivial
        rw [hs, if_neg (fun h => c1 h.1)]
        rfl
    · obtain rfl : k = a.edges.length := by omega
      rw [List.take_length]
      simp (disch := omega) only [go_sem]
      refine .of (by omega) ?_ trivial
      rfl
  · simp (disch := omega) only [go_sem, d1, e11]
    refine W.upto b.edges.length (fun k => ⟨[(2, .ptr 2 0), (3, .ptr 3 0), (5, grV 0 (mvs3 (mvsOf a b cap x y l m 0 x a.edges ++ mvsOf a b cap x y l m 1 y (b.edges.take k)))), (6, .pv (.int .i64 1)), (7, .pv (.lst 0 (b.edges.map Edge.c))), (8, .pv (.int .i64 y)), (9, .pv (.int .i64 k))], ⟨[(2, [.pv (.int .i64 a.states), .pv (.int .i64 a.start), .pv (.lst 0 (a.edges.map Edge.c)), .pv (.int .i64 b.states), .pv (.int .i64 b.start), .pv (.lst 0 (b.edges.map Edge.c)), .pv (.int .i64 cap)]), (3, [.pv (.int .i64 x), .pv (.int .i64 y), .pv (.lst 0 (ints l)), .pv (.lst 0 (ints m))])], grA 3 (mvs3 (mvsOf a b cap x y l m 0 x a.edges ++ mvsOf a b cap x y l m 1 y (b.edges.take k))), []⟩⟩) (fun _ => True) ?_ trivial fun k hk _ => ?_
    · rw [show mvsOf a b cap x y l m 0 x a.edges ++ mvsOf a b cap x y l m 1 y (b.edges.take 0) = mvsOf a b cap x y l m 0 x a.edges from List.append_nil _]
      rfl
    simp (disch := omega) only [go_sem]
    refine Br.ofP (fun c => ?_) (fun c => ?_)
    · obtain ⟨e, he⟩ := get_at (l := b.edges) (k := k) (by omega)
      have hlen : (mvsOf a b cap x y l m 1 y (b.edges.take k)).length ≤ k := Nat.le_trans (mvsOf_len a b cap x y l m 1 y _) (by rw [List.length_take]; omega)
      have hs : mvsOf a b cap x y l m 0 x a.edges ++ mvsOf a b cap x y l m 1 y (b.edges.take (k + 1)) = if e.fr = y ∧ (afterC a b cap x y l m ⟨1, e.send, e.label⟩).2 = true then (mvsOf a b cap x y l m 0 x a.edges ++ mvsOf a b cap x y l m 1 y (b.edges.take k)) ++ [⟨1, e.send, e.label⟩] else mvsOf a b cap x y l m 0 x a.edges ++ mvsOf a b cap x y l m 1 y (b.edges.take k) := by
        rw [mvsOf_snoc a b cap x y l m 1 y he]
        unfold Edge.mv; split <;> simp
      have h183e := h183 ⟨1, e.send, e.label⟩
      have hql : (mvsOf a b cap x y l m 0 x a.edges ++ mvsOf a b cap x y l m 1 y (b.edges.take k)).length ≤ 3000000 := by rw [List.length_append]; omega
      generalize mvsOf a b cap x y l m 0 x a.edges ++ mvsOf a b cap x y l m 1 y (b.edges.take k) = q at *
      have hq2 : (mvs3 q).length ≤ 3000000 := by rw [mvs3_length]; exact hql
      simp (disch := omega) only [go_sem, he]
      by_cases c1 : e.fr = y
      · have e1 : decide (e.fr = y) = true := by simp [c1]
        simp (disch := omega) only [go_sem, e1, h183e]
        refine Br.of (fun g => ?_) (fun g => ?_) <;> simp (disch := omega) only [go_sem, g]
        · refine .of (by omega) ?_ trivial
          rw [hs, if_pos ⟨c1, g⟩]
          rfl
        · refine .of (by omega) ?_ trivial
          rw [hs, if_neg (fun h => by rw [h.2] at g; cases g)]
          rfl
      · have e1 : decide (e.fr = y) = false := by simp [c1]
        simp (disch := omega) only [go_sem, e1]
        refine .of (by omega) ?_ trivial
        rw [hs, if_neg (fun h => c1 h.1)]
        rfl
    · obtain rfl : k = b.edges.length := by omega
      rw [List.take_length]
      simp (disch := omega) only [go_sem]
      refine .of (by omega) ?_ trivial
      rfl
  · simp (disch := omega) only [go_sem, d2]
end Go.Pv

/-
  Chapter 29: the possible moves, of the program: they are sorted, and were so already.
-/
namespace Go.Pv
theorem isort_id {α : Type} {lt : α → α → Bool} (asym : ∀ x y, lt x y = true → lt y x = false) : ∀ {l : List α}, l.Pairwise (fun a b => lt a b = true) → isort lt l = l
  | [], _ => rfl
  | x :: l, h => by
    obtain ⟨h1, h2⟩ := List.pairwise_cons.1 h
    unfold isort
    rw [isort_id asym h2]
    cases l with
    | nil => rfl
    | cons y r =>
      unfold ins
      rw [if_neg (by rw [asym x y (h1 y (by simp))]; decide)]
theorem Mov.asym (x y : Mov) (h : Mov.lt x y = true) : Mov.lt y x = false := by
  cases hc : Mov.lt y x with
  | false => rfl
  | true =>
    have := Mov.swo.trans x y x h hc
    rw [Mov.swo.irrefl] at this
    cases this
theorem mvs3_dec (l : List Mov) : mapO Mov.dec (mvs3 l) = some l := by
  induction l with
  | nil => rfl
  | cons x l ih =>
    show mapO Mov.dec (x.c :: mvs3 l) = _
    have : Mov.dec x.c = some x := rfl
    simp only [mapO, this, ih]
def srtM (l : List Mov) : Tn := if l.length = 0 then {} else { ar := some (0, ⟨l.length - 1, 3, .inl (mvs3 l)⟩) }
theorem sortP_mvs {bx : List (Nat × List V)} {mp : List (List (PV × PV))} {l : List Mov} (hm : l.length ≤ 2147483648) (hs : l.Pairwise (fun a b => Mov.lt a b = true)) :
    sortP 3 (sortRows Mov.c Mov.dec Mov.lt) 197 [grV 0 (mvs3 l), .func 197 []] ⟨bx, grA 3 (mvs3 l), mp⟩ = some (.tup [], srtM l) := by
  rcases Nat.eq_zero_or_pos l.length with h | h
  · have : l = [] := List.eq_nil_of_length_eq_zero h
    subst this
    simp [srtM, grV, sortP, mvs3]
  · obtain ⟨q, hq⟩ : ∃ q, (mvs3 l).length = q + 1 := ⟨l.length - 1, by rw [mvs3_length]; omega⟩
    have e1 : (mvs3 l).length = l.length := mvs3_length l
    rw [grV_own hq, grA_own hq]
    have hr := rising_of hs
    have hid := isort_id Mov.asym hs
    have hl : q + 1 = l.length := by omega
    have ho : ownArr ⟨bx, [⟨q, 3, .inl (mvs3 l)⟩], mp⟩ 0 q = some ⟨q, 3, .inl (mvs3 l)⟩ := by simp [ownArr]
    rw [hl]
    have h0 : ¬ l.length = 0 := by omega
    have hlq : l.length - 1 = q := by omega
    simp [sortP, ho, h0, e1, mostRows, hm, sortRows, mvs3_dec, hr, hid, List.take_of_length_le (Nat.le_of_eq e1), List.drop_eq_nil_of_le (Nat.le_of_eq e1), srtM, hlq]
    rfl
@[go_sem] theorem srtM_apply (bx : List (Nat × List V)) (mp : List (List (PV × PV))) (l : List Mov) : (srtM l).apply ⟨bx, grA 3 (mvs3 l), mp⟩ = ⟨bx, grA 3 (mvs3 l), mp⟩ := by
  rcases Nat.eq_zero_or_pos l.length with h | h
  · have : l = [] := List.eq_nil_of_length_eq_zero h
    subst this
    simp [srtM, mvs3, Tn.apply, grA]
  · obtain ⟨q, hq⟩ : ∃ q, (mvs3 l).length = q + 1 := ⟨l.length - 1, by rw [mvs3_length]; omega⟩
    have e1 : (mvs3 l).length = l.length := mvs3_length l
    have h0 : ¬ l.length = 0 := by omega
    have hlq : l.length - 1 = q := by omega
    rw [grA_own hq]
    simp [srtM, h0, hlq, Tn.apply]
theorem mvsOf_mem {a b : Auto} {cap x y : Int} {l m : List Int} {p st : Int} {es : List Edge} {mv : Mov} : mv ∈ mvsOf a b cap x y l m p st es ↔ ∃ e ∈ es, e.fr = st ∧ mv = e.mv p ∧ (afterC a b cap x y l m mv).2 = true := by
  unfold mvsOf
  rw [List.mem_map]
  constructor
  · rintro ⟨e, he, rfl⟩
    obtain ⟨h1, h2⟩ := List.mem_filter.1 he
    rw [Bool.and_eq_true, decide_eq_true_eq] at h2
    exact ⟨e, h1, h2.1, rfl, h2.2⟩
  · rintro ⟨e, h1, h2, rfl, h3⟩
    exact ⟨e, List.mem_filter.2 ⟨h1, by rw [h3, decide_eq_true h2]; rfl⟩, rfl⟩
theorem mvsOf_asc {a b : Auto} {cap x y : Int} {l m : List Int} {p st : Int} {es : List Edge} (h : es.Pairwise (fun x y => Edge.lt x y = true)) : (mvsOf a b cap x y l m p st es).Pairwise (fun x y => Mov.lt x y = true) := by
  unfold mvsOf
  rw [List.pairwise_map]
  refine (h.filter _).imp_of_mem fun {e f} he hf hlt => ?_
  have h1 := (List.mem_filter.1 he).2
  have h2 := (List.mem_filter.1 hf).2
  rw [Bool.and_eq_true, decide_eq_true_eq] at h1 h2
  have h3 : e.fr = f.fr := h1.1.trans h2.1.symm
  unfold Mov.lt Mov.e Edge.mv
  unfold Edge.lt at hlt ⊢
  simpa [h3] using hlt
theorem movesC_asc {a b : Auto} {cap x y : Int} {l m : List Int} (ha : a.edges.Pairwise (fun x y => Edge.lt x y = true)) (hb : b.edges.Pairwise (fun x y => Edge.lt x y = true)) : (movesC a b cap x y l m).Pairwise (fun x y => Mov.lt x y = true) := by
  unfold movesC
  rw [List.pairwise_append]
  refine ⟨mvsOf_asc ha, mvsOf_asc hb, fun u hu v hv => ?_⟩
  obtain ⟨e, _, _, rfl, _⟩ := mvsOf_mem.1 hu
  obtain ⟨f, _, _, rfl, _⟩ := mvsOf_mem.1 hv
  unfold Mov.lt Mov.e Edge.mv Edge.lt
  simp
theorem sys_good {a b : Auto} {cap : Int} (h : sysErr a b cap = 0) : a.Good ∧ b.Good ∧ 1 ≤ cap ∧ cap ≤ 3 := by
  unfold sysErr at h
  by_cases h1 : a.err = 0
  · rw [if_neg (by simp [h1])] at h
    by_cases h2 : b.err = 0
    · rw [if_neg (by simp [h2])] at h
      refine ⟨Auto.good_iff.1 h1, Auto.good_iff.1 h2, ?_⟩
      by_cases h3 : cap < 1 ∨ 3 < cap
      · rw [if_pos h3] at h
        cases h
      · omega
    · rw [if_pos (by simp [h2])] at h
      exact absurd h h2
  · rw [if_pos (by simp [h1])] at h
    exact absurd h h1

set_option maxHeartbeats 8000000 in
theorem r186 (a b : Auto) (cap : Int) (x y : Int) (l m : List Int) (ha : a.edges.length ≤ 1000000) (hb : b.edges.length ≤ 1000000) (hl : l.length ≤ 2000000000) (hm : m.length ≤ 2000000000) (hs : (movesC a b cap x y l m).Pairwise (fun x y => Mov.lt x y = true)) : res A PrA 186 [.agg [.int .i64 a.states, .int .i64 a.start, .lst 0 (a.edges.map Edge.c), .int .i64 b.states, .int .i64 b.start, .lst 0 (b.edges.map Edge.c), .int .i64 cap], .agg [.int .i64 x, .int .i64 y, .lst 0 (ints l), .lst 0 (ints m)]] = some [.lst 0 (mvs3 (movesC a b cap x y l m))] := by
  refine res_of a186 rfl rfl ?_
  simp only [F186]
  have h182 := fun mv => r182 a b cap x y l m mv (by omega) (by omega) hl hm
  have h1890 := r189 a b cap x y l m ((0 : Nat) : Int)
  have h1891 := r189 a b cap x y l m ((1 : Nat) : Int)
  rw [if_pos (by rfl)] at h1890
  rw [if_neg (by decide)] at h1891
  simp (disch := omega) only [go_sem]
  refine W.upto 2 (fun k => ⟨[(2, .ptr 2 0), (3, .ptr 3 0), (5, grV 0 (mvs3 (if k = 0 then [] else if k = 1 then mvsOf a b cap x y l m 0 x a.edges else movesC a b cap x y l m))), (13, .pv (.int .i64 k))], ⟨[(2, [.pv (.int .i64 a.states), .pv (.int .i64 a.start), .pv (.lst 0 (a.edges.map Edge.c)), .pv (.int .i64 b.states), .pv (.int .i64 b.start), .pv (.lst 0 (b.edges.map Edge.c)), .pv (.int .i64 cap)]), (3, [.pv (.int .i64 x), .pv (.int .i64 y), .pv (.lst 0 (ints l)), .pv (.lst 0 (ints m))])], grA 3 (mvs3 (if k = 0 then [] else if k = 1 then mvsOf a b cap x y l m 0 x a.edges else movesC a b cap x y l m)), []⟩⟩) (fun _ => True) rfl trivial fun k hk _ => ?_
  have d0 : decide (((0 : Nat) : Int) < 2) = true := rfl
  have d1 : decide (((1 : Nat) : Int) < 2) = true := rfl
  have d2 : decide (((2 : Nat) : Int) < 2) = false := rfl
  have hl0 := mvsOf_len a b cap x y l m 0 x a.edges
  obtain rfl | rfl | rfl : k = 0 ∨ k = 1 ∨ k = 2 := by omega
  · simp (disch := omega) only [go_sem, d0, h1890]
    refine W.upto a.edges.length (fun k => ⟨[(2, .ptr 2 0), (3, .ptr 3 0), (5, grV 0 (mvs3 (mvsOf a b cap x y l m 0 x (a.edges.take k)))), (6, .pv (.int .i64 0)), (7, .ptr 7 0), (13, .pv (.int .i64 0)), (22, .pv (.lst 0 (a.edges.map Edge.c))), (23, .pv (.int .i64 a.edges.length)), (24, .pv (.int .i64 k))], ⟨[(2, [.pv (.int .i64 a.states), .pv (.int .i64 a.start), .pv (.lst 0 (a.edges.map Edge.c)), .pv (.int .i64 b.states), .pv (.int .i64 b.start), .pv (.lst 0 (b.edges.map Edge.c)), .pv (.int .i64 cap)]), (3, [.pv (.int .i64 x), .pv (.int .i64 y), .pv (.lst 0 (ints l)), .pv (.lst 0 (ints m))]), (7, [.pv (.int .i64 a.states), .pv (.int .i64 a.start), .pv (.lst 0 (a.edges.map Edge.c)), .pv (.int .i64 x), .pv (.lst 0 (ints l)), .pv (.lst 0 (ints m)), .pv (.int .i64 cap)])], grA 3 (mvs3 (mvsOf a b cap x y l m 0 x (a.edges.take k))), []⟩⟩) (fun _ => True) ?_ trivial fun k hk _ => ?_
    · rw [show mvsOf a b cap x y l m 0 x (a.edges.take 0) = [] from rfl]
      rfl
    simp (disch := omega) only [go_sem]
    refine Br.ofP (fun c => ?_) (fun c => ?_)
    · obtain ⟨e, he⟩ := get_at (l := a.edges) (k := k) (by omega)
      have hlen : (mvsOf a b cap x y l m 0 x (a.edges.take k)).length ≤ k := Nat.le_trans (mvsOf_len a b cap x y l m 0 x _) (by rw [List.length_take]; omega)
      have hs : mvsOf a b cap x y l m 0 x (a.edges.take (k + 1)) = if e.fr = x ∧ (afterC a b cap x y l m ⟨0, e.send, e.label⟩).2 = true then (mvsOf a b cap x y l m 0 x (a.edges.take k)) ++ [⟨0, e.send, e.label⟩] else mvsOf a b cap x y l m 0 x (a.edges.take k) := by
        rw [mvsOf_snoc a b cap x y l m 0 x he]
        rfl
      have h182e := h182 ⟨0, e.send, e.label⟩
      have hql : (mvsOf a b cap x y l m 0 x (a.edges.take k)).length ≤ 3000000 := by omega
      generalize mvsOf a b cap x y l m 0 x (a.edges.take k) = q at *
      have hq2 : (mvs3 q).length ≤ 3000000 := by rw [mvs3_length]; exact hql
      simp (disch := omega) only [go_sem, he]
      by_cases c1 : e.fr = x
      · have e1 : decide (e.fr = x) = true := by simp [c1]
        simp (disch := omega) only [go_sem, e1, h182e]
        refine Br.of (fun g => ?_) (fun g => ?_) <;> simp (disch := omega) only [go_sem, g]
        · refine .of (by omega) ?_ trivial
          rw [hs, if_pos ⟨c1, g⟩]
          rfl
        · refine .of (by omega) ?_ trivial
          rw [hs, if_neg (fun h => by rw [h.2] at g; cases g)]
          rfl
      · have e1 : decide (e.fr = x) = false := by simp [c1]
        simp (disch := omega) only [go_sem, e1]
        refine .of (by omega) ?_ trivial
        rw [hs, if_neg (fun h => c1 h.1)]
        rfl
    · obtain rfl : k = a.edges.length := by omega
      rw [List.take_length]
      simp (disch := omega) only [go_sem]
      refine .of (by omega) ?_ trivial
      rfl
  · simp (disch := omega) only [go_sem, d1, h1891]
    refine W.upto b.edges.length (fun k => ⟨[(2, .ptr 2 0), (3, .ptr 3 0), (5, grV 0 (mvs3 (mvsOf a b cap x y l m 0 x a.edges ++ mvsOf a b cap x y l m 1 y (b.edges.take k)))), (6, .pv (.int .i64 1)), (7, .ptr 7 0), (13, .pv (.int .i64 1)), (22, .pv (.lst 0 (b.edges.map Edge.c))), (23, .pv (.int .i64 b.edges.length)), (24, .pv (.int .i64 k))], ⟨[(2, [.pv (.int .i64 a.states), .pv (.int .i64 a.start), .pv (.lst 0 (a.edges.map Edge.c)), .pv (.int .i64 b.states), .pv (.int .i64 b.start), .pv (.lst 0 (b.edges.map Edge.c)), .pv (.int .i64 cap)]), (3, [.pv (.int .i64 x), .pv (.int .i64 y), .pv (.lst 0 (ints l)), .pv (.lst 0 (ints m))]), (7, [.pv (.int .i64 b.states), .pv (.int .i64 b.start), .pv (.lst 0 (b.edges.map Edge.c)), .pv (.int .i64 y), .pv (.lst 0 (ints m)), .pv (.lst 0 (ints l)), .pv (.int .i64 cap)])], grA 3 (mvs3 (mvsOf a b cap x y l m 0 x a.edges ++ mvsOf a b cap x y l m 1 y (b.edges.take k))), []⟩⟩) (fun _ => True) ?_ trivial fun k hk _ => ?_
    · rw [show mvsOf a b cap x y l m 0 x a.edges ++ mvsOf a b cap x y l m 1 y (b.edges.take 0) = mvsOf a b cap x y l m 0 x a.edges from List.append_nil _]
      rfl
    simp (disch := omega) only [go_sem]
    refine Br.ofP (fun c => ?_) (fun c => ?_)
    · obtain ⟨e, he⟩ := get_at (l := b.edges) (k := k) (by omega)
      have hlen : (mvsOf a b cap x y l m 1 y (b.edges.take k)).length ≤ k := Nat.le_trans (mvsOf_len a b cap x y l m 1 y _) (by rw [List.length_take]; omega)
      have hs : mvsOf a b cap x y l m 0 x a.edges ++ mvsOf a b cap x y l m 1 y (b.edges.take (k + 1)) = if e.fr = y ∧ (afterC a b cap x y l m ⟨1, e.send, e.label⟩).2 = true then (mvsOf a b cap x y l m 0 x a.edges ++ mvsOf a b cap x y l m 1 y (b.edges.take k)) ++ [⟨1, e.send, e.label⟩] else mvsOf a b cap x y l m 0 x a.edges ++ mvsOf a b cap x y l m 1 y (b.edges.take k) := by
        rw [mvsOf_snoc a b cap x y l m 1 y he]
        unfold Edge.mv; split <;> simp
      have h182e := h182 ⟨1, e.send, e.label⟩
      have hql : (mvsOf a b cap x y l m 0 x a.edges ++ mvsOf a b cap x y l m 1 y (b.edges.take k)).length ≤ 3000000 := by rw [List.length_append]; omega
      generalize mvsOf a b cap x y l m 0 x a.edges ++ mvsOf a b cap x y l m 1 y (b.edges.take k) = q at *
      have hq2 : (mvs3 q).length ≤ 3000000 := by rw [mvs3_length]; exact hql
      simp (disch := omega) only [go_sem, he]
      by_cases c1 : e.fr = y
      · have e1 : decide (e.fr = y) = true := by simp [c1]
        simp (disch := omega) only [go_sem, e1, h182e]
        refine Br.of (fun g => ?_) (fun g => ?_) <;> simp (disch := omega) only [go_sem, g]
        · refine .of (by omega) ?_ trivial
          rw [hs, if_pos ⟨c1, g⟩]
          rfl
        · refine .of (by omega) ?_ trivial
          rw [hs, if_neg (fun h => by rw [h.2] at g; cases g)]
          rfl
      · have e1 : decide (e.fr = y) = false := by simp [c1]
        simp (disch := omega) only [go_sem, e1]
        refine .of (by omega) ?_ trivial
        rw [hs, if_neg (fun h => c1 h.1)]
        rfl
    · obtain rfl : k = b.edges.length := by omega
      rw [List.take_length]
      simp (disch := omega) only [go_sem]
      refine .of (by omega) ?_ trivial
      rfl
  · have hml : (movesC a b cap x y l m).length ≤ 2000000 := by
      have := mvsOf_len a b cap x y l m 1 y b.edges
      unfold movesC
      rw [List.length_append]
      omega
    have hsp := fun bx mp => sortP_mvs (bx := bx) (mp := mp) (l := movesC a b cap x y l m) (by omega) hs
    have e20 : ((if 2 = 0 then [] else if 2 = 1 then mvsOf a b cap x y l m 0 x a.edges else movesC a b cap x y l m) : List Mov) = movesC a b cap x y l m := rfl
    rw [e20]
    generalize movesC a b cap x y l m = q at *
    simp (disch := omega) only [go_sem, d2, hsp]
end Go.Pv

