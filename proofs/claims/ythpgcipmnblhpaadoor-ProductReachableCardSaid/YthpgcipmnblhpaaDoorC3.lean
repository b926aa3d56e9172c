/-
  What the functions of the law give.
-/
import Derived.Test.YthpgcipmnblhpaaDoorC2
set_option linter.unusedSimpArgs false
set_option linter.unusedVariables false
/-
  Chapter 29: the possible moves, of the program: they are sorted, and were so already.
-/
namespace Go.Pv
theorem isort_id {α : Type} {lt : α → α → Bool} (asym : ∀ x y, lt x y = true → lt y x = false) : ∀ {l : List α}, l.Pairwise (fun a b => lt a b = true) → isort lt l = l
  | [], _ => rfl
  | x :: l, h => by
    obtain ⟨h1, h2⟩ := List.pairwise_cons.1 h
    unfold isort
    rw [isort_id asym h2]
    cases l with
    | nil => rfl
    | cons y r =>
      unfold ins
      rw [if_neg (by rw [asym x y (h1 y (by simp))]; decide)]
theorem Mov.asym (x y : Mov) (h : Mov.lt x y = true) : Mov.lt y x = false := by
  cases hc : Mov.lt y x with
  | false => rfl
  | true =>
    have := Mov.swo.trans x y x h hc
    rw [Mov.swo.irrefl] at this
    cases this
theorem mvs3_dec (l : List Mov) : mapO Mov.dec (mvs3 l) = some l := by
  induction l with
  | nil => rfl
  | cons x l ih =>
    show mapO Mov.dec (x.c :: mvs3 l) = _
    have : Mov.dec x.c = some x := rfl
    simp only [mapO, this, ih]
def srtM (l : List Mov) : Tn := if l.length = 0 then {} else { ar := some (0, ⟨l.length - 1, 3, .inl (mvs3 l)⟩) }
theorem sortP_mvs {bx : List (Nat × List V)} {mp : List (List (PV × PV))} {l : List Mov} (hm : l.length ≤ 2147483648) (hs : l.Pairwise (fun a b => Mov.lt a b = true)) :
    sortP 3 (sortRows Mov.c Mov.dec Mov.lt) 197 [grV 0 (mvs3 l), .func 197 []] ⟨bx, grA 3 (mvs3 l), mp⟩ = some (.tup [], srtM l) := by
  rcases Nat.eq_zero_or_pos l.length with h | h
  · have : l = [] := List.eq_nil_of_length_eq_zero h
    subst this
    simp [srtM, grV, sortP, mvs3]
  · obtain ⟨q, hq⟩ : ∃ q, (mvs3 l).length = q + 1 := ⟨l.length - 1, by rw [mvs3_length]; omega⟩
    have e1 : (mvs3 l).length = l.length := mvs3_length l
    rw [grV_own hq, grA_own hq]
    have hr := rising_of hs
    have hid := isort_id Mov.asym hs
    have hl : q + 1 = l.length := by omega
    have ho : ownArr ⟨bx, [⟨q, 3, .inl (mvs3 l)⟩], mp⟩ 0 q = some ⟨q, 3, .inl (mvs3 l)⟩ := by simp [ownArr]
    rw [hl]
    have h0 : ¬ l.length = 0 := by omega
    have hlq : l.length - 1 = q := by omega
    simp [sortP, ho, h0, e1, mostRows, hm, sortRows, mvs3_dec, hr, hid, List.take_of_length_le (Nat.le_of_eq e1), List.drop_eq_nil_of_le (Nat.le_of_eq e1), srtM, hlq]
    rfl
@[go_sem] theorem srtM_apply (bx : List (Nat × List V)) (mp : List (List (PV × PV))) (l : List Mov) : (srtM l).apply ⟨bx, grA 3 (mvs3 l), mp⟩ = ⟨bx, grA 3 (mvs3 l), mp⟩ := by
  rcases Nat.eq_zero_or_pos l.length with h | h
  · have : l = [] := List.eq_nil_of_length_eq_zero h
    subst this
    simp [srtM, mvs3, Tn.apply, grA]
  · obtain ⟨q, hq⟩ : ∃ q, (mvs3 l).length = q + 1 := ⟨l.length - 1, by rw [mvs3_length]; omega⟩
    have e1 : (mvs3 l).length = l.length := mvs3_length l
    have h0 : ¬ l.length = 0 := by omega
    have hlq : l.length - 1 = q := by omega
    rw [grA_own hq]
    simp [srtM, h0, hlq, Tn.apply]
theorem mvsOf_mem {a b : Auto} {cap x y : Int} {l m : List Int} {p st : Int} {es : List Edge} {mv : Mov} : mv ∈ mvsOf a b cap x y l m p st es ↔ ∃ e ∈ es, e.fr = st ∧ mv = e.mv p ∧ (afterC a b cap x y l m mv).2 = true := by
  unfold mvsOf
  rw [List.mem_map]
  constructor
  · rintro ⟨e, he, rfl⟩
    obtain ⟨h1, h2⟩ := List.mem_filter.1 he
    rw [Bool.and_eq_true, decide_eq_true_eq] at h2
    exact ⟨e, h1, h2.1, rfl, h2.2⟩
  · rintro ⟨e, h1, h2, rfl, h3⟩
    exact ⟨e, List.mem_filter.2 ⟨h1, by rw [h3, decide_eq_true h2]; rfl⟩, rfl⟩
theorem mvsOf_asc {a b : Auto} {cap x y : Int} {l m : List Int} {p st : Int} {es : List Edge} (h : es.Pairwise (fun x y => Edge.lt x y = true)) : (mvsOf a b cap x y l m p st es).Pairwise (fun x y => Mov.lt x y = true) := by
  unfold mvsOf
  rw [List.pairwise_map]
  refine (h.filter _).imp_of_mem fun {e f} he hf hlt => ?_
  have h1 := (List.mem_filter.1 he).2
  have h2 := (List.mem_filter.1 hf).2
  rw [Bool.and_eq_true, decide_eq_true_eq] at h1 h2
  have h3 : e.fr = f.fr := h1.1.trans h2.1.symm
  unfold Mov.lt Mov.e Edge.mv
  unfold Edge.lt at hlt ⊢
  simpa [h3] using hlt
theorem movesC_asc {a b : Auto} {cap x y : Int} {l m : List Int} (ha : a.edges.Pairwise (fun x y => Edge.lt x y = true)) (hb : b.edges.Pairwise (fun x y => Edge.lt x y = true)) : (movesC a b cap x y l m).Pairwise (fun x y => Mov.lt x y = true) := by
  unfold movesC
  rw [List.pairwise_append]
  refine ⟨mvsOf_asc ha, mvsOf_asc hb, fun u hu v hv => ?_⟩
  obtain ⟨e, _, _, rfl, _⟩ := mvsOf_mem.1 hu
  obtain ⟨f, _, _, rfl, _⟩ := mvsOf_mem.1 hv
  unfold Mov.lt Mov.e Edge.mv Edge.lt
  simp
theorem sys_good {a b : Auto} {cap : Int} (h : sysErr a b cap = 0) : a.Good ∧ b.Good ∧ 1 ≤ cap ∧ cap ≤ 3 := by
  unfold sysErr at h
  by_cases h1 : a.err = 0
  · rw [if_neg (by simp [h1])] at h
    by_cases h2 : b.err = 0
    · rw [if_neg (by simp [h2])] at h
      refine ⟨Auto.good_iff.1 h1, Auto.good_iff.1 h2, ?_⟩
      by_cases h3 : cap < 1 ∨ 3 < cap
      · rw [if_pos h3] at h
        cases h
      · omega
    · rw [if_pos (by simp [h2])] at h
      exact absurd h h2
  · rw [if_pos (by simp [h1])] at h
    exact absurd h h1

set_option maxHeartbeats 8000000 in
theorem r186 (a b : Auto) (cap : Int) (x y : Int) (l m : List Int) (ha : a.edges.length ≤ 1000000) (hb : b.edges.length ≤ 1000000) (hl : l.length ≤ 2000000000) (hm : m.length ≤ 2000000000) (hs : (movesC a b cap x y l m).Pairwise (fun x y => Mov.lt x y = true)) : res A PrA 186 [.agg [.int .i64 a.states, .int .i64 a.start, .lst 0 (a.edges.map Edge.c), .int .i64 b.states, .int .i64 b.start, .lst 0 (b.edges.map Edge.c), .int .i64 cap], .agg [.int .i64 x, .int .i64 y, .lst 0 (ints l), .lst 0 (ints m)]] = some [.lst 0 (mvs3 (movesC a b cap x y l m))] := by
  refine res_of a186 rfl rfl ?_
  simp only [F186]
  have h182 := fun mv => r182 a b cap x y l m mv (by omega) (by omega) hl hm
  have h1890 := r189 a b cap x y l m ((0 : Nat) : Int)
  have h1891 := r189 a b cap x y l m ((1 : Nat) : Int)
  rw [if_pos (by rfl)] at h1890
  rw [if_neg (by decide)] at h1891
  simp (disch := omega) only [go_sem]
  refine W.upto 2 (fun k => ⟨[(2, .ptr 2 0), (3, .ptr 3 0), (5, grV 0 (mvs3 (if k = 0 then [] else if k = 1 then mvsOf a b cap x y l m 0 x a.edges else movesC a b cap x y l m))), (13, .pv (.int .i64 k))], ⟨[(2, [.pv (.int .i64 a.states), .pv (.int .i64 a.start), .pv (.lst 0 (a.edges.map Edge.c)), .pv (.int .i64 b.states), .pv (.int .i64 b.start), .pv (.lst 0 (b.edges.map Edge.c)), .pv (.int .i64 cap)]), (3, [.pv (.int .i64 x), .pv (.int .i64 y), .pv (.lst 0 (ints l)), .pv (.lst 0 (ints m))])], grA 3 (mvs3 (if k = 0 then [] else if k = 1 then mvsOf a b cap x y l m 0 x a.edges else movesC a b cap x y l m)), []⟩⟩) (fun _ => True) rfl trivial fun k hk _ => ?_
  have d0 : decide (((0 : Nat) : Int) < 2) = true := rfl
  have d1 : decide (((1 : Nat) : Int) < 2) = true := rfl
  have d2 : decide (((2 : Nat) : Int) < 2) = false := rfl
  have hl0 := mvsOf_len a b cap x y l m 0 x a.edges
  obtain rfl | rfl | rfl : k = 0 ∨ k = 1 ∨ k = 2 := by omega
  · simp (disch := omega) only [go_sem, d0, h1890]
    refine W.upto a.edges.length (fun k => ⟨[(2, .ptr 2 0), (3, .ptr 3 0), (5, grV 0 (mvs3 (mvsOf a b cap x y l m 0 x (a.edges.take k)))), (6, .pv (.int .i64 0)), (7, .ptr 7 0), (13, .pv (.int .i64 0)), (22, .pv (.lst 0 (a.edges.map Edge.c))), (23, .pv (.int .i64 a.edges.length)), (24, .pv (.int .i64 k))], ⟨[(2, [.pv (.int .i64 a.states), .pv (.int .i64 a.start), .pv (.lst 0 (a.edges.map Edge.c)), .pv (.int .i64 b.states), .pv (.int .i64 b.start), .pv (.lst 0 (b.edges.map Edge.c)), .pv (.int .i64 cap)]), (3, [.pv (.int .i64 x), .pv (.int .i64 y), .pv (.lst 0 (ints l)), .pv (.lst 0 (ints m))]), (7, [.pv (.int .i64 a.states), .pv (.int .i64 a.start), .pv (.lst 0 (a.edges.map Edge.c)), .pv (.int .i64 x), .pv (.lst 0 (ints l)), .pv (.lst 0 (ints m)), .pv (.int .i64 cap)])], grA 3 (mvs3 (mvsOf a b cap x y l m 0 x (a.edges.take k))), []⟩⟩) (fun _ => True) ?_ trivial fun k hk _ => ?_
    · rw [show mvsOf a b cap x y l m 0 x (a.edges.take 0) = [] from rfl]
      rfl
    simp (disch := omega) only [go_sem]
    refine Br.ofP (fun c => ?_) (fun c => ?_)
    · obtain ⟨e, he⟩ := get_at (l := a.edges) (k := k) (by omega)
      have hlen : (mvsOf a b cap x y l m 0 x (a.edges.take k)).length ≤ k := Nat.le_trans (mvsOf_len a b cap x y l m 0 x _) (by rw [List.length_take]; omega)
      have hs : mvsOf a b cap x y l m 0 x (a.edges.take (k + 1)) = if e.fr = x ∧ (afterC a b cap x y l m ⟨0, e.send, e.label⟩).2 = true then (mvsOf a b cap x y l m 0 x (a.edges.take k)) ++ [⟨0, e.send, e.label⟩] else mvsOf a b cap x y l m 0 x (a.edges.take k) := by
        rw [mvsOf_snoc a b cap x y l m 0 x he]
        rfl
      have h182e := h182 ⟨0, e.send, e.label⟩
      have hql : (mvsOf a b cap x y l m 0 x (a.edges.take k)).length ≤ 3000000 := by omega
      generalize mvsOf a b cap x y l m 0 x (a.edges.take k) = q at *
      have hq2 : (mvs3 q).length ≤ 3000000 := by rw [mvs3_length]; exact hql
      simp (disch := omega) only [go_sem, he]
      by_cases c1 : e.fr = x
      · have e1 : decide (e.fr = x) = true := by simp [c1]
        simp (disch := omega) only [go_sem, e1, h182e]
        refine Br.of (fun g => ?_) (fun g => ?_) <;> simp (disch := omega) only [go_sem, g]
        · refine .of (by omega) ?_ trivial
          rw [hs, if_pos ⟨c1, g⟩]
          rfl
        · refine .of (by omega) ?_ trivial
          rw [hs, if_neg (fun h => by rw [h.2] at g; cases g)]
          rfl
      · have e1 : decide (e.fr = x) = false := by simp [c1]
        simp (disch := omega) only [go_sem, e1]
        refine .of (by omega) ?_ trivial
        rw [hs, if_neg (fun h => c1 h.1)]
        rfl
    · obtain rfl : k = a.edges.length := by omega
      rw [List.take_length]
      simp (disch := omega) only [go_sem]
      refine .of (by omega) ?_ trivial
      rfl
  · simp (disch := omega) only [go_sem, d1, h1891]
    refine W.upto b.edges.length (fun k => ⟨[(2, .ptr 2 0), (3, .ptr 3 0), (5, grV 0 (mvs3 (mvsOf a b cap x y l m 0 x a.edges ++ mvsOf a b cap x y l m 1 y (b.edges.take k)))), (6, .pv (.int .i64 1)), (7, .ptr 7 0), (13, .pv (.int .i64 1)), (22, .pv (.lst 0 (b.edges.map Edge.c))), (23, .pv (.int .i64 b.edges.length)), (24, .pv (.int .i64 k))], ⟨[(2, [.pv (.int .i64 a.states), .pv (.int .i64 a.start), .pv (.lst 0 (a.edges.map Edge.c)), .pv (.int .i64 b.states), .pv (.int .i64 b.start), .pv (.lst 0 (b.edges.map Edge.c)), .pv (.int .i64 cap)]), (3, [.pv (.int .i64 x), .pv (.int .i64 y), .pv (.lst 0 (ints l)), .pv (.lst 0 (ints m))]), (7, [.pv (.int .i64 b.states), .pv (.int .i64 b.start), .pv (.lst 0 (b.edges.map Edge.c)), .pv (.int .i64 y), .pv (.lst 0 (ints m)), .pv (.lst 0 (ints l)), .pv (.int .i64 cap)])], grA 3 (mvs3 (mvsOf a b cap x y l m 0 x a.edges ++ mvsOf a b cap x y l m 1 y (b.edges.take k))), []⟩⟩) (fun _ => True) ?_ trivial fun k hk _ => ?_
    · rw [show mvsOf a b cap x y l m 0 x a.edges ++ mvsOf a b cap x y l m 1 y (b.edges.take 0) = mvsOf a b cap x y l m 0 x a.edges from List.append_nil _]
      rfl
    simp (disch := omega) only [go_sem]
    refine Br.ofP (fun c => ?_) (fun c => ?_)
    · obtain ⟨e, he⟩ := get_at (l := b.edges) (k := k) (by omega)
      have hlen : (mvsOf a b cap x y l m 1 y (b.edges.take k)).length ≤ k := Nat.le_trans (mvsOf_len a b cap x y l m 1 y _) (by rw [List.length_take]; omega)
      have hs : mvsOf a b cap x y l m 0 x a.edges ++ mvsOf a b cap x y l m 1 y (b.edges.take (k + 1)) = if e.fr = y ∧ (afterC a b cap x y l m ⟨1, e.send, e.label⟩).2 = true then (mvsOf a b cap x y l m 0 x a.edges ++ mvsOf a b cap x y l m 1 y (b.edges.take k)) ++ [⟨1, e.send, e.label⟩] else mvsOf a b cap x y l m 0 x a.edges ++ mvsOf a b cap x y l m 1 y (b.edges.take k) := by
        rw [mvsOf_snoc a b cap x y l m 1 y he]
        unfold Edge.mv; split <;> simp
      have h182e := h182 ⟨1, e.send, e.label⟩
      have hql : (mvsOf a b cap x y l m 0 x a.edges ++ mvsOf a b cap x y l m 1 y (b.edges.take k)).length ≤ 3000000 := by rw [List.length_append]; omega
      generalize mvsOf a b cap x y l m 0 x a.edges ++ mvsOf a b cap x y l m 1 y (b.edges.take k) = q at *
      have hq2 : (mvs3 q).length ≤ 3000000 := by rw [mvs3_length]; exact hql
      simp (disch := omega) only [go_sem, he]
      by_cases c1 : e.fr = y
      · have e1 : decide (e.fr = y) = true := by simp [c1]
        simp (disch := omega) only [go_sem, e1, h182e]
        refine Br.of (fun g => ?_) (fun g => ?_) <;> simp (disch := omega) only [go_sem, g]
        · refine .of (by omega) ?_ trivial
          rw [hs, if_pos ⟨c1, g⟩]
          rfl
        · refine .of (by omega) ?_ trivial
          rw [hs, if_neg (fun h => by rw [h.2] at g; cases g)]
          rfl
      · have e1 : decide (e.fr = y) = false := by simp [c1]
        simp (disch := omega) only [go_sem, e1]
        refine .of (by omega) ?_ trivial
        rw [hs, if_neg (fun h => c1 h.1)]
        rfl
    · obtain rfl : k = b.edges.length := by omega
      rw [List.take_length]
      simp (disch := omega) only [go_sem]
      refine .of (by omega) ?_ trivial
      rfl
  · have hml : (movesC a b cap x y l m).length ≤ 2000000 := by
      have := mvsOf_len a b cap x y l m 1 y b.edges
      unfold movesC
      rw [List.length_append]
      omega
    have hsp := fun bx mp => sortP_mvs (bx := bx) (mp := mp) (l := movesC a b cap x y l m) (by omega) hs
    have e20 : ((if 2 = 0 then [] else if 2 = 1 then mvsOf a b cap x y l m 0 x a.edges else movesC a b cap x y l m) : List Mov) = movesC a b cap x y l m := rfl
    rw [e20]
    generalize movesC a b cap x y l m = q at *
    simp (disch := omega) only [go_sem, d2, hsp]
end Go.Pv

/-
  Chapter 29: what is reached.
-/
namespace Go.Pv

def Cfg.c (c : Cfg) : List PV := [.int .i64 c.a, .int .i64 c.b, .lst 0 (ints c.toA), .lst 0 (ints c.toB)]
def cfgs (l : List Cfg) : List (List PV) := l.map Cfg.c
@[go_sem] theorem cfgs_length (l : List Cfg) : (cfgs l).length = l.length := List.length_map _
theorem cfgs_get (l : List Cfg) (i : Nat) : (cfgs l)[i]? = l[i]?.map Cfg.c := by simp [cfgs]
theorem cfgs_snoc (l : List Cfg) (c : Cfg) : cfgs l ++ [[.int .i64 c.a, .int .i64 c.b, .lst 0 (ints c.toA), .lst 0 (ints c.toB)]] = cfgs (l ++ [c]) := by simp [cfgs, Cfg.c]
theorem keyP_val {a b : Int} {l m : List Int} (t u : Nat) (h : Cfg.ok ⟨a, b, l, m⟩) (hp : Heap) : keyP [.agg [.pv (.int .i64 a), .pv (.int .i64 b), .pv (.lst t (ints l)), .pv (.lst u (ints m))]] hp = some (.pv (.str (Cfg.key ⟨a, b, l, m⟩)), {}) := by
  have h1 := ints_dec l
  have h2 := ints_dec m
  simp only [keyP, h1, h2]
  exact if_pos h
def sucC (a b : Auto) (cap : Int) (c : Cfg) : List Cfg := (movesC a b cap c.a c.b c.toA c.toB).map fun m => (afterC a b cap c.a c.b c.toA c.toB m).1
structure Runs29 (a b : Auto) (cap : Int) (p : Cfg → Prop) : Prop where
  st : p ⟨a.start, b.start, [], []⟩
  nx : ∀ c, p c → ∀ x ∈ sucC a b cap c, p x
  ok : ∀ c, p c → c.ok
  so : ∀ c, p c → (movesC a b cap c.a c.b c.toA c.toB).Pairwise (fun x y => Mov.lt x y = true)
def cfgStart (a b : Auto) : Cfg := ⟨a.start, b.start, [], []⟩
theorem addUs_snoc {lim : Nat} : ∀ {l out : List Cfg} {c : Cfg}, addUs lim out (l ++ [c]) = (addUs lim out l).bind fun o => if lim < (addU o c).length then none else some (addU o c)
  | [], out, c => by simp [addUs]
  | d :: l, out, c => by
    rw [List.cons_append]
    unfold addUs
    split
    · rfl
    · exact addUs_snoc
theorem addUs_none {lim : Nat} {out : List Cfg} : ∀ {l : List Cfg} (k : Nat), addUs lim out (l.take k) = none → addUs lim out l = none := by
  intro l k h
  have key : ∀ (l1 l2 : List Cfg) (out : List Cfg), addUs lim out l1 = none → addUs lim out (l1 ++ l2) = none := by
    intro l1
    induction l1 with
    | nil => intro l2 out h; cases h
    | cons c l1 ih =>
      intro l2 out h
      rw [List.cons_append]
      unfold addUs at h ⊢
      split
      · rfl
      · rename_i hc
        rw [if_neg hc] at h
        exact ih l2 _ h
  have := key (l.take k) (l.drop k) out h
  rwa [List.take_append_drop] at this
theorem cfgs_rows (l : List Cfg) : ∀ x ∈ cfgs l, x.length = 4 := by
  intro x hx
  obtain ⟨c, _, rfl⟩ := List.mem_map.1 hx
  rfl
set_option maxHeartbeats 8000000 in
theorem r165 (a b : Auto) (cap : Int) {p : Cfg → Prop} (hp : Runs29 a b cap p) (ha : a.edges.length ≤ 1000000) (hb : b.edges.length ≤ 1000000) (hs : sysErr a b cap = 0) : res A PrA 165 [.agg [.int .i64 a.states, .int .i64 a.start, .lst 0 (a.edges.map Edge.c), .int .i64 b.states, .int .i64 b.start, .lst 0 (b.edges.map Edge.c), .int .i64 cap]] = some (match bfsL (sucC a b cap) 5000 5002 [cfgStart a b] 0 with | some out => [.lst 0 (cfgs out), .int .i64 0] | none => [.lst 0 [], .int .i64 3]) := by
  refine res_of a165 rfl rfl ?_
  simp only [F165]
  have d1 : decide (sysErr a b cap = 0) = true := by simp [hs]
  have hk0 := keyP_val (a := a.start) (b := b.start) (l := []) (m := []) 0 0 (hp.ok _ hp.st)
  simp only [ints_nil] at hk0
  have hi0 : idxR 4 0 [[PV.int IntKind.i64 a.start, PV.int IntKind.i64 b.start, PV.lst 0 [], PV.lst 0 []]] (some 0) = some (.pv (.ro 0 [PV.int IntKind.i64 a.start, PV.int IntKind.i64 b.start, PV.lst 0 [], PV.lst 0 []])) := rfl
  have hu0 : updM false [2] (.str (Cfg.key ⟨a.start, b.start, [], []⟩)) (.bool true) 0 [] = some { mp := some (0, seenS [Cfg.key ⟨a.start, b.start, [], []⟩]) } := upd_seenS _ [] 0
  generalize hR : (match bfsL (sucC a b cap) 5000 5002 [cfgStart a b] 0 with | some out => [PV.lst 0 (cfgs out), .int .i64 0] | none => [.lst 0 [], .int .i64 3]) = R
  simp (disch := omega) only [go_sem, d1, hk0, hs, hi0, hu0]
  refine W.loop (fun x : List Cfg × Nat => ⟨[(1, .ptr 1 0), (5, glV 0 1 (cfgs x.1)), (6, .map 0), (7, .pv (.int .i64 x.2))], ⟨[(1, [.pv (.int .i64 a.states), .pv (.int .i64 a.start), .pv (.lst 0 (a.edges.map Edge.c)), .pv (.int .i64 b.states), .pv (.int .i64 b.start), .pv (.lst 0 (b.edges.map Edge.c)), .pv (.int .i64 cap)])], glA 4 1 (cfgs x.1), [seenS (x.1.map Cfg.key)]⟩⟩) (fun x => (∀ c ∈ x.1, p c) ∧ x.1.length ≤ 5000 ∧ 1 ≤ x.1.length ∧ x.2 ≤ x.1.length ∧ bfsL (sucC a b cap) 5000 5002 [cfgStart a b] 0 = bfsL (sucC a b cap) 5000 (5002 - x.2) x.1 x.2) (fun x => 5001 - x.2) ([cfgStart a b], 0) rfl ⟨?_, ?_, ?_, ?_, rfl⟩ (fun x hx => ?_)
  · intro c hc
    rw [List.mem_singleton.1 hc]
    exact hp.st
  · simp
  · simp
  · simp
  obtain ⟨out, i⟩ := x
  obtain ⟨x1, x2, x3, x4, x5⟩ := hx
  simp only at x1 x2 x3 x4 x5 ⊢
  simp (disch := omega) only [go_sem]
  refine Br.ofP (fun c1 => ?_) (fun c1 => ?_) <;> simp (disch := omega) only [go_sem, c1]
  · obtain ⟨c, hc⟩ := get_at (l := out) (k := i) (by omega)
    have hpc := x1 c (List.mem_of_getElem? hc)
    obtain ⟨k1, k2, k3, k4, k5, k6⟩ := hp.ok c hpc
    have h186 := r186 a b cap c.a c.b c.toA c.toB (by omega) (by omega) (by omega) (by omega) (hp.so c hpc)
    have hcg : (cfgs out)[i]? = some [.int .i64 c.a, .int .i64 c.b, .lst 0 (ints c.toA), .lst 0 (ints c.toB)] := by rw [cfgs_get, hc]; rfl
    have h182 := fun mv => r182 a b cap c.a c.b c.toA c.toB mv (by omega) (by omega) (by omega) (by omega)
    have hsuc : sucC a b cap c = (movesC a b cap c.a c.b c.toA c.toB).map fun m => (afterC a b cap c.a c.b c.toA c.toB m).1 := rfl
    have hml : (movesC a b cap c.a c.b c.toA c.toB).length ≤ 2000000 := by
      have h1 := mvsOf_len a b cap c.a c.b c.toA c.toB 0 c.a a.edges
      have h2 := mvsOf_len a b cap c.a c.b c.toA c.toB 1 c.b b.edges
      rw [movesC, List.length_append]
      omega
    generalize hms : movesC a b cap c.a c.b c.toA c.toB = ms at *
    have hol : out.length = (cfgs out).length := (cfgs_length out).symm
    rcases gl_cases (b := 1) (rows := cfgs out) with h | ⟨mm, h⟩
    case' inl =>
      rw [glV_lit h, glA_lit h]
      simp (disch := omega) only [go_sem, hcg, h186]
      rw [show V.tl (cfgs out) = glV 0 1 (cfgs out) from (glV_lit h).symm, show ([] : List Arr) = glA 4 1 (cfgs out) from (glA_lit h).symm]
    case' inr =>
      rw [glV_own h, glA_own h]
      simp (disch := omega) only [go_sem, hcg, h186]
      rw [show V.own 0 mm 0 (1 + mm + 1) = glV 0 1 (cfgs out) from (glV_own h).symm, show [⟨mm, 4, .inl (cfgs out)⟩] = glA 4 1 (cfgs out) from (glA_own h).symm]
    all_goals
      refine W.loop (fun x : List Cfg × Nat => ⟨[(1, .ptr 1 0), (5, glV 0 1 (cfgs x.1)), (6, .map 0), (7, .pv (.int .i64 i)), (38, .pv (.lst 0 (mvs3 ms))), (39, .pv (.int .i64 ms.length)), (40, .pv (.int .i64 x.2))], ⟨[(1, [.pv (.int .i64 a.states), .pv (.int .i64 a.start), .pv (.lst 0 (a.edges.map Edge.c)), .pv (.int .i64 b.states), .pv (.int .i64 b.start), .pv (.lst 0 (b.edges.map Edge.c)), .pv (.int .i64 cap)])], glA 4 1 (cfgs x.1), [seenS (x.1.map Cfg.key)]⟩⟩) (fun x => x.2 ≤ ms.length ∧ addUs 5000 out ((sucC a b cap c).take x.2) = some x.1) (fun x => ms.length - x.2) (out, 0) rfl ⟨Nat.zero_le _, rfl⟩ (fun x hx => ?_)
      obtain ⟨o, k⟩ := x
      obtain ⟨y1, y2⟩ := hx
      simp only at y1 y2 ⊢
      obtain ⟨z1, z2, z3, z4⟩ := addUs_some y2
      have z5 := z4 x2
      have hpo : ∀ x ∈ o, p x := fun x hx => ((z2 x).1 hx).elim (x1 x) fun hx => hp.nx c hpc x (List.mem_of_mem_take hx)
      have hol2 : o.length = (cfgs o).length := (cfgs_length o).symm
      have ho : o[i]? = some c := by
        obtain ⟨r, rfl⟩ := z1
        rw [List.getElem?_append_left (by omega)]
        exact hc
      have hio : i < o.length := (List.getElem?_eq_some_iff.1 ho).1
      simp (disch := omega) only [go_sem]
      refine Br.ofP (fun c2 => ?_) (fun c2 => ?_) <;> simp (disch := omega) only [go_sem, c2]
      · obtain ⟨mv, hmv⟩ := get_at (l := ms) (k := k) (by omega)
        have hog : (cfgs o)[i]? = some [.int .i64 c.a, .int .i64 c.b, .lst 0 (ints c.toA), .lst 0 (ints c.toB)] := by rw [cfgs_get, ho]; rfl
        have h182 := h182 mv
        have hdg : (sucC a b cap c)[k]? = some (afterC a b cap c.a c.b c.toA c.toB mv).1 := by rw [hsuc, List.getElem?_map, hmv]; rfl
        generalize (afterC a b cap c.a c.b c.toA c.toB mv).2 = okb at *
        generalize (afterC a b cap c.a c.b c.toA c.toB mv).1 = d at *
        have hpd := hp.nx c hpc d (List.mem_of_getElem? hdg)
        have hok := hp.ok d hpd
        have hk := keyP_val (a := d.a) (b := d.b) (l := d.toA) (m := d.toB) 0 0 hok
        have hkd : Cfg.key ⟨d.a, d.b, d.toA, d.toB⟩ = d.key := rfl
        rw [hkd] at hk
        have hhs : hasS (o.map Cfg.key) d.key = decide (d ∈ o) := hasS_key (fun x hx => hp.ok x (hpo x hx)) hok
        have hnext : addUs 5000 out ((sucC a b cap c).take (k + 1)) = if 5000 < (addU o d).length then none else some (addU o d) := by
          rw [List.take_add_one, hdg, Option.toList_some, addUs_snoc, y2]
          rfl
        by_cases hin : d ∈ o
        · have hau : addU o d = o := if_pos hin
          rw [hau, if_neg (by omega)] at hnext
          have hd1 : decide (d ∈ o) = true := decide_eq_true hin
          rw [hd1] at hhs
          rcases gl_cases (b := 1) (rows := cfgs o) with g | ⟨m2, g⟩
          case' inl => rw [glV_lit g, glA_lit g]
          case' inr => rw [glV_own g, glA_own g]
          all_goals
            simp (disch := omega) only [go_sem, hmv, hog, h182, hk, hhs]
            refine Br.ofP (fun c3 => by omega) (fun c3 => ?_)
            simp (disch := omega) only [go_sem, c3]
            refine ⟨(o, k + 1), ⟨by simp only; omega, hnext⟩, by simp only; omega, ?_⟩
            first
              | (simp only [glV_lit g, glA_lit g]; rfl)
              | (simp only [glV_own (n := 0) g, glA_own (k := 4) g]; rfl)
        · have hau : addU o d = o ++ [d] := if_neg hin
          rw [hau, List.length_append, List.length_singleton] at hnext
          have hd1 : decide (d ∈ o) = false := decide_eq_false hin
          rw [hd1] at hhs
          have hins : insS (o.map Cfg.key) d.key = (o ++ [d]).map Cfg.key := by
            unfold insS
            rw [hhs]
            simp
          have hret : 5000 < o.length + 1 → [PV.lst 0 [], PV.int .i64 3] = R := fun c3 => by
            rw [if_pos c3] at hnext
            rw [x5, show 5002 - i = (5001 - i) + 1 by omega, bfsL, hc] at hR
            simp only [addUs_none (k + 1) hnext] at hR
            exact hR
          have hon : ¬ 5000 < o.length + 1 → addUs 5000 out ((sucC a b cap c).take (k + 1)) = some (o ++ [d]) := fun c3 => by
            rw [hnext, if_neg c3]
          have hgs1 : glV 0 1 (cfgs (o ++ [d])) = .own 0 (o.length - 1) 0 (o.length + 1) := by
            rw [← cfgs_snoc, glV_snoc (by omega), cfgs_length]
          have hgs2 : glA 4 1 (cfgs (o ++ [d])) = [⟨o.length - 1, 4, .inl (cfgs (o ++ [d]))⟩] := by
            rw [← cfgs_snoc, glA_snoc (by omega), cfgs_length]
          rcases gl_cases (b := 1) (rows := cfgs o) with g | ⟨m2, g⟩
          · rw [glV_lit g, glA_lit g]
            have happ := fun h => app_tlr h 4 (cfgs o) [.int .i64 d.a, .int .i64 d.b, .lst 0 (ints d.toA), .lst 0 (ints d.toB)] rfl (cfgs_rows o) (by omega)
            simp (disch := omega) only [go_sem, hmv, hog, h182, hk, hhs, hins, happ, cfgs_snoc]
            refine Br.ofP (fun c3 => ?_) (fun c3 => ?_) <;> simp (disch := omega) only [go_sem, c3]
            · rw [hret (by omega)]
            · refine ⟨(o ++ [d], k + 1), ⟨by simp only; omega, hon (by omega)⟩, by simp only; omega, ?_⟩
              simp only [hgs1, hgs2, show o.length - 1 = 0 by omega]
              rfl
          · rw [glV_own g, glA_own g]
            have happ := fun h => app_ownr h 0 m2 0 (1 + m2 + 1) 4 [.int .i64 d.a, .int .i64 d.b, .lst 0 (ints d.toA), .lst 0 (ints d.toB)] rfl
            have hap := apR_ok (id := 0) (ver := m2) (len := 1 + m2 + 1) (k := 4) (r := [.int .i64 d.a, .int .i64 d.b, .lst 0 (ints d.toA), .lst 0 (ints d.toB)]) (l := cfgs o) (by omega) (by omega)
            simp (disch := omega) only [go_sem, hmv, hog, h182, hk, hhs, hins, happ, hap, cfgs_snoc]
            refine Br.ofP (fun c3 => ?_) (fun c3 => ?_) <;> simp (disch := omega) only [go_sem, c3]
            · rw [hret (by omega)]
            · refine ⟨(o ++ [d], k + 1), ⟨by simp only; omega, hon (by omega)⟩, by simp only; omega, ?_⟩
              simp only [hgs1, hgs2, show o.length - 1 = m2 + 1 by omega, show o.length + 1 = 1 + m2 + 1 + 1 by omega]
              rfl
      · have hkm : k = ms.length := by omega
        have hall : (sucC a b cap c).take k = sucC a b cap c := List.take_of_length_le (by rw [hsuc, List.length_map]; omega)
        rw [hall] at y2
        refine ⟨(o, i + 1), ⟨hpo, z5, by simp only; omega, by simp only; omega, ?_⟩, by simp only; omega, rfl⟩
        rw [x5, show 5002 - i = (5002 - (i + 1)) + 1 by omega, bfsL, hc]
        simp only [y2]
  · have hn : out[i]? = none := List.getElem?_eq_none_iff.2 (by omega)
    rw [x5, show 5002 - i = (5001 - i) + 1 by omega, bfsL, hn] at hR
    rw [← hR]
end Go.Pv

/-
  Chapter 29: what is reached, of the document; lists of configurations.
-/
namespace Go.Pv

def idxC (c : Cfg) (l : List Cfg) : Int := match l.findIdx? fun x => decide (x = c) with
  | some i => i
  | none => -1
theorem idxC_neg {c : Cfg} {l : List Cfg} : idxC c l < 0 ↔ c ∉ l := by
  unfold idxC
  cases h : l.findIdx? fun x => decide (x = c) with
  | none =>
    rw [List.findIdx?_eq_none_iff] at h
    simp only [Int.reduceNeg, Int.neg_lt_zero_iff, Int.zero_lt_one, true_iff]
    intro hc
    simpa using h c hc
  | some i =>
    obtain ⟨h1, h2, _⟩ := List.findIdx?_eq_some_iff_getElem.1 h
    have h3 : l[i] = c := by simpa using h2
    constructor
    · intro h
      simp only at h
      omega
    · intro hc
      exact absurd (h3 ▸ List.getElem_mem h1) hc
theorem r168 (t : Nat) (l : List Cfg) (c : Cfg) (hl : l.length ≤ 100000) (ho : ∀ x ∈ l, x.ok) (hc : c.ok) : res A PrA 168 [.lst t (cfgs l), .agg [.int .i64 c.a, .int .i64 c.b, .lst 0 (ints c.toA), .lst 0 (ints c.toB)]] = some [.int .i64 (idxC c l)] := by
  refine res_of a168 rfl rfl ?_
  simp only [F168]
  simp (disch := omega) only [go_sem]
  obtain ⟨_, _, _, _, q5, q6⟩ := hc
  refine W.find l (fun x => decide (x = c)) (fun k => ⟨[(0, .pv (.lst t (cfgs l))), (3, .ptr 3 0), (5, .pv (.int .i64 k))], ⟨[(3, [.pv (.int .i64 c.a), .pv (.int .i64 c.b), .pv (.lst 0 (ints c.toA)), .pv (.lst 0 (ints c.toB))])], [], []⟩⟩) rfl (fun k x hx hk hfd => ?_) (fun hn => ?_)
  · have hcg : (cfgs l)[k]? = some [.int .i64 x.a, .int .i64 x.b, .lst 0 (ints x.toA), .lst 0 (ints x.toB)] := by rw [cfgs_get, hx]; rfl
    obtain ⟨_, _, _, _, p5, p6⟩ := ho x (List.mem_of_getElem? hx)
    have h154 := fun u1 u2 w1 w2 => r154 u1 u2 w1 w2 x.a x.b c.a c.b x.toA x.toB c.toA c.toB (by omega) (by omega) (by omega) (by omega)
    simp (disch := omega) only [go_sem]
    refine Br.ofP (fun h => ?_) (fun h => (h (by omega)).elim)
    simp (disch := omega) only [go_sem, hcg, h154]
    refine Br.of (fun h2 => ?_) (fun h2 => ?_) <;> simp (disch := omega) only [go_sem]
    · have := (hfd h2).idx
      unfold idxC
      rw [this]
    · exact findK.of h2 rfl
  · simp (disch := omega) only [go_sem]
    unfold idxC
    rw [hn.idx]
theorem r166 (t u : Nat) (l : List Cfg) (hl : l.length ≤ 100000) (ho : ∀ x ∈ l, x.ok) : res A PrA 166 [.lst t (cfgs l), .lst u (cfgs l)] = some [.bool true] := by
  refine res_of a166 rfl rfl ?_
  simp only [F166]
  simp (disch := omega) only [go_sem]
  refine W.find l (fun _ => false) (fun k => ⟨[(0, .pv (.lst t (cfgs l))), (1, .pv (.lst u (cfgs l))), (5, .pv (.int .i64 k))], ⟨[], [], []⟩⟩) rfl (fun k x hx hk hfd => ?_) (fun hn => ?_)
  · have hcg : (cfgs l)[k]? = some [.int .i64 x.a, .int .i64 x.b, .lst 0 (ints x.toA), .lst 0 (ints x.toB)] := by rw [cfgs_get, hx]; rfl
    obtain ⟨_, _, _, _, p5, p6⟩ := ho x (List.mem_of_getElem? hx)
    have h154 := fun u1 u2 w1 w2 => r154 u1 u2 w1 w2 x.a x.b x.a x.b x.toA x.toB x.toA x.toB (by omega) (by omega) (by omega) (by omega)
    have hd : decide ((⟨x.a, x.b, x.toA, x.toB⟩ : Cfg) = ⟨x.a, x.b, x.toA, x.toB⟩) = true := decide_eq_true rfl
    simp (disch := omega) only [go_sem]
    refine Br.ofP (fun h => ?_) (fun h => (h (by omega)).elim)
    simp (disch := omega) only [go_sem, hcg, h154, hd]
    exact findK.of rfl rfl
  · simp (disch := omega) only [go_sem]
set_option maxHeartbeats 8000000 in
theorem r167 (a b : Auto) (cap : Int) {p : Cfg → Prop} (hp : Runs29 a b cap p) (ha : a.edges.length ≤ 1000000) (hb : b.edges.length ≤ 1000000) {outF : List Cfg} (hF : bfsL (sucC a b cap) 5000 5002 [cfgStart a b] 0 = some outF) : res A PrA 167 [.agg [.int .i64 a.states, .int .i64 a.start, .lst 0 (a.edges.map Edge.c), .int .i64 b.states, .int .i64 b.start, .lst 0 (b.edges.map Edge.c), .int .i64 cap]] = some [.lst 0 (cfgs outF)] := by
  refine res_of a167 rfl rfl ?_
  simp only [F167]
  have hi0 : idxR 4 0 [[PV.int IntKind.i64 a.start, PV.int IntKind.i64 b.start, PV.lst 0 [], PV.lst 0 []]] (some 0) = some (.pv (.ro 0 [PV.int IntKind.i64 a.start, PV.int IntKind.i64 b.start, PV.lst 0 [], PV.lst 0 []])) := rfl
  simp (disch := omega) only [go_sem, hi0]

  refine W.loop (fun x : List Cfg × Nat => ⟨[(1, .ptr 1 0), (3, glV 0 1 (cfgs x.1)), (4, .pv (.int .i64 x.2))], ⟨[(1, [.pv (.int .i64 a.states), .pv (.int .i64 a.start), .pv (.lst 0 (a.edges.map Edge.c)), .pv (.int .i64 b.states), .pv (.int .i64 b.start), .pv (.lst 0 (b.edges.map Edge.c)), .pv (.int .i64 cap)])], glA 4 1 (cfgs x.1), []⟩⟩) (fun x => (∀ c ∈ x.1, p c) ∧ x.1.length ≤ 5000 ∧ 1 ≤ x.1.length ∧ x.2 ≤ x.1.length ∧ bfsL (sucC a b cap) 5000 5002 [cfgStart a b] 0 = bfsL (sucC a b cap) 5000 (5002 - x.2) x.1 x.2) (fun x => 5001 - x.2) ([cfgStart a b], 0) rfl ⟨?_, ?_, ?_, ?_, rfl⟩ (fun x hx => ?_)
  · intro c hc
    rw [List.mem_singleton.1 hc]
    exact hp.st
  · simp
  · simp
  · simp
  obtain ⟨out, i⟩ := x
  obtain ⟨x1, x2, x3, x4, x5⟩ := hx
  simp only at x1 x2 x3 x4 x5 ⊢
  simp (disch := omega) only [go_sem]
  refine Br.ofP (fun c1 => ?_) (fun c1 => ?_) <;> simp (disch := omega) only [go_sem, c1]
  · obtain ⟨c, hc⟩ := get_at (l := out) (k := i) (by omega)
    have hpc := x1 c (List.mem_of_getElem? hc)
    obtain ⟨k1, k2, k3, k4, k5, k6⟩ := hp.ok c hpc
    have h186 := r173 a b cap c.a c.b c.toA c.toB (by omega) (by omega) (by omega) (by omega)
    have hcg : (cfgs out)[i]? = some [.int .i64 c.a, .int .i64 c.b, .lst 0 (ints c.toA), .lst 0 (ints c.toB)] := by rw [cfgs_get, hc]; rfl
    have h182 := fun mv => r183 a b cap c.a c.b c.toA c.toB mv (by omega) (by omega) (by omega) (by omega)
    have hsuc : sucC a b cap c = (movesC a b cap c.a c.b c.toA c.toB).map fun m => (afterC a b cap c.a c.b c.toA c.toB m).1 := rfl
    have hml : (movesC a b cap c.a c.b c.toA c.toB).length ≤ 2000000 := by
      have h1 := mvsOf_len a b cap c.a c.b c.toA c.toB 0 c.a a.edges
      have h2 := mvsOf_len a b cap c.a c.b c.toA c.toB 1 c.b b.edges
      rw [movesC, List.length_append]
      omega
    generalize hms : movesC a b cap c.a c.b c.toA c.toB = ms at *
    have hol : out.length = (cfgs out).length := (cfgs_length out).symm
    rcases gl_cases (b := 1) (rows := cfgs out) with h | ⟨mm, h⟩
    case' inl =>
      rw [glV_lit h, glA_lit h]
      simp (disch := omega) only [go_sem, hcg, h186]
      rw [show V.tl (cfgs out) = glV 0 1 (cfgs out) from (glV_lit h).symm, show ([] : List Arr) = glA 4 1 (cfgs out) from (glA_lit h).symm]
    case' inr =>
      rw [glV_own h, glA_own h]
      simp (disch := omega) only [go_sem, hcg, h186]
      rw [show V.own 0 mm 0 (1 + mm + 1) = glV 0 1 (cfgs out) from (glV_own h).symm, show [⟨mm, 4, .inl (cfgs out)⟩] = glA 4 1 (cfgs out) from (glA_own h).symm]
    all_goals
      refine W.loop (fun x : List Cfg × Nat => ⟨[(1, .ptr 1 0), (3, glV 0 1 (cfgs x.1)), (4, .pv (.int .i64 i)), (5, .pv (.lst 0 (mvs3 ms))), (6, .pv (.int .i64 x.2))], ⟨[(1, [.pv (.int .i64 a.states), .pv (.int .i64 a.start), .pv (.lst 0 (a.edges.map Edge.c)), .pv (.int .i64 b.states), .pv (.int .i64 b.start), .pv (.lst 0 (b.edges.map Edge.c)), .pv (.int .i64 cap)])], glA 4 1 (cfgs x.1), []⟩⟩) (fun x => x.2 ≤ ms.length ∧ addUs 5000 out ((sucC a b cap c).take x.2) = some x.1) (fun x => ms.length - x.2) (out, 0) rfl ⟨Nat.zero_le _, rfl⟩ (fun x hx => ?_)
      obtain ⟨o, k⟩ := x
      obtain ⟨y1, y2⟩ := hx
      simp only at y1 y2 ⊢
      obtain ⟨z1, z2, z3, z4⟩ := addUs_some y2
      have z5 := z4 x2
      have hpo : ∀ x ∈ o, p x := fun x hx => ((z2 x).1 hx).elim (x1 x) fun hx => hp.nx c hpc x (List.mem_of_mem_take hx)
      have hol2 : o.length = (cfgs o).length := (cfgs_length o).symm
      have ho : o[i]? = some c := by
        obtain ⟨r, rfl⟩ := z1
        rw [List.getElem?_append_left (by omega)]
        exact hc
      have hio : i < o.length := (List.getElem?_eq_some_iff.1 ho).1
      simp (disch := omega) only [go_sem]
      refine Br.ofP (fun c2 => ?_) (fun c2 => ?_) <;> simp (disch := omega) only [go_sem, c2]
      · obtain ⟨mv, hmv⟩ := get_at (l := ms) (k := k) (by omega)
        have hog : (cfgs o)[i]? = some [.int .i64 c.a, .int .i64 c.b, .lst 0 (ints c.toA), .lst 0 (ints c.toB)] := by rw [cfgs_get, ho]; rfl
        have h182 := h182 mv
        have hdg : (sucC a b cap c)[k]? = some (afterC a b cap c.a c.b c.toA c.toB mv).1 := by rw [hsuc, List.getElem?_map, hmv]; rfl
        generalize (afterC a b cap c.a c.b c.toA c.toB mv).2 = okb at *
        generalize (afterC a b cap c.a c.b c.toA c.toB mv).1 = d at *
        have hpd := hp.nx c hpc d (List.mem_of_getElem? hdg)
        have hok := hp.ok d hpd
        have htk : ∀ n, (cfgs o).length ≤ n → (cfgs o).take n = cfgs o := fun n h => List.take_of_length_le h
        have h168 := fun t => r168 t o d (by omega) (fun x hx => hp.ok x (hpo x hx)) hok
        have hnext : addUs 5000 out ((sucC a b cap c).take (k + 1)) = if 5000 < (addU o d).length then none else some (addU o d) := by
          rw [List.take_add_one, hdg, Option.toList_some, addUs_snoc, y2]
          rfl
        by_cases hin : d ∈ o
        · have hau : addU o d = o := if_pos hin
          rw [hau, if_neg (by omega)] at hnext
          have hix : ¬ idxC d o < 0 := fun h => idxC_neg.1 h hin
          rcases gl_cases (b := 1) (rows := cfgs o) with g | ⟨m2, g⟩
          case' inl => rw [glV_lit g, glA_lit g]
          case' inr => rw [glV_own g, glA_own g]
          all_goals
            simp (disch := omega) only [go_sem, hmv, hog, h182, htk, h168]
            refine Br.ofP (fun c3 => absurd c3 hix) (fun c3 => ?_)
            simp (disch := omega) only [go_sem, c3]
            refine ⟨(o, k + 1), ⟨by simp only; omega, hnext⟩, by simp only; omega, ?_⟩
            first
              | (simp only [glV_lit g, glA_lit g]; rfl)
              | (simp only [glV_own (n := 0) g, glA_own (k := 4) g]; rfl)
        · have hau : addU o d = o ++ [d] := if_neg hin
          rw [hau, List.length_append, List.length_singleton] at hnext
          have hix : idxC d o < 0 := idxC_neg.2 hin
          have hfit : ¬ 5000 < o.length + 1 := fun c3 => by
            rw [if_pos c3] at hnext
            rw [hF, show 5002 - i = (5001 - i) + 1 by omega, bfsL, hc] at x5
            simp only [addUs_none (k + 1) hnext] at x5
            cases x5
          rw [if_neg hfit] at hnext
          have hgs1 : glV 0 1 (cfgs (o ++ [d])) = .own 0 (o.length - 1) 0 (o.length + 1) := by
            rw [← cfgs_snoc, glV_snoc (by omega), cfgs_length]
          have hgs2 : glA 4 1 (cfgs (o ++ [d])) = [⟨o.length - 1, 4, .inl (cfgs (o ++ [d]))⟩] := by
            rw [← cfgs_snoc, glA_snoc (by omega), cfgs_length]
          rcases gl_cases (b := 1) (rows := cfgs o) with g | ⟨m2, g⟩
          · rw [glV_lit g, glA_lit g]
            have happ := fun h => app_tlr h 4 (cfgs o) [.int .i64 d.a, .int .i64 d.b, .lst 0 (ints d.toA), .lst 0 (ints d.toB)] rfl (cfgs_rows o) (by omega)
            simp (disch := omega) only [go_sem, hmv, hog, h182, htk, h168]
            refine Br.ofP (fun c3 => ?_) (fun c3 => absurd hix c3)
            simp (disch := omega) only [go_sem, c3, happ, cfgs_snoc]
            refine ⟨(o ++ [d], k + 1), ⟨by simp only; omega, hnext⟩, by simp only; omega, ?_⟩
            simp only [hgs1, hgs2, show o.length - 1 = 0 by omega]
            rfl
          · rw [glV_own g, glA_own g]
            have happ := fun h => app_ownr h 0 m2 0 (1 + m2 + 1) 4 [.int .i64 d.a, .int .i64 d.b, .lst 0 (ints d.toA), .lst 0 (ints d.toB)] rfl
            have hap := apR_ok (id := 0) (ver := m2) (len := 1 + m2 + 1) (k := 4) (r := [.int .i64 d.a, .int .i64 d.b, .lst 0 (ints d.toA), .lst 0 (ints d.toB)]) (l := cfgs o) (by omega) (by omega)
            simp (disch := omega) only [go_sem, hmv, hog, h182, htk, h168]
            refine Br.ofP (fun c3 => ?_) (fun c3 => absurd hix c3)
            simp (disch := omega) only [go_sem, c3, happ, hap, cfgs_snoc]
            refine ⟨(o ++ [d], k + 1), ⟨by simp only; omega, hnext⟩, by simp only; omega, ?_⟩
            simp only [hgs1, hgs2, show o.length - 1 = m2 + 1 by omega, show o.length + 1 = 1 + m2 + 1 + 1 by omega]
            rfl
      · have hkm : k = ms.length := by omega
        have hall : (sucC a b cap c).take k = sucC a b cap c := List.take_of_length_le (by rw [hsuc, List.length_map]; omega)
        rw [hall] at y2
        refine ⟨(o, i + 1), ⟨hpo, z5, by simp only; omega, by simp only; omega, ?_⟩, by simp only; omega, rfl⟩
        rw [x5, show 5002 - i = (5002 - (i + 1)) + 1 by omega, bfsL, hc]
        simp only [y2]
  · have hn : out[i]? = none := List.getElem?_eq_none_iff.2 (by omega)
    rw [hF, show 5002 - i = (5001 - i) + 1 by omega, bfsL, hn] at x5
    cases x5
    simp (disch := omega) only [go_sem]
end Go.Pv

/-
  Chapter 29: systems of drafts.
-/
namespace Go.Pv

def smallA (m : Int) (x : Arc) : Arc := ⟨x.fr % m, x.act % 4, x.to % m⟩
def smallL (m : Int) (l : List Arc) (k : Nat) : List Arc := (l.take k).map (smallA m)
theorem smallL_len {m : Int} {l : List Arc} {k : Nat} (h : k ≤ l.length) : (smallL m l k).length = k := by rw [smallL, List.length_map, List.length_take]; omega
theorem smallL_succ {m : Int} {l : List Arc} {k : Nat} {x : Arc} (h : l[k]? = some x) : smallL m l (k + 1) = smallL m l k ++ [smallA m x] := by rw [smallL, List.take_add_one, h, List.map_append]; rfl
def smallD (n : Int) (l : List Arc) : Draft := ⟨n % 3, smallL (n % 3 + 1) l 12⟩
def arcs (l : List Arc) : List (List PV) := l.map Arc.c
@[go_sem] theorem arcs_length (l : List Arc) : (arcs l).length = l.length := List.length_map _
@[go_sem] theorem arcs_get (l : List Arc) (i : Nat) : (arcs l)[i]? = l[i]?.map fun x => [.int .u8 x.fr, .int .u8 x.act, .int .u8 x.to] := by simp [arcs]; rfl
theorem arcs_snoc (l : List Arc) (x : Arc) : arcs l ++ [[.int .u8 x.fr, .int .u8 x.act, .int .u8 x.to]] = arcs (l ++ [x]) := by simp [arcs, Arc.c]
set_option maxHeartbeats 4000000 in
theorem r184 (t : Nat) (n : Int) (l : List Arc) (hn : 0 ≤ n ∧ n ≤ 255) (hl : l.length ≤ 2 ^ 63 - 1) (ho : ∀ x ∈ l, x.ok) : res A PrA 184 [.int .u8 n, .lst t (arcs l)] = some [.agg [.int .u8 (n % 3), .lst 0 (arcs (smallL (n % 3 + 1) l 12))]] := by
  refine res_of a184 rfl rfl ?_
  simp only [F184]
  have hm : n.tmod 3 = n % 3 := Int.tmod_eq_emod_of_nonneg hn.1
  have hb := Int.emod_nonneg n (by decide : (3 : Int) ≠ 0)
  have hc := Int.emod_lt_of_pos n (by decide : (0 : Int) < 3)
  simp (disch := omega) only [go_sem, hm]
  generalize n % 3 = s at *
  refine W.upto 12 (fun k => ⟨[(1, .pv (.lst t (arcs l))), (4, .ptr 4 0), (5, .ptr 5 0), (6, .pv (.int .i64 k))], ⟨[(4, [.pv (.int .u8 0), .tl []]), (5, [.pv (.int .u8 s), grV 0 (arcs (smallL (s + 1) l k))])], grA 3 (arcs (smallL (s + 1) l k)), []⟩⟩) (fun k => k ≤ l.length) rfl (Nat.zero_le _) fun k hk hkl => ?_
  simp (disch := omega) only [go_sem]
  have hlen := smallL_len (m := s + 1) hkl
  have hal : (arcs (smallL (s + 1) l k)).length = k := by rw [arcs_length]; exact hlen
  refine Br.ofP (fun c1 => ?_) (fun c1 => ?_) <;> simp (disch := omega) only [go_sem, c1]
  · refine Br.ofP (fun c2 => ?_) (fun c2 => ?_) <;> simp (disch := omega) only [go_sem, c2]
    · obtain ⟨x, hx⟩ := get_at (l := l) (k := k) (by omega)
      obtain ⟨⟨o1, o2⟩, ⟨o3, o4⟩, o5, o6⟩ := ho x (List.mem_of_getElem? hx)
      have e1 : x.fr.tmod (s + 1) = x.fr % (s + 1) := Int.tmod_eq_emod_of_nonneg o1
      have e2 : x.to.tmod (s + 1) = x.to % (s + 1) := Int.tmod_eq_emod_of_nonneg o5
      have e3 : x.act.tmod 4 = x.act % 4 := Int.tmod_eq_emod_of_nonneg o3
      have f1 := Int.emod_nonneg x.fr (by omega : s + 1 ≠ 0)
      have f2 := Int.emod_lt_of_pos x.fr (by omega : 0 < s + 1)
      have f3 := Int.emod_nonneg x.to (by omega : s + 1 ≠ 0)
      have f4 := Int.emod_lt_of_pos x.to (by omega : 0 < s + 1)
      have f5 := Int.emod_nonneg x.act (by decide : (4 : Int) ≠ 0)
      have f6 := Int.emod_lt_of_pos x.act (by decide : (0 : Int) < 4)
      have hss := smallL_succ (m := s + 1) hx
      simp (disch := omega) only [go_sem, hx, e1, e2, e3]
      refine .of (by omega) ?_ (by omega)
      rw [hss, ← arcs_snoc]
      rfl
    · have h12 : k = 12 := by omega
      rw [h12]
  · have hkl2 : k = l.length := by omega
    have : smallL (s + 1) l k = smallL (s + 1) l 12 := by
      unfold smallL
      rw [List.take_of_length_le (by omega), List.take_of_length_le (by omega)]
    rw [this]
structure PDr where
  n : Int
  la : List Arc
  l : List Arc
  mirror : Bool
  skip : Int
  cap : Int
def PDr.ok (d : PDr) : Prop := (0 ≤ d.n ∧ d.n ≤ 255) ∧ (0 ≤ d.skip ∧ d.skip ≤ 255) ∧ (0 ≤ d.cap ∧ d.cap ≤ 255) ∧ d.la.length ≤ 2 ^ 63 - 1 ∧ d.l.length ≤ 2 ^ 63 - 1 ∧ (∀ x ∈ d.la, x.ok) ∧ ∀ x ∈ d.l, x.ok
def PDr.sh (d : PDr) (k : Nat) : Int := d.skip.fdiv (2 ^ (min ((k : Int) % 8).toNat IntKind.u8.bits))
def PDr.bit (d : PDr) (k : Nat) : Int := IntKind.u8.wrap (BitVec.ofInt IntKind.u8.bits (d.sh k) &&& BitVec.ofInt IntKind.u8.bits 1).toNat
theorem PDr.shr_val (d : PDr) (k : Nat) : binV .shr (.pv (.int .u8 d.skip)) (.pv (.int .i64 ((k : Int) % 8))) = some (.pv (.int .u8 (d.sh k))) := by
  show (shiftBin .shr .u8 d.skip ((k : Int) % 8)).map V.pv = _
  unfold shiftBin
  rw [if_neg (by omega)]
  rfl
theorem PDr.and_val (d : PDr) (k : Nat) : binV .and (.pv (.int .u8 (d.sh k))) (.pv (.int .u8 1)) = some (.pv (.int .u8 (d.bit k))) := rfl
def PDr.out (d : PDr) (k : Nat) : Bool := decide (d.bit k = 0)
def PDr.fit (d : PDr) : Bool := decide (d.la.length ≤ 12) && decide (d.l.length ≤ 12)
theorem smallD_ok {n : Int} {l : List Arc} (hn : 0 ≤ n ∧ n ≤ 255) (_ho : ∀ x ∈ l, x.ok) : (smallD n l).ok := by
  have hb := Int.emod_nonneg n (by decide : (3 : Int) ≠ 0)
  have hc := Int.emod_lt_of_pos n (by decide : (0 : Int) < 3)
  refine ⟨⟨hb, by show n % 3 ≤ 255; omega⟩, ?_, fun x hx => ?_⟩
  · show (smallL (n % 3 + 1) l 12).length ≤ _
    rw [smallL, List.length_map, List.length_take]
    omega
  · obtain ⟨y, _, rfl⟩ := List.mem_map.1 hx
    generalize n % 3 = s at *
    have f1 := Int.emod_nonneg y.fr (by omega : s + 1 ≠ 0)
    have f2 := Int.emod_lt_of_pos y.fr (by omega : 0 < s + 1)
    have f3 := Int.emod_nonneg y.to (by omega : s + 1 ≠ 0)
    have f4 := Int.emod_lt_of_pos y.to (by omega : 0 < s + 1)
    have f5 := Int.emod_nonneg y.act (by decide : (4 : Int) ≠ 0)
    have f6 := Int.emod_lt_of_pos y.act (by decide : (0 : Int) < 4)
    exact ⟨⟨f1, by show y.fr % (s + 1) ≤ 255; omega⟩, ⟨f5, by show y.act % 4 ≤ 255; omega⟩, f3, by show y.to % (s + 1) ≤ 255; omega⟩
theorem raw_from {st : Int} : ∀ (l : List Arc) (es : List Edge) (e : Edge), e ∈ l.foldl (fun es x => addE es (x.edge st)) es → e ∈ es ∨ ∃ x ∈ l, e = x.edge st
  | [], _, _, h => .inl h
  | x :: l, es, e, h => by
    rcases raw_from l (addE es (x.edge st)) e h with h | ⟨y, hy, rfl⟩
    · rcases addE_mem h with h | rfl
      · exact .inl h
      · exact .inr ⟨x, List.mem_cons_self .., rfl⟩
    · exact .inr ⟨y, List.mem_cons_of_mem _ hy, rfl⟩
theorem smallD_edges {n : Int} {l : List Arc} (hn : 0 ≤ n) : ∀ e ∈ (smallD n l).auto.edges, (0 ≤ e.fr ∧ e.fr ≤ 2) ∧ (0 ≤ e.to ∧ e.to ≤ 2) ∧ (1 ≤ e.label ∧ e.label ≤ 2) := by
  intro e he
  have he := (sortB_perm Edge.lt (smallD n l).raw).subset he
  have hb := Int.emod_nonneg n (by decide : (3 : Int) ≠ 0)
  have hc := Int.emod_lt_of_pos n (by decide : (0 : Int) < 3)
  have hst : (smallD n l).n = n % 3 := rfl
  rcases raw_from _ _ e he with h | ⟨x, hx, rfl⟩
  · cases h
  · have hx := List.mem_of_mem_take hx
    obtain ⟨y, _, rfl⟩ := List.mem_map.1 hx
    rw [hst]
    generalize n % 3 = s at *
    have hs4 : s % 4 = s := Int.emod_eq_of_lt hb (by omega)
    rw [hs4]
    have f1 := Int.emod_nonneg (smallA (s + 1) y).fr (by omega : 1 + s ≠ 0)
    have f2 := Int.emod_lt_of_pos (smallA (s + 1) y).fr (by omega : 0 < 1 + s)
    have f3 := Int.emod_nonneg (smallA (s + 1) y).to (by omega : 1 + s ≠ 0)
    have f4 := Int.emod_lt_of_pos (smallA (s + 1) y).to (by omega : 0 < 1 + s)
    have hl : (((smallA (s + 1) y).edge (1 + s)).label) = 1 + y.act % 4 / 2 % 3 := rfl
    refine ⟨⟨f1, ?_⟩, ⟨f3, ?_⟩, ?_⟩
    · show (smallA (s + 1) y).fr % (1 + s) ≤ 2
      omega
    · show (smallA (s + 1) y).to % (1 + s) ≤ 2
      omega
    · rw [hl]
      omega
def mirA (e : Edge) : Arc := ⟨e.fr, if e.send = true then 2 * (e.label - 1) else 2 * (e.label - 1) + 1, e.to⟩
def mirL (out : Nat → Bool) (es : List Edge) : Nat → List Arc
  | 0 => []
  | k + 1 => match es[k]? with
    | none => mirL out es k
    | some e => if out k = true then mirL out es k ++ [mirA e] else mirL out es k
theorem mirL_len (out : Nat → Bool) (es : List Edge) (k : Nat) : (mirL out es k).length ≤ k := by
  induction k with
  | zero => exact Nat.le_refl _
  | succ k ih =>
    unfold mirL
    split
    · omega
    · split
      · rw [List.length_append, List.length_singleton]
        omega
      · omega
def PDr.mir (d : PDr) : List Arc := mirL d.out (smallD d.n d.la).auto.edges (smallD d.n d.la).auto.edges.length
def PDr.n2 (d : PDr) : Int := if d.mirror = true then d.n else IntKind.u8.wrap (d.n + d.skip)
def PDr.l2 (d : PDr) : List Arc := (if d.mirror = true then d.mir else []) ++ d.l
def PDr.A (d : PDr) : Auto := (smallD d.n d.la).auto
def PDr.B (d : PDr) : Auto := (smallD d.n2 d.l2).auto
theorem mirL_ok {out : Nat → Bool} {es : List Edge} (h : ∀ e ∈ es, (0 ≤ e.fr ∧ e.fr ≤ 2) ∧ (0 ≤ e.to ∧ e.to ≤ 2) ∧ (1 ≤ e.label ∧ e.label ≤ 2)) : ∀ k, ∀ x ∈ mirL out es k, x.ok
  | 0, x, hx => by cases hx
  | k + 1, x, hx => by
    unfold mirL at hx
    split at hx
    · exact mirL_ok h k x hx
    · rename_i e he
      split at hx
      · rcases List.mem_append.1 hx with hx | hx
        · exact mirL_ok h k x hx
        · rw [List.mem_singleton.1 hx]
          obtain ⟨f1, f2, f3⟩ := h e (List.mem_of_getElem? he)
          refine ⟨⟨f1.1, by show e.fr ≤ 255; omega⟩, ?_, f2.1, by show e.to ≤ 255; omega⟩
          show 0 ≤ (if e.send = true then 2 * (e.label - 1) else 2 * (e.label - 1) + 1) ∧ (if e.send = true then 2 * (e.label - 1) else 2 * (e.label - 1) + 1) ≤ 255
          split <;> omega
      · exact mirL_ok h k x hx
theorem app_nil0 (h : Heap) (rows : List (List PV)) (hr : ∀ r ∈ rows, r.length = 3) (hm : rows.length ≤ 2147483648) : appendV h 3 (.tl []) (.pv (.lst 0 rows)) = some (if rows.length = 0 then (.tl [], {}) else (.own h.ar.length 0 0 rows.length, { push := [⟨0, 3, .inl rows⟩], base := h.ar.length })) := by
  have hf : (rows.all fun x => x.length == 3) = true := by simpa using hr
  by_cases h0 : rows.length = 0
  · simp [appendV, srcRows, rowsFit, rowsLen, h0, hf]
  · simp [appendV, srcRows, rowsFit, rowsLen, h0, hf, mostRows, catRows, hm]
theorem app_own0 (h : Heap) (ver len : Nat) (R rows : List (List PV)) (ho : ownArr h 0 ver = some ⟨ver, 3, .inl R⟩) (hl : len = R.length) (hr : ∀ r ∈ rows, r.length = 3) (hm : len + rows.length ≤ 2147483648) : appendV h 3 (.own 0 ver 0 len) (.pv (.lst 0 rows)) = some (if rows.length = 0 then (.own 0 ver 0 len, { ra2 := some 0 }) else (.own 0 (ver + 1) 0 (len + rows.length), { ar := some (0, ⟨ver + 1, 3, .inl (R ++ rows)⟩) })) := by
  have hf : (rows.all fun x => x.length == 3) = true := by simpa using hr
  subst hl
  by_cases h0 : rows.length = 0
  · simp [appendV, srcRows, rowsFit, rowsLen, h0, hf, ho]
  · simp [appendV, srcRows, rowsFit, rowsLen, h0, hf, ho, mostRows, catRows, cutRows, hm, Arr.size]
theorem arcs_rows (l : List Arc) : ∀ r ∈ arcs l, r.length = 3 := by
  intro r hr
  obtain ⟨x, _, rfl⟩ := List.mem_map.1 hr
  rfl
theorem wrap_u8_in (x : Int) : 0 ≤ IntKind.wrap .u8 x ∧ IntKind.wrap .u8 x ≤ 255 := by
  have h : IntKind.wrap .u8 x = x % 256 := rfl
  rw [h]
  omega
set_option maxHeartbeats 4000000 in
theorem r164 (d : PDr) (hd : d.ok) : res A PrA 164 [.agg [.int .u8 d.n, .lst 0 (arcs d.la), .lst 0 (arcs d.l), .bool d.mirror, .int .u8 d.skip, .int .u8 d.cap]] = some (if d.fit = true then [.agg [.int .i64 (1 + d.n % 3 % 4), .int .i64 0, .lst 0 (edgs d.A.edges), .int .i64 (1 + d.n2 % 3 % 4), .int .i64 0, .lst 0 (edgs d.B.edges), .int .i64 (1 + d.cap % 2)], .bool true] else [.agg [.int .i64 0, .int .i64 0, .lst 0 [], .int .i64 0, .int .i64 0, .lst 0 [], .int .i64 0], .bool false]) := by
  refine res_of a164 rfl rfl ?_
  simp only [F164]
  obtain ⟨h1, h2, h3, h4, h5, h6, h7⟩ := hd
  have e1 := r184 0 d.n d.la h1 h4 h6
  have e2 := r25 0 _ (smallD_ok h1 h6)
  have e3 : (smallD d.n d.la).arcs.map Arc.c = arcs (smallL (d.n % 3 + 1) d.la 12) := rfl
  have e4 : (smallD d.n d.la).n = d.n % 3 := rfl
  rw [e3, e4] at e2
  simp (disch := omega) only [go_sem, e1, e2]
  refine Br.ofP (fun c1 => ?_) (fun c1 => ?_) <;> simp (disch := omega) only [go_sem, c1]
  · have hf : d.fit = false := by
      have : ¬ d.la.length ≤ 12 := by omega
      simp [PDr.fit, this]
    rw [hf, if_neg (by decide)]
  · refine Br.ofP (fun c2 => ?_) (fun c2 => ?_) <;> simp (disch := omega) only [go_sem, c2, e1, e2]
    · have hf : d.fit = false := by
        have : ¬ d.l.length ≤ 12 := by omega
        simp [PDr.fit, this]
      rw [hf, if_neg (by decide)]
    have hf : d.fit = true := by
      have g1 : d.la.length ≤ 12 := by omega
      have g2 : d.l.length ≤ 12 := by omega
      simp [PDr.fit, g1, g2]
    rw [hf, if_pos rfl]
    have hcm : d.cap.tmod 2 = d.cap % 2 := Int.tmod_eq_emod_of_nonneg h3.1
    have hc1 := Int.emod_nonneg d.cap (by decide : (2 : Int) ≠ 0)
    have hc2 := Int.emod_lt_of_pos d.cap (by decide : (0 : Int) < 2)
    have hll : (arcs d.l).length = d.l.length := arcs_length _
    have hn2 : 0 ≤ d.n2 ∧ d.n2 ≤ 255 := by
      unfold PDr.n2
      split
      · exact h1
      · exact wrap_u8_in _
    have hml0 := mirL_len d.out (smallD d.n d.la).auto.edges (smallD d.n d.la).auto.edges.length
    have hlen := Draft.len (smallD_ok h1 h6)
    have hl2 : ∀ x ∈ d.l2, x.ok := fun x hx => by
      rcases List.mem_append.1 hx with hx | hx
      · split at hx
        · exact mirL_ok (smallD_edges h1.1) _ x hx
        · cases hx
      · exact h7 x hx
    have hl2n : d.l2.length ≤ 1000 := by
      unfold PDr.l2
      rw [List.length_append]
      split
      · unfold PDr.mir
        omega
      · simp
        omega
    have e5 := fun t => r184 t d.n2 d.l2 hn2 (by omega) hl2
    have e6 := r25 0 _ (smallD_ok hn2 hl2)
    have e7 : (smallD d.n2 d.l2).arcs.map Arc.c = arcs (smallL (d.n2 % 3 + 1) d.l2 12) := rfl
    have e8 : (smallD d.n2 d.l2).n = d.n2 % 3 := rfl
    rw [e7, e8] at e6
    have eB : (smallD d.n2 d.l2).auto.edges = d.B.edges := rfl
    have eA : (smallD d.n d.la).auto.edges = d.A.edges := rfl
    rw [eB] at e6
    clear e7 eB
    generalize smallL (d.n2 % 3 + 1) d.l2 12 = SL at e5 e6
    refine Br.of (fun c3 => ?_) (fun c3 => ?_) <;> simp (disch := omega) only [go_sem, c3]
    · have hgood := (Draft.good (smallD_ok h1 h6) (s := 0) (by have := (smallD d.n d.la).st; omega)).fit
      have hfit : ∀ e ∈ (smallD d.n d.la).auto.edges, (0 ≤ e.fr ∧ e.fr ≤ 2) ∧ (0 ≤ e.to ∧ e.to ≤ 2) ∧ (1 ≤ e.label ∧ e.label ≤ 2) := smallD_edges h1.1
      have hm2 : d.l2 = mirL d.out (smallD d.n d.la).auto.edges (smallD d.n d.la).auto.edges.length ++ d.l := by unfold PDr.l2; rw [if_pos c3]; rfl
      have hnn : d.n2 = d.n := if_pos c3
      rw [hm2, hnn] at e5
      rw [hnn] at e6
      rw [← eA]
      clear eA
      generalize (smallD d.n d.la).auto.edges = es at *
      refine W.upto es.length (fun k => ⟨[(1, .ptr 1 0), (2, .ptr 2 0), (4, .ptr 4 0), (6, .pv (.int .u8 d.n)), (7, grV 0 (arcs (mirL d.out es k))), (8, .pv (.int .i64 k))], ⟨[(1, [.pv (.int .u8 d.n), .pv (.lst 0 (arcs d.la)), .pv (.lst 0 (arcs d.l)), .pv (.bool true), .pv (.int .u8 d.skip), .pv (.int .u8 d.cap)]), (2, [.pv (.int .i64 0), .pv (.int .i64 0), .tl [], .pv (.int .i64 0), .pv (.int .i64 0), .tl [], .pv (.int .i64 0)]), (4, [.pv (.int .i64 (1 + d.n % 3 % 4)), .pv (.int .i64 0), .pv (.lst 0 (edgs es))])], grA 3 (arcs (mirL d.out es k)), []⟩⟩) (fun _ => True) rfl trivial fun k hk _ => ?_
      have hml := mirL_len d.out es k
      have hal : (arcs (mirL d.out es k)).length = (mirL d.out es k).length := arcs_length _
      simp (disch := omega) only [go_sem]
      refine Br.ofP (fun c4 => ?_) (fun c4 => ?_) <;> simp (disch := omega) only [go_sem, c4]
      · obtain ⟨e, he⟩ := get_at (l := es) (k := k) (by omega)
        obtain ⟨⟨f1, f2⟩, ⟨f3, f4⟩, f5, f6⟩ := hfit e (List.mem_of_getElem? he)
        have hmk : mirL d.out es (k + 1) = if d.out k = true then mirL d.out es k ++ [mirA e] else mirL d.out es k := by
          rw [mirL, he]
        obtain ⟨fr, send, label, to⟩ := e
        dsimp only at f1 f2 f3 f4 f5 f6
        cases send
        all_goals
          have hsv := d.shr_val k
          have hav := d.and_val k
          have hout : d.out k = decide (d.bit k = 0) := rfl
          simp (disch := omega) only [go_sem, he, hsv, hav]
          refine Br.ofP (fun c5 => ?_) (fun c5 => ?_)
          · rw [hout, decide_eq_true c5, if_pos rfl] at hmk
            simp (disch := omega) only [go_sem]
            refine .of (by omega) ?_ trivial
            rw [hmk, ← arcs_snoc]
            rfl
          · rw [hout, decide_eq_false c5, if_neg (by decide)] at hmk
            simp (disch := omega) only [go_sem]
            refine .of (by omega) ?_ trivial
            rw [hmk]
            rfl
      · have hkk : k = es.length := by omega
        subst hkk
        rw [hnn]
        generalize hmm : mirL d.out es es.length = mm at *
        cases mm with
        | nil =>
          have hg1 : grV 0 (arcs []) = .tl [] := rfl
          have hg2 : grA 3 (arcs []) = [] := rfl
          rw [hg1, hg2]
          have hcat : arcs ([] ++ d.l) = arcs d.l := rfl
          rw [hcat] at e5
          have happ := fun h => app_nil0 h (arcs d.l) (arcs_rows d.l) (by omega)
          by_cases hd0 : (arcs d.l).length = 0
          · rw [List.eq_nil_of_length_eq_zero hd0] at e5 happ ⊢
            simp only [List.length_nil, if_true] at happ
            simp (disch := omega) only [go_sem, happ, e5, e6, hcm]
          · simp only [if_neg hd0] at happ
            have htk : ∀ n, (arcs d.l).length ≤ n → (arcs d.l).take n = arcs d.l := fun n h => List.take_of_length_le h
            simp (disch := omega) only [go_sem, happ, htk, e5, e6, hcm]
        | cons x q =>
          have hg0 : (arcs (x :: q)).length = q.length + 1 := by rw [arcs_length, List.length_cons]
          have hg1 : grV 0 (arcs (x :: q)) = .own 0 q.length 0 (q.length + 1) := by
            show V.own 0 (arcs q).length 0 ((arcs q).length + 1) = _
            rw [arcs_length]
          have hg2 : grA 3 (arcs (x :: q)) = [⟨q.length, 3, .inl (arcs (x :: q))⟩] := by
            show [(⟨(arcs q).length, 3, .inl (arcs (x :: q))⟩ : Arr)] = _
            rw [arcs_length]
          rw [hg1, hg2]
          have hcat : arcs (x :: q ++ d.l) = arcs (x :: q) ++ arcs d.l := List.map_append
          rw [hcat] at e5
          have hql : q.length + 1 ≤ 12 := by
            have := mirL_len d.out es es.length
            rw [hmm, List.length_cons] at this
            omega
          have happ := fun h ho => app_own0 h q.length (q.length + 1) (arcs (x :: q)) (arcs d.l) ho hg0.symm (arcs_rows d.l) (by omega)
          by_cases hd0 : (arcs d.l).length = 0
          · rw [List.eq_nil_of_length_eq_zero hd0, List.append_nil] at e5
            rw [List.eq_nil_of_length_eq_zero hd0] at happ ⊢
            simp only [List.length_nil, if_true] at happ
            generalize arcs (x :: q) = R at *
            rw [happ _ (by simp [ownArr])]
            have htk : ∀ n, R.length ≤ n → R.take n = R := fun n h => List.take_of_length_le h
            simp (disch := omega) only [go_sem, htk, e5, e6, hcm]
          · simp only [if_neg hd0] at happ
            generalize arcs (x :: q) = R at *
            rw [happ _ (by simp [ownArr])]
            have htk : ∀ n, (R ++ arcs d.l).length ≤ n → (R ++ arcs d.l).take n = R ++ arcs d.l := fun n h => List.take_of_length_le h
            have hRl : (R ++ arcs d.l).length = R.length + (arcs d.l).length := List.length_append
            simp (disch := omega) only [go_sem, htk, e5, e6, hcm]
    · have hm2 : d.l2 = d.l := by unfold PDr.l2; rw [if_neg (by simp [c3])]; rfl
      have hnn : d.n2 = IntKind.u8.wrap (d.n + d.skip) := if_neg (by simp [c3])
      rw [hm2, hnn] at e5
      rw [hnn] at e6 ⊢
      rw [← eA]
      have happ := fun h => app_nil0 h (arcs d.l) (arcs_rows d.l) (by omega)
      by_cases hd0 : (arcs d.l).length = 0
      · rw [List.eq_nil_of_length_eq_zero hd0] at e5 happ ⊢
        simp only [List.length_nil, if_true] at happ
        simp (disch := omega) only [go_sem, happ, e5, e6, hcm]
      · simp only [if_neg hd0] at happ
        have htk : ∀ n, (arcs d.l).length ≤ n → (arcs d.l).take n = arcs d.l := fun n h => List.take_of_length_le h
        simp (disch := omega) only [go_sem, happ, htk, e5, e6, hcm]
end Go.Pv

/-
  Chapter 29: Moves, Apply; the laws of Valid, Fits, Moves, Apply.
-/
namespace Go.Pv
theorem fitsB_iff {a b : Auto} {cap x y : Int} {l m : List Int} : fitsB a b cap x y l m = true ↔ sysErr a b cap = 0 ∧ (0 ≤ x ∧ x < a.states) ∧ (0 ≤ y ∧ y < b.states) ∧ chanB l cap = true ∧ chanB m cap = true := by
  unfold fitsB
  simp only [Bool.and_eq_true, decide_eq_true_eq]
  constructor
  · rintro ⟨⟨⟨⟨⟨⟨h1, h2⟩, h3⟩, h4⟩, h5⟩, h6⟩, h7⟩
    exact ⟨h1, ⟨h2, h3⟩, ⟨h4, h5⟩, h6, h7⟩
  · rintro ⟨h1, ⟨h2, h3⟩, ⟨h4, h5⟩, h6, h7⟩
    exact ⟨⟨⟨⟨⟨⟨h1, h2⟩, h3⟩, h4⟩, h5⟩, h6⟩, h7⟩
theorem side_fits {a : Auto} (h : a.Good) {cap st : Int} {i o : List Int} {send : Bool} {label q : Int} {i' o' : List Int} (hi : chanB i cap = true) (ho : chanB o cap = true) (hs : sideC a.edges cap st i o send label = (some (q, i', o'), true)) : (0 ≤ q ∧ q < a.states) ∧ chanB i' cap = true ∧ chanB o' cap = true := by
  unfold sideC at hs
  cases hn : nextE st send label a.edges with
  | none => rw [hn] at hs; cases hs
  | some t =>
    rw [hn] at hs
    dsimp only at hs
    have hm := (nextE_some (h.asc.imp fun h => .inl h)).1 hn
    have hf := h.fit _ hm
    unfold Edge.fits at hf
    simp only [Bool.and_eq_true, decide_eq_true_eq] at hf
    split at hs
    · injection hs with h1 h2
      injection h1 with h1
      injection h1 with h1 h3
      injection h3 with h3 h4
      subst h1 h3 h4
      have h2 := of_decide_eq_true h2
      refine ⟨by omega, hi, ?_⟩
      unfold chanB at ho ⊢
      simp only [Bool.and_eq_true, decide_eq_true_eq, Bool.not_eq_true'] at ho ⊢
      refine ⟨by rw [List.length_append]; simp; omega, ?_⟩
      rw [List.any_append, ho.2]
      simp [badL]
      omega
    · cases i with
      | nil => cases hs
      | cons z r =>
        dsimp only at hs
        split at hs
        · injection hs with h1 h2
          injection h1 with h1
          injection h1 with h1 h3
          injection h3 with h3 h4
          subst h1 h3 h4
          refine ⟨by omega, ?_, ho⟩
          unfold chanB at hi ⊢
          simp only [Bool.and_eq_true, decide_eq_true_eq, Bool.not_eq_true', List.any_cons, Bool.or_eq_false_iff, List.length_cons] at hi ⊢
          exact ⟨by omega, hi.2.2⟩
        · cases hs
theorem fits_after {a b : Auto} {cap x y : Int} {l m : List Int} {mv : Mov} (h : fitsB a b cap x y l m = true) (ho : (afterC a b cap x y l m mv).2 = true) : fitsB a b cap (afterC a b cap x y l m mv).1.a (afterC a b cap x y l m mv).1.b (afterC a b cap x y l m mv).1.toA (afterC a b cap x y l m mv).1.toB = true := by
  obtain ⟨h1, h2, h3, h4, h5⟩ := fitsB_iff.1 h
  obtain ⟨ga, gb, _, _⟩ := sys_good h1
  rw [fitsB_iff]
  refine ⟨h1, ?_⟩
  revert ho
  unfold afterC
  split
  · cases hs : sideC a.edges cap x l m mv.send mv.label with
    | mk r ok =>
      cases r with
      | none =>
        intro ho
        exfalso
        have ho : ok = true := ho
        subst ho
        unfold sideC at hs
        cases hn : nextE x mv.send mv.label a.edges with
        | none => rw [hn] at hs; cases hs
        | some q =>
          rw [hn] at hs
          dsimp only at hs
          split at hs
          · cases hs
          · cases l with
            | nil => cases hs
            | cons z r => dsimp only at hs; split at hs <;> cases hs
      | some r =>
        obtain ⟨q, i, o⟩ := r
        intro ho
        have ho : ok = true := ho
        subst ho
        obtain ⟨g1, g2, g3⟩ := side_fits ga h4 h5 hs
        exact ⟨g1, h3, g2, g3⟩
  · split
    · cases hs : sideC b.edges cap y m l mv.send mv.label with
      | mk r ok =>
        cases r with
        | none =>
          intro ho
          exfalso
          have ho : ok = true := ho
          subst ho
          unfold sideC at hs
          cases hn : nextE y mv.send mv.label b.edges with
          | none => rw [hn] at hs; cases hs
          | some q =>
            rw [hn] at hs
            dsimp only at hs
            split at hs
            · cases hs
            · cases m with
              | nil => cases hs
              | cons z r => dsimp only at hs; split at hs <;> cases hs
        | some r =>
          obtain ⟨q, i, o⟩ := r
          intro ho
          have ho : ok = true := ho
          subst ho
          obtain ⟨g1, g2, g3⟩ := side_fits gb h5 h4 hs
          exact ⟨h2, g1, g3, g2⟩
    · intro ho
      cases ho

end Go.Pv

/-
  Chapter 29: systems whose configurations are small and few.
-/
namespace Go.Pv

theorem after_lab {P : Int → Prop} {a b : Auto} {cap x y : Int} {l m : List Int} {mv : Mov} (hl : ∀ z ∈ l, P z) (hm : ∀ z ∈ m, P z) (hv : P mv.label) : (∀ z ∈ (afterC a b cap x y l m mv).1.toA, P z) ∧ ∀ z ∈ (afterC a b cap x y l m mv).1.toB, P z := by
  have key : ∀ (es : List Edge) (st : Int) (i o : List Int), (∀ z ∈ i, P z) → (∀ z ∈ o, P z) → ∀ q i' o' ok, sideC es cap st i o mv.send mv.label = (some (q, i', o'), ok) → (∀ z ∈ i', P z) ∧ ∀ z ∈ o', P z := by
    intro es st i o hi ho q i' o' ok h
    unfold sideC at h
    split at h
    · cases h
    · split at h
      · cases h
        refine ⟨hi, fun z hz => ?_⟩
        rcases List.mem_append.1 hz with hz | hz
        · exact ho z hz
        · rw [List.mem_singleton.1 hz]
          exact hv
      · split at h
        · cases h
        · split at h
          · cases h
            exact ⟨fun z hz => hi z (List.mem_cons_of_mem _ hz), ho⟩
          · cases h
  have h0 : (∀ z ∈ cfg0.toA, P z) ∧ ∀ z ∈ cfg0.toB, P z := ⟨fun z hz => (by cases hz), fun z hz => (by cases hz)⟩
  unfold afterC
  split
  · split
    · exact h0
    · rename_i q i o ok h
      exact key _ _ _ _ hl hm q i o ok h
  · split
    · split
      · exact h0
      · rename_i q i o ok h
        obtain ⟨h1, h2⟩ := key _ _ _ _ hm hl q i o ok h
        exact ⟨h2, h1⟩
    · exact h0
theorem movesC_mem {a b : Auto} {cap x y : Int} {l m : List Int} {mv : Mov} (h : mv ∈ movesC a b cap x y l m) : (afterC a b cap x y l m mv).2 = true ∧ ∃ e ∈ a.edges ++ b.edges, mv.label = e.label := by
  unfold movesC at h
  rcases List.mem_append.1 h with h | h
  · obtain ⟨e, he, rfl⟩ := List.mem_map.1 h
    obtain ⟨h1, h2⟩ := List.mem_filter.1 he
    rw [Bool.and_eq_true] at h2
    exact ⟨h2.2, e, List.mem_append_left _ h1, rfl⟩
  · obtain ⟨e, he, rfl⟩ := List.mem_map.1 h
    obtain ⟨h1, h2⟩ := List.mem_filter.1 he
    rw [Bool.and_eq_true] at h2
    exact ⟨h2.2, e, List.mem_append_right _ h1, rfl⟩
def smC (a b : Auto) (cap : Int) (c : Cfg) : Prop := fitsB a b cap c.a c.b c.toA c.toB = true ∧ (∀ z ∈ c.toA, z ≤ 2) ∧ ∀ z ∈ c.toB, z ≤ 2
theorem chan_ok {l : List Int} {cap : Int} (h : chanB l cap = true) : (l.length : Int) ≤ cap ∧ ∀ z ∈ l, 1 ≤ z := by
  unfold chanB at h
  rw [Bool.and_eq_true, decide_eq_true_eq, Bool.not_eq_true'] at h
  refine ⟨h.1, fun z hz => ?_⟩
  have := h.2
  rw [List.any_eq_false] at this
  have := this z hz
  unfold badL at this
  simp at this
  omega
theorem smC_small {l : List Int} {cap : Int} (h : chanB l cap = true) (h2 : ∀ z ∈ l, z ≤ 2) : l.all smallI = true := by
  rw [List.all_eq_true]
  intro z hz
  have h3 := (chan_ok h).2 z hz
  have h4 := h2 z hz
  simp only [smallI, Bool.and_eq_true, decide_eq_true_eq]
  omega
theorem smC_runs {a b : Auto} {cap : Int} (hs : sysErr a b cap = 0) (hl : ∀ e ∈ a.edges ++ b.edges, e.label ≤ 2) : Runs29 a b cap (smC a b cap) := by
  obtain ⟨ga, gb, hc1, hc2⟩ := sys_good hs
  refine ⟨⟨?_, by simp, by simp⟩, ?_, ?_, ?_⟩
  · rw [fitsB_iff]
    refine ⟨hs, ga.st, gb.st, ?_, ?_⟩ <;> simp [chanB] <;> omega
  · intro c hc x hx
    obtain ⟨mv, hmv, rfl⟩ := List.mem_map.1 hx
    obtain ⟨h1, e, he, h2⟩ := movesC_mem hmv
    obtain ⟨h3, h4⟩ := after_lab (P := fun z => z ≤ 2) (a := a) (b := b) (cap := cap) (x := c.a) (y := c.b) (mv := mv) hc.2.1 hc.2.2 (by rw [h2]; exact hl e he)
    exact ⟨fits_after hc.1 h1, h3, h4⟩
  · intro c hc
    obtain ⟨h1, h2, h3⟩ := hc
    obtain ⟨_, h4, h5, h6, h7⟩ := fitsB_iff.1 h1
    have m1 := ga.mx
    have m2 := gb.mx
    have q1 := (chan_ok h6).1
    have q2 := (chan_ok h7).1
    refine ⟨?_, ?_, smC_small h6 h2, smC_small h7 h3, by omega, by omega⟩
    · simp only [smallI, Bool.and_eq_true, decide_eq_true_eq]
      omega
    · simp only [smallI, Bool.and_eq_true, decide_eq_true_eq]
      omega
  · intro c _
    exact movesC_asc ga.asc gb.asc
def chans : List (List Int) := [[], [1], [2], [1, 1], [1, 2], [2, 1], [2, 2]]
theorem chans_mem {l : List Int} {cap : Int} (h : chanB l cap = true) (h2 : ∀ z ∈ l, z ≤ 2) (hc : cap ≤ 2) : l ∈ chans := by
  obtain ⟨h3, h4⟩ := chan_ok h
  match l, h2, h3, h4 with
  | [], _, _, _ => simp [chans]
  | [x], h2, _, h4 =>
    have a1 := h2 x (by simp)
    have a2 := h4 x (by simp)
    obtain rfl | rfl : x = 1 ∨ x = 2 := by omega
    all_goals simp [chans]
  | [x, y], h2, _, h4 =>
    have a1 := h2 x (by simp)
    have a2 := h4 x (by simp)
    have b1 := h2 y (by simp)
    have b2 := h4 y (by simp)
    obtain rfl | rfl : x = 1 ∨ x = 2 := by omega
    all_goals
      obtain rfl | rfl : y = 1 ∨ y = 2 := by omega
      all_goals simp [chans]
  | x :: y :: z :: r, _, h3, _ =>
    simp only [List.length_cons] at h3
    omega
def cfgU : List Cfg := [(0 : Int), 1, 2].flatMap fun a => [(0 : Int), 1, 2].flatMap fun b => chans.flatMap fun l => chans.map fun m => ⟨a, b, l, m⟩
theorem cfgU_mem {c : Cfg} (h1 : 0 ≤ c.a ∧ c.a < 3) (h2 : 0 ≤ c.b ∧ c.b < 3) (h3 : c.toA ∈ chans) (h4 : c.toB ∈ chans) : c ∈ cfgU := by
  obtain ⟨a, b, l, m⟩ := c
  simp only at h1 h2 h3 h4
  unfold cfgU
  rw [List.mem_flatMap]
  refine ⟨a, ?_, ?_⟩
  · obtain rfl | rfl | rfl : a = 0 ∨ a = 1 ∨ a = 2 := by omega
    all_goals simp
  rw [List.mem_flatMap]
  refine ⟨b, ?_, ?_⟩
  · obtain rfl | rfl | rfl : b = 0 ∨ b = 1 ∨ b = 2 := by omega
    all_goals simp
  rw [List.mem_flatMap]
  exact ⟨l, h3, List.mem_map.2 ⟨m, h4, rfl⟩⟩
open Classical in
theorem few_found {a b : Auto} {cap : Int} (hs : sysErr a b cap = 0) (hl : ∀ e ∈ a.edges ++ b.edges, e.label ≤ 2) (ha : a.states ≤ 3) (hb : b.states ≤ 3) (hc : cap ≤ 2) : ∃ out, bfsL (sucC a b cap) 5000 5002 [cfgStart a b] 0 = some out ∧ ∀ x ∈ out, smC a b cap x := by
  have hr := smC_runs hs hl
  have hU : ∀ c, smC a b cap c → c ∈ cfgU.filter fun c => decide (smC a b cap c) := fun c h => by
    obtain ⟨h1, h2, h3⟩ := h
    obtain ⟨_, h4, h5, h6, h7⟩ := fitsB_iff.1 h1
    exact List.mem_filter.2 ⟨cfgU_mem (by omega) (by omega) (chans_mem h6 h2 hc) (chans_mem h7 h3 hc), by simpa using ⟨h1, h2, h3⟩⟩
  have hlen : (cfgU.filter fun c => decide (smC a b cap c)).length ≤ 5000 := by
    have h1 := List.length_filter_le (fun c => decide (smC a b cap c)) cfgU
    have h2 : cfgU.length = 441 := by decide +kernel
    omega
  obtain ⟨out, h⟩ := bfsL_total (succ := sucC a b cap) (s := cfgStart a b) (lim := 5000) (n := 5002) hlen (fun c hc x hx => hU x (hr.nx c (by simpa using (List.mem_filter.1 hc).2) x hx)) (bfs0 _ _) (fun x hx => by
    rw [List.mem_singleton.1 hx]
    exact hU _ hr.st) (Nat.zero_le _) (by omega)
  refine ⟨out, h, (bfsL_spec hr.nx (bfs0 _ _) (fun x hx => ?_) h).2.1⟩
  rw [List.mem_singleton.1 hx]
  exact hr.st
end Go.Pv

/-
  Chapter 29: the law of Reachable.
-/
namespace Go.Pv

def PDr.c2 (d : PDr) : Int := 1 + d.cap % 2
theorem PDr.l2_ok {d : PDr} (hd : d.ok) : ∀ x ∈ d.l2, x.ok := fun x hx => by
  obtain ⟨h1, h2, h3, h4, h5, h6, h7⟩ := hd
  rcases List.mem_append.1 hx with hx | hx
  · split at hx
    · exact mirL_ok (smallD_edges h1.1) _ x hx
    · cases hx
  · exact h7 x hx
theorem PDr.n2_in {d : PDr} (hd : d.ok) : 0 ≤ d.n2 ∧ d.n2 ≤ 255 := by
  unfold PDr.n2
  split
  · exact hd.1
  · exact wrap_u8_in _
theorem PDr.sys {d : PDr} (hd : d.ok) : sysErr d.A d.B d.c2 = 0 ∧ (∀ e ∈ d.A.edges ++ d.B.edges, e.label ≤ 2) ∧ d.A.states ≤ 3 ∧ d.B.states ≤ 3 ∧ d.c2 ≤ 2 ∧ d.A.edges.length ≤ 12 ∧ d.B.edges.length ≤ 12 := by
  have hA := smallD_ok hd.1 hd.2.2.2.2.2.1
  have hB := smallD_ok (PDr.n2_in hd) (PDr.l2_ok hd)
  have gA : d.A.Good := Draft.good hA (s := 0) (by have := (smallD d.n d.la).st; omega)
  have gB : d.B.Good := Draft.good hB (s := 0) (by have := (smallD d.n2 d.l2).st; omega)
  have hb := Int.emod_nonneg d.cap (by decide : (2 : Int) ≠ 0)
  have hc := Int.emod_lt_of_pos d.cap (by decide : (0 : Int) < 2)
  refine ⟨?_, fun e he => ?_, ?_, ?_, by unfold PDr.c2; omega, Draft.len hA, Draft.len hB⟩
  · unfold sysErr
    have e1 : d.A.err = 0 := Auto.good_iff.2 gA
    have e2 : d.B.err = 0 := Auto.good_iff.2 gB
    rw [if_neg (by simp [e1]), if_neg (by simp [e2]), if_neg (by unfold PDr.c2; omega)]
  · rcases List.mem_append.1 he with he | he
    · exact (smallD_edges hd.1.1 e he).2.2.2
    · exact (smallD_edges (PDr.n2_in hd).1 e he).2.2.2
  · show 1 + d.n % 3 % 4 ≤ 3
    omega
  · show 1 + d.n2 % 3 % 4 ≤ 3
    omega
set_option maxHeartbeats 2000000 in
theorem r144 (r150 : res A PrA 150 [] = some [.bool true]) (d : PDr) (hd : d.ok) : res A PrA 144 [.agg [.int .u8 d.n, .lst 0 (arcs d.la), .lst 0 (arcs d.l), .bool d.mirror, .int .u8 d.skip, .int .u8 d.cap]] = some [.bool true] := by
  refine res_of a144 rfl rfl ?_
  simp only [F144]
  have h164 := r164 d hd
  obtain ⟨s1, s2, s3, s4, s5, s6, s7⟩ := PDr.sys hd
  obtain ⟨out, ho, hp⟩ := few_found s1 s2 s3 s4 s5
  have hr := smC_runs s1 s2
  have hok : ∀ x ∈ out, x.ok := fun x hx => hr.ok x (hp x hx)
  have h165 := r165 d.A d.B d.c2 hr (by omega) (by omega) s1
  rw [ho] at h165
  have h167 := r167 d.A d.B d.c2 hr (by omega) (by omega) ho
  have hlo : out.length ≤ 5000 := by
    have key : ∀ n o i o', o.length ≤ 5000 → bfsL (sucC d.A d.B d.c2) 5000 n o i = some o' → o'.length ≤ 5000 := by
      intro n
      induction n with
      | zero => intro o i o' _ h; cases h
      | succ n ih =>
        intro o i o' hl h
        unfold bfsL at h
        split at h
        · cases h
          exact hl
        · split at h
          · cases h
          · rename_i o2 ha
            exact ih _ _ _ ((addUs_some ha).2.2.2 hl) h
    exact key _ _ _ _ (by simp) ho
  have h166 := r166 0 0 out (by omega) hok
  have h157 := fun (x : Cfg) (h : x.ok) => r157 0 0 d.A d.B d.c2 0 0 x.a x.b x.toA x.toB (by omega) (by omega) (by have := h.2.2.2.2.1; omega) (by have := h.2.2.2.2.2; omega)
  cases hf : d.fit with
  | false =>
    rw [hf, if_neg (by decide)] at h164
    simp (disch := omega) only [go_sem, h164, r150]
  | true =>
    rw [hf, if_pos rfl] at h164
    have q1 : 1 + d.n % 3 % 4 = d.A.states := rfl
    have q2 : 1 + d.n2 % 3 % 4 = d.B.states := rfl
    have q3 : 1 + d.cap % 2 = d.c2 := rfl
    have q4 : d.A.start = 0 := rfl
    have q5 : d.B.start = 0 := rfl
    have q6 : d.A.edges.map Edge.c = edgs d.A.edges := rfl
    have q7 : d.B.edges.map Edge.c = edgs d.B.edges := rfl
    rw [q1, q2, q3] at h164
    rw [q4, q5, q6, q7] at h165 h167
    simp only [q4, q5, q6, q7] at h157
    simp (disch := omega) only [go_sem, h164, r150, h165, h167, h166]
    refine W.find out (fun _ => false) (fun k => ⟨[(3, .ptr 3 0), (35, .pv (.lst 0 (cfgs out))), (36, .pv (.int .i64 out.length)), (37, .pv (.int .i64 k))], ⟨[(3, [.pv (.int .i64 d.A.states), .pv (.int .i64 0), .pv (.lst 0 (edgs d.A.edges)), .pv (.int .i64 d.B.states), .pv (.int .i64 0), .pv (.lst 0 (edgs d.B.edges)), .pv (.int .i64 d.c2)])], [], []⟩⟩) rfl (fun k x hx hk hfd => ?_) (fun hn => ?_)
    · have hcg : (cfgs out)[k]? = some [.int .i64 x.a, .int .i64 x.b, .lst 0 (ints x.toA), .lst 0 (ints x.toB)] := by rw [cfgs_get, hx]; rfl
      have hxm := List.mem_of_getElem? hx
      have h157 := h157 x (hok x hxm)
      rw [(hp x hxm).1] at h157
      simp (disch := omega) only [go_sem]
      refine Br.ofP (fun h => ?_) (fun h => (h (by omega)).elim)
      simp (disch := omega) only [go_sem, hcg, h157]
      exact findK.of rfl rfl
    · simp (disch := omega) only [go_sem]
end Go.Pv

/-
  Chapter 29 is awake: computed.
-/
namespace Go.Pv
theorem r150 : res A PrA 150 [] = some [.bool true] := res_some.2 ⟨3000, by kernel_rfl⟩
end Go.Pv

/-
  Drafts and actions that a law is given.
-/
namespace Go.Pv
variable {P : Program}

theorem slice_dec {α : Type} {c : α → List PV} {ok : α → Prop} {n : Nat} {t el : TypeId} {cs : List PV} (hu : P.underlying t = some (.slice el)) (he : ∀ cs, typed P n el cs → ∃ x, cs = c x ∧ ok x) (h : typed P (n + 1) t cs) : ∃ l : List α, cs = [.lst 0 (l.map c)] ∧ l.length ≤ 2 ^ 63 - 1 ∧ ∀ x ∈ l, ok x := by
  obtain ⟨rows, rfl, hl, hr⟩ := typed_slice hu h
  obtain ⟨l, rfl⟩ := rows_map (c := fun x : {x : α // ok x} => c x.1) (rows := rows) (fun r hr' => by
    obtain ⟨x, rfl, hx⟩ := he r (hr r hr')
    exact ⟨⟨x, hx⟩, rfl⟩)
  refine ⟨l.map (·.1), by simp [], by simpa [maxLen] using hl, fun x hx => ?_⟩
  obtain ⟨y, _, rfl⟩ := List.mem_map.1 hx
  exact y.2
theorem u8_min : IntKind.min .u8 = 0 := by decide
theorem u8_max : IntKind.max .u8 = 255 := by decide

structure DraftT (P : Program) (td tl ta tu : TypeId) : Prop where
  d : ∃ fs, P.underlying td = some (.struct fs) ∧ fs.toList.map (·.type) = [tu, tl]
  l : P.underlying tl = some (.slice ta)
  a : ∃ fs, P.underlying ta = some (.struct fs) ∧ fs.toList.map (·.type) = [tu, tu, tu]
  u : P.underlying tu = some (.int .u8)
theorem arc_typed {td tl ta tu : TypeId} (T : DraftT P td tl ta tu) {n : Nat} (cs : List PV) (h : typed P (n + 2) ta cs) : ∃ x : Arc, cs = x.c ∧ x.ok := by
  obtain ⟨fs, hu, hts⟩ := T.a
  obtain ⟨r0, q0, rfl, h0, r1, q1, rfl, h1, r2, q2, rfl, h2, rfl⟩ := typed_struct hu hts h
  obtain ⟨x, rfl, hx⟩ := typed_int T.u h0
  obtain ⟨y, rfl, hy⟩ := typed_int T.u h1
  obtain ⟨z, rfl, hz⟩ := typed_int T.u h2
  rw [u8_min, u8_max] at hx hy hz
  exact ⟨⟨x, y, z⟩, rfl, hx, hy, hz⟩
theorem draft_typed {td tl ta tu : TypeId} (T : DraftT P td tl ta tu) {n : Nat} (cs : List PV) (h : typed P (n + 4) td cs) : ∃ d : Draft, cs = [.int .u8 d.n, .lst 0 (d.arcs.map Arc.c)] ∧ d.ok := by
  obtain ⟨fs, hu, hts⟩ := T.d
  obtain ⟨r0, q0, rfl, h0, r1, q1, rfl, h1, rfl⟩ := typed_struct hu hts h
  obtain ⟨x, rfl, hx⟩ := typed_int T.u h0
  rw [u8_min, u8_max] at hx
  obtain ⟨l, rfl, hl, hok⟩ := slice_dec T.l (arc_typed T (n := n)) h1
  exact ⟨⟨x, l⟩, rfl, hx, hl, hok⟩
end Go.Pv

/-
  Drafts of systems that a law is given.
-/
namespace Go.Pv
variable {P : Program}

structure PDrT (P : Program) (tp td tl ta tu tb : TypeId) : Prop where
  d : DraftT P td tl ta tu
  p : ∃ fs, P.underlying tp = some (.struct fs) ∧ fs.toList.map (·.type) = [td, tl, tb, tu, tu]
  b : P.underlying tb = some .bool
def pdrArg {tp td tl ta tu tb : TypeId} (T : PDrT P tp td tl ta tu tb) : Arg P tp PDr where
  pv d := .agg [.int .u8 d.n, .lst 0 (arcs d.la), .lst 0 (arcs d.l), .bool d.mirror, .int .u8 d.skip, .int .u8 d.cap]
  ok := PDr.ok
  dec cs h := by
    obtain ⟨fs, hu, hts⟩ := T.p
    obtain ⟨r0, q0, rfl, h0, r1, q1, rfl, h1, r2, q2, rfl, h2, r3, q3, rfl, h3, r4, q4, rfl, h4, rfl⟩ := typed_struct (n := 11) hu hts h
    obtain ⟨a, rfl, ha⟩ := draft_typed (n := 7) T.d _ h0
    obtain ⟨l, rfl, hl, hok⟩ := slice_dec T.d.l (arc_typed T.d (n := 8)) h1
    obtain ⟨m, rfl⟩ := typed_bool (n := 10) T.b h2
    obtain ⟨s, rfl, hs⟩ := typed_int (n := 10) T.d.u h3
    obtain ⟨c, rfl, hc⟩ := typed_int (n := 10) T.d.u h4
    rw [u8_min, u8_max] at hs hc
    exact ⟨⟨a.n, a.arcs, l, m, s, c⟩, ⟨ha.1, hs, hc, ha.2.1, hl, ha.2.2, hok⟩, by simp only [argPV, isAgg_struct hu, if_true]; rfl⟩
end Go.Pv

