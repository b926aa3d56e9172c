/-
  What the functions of the law give.
-/
import Derived.Test.YtnhbggnlnfcpkaaC2
set_option linter.unusedSimpArgs false
set_option linter.unusedVariables false
/-
  Plain laws: distances.
-/
namespace Go.Pv

/-- What distances to (or from) some vertices are known by: 'ed v u': one step from v to u; the distance of v is one more than that of some such u. -/
structure Dist (n : Nat) (ed : Int → Int → Prop) (fr : List Int) (d : List Int) : Prop where
  len : d.length = n
  low : ∀ v : Nat, v < n → -1 ≤ d.getD v (-1)
  zero : ∀ v : Int, 0 ≤ v → v < n → (d.getD v.toNat (-1) = 0 ↔ v ∈ fr)
  step : ∀ v u : Int, ed v u → 0 ≤ v ∧ v < n ∧ 0 ≤ u ∧ u < n → 0 ≤ d.getD u.toNat (-1) → 0 ≤ d.getD v.toNat (-1) ∧ d.getD v.toNat (-1) ≤ d.getD u.toNat (-1) + 1
  back : ∀ v : Int, 0 ≤ v → v < n → 0 < d.getD v.toNat (-1) → ∃ u, ed v u ∧ 0 ≤ u ∧ u < n ∧ d.getD u.toNat (-1) = d.getD v.toNat (-1) - 1
theorem Dist.le {n : Nat} {ed : Int → Int → Prop} {fr d d' : List Int} (h : Dist n ed fr d) (h' : Dist n ed fr d') : ∀ (k : Nat) (v : Int), 0 ≤ v → v < n → d.getD v.toNat (-1) = (k : Int) → 0 ≤ d'.getD v.toNat (-1) ∧ d'.getD v.toNat (-1) ≤ (k : Int)
  | 0, v, h0, h1, hk => by
    have := (h'.zero v h0 h1).2 ((h.zero v h0 h1).1 hk)
    omega
  | k + 1, v, h0, h1, hk => by
    obtain ⟨u, e1, e2, e3, e4⟩ := h.back v h0 h1 (by omega)
    obtain ⟨g1, g2⟩ := Dist.le h h' k u e2 e3 (by omega)
    obtain ⟨f1, f2⟩ := h'.step v u e1 ⟨h0, h1, e2, e3⟩ g1
    exact ⟨f1, by omega⟩
/-- .. and there is one such list alone. -/
theorem Dist.uniq {n : Nat} {ed : Int → Int → Prop} {fr d d' : List Int} (h : Dist n ed fr d) (h' : Dist n ed fr d') : d = d' := by
  apply List.ext_getElem
  · rw [h.len, h'.len]
  · intro i h1 h2
    rw [h.len] at h1
    have key : ∀ {a b : List Int}, Dist n ed fr a → Dist n ed fr b → 0 ≤ a.getD i (-1) → 0 ≤ b.getD i (-1) ∧ b.getD i (-1) ≤ a.getD i (-1) := fun {a b} ha hb hp => by
      have := Dist.le ha hb (a.getD i (-1)).toNat (i : Int) (by omega) (by omega) (by rw [Int.toNat_natCast]; omega)
      rw [Int.toNat_natCast] at this
      omega
    have e1 : d[i] = d.getD i (-1) := by simp [h.len, h1]
    have e2 : d'[i] = d'.getD i (-1) := by simp [h'.len, h1]
    rw [e1, e2]
    have l1 := h.low i h1
    have l2 := h'.low i h1
    by_cases hp : 0 ≤ d.getD i (-1)
    · obtain ⟨g1, g2⟩ := key h h' hp
      obtain ⟨g3, g4⟩ := key h' h g1
      omega
    · by_cases hq : 0 ≤ d'.getD i (-1)
      · obtain ⟨g1, g2⟩ := key h' h hq
        omega
      · omega

-- a search in levels

/-- The search so far: levels grow along the queue, by one at most between the vertex at hand and the last; what is behind is settled. -/
structure LvInv (nx : Int → List Int) (n : Nat) (fr : List Int) (i : Nat) (s : List Int × List Int) : Prop where
  ok : LvOk n s
  low : ∀ v : Nat, v < n → -1 ≤ s.1.getD v (-1)
  mono : ∀ (j k : Nat) (x y : Int), j ≤ k → s.2[j]? = some x → s.2[k]? = some y → s.1.getD x.toNat (-1) ≤ s.1.getD y.toNat (-1)
  near : ∀ (j : Nat) (x y : Int), s.2[i]? = some x → s.2[j]? = some y → s.1.getD y.toNat (-1) ≤ s.1.getD x.toNat (-1) + 1
  zero : ∀ v : Int, 0 ≤ v → v < n → (s.1.getD v.toNat (-1) = 0 ↔ v ∈ fr)
  done : ∀ (j : Nat) (u x : Int), j < i → s.2[j]? = some u → x ∈ nx u → 0 ≤ s.1.getD x.toNat (-1) ∧ s.1.getD x.toNat (-1) ≤ s.1.getD u.toNat (-1) + 1
  back : ∀ v : Int, 0 ≤ v → v < n → 0 < s.1.getD v.toNat (-1) → ∃ u, v ∈ nx u ∧ 0 ≤ u ∧ u < n ∧ s.1.getD u.toNat (-1) = s.1.getD v.toNat (-1) - 1
theorem lvIn_get {n : Nat} {s : List Int × List Int} (h : LvOk n s) {x d : Int} (hx : 0 ≤ x ∧ x < n) (v : Nat) : (lvIn d s x).1.getD v (-1) = if s.1.getD x.toNat (-1) < 0 ∧ x.toNat = v then d else s.1.getD v (-1) := by
  unfold lvIn
  by_cases hc : s.1.getD x.toNat (-1) < 0
  · rw [if_pos hc]
    dsimp only
    rw [getD_set' (by rw [h.len]; omega)]
    by_cases he : x.toNat = v
    · rw [if_pos he, if_pos ⟨hc, he⟩]
    · rw [if_neg he, if_neg (fun hh => he hh.2)]
  · rw [if_neg hc, if_neg (fun hh => hc hh.1)]
theorem lvIn_snd {s : List Int × List Int} {x d : Int} : (lvIn d s x).2 = if s.1.getD x.toNat (-1) < 0 then s.2 ++ [x] else s.2 := by
  unfold lvIn
  split <;> rfl
/-- The vertices that the one at hand leads to, so many of them. -/
theorem LvInv.fold {nx : Int → List Int} {n : Nat} {fr : List Int} (_hn : ∀ v x, x ∈ nx v → 0 ≤ x ∧ x < n) {i : Nat} {v d : Int} : ∀ (l : List Int) (s : List Int × List Int), LvInv nx n fr i s → s.2[i]? = some v → d = s.1.getD v.toNat (-1) + 1 → (∀ x ∈ l, x ∈ nx v ∧ 0 ≤ x ∧ x < n) →
    LvInv nx n fr i (l.foldl (lvIn d) s) ∧ (l.foldl (lvIn d) s).2[i]? = some v ∧ (l.foldl (lvIn d) s).1.getD v.toNat (-1) + 1 = d ∧ (∀ u : Nat, 0 ≤ s.1.getD u (-1) → (l.foldl (lvIn d) s).1.getD u (-1) = s.1.getD u (-1)) ∧ ∀ x ∈ l, 0 ≤ (l.foldl (lvIn d) s).1.getD x.toNat (-1) ∧ (l.foldl (lvIn d) s).1.getD x.toNat (-1) ≤ d
  | [], s, h, hv, hd, _ => ⟨h, hv, hd.symm, fun _ _ => rfl, fun x hx => by cases hx⟩
  | x :: l, s, h, hv, hd, hl => by
    obtain ⟨hxn, hx0, hx1⟩ := hl x (by simp)
    have hvm := (h.ok.mem v).1 (List.mem_of_getElem? hv)
    have htop := h.ok.top v.toNat
    have hg := lvIn_get h.ok (d := d) ⟨hx0, hx1⟩
    have hs2 : (lvIn d s x).2 = if s.1.getD x.toNat (-1) < 0 then s.2 ++ [x] else s.2 := lvIn_snd
    have hok := h.ok.step (x := x) (d := d) ⟨hx0, hx1⟩ ⟨by omega, by omega⟩
    have hnear := fun j y (hy : s.2[j]? = some y) => h.near j v y hv hy
    have hsame : ∀ u : Nat, 0 ≤ s.1.getD u (-1) → (lvIn d s x).1.getD u (-1) = s.1.getD u (-1) := fun u hu => by
      rw [hg, if_neg (fun hh => by rw [hh.2] at hh; omega)]
    have hmemq : ∀ (j : Nat) (y : Int), s.2[j]? = some y → 0 ≤ s.1.getD y.toNat (-1) := fun j y hy => ((h.ok.mem y).1 (List.mem_of_getElem? hy)).2.2
    have hq : ∀ (j : Nat) (y : Int), (lvIn d s x).2[j]? = some y → (s.2[j]? = some y ∧ (lvIn d s x).1.getD y.toNat (-1) = s.1.getD y.toNat (-1)) ∨ (s.2.length = j ∧ y = x ∧ s.1.getD x.toNat (-1) < 0 ∧ (lvIn d s x).1.getD y.toNat (-1) = d) := fun j y hy => by
      rw [hs2] at hy
      by_cases hc : s.1.getD x.toNat (-1) < 0
      · rw [if_pos hc] at hy
        rcases Nat.lt_or_ge j s.2.length with hj | hj
        · rw [List.getElem?_append_left hj] at hy
          exact .inl ⟨hy, hsame _ (hmemq j y hy)⟩
        · rw [List.getElem?_append_right hj] at hy
          obtain ⟨h1, h2⟩ := List.getElem?_eq_some_iff.1 hy
          have hj0 : j - s.2.length = 0 := by simpa using h1
          simp [hj0] at h2
          refine .inr ⟨by omega, h2.symm, hc, ?_⟩
          rw [hg, ← h2, if_pos ⟨hc, rfl⟩]
      · rw [if_neg hc] at hy
        exact .inl ⟨hy, hsame _ (hmemq j y hy)⟩
    have hv' : (lvIn d s x).2[i]? = some v := by
      rw [hs2]
      split
      · rw [List.getElem?_append_left (List.getElem?_eq_some_iff.1 hv).1]; exact hv
      · exact hv
    have hdv : (lvIn d s x).1.getD v.toNat (-1) = s.1.getD v.toNat (-1) := hsame _ hvm.2.2
    have hI : LvInv nx n fr i (lvIn d s x) := by
      refine ⟨hok, fun u hu => ?_, fun j k a b hjk ha hb => ?_, fun j a b ha hb => ?_, fun u h0 h1 => ?_, fun j u y hj hu hy => ?_, fun u h0 h1 hp => ?_⟩
      · rw [hg]
        split
        · omega
        · exact h.low u hu
      · rcases hq j a ha with ⟨a1, a2⟩ | ⟨a1, a2, a3, a4⟩
        · rcases hq k b hb with ⟨b1, b2⟩ | ⟨b1, b2, b3, b4⟩
          · rw [a2, b2]; exact h.mono j k a b hjk a1 b1
          · rw [a2, b4]
            have := hnear j a a1
            omega
        · rcases hq k b hb with ⟨b1, b2⟩ | ⟨b1, b2, b3, b4⟩
          · have := (List.getElem?_eq_some_iff.1 b1).1
            omega
          · rw [a4, b4]; exact Int.le_refl _
      · rw [hv'] at ha
        cases ha
        rw [hdv]
        rcases hq j b hb with ⟨b1, b2⟩ | ⟨b1, b2, b3, b4⟩
        · rw [b2]; exact hnear j b b1
        · rw [b4]; omega
      · rw [← h.zero u h0 h1, hg]
        split
        · rename_i hc
          have : x = u := by omega
          subst this
          constructor
          · intro; omega
          · intro; omega
        · exact Iff.rfl
      · rcases hq j u hu with ⟨b1, b2⟩ | ⟨b1, _, _, _⟩
        · obtain ⟨g1, g2⟩ := h.done j u y hj b1 hy
          rw [hsame _ g1, b2]
          exact ⟨g1, g2⟩
        · have := (List.getElem?_eq_some_iff.1 hv).1
          omega
      · rw [hg] at hp
        rw [hg]
        split at hp
        · rename_i hc
          rw [if_pos hc]
          have : x = u := by omega
          subst this
          exact ⟨v, hxn, hvm.1, hvm.2.1, by rw [hdv]; omega⟩
        · rename_i hc
          rw [if_neg hc]
          obtain ⟨w, w1, w2, w3, w4⟩ := h.back u h0 h1 hp
          exact ⟨w, w1, w2, w3, by rw [hsame _ (by omega)]; exact w4⟩
    obtain ⟨f1, f2, f3, f4, f5⟩ := LvInv.fold (d := d) _hn l _ hI hv' (by rw [hdv]; exact hd) (fun y hy => hl y (List.mem_cons_of_mem _ hy))
    refine ⟨f1, f2, f3, fun u hu => ?_, fun y hy => ?_⟩
    · rw [List.foldl_cons, f4 u (by rw [hsame u hu]; exact hu), hsame u hu]
    · rcases List.mem_cons.1 hy with rfl | hy
      · have hle : 0 ≤ (lvIn d s y).1.getD y.toNat (-1) ∧ (lvIn d s y).1.getD y.toNat (-1) ≤ d := by
          rw [hg]
          split
          · omega
          · rename_i hc
            have hp : 0 ≤ s.1.getD y.toNat (-1) := by
              by_cases hc2 : s.1.getD y.toNat (-1) < 0
              · exact absurd ⟨hc2, rfl⟩ hc
              · omega
            obtain ⟨j, hj⟩ := List.mem_iff_getElem?.1 ((h.ok.mem y).2 ⟨hx0, hx1, hp⟩)
            have := hnear j y hj
            omega
        rw [List.foldl_cons, f4 y.toNat hle.1]
        exact hle
      · exact f5 y hy
theorem LvInv.run {nx : Int → List Int} {n : Nat} {fr : List Int} (hn : ∀ v x, x ∈ nx v → 0 ≤ x ∧ x < n) : ∀ (m i : Nat) (s : List Int × List Int), LvInv nx n fr i s → n ≤ i + m → ∃ j, LvInv nx n fr j (lvRun nx m i s) ∧ (lvRun nx m i s).2.length ≤ j
  | 0, i, s, h, hm => ⟨i, h, Nat.le_trans h.ok.bound (by omega)⟩
  | m + 1, i, s, h, hm => by
    unfold lvRun
    cases hv : s.2[i]? with
    | none => exact ⟨i, h, List.getElem?_eq_none_iff.1 hv⟩
    | some v =>
      have hvm := (h.ok.mem v).1 (List.mem_of_getElem? hv)
      obtain ⟨f1, f2, f3, f4, f5⟩ := LvInv.fold hn (nx v) s h hv rfl (fun x hx => ⟨hx, hn v x hx⟩)
      refine LvInv.run hn m (i + 1) _ ⟨f1.ok, f1.low, f1.mono, fun j x y hx hy => ?_, f1.zero, fun j u x hj hu hx => ?_, f1.back⟩ (by omega)
      · have h1 := f1.near j v y f2 hy
        have h2 := f1.mono i (i + 1) v x (by omega) f2 hx
        omega
      · rcases Nat.lt_or_ge j i with hji | hji
        · exact f1.done j u x hji hu hx
        · obtain rfl : j = i := by omega
          rw [f2] at hu
          cases hu
          have := f5 x hx
          exact ⟨this.1, by omega⟩
/-- Levels are distances. -/
theorem levels_dist {nx : Int → List Int} {n : Nat} {fr : List Int} (hn : ∀ v x, x ∈ nx v → 0 ≤ x ∧ x < n) (hf : ∀ x ∈ fr, 0 ≤ x ∧ x < n) : Dist n (fun v u => v ∈ nx u) fr (levels nx n fr) := by
  have start : ∀ (l : List Int) (s : List Int × List Int) (pre : List Int), LvOk n s → (∀ v : Nat, v < n → s.1.getD v (-1) = 0 ∨ s.1.getD v (-1) = -1) → (∀ v : Int, 0 ≤ v → v < n → (s.1.getD v.toNat (-1) = 0 ↔ v ∈ pre)) → (∀ x ∈ l, 0 ≤ x ∧ x < n) →
      LvOk n (l.foldl (lvIn 0) s) ∧ (∀ v : Nat, v < n → (l.foldl (lvIn 0) s).1.getD v (-1) = 0 ∨ (l.foldl (lvIn 0) s).1.getD v (-1) = -1) ∧ (∀ v : Int, 0 ≤ v → v < n → ((l.foldl (lvIn 0) s).1.getD v.toNat (-1) = 0 ↔ v ∈ pre ++ l)) := by
    intro l
    induction l with
    | nil => intro s pre h1 h2 h3 _; exact ⟨h1, h2, by simpa using h3⟩
    | cons x l ih =>
      intro s pre h1 h2 h3 hl
      have hx := hl x (by simp)
      have hg := lvIn_get h1 (d := 0) hx
      have := ih (lvIn 0 s x) (pre ++ [x]) (h1.step hx ⟨by omega, by omega⟩) (fun v hv => by
        rw [hg]
        split
        · exact .inl rfl
        · exact h2 v hv) (fun v h0 hv => by
        rw [hg, List.mem_append, List.mem_singleton, ← h3 v h0 hv]
        split
        · rename_i hc
          have : v = x := by omega
          simp [this]
        · rename_i hc
          constructor
          · exact .inl
          · rintro (h | h)
            · exact h
            · subst h
              rcases h2 v.toNat (by omega) with h | h
              · exact h
              · exact absurd ⟨by omega, rfl⟩ hc) (fun y hy => hl y (List.mem_cons_of_mem _ hy))
      rw [List.append_assoc] at this
      exact this
  obtain ⟨a1, a2, a3⟩ := start fr (List.replicate n (-1), []) [] (LvOk.start n) (fun v hv => by simp [hv]) (fun v h0 h1 => by
    have : v.toNat < n := by omega
    simp [this]) hf
  have hI : LvInv nx n fr 0 (fr.foldl (lvIn 0) (List.replicate n (-1), [])) := by
    have hz : ∀ (j : Nat) (x : Int), (fr.foldl (lvIn 0) (List.replicate n (-1), [])).2[j]? = some x → (fr.foldl (lvIn 0) (List.replicate n (-1), [])).1.getD x.toNat (-1) = 0 := fun j x hx => by
      have := (a1.mem x).1 (List.mem_of_getElem? hx)
      rcases a2 x.toNat (by omega) with h | h
      · exact h
      · omega
    refine ⟨a1, fun v hv => ?_, fun j k x y _ hx hy => ?_, fun j x y hx hy => ?_, by simpa using a3, fun j u x hj => absurd hj (Nat.not_lt_zero _), fun v h0 h1 hp => ?_⟩
    · rcases a2 v hv with h | h <;> omega
    · rw [hz j x hx, hz k y hy]; exact Int.le_refl _
    · rw [hz 0 x hx, hz j y hy]; omega
    · rcases a2 v.toNat (by omega) with h | h <;> omega
  obtain ⟨j, h1, h2⟩ := LvInv.run hn n 0 _ hI (by omega)
  refine ⟨h1.ok.len, h1.low, h1.zero, fun v u hv hr hp => ?_, fun v h0 hl hp => ?_⟩
  · obtain ⟨k, hk⟩ := List.mem_iff_getElem?.1 ((h1.ok.mem u).2 ⟨hr.2.2.1, hr.2.2.2, hp⟩)
    exact h1.done k u v (by have := (List.getElem?_eq_some_iff.1 hk).1; omega) hk hv
  · obtain ⟨u, u1, u2, u3, u4⟩ := h1.back v h0 hl hp
    exact ⟨u, u1, u2, u3, u4⟩

-- distances lowered until nothing changes

theorem sum_set (f : Int → Nat) : ∀ (l : List Int) (i : Nat) (x y : Int), l[i]? = some y → ((l.set i x).map f).sum + f y = (l.map f).sum + f x
  | [], i, x, y, h => by simp at h
  | a :: l, 0, x, y, h => by
    simp at h
    subst h
    simp only [List.set_cons_zero, List.map_cons, List.sum_cons]
    omega
  | a :: l, i + 1, x, y, h => by
    have := sum_set f l i x y (by simpa using h)
    simp only [List.set_cons_succ, List.map_cons, List.sum_cons]
    omega
theorem sum_le (f : Int → Nat) (m : Nat) : ∀ l : List Int, (∀ x ∈ l, f x ≤ m) → (l.map f).sum ≤ m * l.length
  | [], _ => by simp
  | a :: l, h => by
    have h1 := sum_le f m l (fun x hx => h x (List.mem_cons_of_mem _ hx))
    have h2 := h a (by simp)
    simp only [List.map_cons, List.sum_cons, List.length_cons, Nat.mul_add, Nat.mul_one]
    omega
/-- How many have a distance. -/
def hasD (d : List Int) : Nat := (d.map fun x => if 0 ≤ x then 1 else 0).sum
/-- What is left to lower. -/
def leftD (n : Nat) (d : List Int) : Nat := (d.map fun x => if 0 ≤ x then x.toNat else n).sum
theorem hasD_le (d : List Int) : hasD d ≤ d.length := by
  have := sum_le (fun x => if 0 ≤ x then 1 else 0) 1 d (fun x _ => by split <;> omega)
  unfold hasD
  omega
/-- A distance can be lowered along an edge. -/
def relaxes (d : List Int) (e : Int × Int) : Bool := decide (0 ≤ d.getD e.2.toNat (-1)) && (decide (d.getD e.1.toNat (-1) < 0) || decide (d.getD e.2.toNat (-1) + 1 < d.getD e.1.toNat (-1)))
def relax (d : List Int) (e : Int × Int) : List Int := if relaxes d e = true then d.set e.1.toNat (d.getD e.2.toNat (-1) + 1) else d
structure RInv (n : Nat) (es : List (Int × Int)) (fr : List Int) (d : List Int) : Prop where
  len : d.length = n
  low : ∀ v : Nat, v < n → -1 ≤ d.getD v (-1)
  zero : ∀ v : Int, 0 ≤ v → v < n → (d.getD v.toNat (-1) = 0 ↔ v ∈ fr)
  back : ∀ v : Int, 0 ≤ v → v < n → 0 < d.getD v.toNat (-1) → ∃ u, (v, u) ∈ es ∧ 0 ≤ u ∧ u < n ∧ 0 ≤ d.getD u.toNat (-1) ∧ d.getD u.toNat (-1) ≤ d.getD v.toNat (-1) - 1
  top : ∀ v : Nat, v < n → d.getD v (-1) + 1 ≤ hasD d
theorem RInv.relax {n : Nat} {es : List (Int × Int)} {fr d : List Int} (h : RInv n es fr d) {e : Int × Int} (he : e ∈ es) (hi : (0 ≤ e.1 ∧ e.1 < n) ∧ (0 ≤ e.2 ∧ e.2 < n)) (hr : relaxes d e = true) : RInv n es fr (relax d e) ∧ leftD n (relax d e) < leftD n d := by
  obtain ⟨⟨a0, a1⟩, b0, b1⟩ := hi
  have hlen := h.len
  unfold Pv.relax
  rw [if_pos hr]
  simp only [relaxes, Bool.and_eq_true, Bool.or_eq_true, decide_eq_true_eq] at hr
  obtain ⟨hr1, hr2⟩ := hr
  have hal : e.1.toNat < d.length := by omega
  have hg : ∀ v : Nat, (d.set e.1.toNat (d.getD e.2.toNat (-1) + 1)).getD v (-1) = if e.1.toNat = v then d.getD e.2.toNat (-1) + 1 else d.getD v (-1) := fun v => getD_set' hal
  have hget : d[e.1.toNat]? = some (d.getD e.1.toNat (-1)) := by simp [hal]
  have htb := h.top e.2.toNat (by omega)
  have hl1 := h.low e.1.toNat (by omega)
  have hh : hasD d ≤ hasD (d.set e.1.toNat (d.getD e.2.toNat (-1) + 1)) ∧ (d.getD e.1.toNat (-1) < 0 → hasD d + 1 = hasD (d.set e.1.toNat (d.getD e.2.toNat (-1) + 1))) := by
    have := sum_set (fun x => if 0 ≤ x then 1 else 0) d e.1.toNat (d.getD e.2.toNat (-1) + 1) _ hget
    rw [if_pos (show (0 : Int) ≤ d.getD e.2.toNat (-1) + 1 by omega)] at this
    unfold hasD
    constructor
    · split at this <;> omega
    · intro hneg
      rw [if_neg (by omega)] at this
      omega
  have hhl := hasD_le (d.set e.1.toNat (d.getD e.2.toNat (-1) + 1))
  rw [List.length_set, hlen] at hhl
  refine ⟨⟨by rw [List.length_set]; exact hlen, fun v hv => ?_, fun v h0 h1 => ?_, fun v h0 h1 hp => ?_, fun v hv => ?_⟩, ?_⟩
  · rw [hg]
    split
    · omega
    · exact h.low v hv
  · rw [hg, ← h.zero v h0 h1]
    split
    · rename_i hc
      have hv : e.1 = v := by omega
      rw [← hv]
      constructor
      · intro; omega
      · intro; omega
    · exact Iff.rfl
  · rw [hg] at hp
    simp only [hg]
    by_cases hc : e.1.toNat = v.toNat
    · have hv : e.1 = v := by omega
      rw [if_pos hc]
      refine ⟨e.2, by rw [← hv]; exact he, b0, b1, ?_⟩
      by_cases hb : e.1.toNat = e.2.toNat
      · rw [← hb] at hr1 hr2
        omega
      · rw [if_neg hb]
        omega
    · rw [if_neg hc] at hp ⊢
      obtain ⟨u, u1, u2, u3, u4, u5⟩ := h.back v h0 h1 hp
      refine ⟨u, u1, u2, u3, ?_⟩
      split
      · rename_i hu
        rw [hu] at hr2
        omega
      · exact ⟨u4, u5⟩
  · rw [hg]
    split
    · rcases hr2 with hr2 | hr2
      · have := hh.2 hr2
        omega
      · have := h.top e.1.toNat (by omega)
        omega
    · have := h.top v hv
      omega
  · have := sum_set (fun x => if 0 ≤ x then x.toNat else n) d e.1.toNat (d.getD e.2.toNat (-1) + 1) _ hget
    rw [if_pos (show (0 : Int) ≤ d.getD e.2.toNat (-1) + 1 by omega)] at this
    unfold leftD
    rcases hr2 with hr2 | hr2
    · have h2 := hh.2 hr2
      rw [if_neg (by omega)] at this
      omega
    · rw [if_pos (by omega)] at this
      omega
theorem RInv.dist {n : Nat} {es : List (Int × Int)} {fr d : List Int} (h : RInv n es fr d) (hs : ∀ e ∈ es, relaxes d e = false) : Dist n (fun v u => (v, u) ∈ es) fr d := by
  have hstep : ∀ v u : Int, (v, u) ∈ es → 0 ≤ d.getD u.toNat (-1) → 0 ≤ d.getD v.toNat (-1) ∧ d.getD v.toNat (-1) ≤ d.getD u.toNat (-1) + 1 := fun v u he hp => by
    have := hs _ he
    simp only [relaxes, Bool.and_eq_false_iff, Bool.or_eq_false_iff, decide_eq_false_iff_not] at this
    rcases this with h1 | ⟨h1, h2⟩
    · exact absurd hp h1
    · omega
  refine ⟨h.len, h.low, h.zero, fun v u he _ hp => hstep v u he hp, fun v h0 h1 hp => ?_⟩
  obtain ⟨u, u1, u2, u3, u4, u5⟩ := h.back v h0 h1 hp
  have := hstep v u u1 u4
  exact ⟨u, u1, u2, u3, by omega⟩
/-- One edge of a pass: has anything been lowered? -/
def rstep (q : Bool × List Int) (e : Int × Int) : Bool × List Int := if relaxes q.2 e = true then (true, relax q.2 e) else q
structure PInv (n : Nat) (es : List (Int × Int)) (fr d0 : List Int) (k : Nat) (q : Bool × List Int) : Prop where
  r : RInv n es fr q.2
  no : q.1 = false → q.2 = d0 ∧ ∀ e ∈ es.take k, relaxes d0 e = false
  yes : q.1 = true → leftD n q.2 < leftD n d0
theorem PInv.start {n : Nat} {es : List (Int × Int)} {fr d0 : List Int} (h : RInv n es fr d0) : PInv n es fr d0 0 (false, d0) := ⟨h, fun _ => ⟨rfl, fun e he => by simp at he⟩, fun h => (by cases h)⟩
theorem PInv.step {n : Nat} {es : List (Int × Int)} {fr d0 : List Int} {k : Nat} {q : Bool × List Int} (h : PInv n es fr d0 k q) {e : Int × Int} (he : es[k]? = some e) (hi : (0 ≤ e.1 ∧ e.1 < n) ∧ (0 ≤ e.2 ∧ e.2 < n)) : PInv n es fr d0 (k + 1) (rstep q e) := by
  have ht : es.take (k + 1) = es.take k ++ [e] := by rw [List.take_add_one, he]; rfl
  unfold rstep
  cases hc : relaxes q.2 e with
  | true =>
    rw [if_pos rfl]
    obtain ⟨g1, g2⟩ := h.r.relax (List.mem_of_getElem? he) hi hc
    refine ⟨g1, fun h => (by cases h), fun _ => ?_⟩
    cases hq : q.1 with
    | true => exact Nat.lt_trans g2 (h.yes hq)
    | false => rw [(h.no hq).1] at g2; rw [(h.no hq).1]; exact g2
  | false =>
    rw [if_neg (by simp)]
    refine ⟨h.r, fun hq => ?_, h.yes⟩
    obtain ⟨g1, g2⟩ := h.no hq
    refine ⟨g1, fun x hx => ?_⟩
    rw [ht, List.mem_append, List.mem_singleton] at hx
    rcases hx with hx | rfl
    · exact g2 x hx
    · rw [← g1]; exact hc
/-- Distances at the beginning. -/
def dist0 (n : Nat) (fr : List Int) : List Int := fr.foldl (fun d v => d.set v.toNat 0) (List.replicate n (-1))
theorem dist0_get (n : Nat) : ∀ (fr : List Int) (d : List Int), d.length = n → (∀ x ∈ fr, 0 ≤ x ∧ x < n) → (fr.foldl (fun d v => d.set v.toNat 0) d).length = n ∧ ∀ v : Int, 0 ≤ v → v < n → (fr.foldl (fun d v => d.set v.toNat 0) d).getD v.toNat (-1) = if v ∈ fr then 0 else d.getD v.toNat (-1)
  | [], d, h, _ => ⟨h, fun v _ _ => by simp⟩
  | x :: fr, d, h, hf => by
    obtain ⟨x0, x1⟩ := hf x (by simp)
    obtain ⟨g1, g2⟩ := dist0_get n fr (d.set x.toNat 0) (by rw [List.length_set]; exact h) (fun y hy => hf y (List.mem_cons_of_mem _ hy))
    refine ⟨g1, fun v h0 h1 => ?_⟩
    rw [List.foldl_cons, g2 v h0 h1, getD_set' (by omega)]
    by_cases hv : v ∈ fr
    · rw [if_pos hv, if_pos (List.mem_cons_of_mem _ hv)]
    · rw [if_neg hv]
      by_cases he : v = x
      · rw [if_pos (by omega), if_pos (by simp [he])]
      · rw [if_neg (by omega), if_neg (by simp [hv, he])]
theorem dist0_inv {n : Nat} {es : List (Int × Int)} {fr : List Int} (hf : ∀ x ∈ fr, 0 ≤ x ∧ x < n) : RInv n es fr (dist0 n fr) := by
  obtain ⟨g1, g2⟩ := dist0_get n fr (List.replicate n (-1)) (by simp) hf
  have hr : ∀ v : Int, 0 ≤ v → v < n → (dist0 n fr).getD v.toNat (-1) = if v ∈ fr then 0 else -1 := fun v h0 h1 => by
    have := g2 v h0 h1
    have hv : v.toNat < n := by omega
    rw [show (List.replicate n (-1 : Int)).getD v.toNat (-1) = -1 by simp [hv]] at this
    exact this
  have hN : ∀ v : Nat, v < n → (dist0 n fr).getD v (-1) = if (v : Int) ∈ fr then 0 else -1 := fun v hv => by
    have := hr (v : Int) (by omega) (by omega)
    rw [Int.toNat_natCast] at this
    exact this
  have hpos : ∀ v : Nat, v < n → 0 ≤ (dist0 n fr).getD v (-1) → 1 ≤ hasD (dist0 n fr) := fun v hv hp => by
    have hget : (dist0 n fr)[v]? = some ((dist0 n fr).getD v (-1)) := by
      have : v < (dist0 n fr).length := by rw [show (dist0 n fr).length = n from g1]; exact hv
      simp [this]
    have := sum_set (fun x => if 0 ≤ x then 1 else 0) (dist0 n fr) v (-1) _ hget
    rw [if_pos hp, if_neg (by omega)] at this
    unfold hasD
    omega
  refine ⟨g1, fun v hv => ?_, fun v h0 h1 => ?_, fun v h0 h1 hp => ?_, fun v hv => ?_⟩
  · rw [hN v hv]
    split <;> omega
  · rw [hr v h0 h1]
    split <;> rename_i h <;> simp [h]
  · rw [hr v h0 h1] at hp
    split at hp <;> omega
  · have h1 := hN v hv
    by_cases hp : 0 ≤ (dist0 n fr).getD v (-1)
    · have := hpos v hv hp
      rw [h1] at hp ⊢
      split at hp
      · rename_i hm
        rw [if_pos hm]
        omega
      · omega
    · omega
end Go.Pv

/-
  Chapter 05: few, errors, reversed edges, as the document says.
-/
namespace Go.Pv

def fewG (n : Int) (k : Nat) : Bool := decide (k ≤ 40) && (decide (n ≤ 10) || decide (2000 < n))
/-- few. -/
theorem r346 (t : Nat) (n : Int) (es : List (Int × Int)) (hl : es.length ≤ 2 ^ 63 - 1) : res A PrA 346 [.int .i64 n, .lst t (prs es)] = some [.bool (fewG n es.length)] := by
  refine res_of a346 rfl rfl ?_
  simp only [F346]
  unfold fewG
  simp (disch := omega) only [go_sem]
  refine Br.ofP (fun h => ?_) (fun h => ?_) <;> simp (disch := omega) only [go_sem, h]
  · have h1 : decide (es.length ≤ 40) = true := by simp; omega
    rw [h1]
    refine Br.ofP (fun h2 => ?_) (fun h2 => ?_) <;> simp (disch := omega) only [go_sem, h2]
  · have h1 : decide (es.length ≤ 40) = false := by simp; omega
    rw [h1]
    rfl
theorem badP_eq (n : Int) (x : Int × Int) : badP n x = (((decide (x.1 < 0) || decide (n ≤ x.1)) || decide (x.2 < 0)) || decide (n ≤ x.2)) := by
  unfold badP
  rw [Bool.eq_iff_iff]
  simp only [Bool.or_eq_true, decide_eq_true_eq]
  omega
set_option maxHeartbeats 1000000 in
/-- Valid, of the document. -/
theorem r348 (t : Nat) (n : Int) (es : List (Int × Int)) (hl : es.length ≤ 2 ^ 63 - 1) : res A PrA 348 [.int .i64 n, .lst t (prs es)] = some [.int .i64 (gErr n es)] := by
  refine res_of a348 rfl rfl ?_
  simp only [F348]
  simp (disch := omega) only [go_sem]
  unfold gErr
  refine Br.ofP (fun h1 => ?_) (fun h1 => ?_) <;> simp (disch := omega) only [go_sem, h1]
  · rw [if_pos (.inl trivial)]
  refine Br.ofP (fun h2 => ?_) (fun h2 => ?_) <;> simp (disch := omega) only [go_sem, h2]
  · rw [if_pos (by omega)]
  rw [if_neg (by omega)]
  refine Br.ofP (fun h3 => ?_) (fun h3 => ?_) <;> simp (disch := omega) only [go_sem, h3]
  · rw [if_pos (.inl trivial)]
  refine W.find es (badP n) (fun k => ⟨[(0, .pv (.int .i64 n)), (1, .pv (.lst t (prs es))), (5, .pv (.int .i64 k))], ⟨[], [], []⟩⟩) rfl (fun k x hx hk hfd => ?_) (fun hn => ?_)
  · have hb := badP_eq n x
    have done : badP n x = true → (some [PV.int .i64 1] : Option (List PV)) = some [.int .i64 (if n < 0 ∨ es.any (badP n) = true then 1 else 0)] := fun h => by
      rw [if_pos (.inr (hfd h).any)]
    simp (disch := omega) only [go_sem]
    refine Br.ofP (fun c => ?_) (fun c => (c (by omega)).elim)
    simp (disch := omega) only [go_sem, hx]
    refine Br.ofP (fun c1 => ?_) (fun c1 => ?_) <;> simp (disch := omega) only [go_sem, c1, hx]
    · exact done (by rw [hb]; simp [c1])
    refine Br.ofP (fun c2 => ?_) (fun c2 => ?_) <;> simp (disch := omega) only [go_sem, c2, hx]
    · exact done (by rw [hb]; simp [c2])
    refine Br.ofP (fun c3 => ?_) (fun c3 => ?_) <;> simp (disch := omega) only [go_sem, c3, hx]
    · exact done (by rw [hb]; simp [c3])
    refine Br.ofP (fun c4 => ?_) (fun c4 => ?_) <;> simp (disch := omega) only [go_sem, c4]
    · exact done (by rw [hb]; simp [c4])
    · exact findK.of (by rw [hb]; simp [c1, c2, c3, c4]) rfl
  · simp (disch := omega) only [go_sem]
    rw [hn.any, if_neg (by simp; omega)]
set_option maxHeartbeats 1000000 in
/-- Error, of the document. -/
theorem r367 (t u : Nat) (n : Int) (es : List (Int × Int)) (l : List Int) (hl : es.length ≤ 2 ^ 63 - 1) (hm : l.length ≤ 2 ^ 63 - 1) : res A PrA 367 [.int .i64 n, .lst t (prs es), .lst u (ints l)] = some [.int .i64 (gErrL n es l)] := by
  refine res_of a367 rfl rfl ?_
  simp only [F367]
  have h348 := r348 t n es hl
  simp (disch := omega) only [go_sem, h348]
  unfold gErrL
  refine Br.ofP (fun h1 => ?_) (fun h1 => ?_) <;> simp (disch := omega) only [go_sem, h1]
  rotate_left
  · rw [if_pos h1]
  rw [if_neg (by simp [h1])]
  refine W.find l (fun x => decide (x < 0) || decide (n ≤ x)) (fun k => ⟨[(0, .pv (.int .i64 n)), (2, .pv (.lst u (ints l))), (8, .pv (.int .i64 k))], ⟨[], [], []⟩⟩) rfl (fun k x hx hk hfd => ?_) (fun hn => ?_)
  · simp (disch := omega) only [go_sem]
    refine Br.ofP (fun c => ?_) (fun c => (c (by omega)).elim)
    simp (disch := omega) only [go_sem, hx]
    refine Br.ofP (fun c1 => ?_) (fun c1 => ?_) <;> simp (disch := omega) only [go_sem, c1, hx]
    · rw [if_pos (hfd (by simp [c1])).any]
    refine Br.ofP (fun c2 => ?_) (fun c2 => ?_) <;> simp (disch := omega) only [go_sem, c2]
    · rw [if_pos (hfd (by simp [c2])).any]
    · exact findK.of (by simp [c1, c2]) rfl
  · simp (disch := omega) only [go_sem]
    rw [hn.any, if_neg (by simp)]
end Go.Pv

/-
  Loops whose rounds leave more than the next round takes.
-/
namespace Go.Pv
variable {A : Nat → Option AFunc} {Pr : Prims}

/-- What a round comes to: the next round takes what is written here. -/
def rndM {α : Type} (kt kb : List Nat) (S : α → St) (P : α → Prop) (m : α → Nat) (x : α) (Q : Ex → St → Prop) (_t : Tie (kt, kb, S, P, m, x, Q) := .mk) : Ex → St → Prop
  | .normal, s => ∃ y, P y ∧ m y < m x ∧ s.mask kt kb = S y
  | .exit i, s => Q (.exit i) s
  | .ret, s => Q .ret s
@[go_sem] theorem rndM_exit {α : Type} (kt kb : List Nat) (S : α → St) (P : α → Prop) (m : α → Nat) (x : α) (Q : Ex → St → Prop) (i : Nat) (s : St) : rndM kt kb S P m x Q .mk (.exit i) s = Q (.exit i) s := rfl
@[go_sem] theorem rndM_ret {α : Type} (kt kb : List Nat) (S : α → St) (P : α → Prop) (m : α → Nat) (x : α) (Q : Ex → St → Prop) (s : St) : rndM kt kb S P m x Q .mk .ret s = Q .ret s := rfl
@[congr] theorem rndM_congr {α : Type} {kt kb : List Nat} {S : α → St} {P : α → Prop} {m : α → Nat} {x : α} {Q : Ex → St → Prop} {e e' : Ex} {s s' : St} (he : e = e') (hs : s = s') : rndM kt kb S P m x Q .mk e s = rndM kt kb S P m x Q .mk e' s' := by rw [he, hs]

theorem W.loopM {α : Type} {a : AC} {kt kb : List Nat} {s : St} {Q : Ex → St → Prop} (S : α → St) (P : α → Prop) (m : α → Nat) (x0 : α) (hs : s.mask kt kb = S x0) (h0 : P x0) (hr : ∀ x, P x → W A Pr a (S x) (rndM kt kb S P m x Q)) : W A Pr (.loop (.mask kt kb a)) s Q := by
  have key : ∀ n x s, m x ≤ n → s.mask kt kb = S x → P x → W A Pr (.loop (.mask kt kb a)) s Q := by
    intro n
    induction n with
    | zero =>
      intro x s hm hs hp
      obtain ⟨ex, s', h1, h2⟩ := hr x hp
      rw [← hs] at h1
      have h1 := Runs.mask h1
      cases ex with
      | normal => obtain ⟨y, _, h3, _⟩ := h2; omega
      | exit i => exact ⟨_, _, Runs.loop_out h1 (by simp), h2⟩
      | ret => exact ⟨_, _, Runs.loop_out h1 (by simp), h2⟩
    | succ n ih =>
      intro x s hm hs hp
      obtain ⟨ex, s', h1, h2⟩ := hr x hp
      rw [← hs] at h1
      have h1 := Runs.mask h1
      cases ex with
      | normal =>
        obtain ⟨y, hy, h3, h6⟩ := h2
        obtain ⟨e2, s2, h4, h5⟩ := ih y s' (by omega) h6 hy
        exact ⟨e2, s2, Runs.loop_step h1 h4, h5⟩
      | exit i => exact ⟨_, _, Runs.loop_out h1 (by simp), h2⟩
      | ret => exact ⟨_, _, Runs.loop_out h1 (by simp), h2⟩
  exact key _ x0 s (Nat.le_refl _) hs h0

end Go.Pv

/-
  Chapter 05: distances, as the document says.
-/
namespace Go.Pv

/-- The distances to some vertices. -/
def distsTo (n : Nat) (es : List (Int × Int)) (to : List Int) : List Int := levels (nxt (succs n (es.map swapP))) n to
theorem distsTo_dist {n : Nat} {es : List (Int × Int)} {to : List Int} (hg : inG n es) (hl : es.length ≤ 100000) (ht : ∀ x ∈ to, 0 ≤ x ∧ x < (n : Int)) : Dist n (fun v u => (v, u) ∈ es) to (distsTo n es to) := by
  have hs := inG_swap hg
  have hok := succs_ok hs (by rw [List.length_map]; exact hl)
  have h := levels_dist (nx := nxt (succs n (es.map swapP))) (nxt_in hok) ht
  have key : ∀ v u : Int, 0 ≤ u → (v ∈ nxt (succs n (es.map swapP)) u ↔ (v, u) ∈ es) := fun v u hu => by
    rw [nxt_succs hs hu, List.mem_map]
    constructor
    · rintro ⟨e, he, h⟩
      unfold swapP at h
      cases h
      exact he
    · exact fun h => ⟨(v, u), h, rfl⟩
  exact ⟨h.len, h.low, h.zero, fun v u he hr hp => h.step v u ((key v u hr.2.2.1).2 he) hr hp, fun v h0 h1 hp => by
    obtain ⟨u, u1, u2, u3, u4⟩ := h.back v h0 h1 hp
    exact ⟨u, (key v u u2).1 u1, u2, u3, u4⟩⟩
theorem set_dist0 {n : Nat} {to : List Int} {k : Nat} {v : Int} (h : to[k]? = some v) : ((to.take k).foldl (fun d v => d.set v.toNat 0) (List.replicate n (-1 : Int))).set v.toNat 0 = (to.take (k + 1)).foldl (fun d v => d.set v.toNat 0) (List.replicate n (-1)) := by
  rw [List.take_add_one, h, List.foldl_append]
  rfl
theorem ints_rep (n : Nat) : ints (List.replicate n (-1)) ++ [[PV.int .i64 (-1)]] = ints (List.replicate (n + 1) (-1)) := by
  rw [List.replicate_succ', ints_snoc]
set_option maxHeartbeats 4000000 in
/-- Distances, of the document. -/
theorem r350 (t u : Nat) (n : Int) (es : List (Int × Int)) (to : List Int) (hn : n ≤ 12 ∨ 2000 < n) (hl : es.length ≤ 2 ^ 63 - 1) (hm : to.length ≤ 2000000000) : res A PrA 350 [.int .i64 n, .lst t (prs es), .lst u (ints to)] = some (if gErrL n es to = 0 then [.lst 0 (ints (distsTo n.toNat es to)), .int .i64 0] else [.lst 0 [], .int .i64 (gErrL n es to)]) := by
  refine res_of a350 rfl rfl ?_
  simp only [F350]
  have h367 := r367 t u n es to hl (by omega)
  simp (disch := omega) only [go_sem, h367]
  refine Br.ofP (fun h1 => ?_) (fun h1 => ?_) <;> simp (disch := omega) only [go_sem, h1]
  obtain ⟨g1, g2⟩ := gErrL_zero h1
  obtain ⟨f1, f2, f3, f4⟩ := gErr_zero g1
  obtain ⟨m, rfl⟩ := Int.eq_ofNat_of_zero_le f1
  rw [Int.toNat_natCast] at f4 ⊢
  have hD := distsTo_dist f4 (by omega) g2
  refine W.upto m (fun k => ⟨[(0, .pv (.int .i64 m)), (1, .pv (.lst t (prs es))), (2, .pv (.lst u (ints to))), (9, grV 0 (ints (List.replicate k (-1)))), (10, .pv (.int .i64 k))], ⟨[], grA 1 (ints (List.replicate k (-1))), []⟩⟩) (fun _ => True) rfl trivial fun k hk _ => ?_
  have hrl : (List.replicate k (-1 : Int)).length = k := by simp
  simp (disch := omega) only [go_sem]
  refine Br.ofP (fun c => ?_) (fun c => ?_)
  · have hr : List.replicate (k + 1) (-1 : Int) = List.replicate k (-1) ++ [-1] := List.replicate_succ'
    generalize List.replicate k (-1 : Int) = q at hrl hr
    simp (disch := omega) only [go_sem]
    refine .of (by omega) ?_ trivial
    rw [hr]
    rfl
  obtain rfl : k = m := by omega
  clear hk c
  simp (disch := omega) only [go_sem]
  refine W.upto to.length (fun j => ⟨[(1, .pv (.lst t (prs es))), (2, .pv (.lst u (ints to))), (9, grV 0 (ints ((to.take j).foldl (fun d v => d.set v.toNat 0) (List.replicate k (-1))))), (11, .pv (.int .i64 j))], ⟨[], grA 1 (ints ((to.take j).foldl (fun d v => d.set v.toNat 0) (List.replicate k (-1)))), []⟩⟩) (fun _ => True) rfl trivial fun j hj _ => ?_
  obtain ⟨hdl, _⟩ := dist0_get k (to.take j) (List.replicate k (-1)) (by simp) (fun x hx => g2 x (List.mem_of_mem_take hx))
  simp (disch := omega) only [go_sem]
  refine Br.ofP (fun c => ?_) (fun c => ?_)
  · have hx := List.getElem?_eq_getElem (l := to) (i := j) (by omega)
    generalize to[j]'(by omega) = x at hx
    obtain ⟨x0, x1⟩ := g2 x (List.mem_of_getElem? hx)
    have hs := set_dist0 (n := k) hx
    generalize (to.take j).foldl (fun d v => d.set v.toNat 0) (List.replicate k (-1 : Int)) = q at hdl hs
    obtain ⟨k', rfl⟩ : ∃ k', k = k' + 1 := ⟨k - 1, by omega⟩
    rw [grV_own (n := k') (by rw [ints_length, hdl]), grA_own (n := k') (by rw [ints_length, hdl])]
    simp (disch := omega) only [go_sem, hx]
    refine .of (by omega) ?_ trivial
    rw [← hs, grV_own (n := k') (by rw [ints_length, List.length_set, hdl]), grA_own (n := k') (by rw [ints_length, List.length_set, hdl])]
    rfl
  obtain rfl : j = to.length := by omega
  clear hj c
  rw [List.take_length] at hdl ⊢
  have hI := dist0_inv (es := es) g2
  change RInv k es to (to.foldl (fun d v => d.set v.toNat 0) (List.replicate k (-1))) at hI
  generalize to.foldl (fun d v => d.set v.toNat 0) (List.replicate k (-1 : Int)) = d0 at hdl hI
  simp (disch := omega) only [go_sem]
  refine W.loopM (α := Bool × List Int) (fun x => ⟨[(1, .pv (.lst t (prs es))), (9, grV 0 (ints x.2)), (12, .pv (.bool x.1))], ⟨[], grA 1 (ints x.2), []⟩⟩)
    (fun x => RInv k es to x.2 ∧ (x.1 = false → ∀ e ∈ es, relaxes x.2 e = false)) (fun x => 2 * leftD k x.2 + (if x.1 = true then 1 else 0)) (true, d0) (by simp (disch := omega) only [go_sem]) ⟨hI, fun h => by cases h⟩ fun x hx => ?_
  obtain ⟨b, d⟩ := x
  obtain ⟨hR, hfix⟩ := hx
  dsimp only at hR hfix
  cases b with
  | false =>
    have hd := (hR.dist (hfix rfl)).uniq hD
    simp (disch := omega) only [go_sem]
    rw [if_pos h1, hd]
  | true =>
    simp (disch := omega) only [go_sem]
    refine W.fold es rstep (false, d) (fun j q => ⟨[(1, .pv (.lst t (prs es))), (9, grV 0 (ints q.2)), (12, .pv (.bool q.1)), (13, .pv (.int .i64 j))], ⟨[], grA 1 (ints q.2), []⟩⟩) (fun j q => PInv k es to d j q) rfl (PInv.start hR) (fun j e q he hj _ hi => ?_) (fun q hacc hi => ?_)
    · have hst := hi.step he (f4 e (List.mem_of_getElem? he))
      obtain ⟨⟨a0, a1⟩, b0, b1⟩ := f4 e (List.mem_of_getElem? he)
      obtain ⟨b, q⟩ := q
      have hql := hi.r.len
      dsimp only at hql
      have hga : q[e.1.toNat]? = some (q.getD e.1.toNat (-1)) := by
        have : e.1.toNat < q.length := by omega
        simp [this]
      have hgb : q[e.2.toNat]? = some (q.getD e.2.toNat (-1)) := by
        have : e.2.toNat < q.length := by omega
        simp [this]
      have htb := hi.r.top e.2.toNat (by omega)
      have hhd := hasD_le q
      have hlb := hi.r.low e.2.toNat (by omega)
      dsimp only at htb hlb
      obtain ⟨k', rfl⟩ : ∃ k', k = k' + 1 := ⟨k - 1, by omega⟩
      rw [grV_own (n := k') (by rw [ints_length, hql]), grA_own (n := k') (by rw [ints_length, hql])]
      have hno : relaxes q e = false → rstep (b, q) e = (b, q) := fun h => by unfold rstep; rw [if_neg (by simp [h])]
      have hyes : relaxes q e = true → rstep (b, q) e = (true, q.set e.1.toNat (q.getD e.2.toNat (-1) + 1)) := fun h => by unfold rstep relax; rw [if_pos h, if_pos h]
      have hrel : relaxes q e = (decide (0 ≤ q.getD e.2.toNat (-1)) && (decide (q.getD e.1.toNat (-1) < 0) || decide (q.getD e.2.toNat (-1) + 1 < q.getD e.1.toNat (-1)))) := rfl
      generalize q.getD e.2.toNat (-1) = db at *
      generalize q.getD e.1.toNat (-1) = da at *
      simp (disch := omega) only [go_sem]
      refine Br.ofP (fun c => ?_) (fun c => (c (by omega)).elim)
      simp (disch := omega) only [go_sem, he, hgb]
      have fin : relaxes q e = true → e.1.toNat < q.length → PInv (k' + 1) es to d (j + 1) (true, q.set e.1.toNat (db + 1)) := fun h _ => by rw [← hyes h]; exact hst
      have fin0 : relaxes q e = false → PInv (k' + 1) es to d (j + 1) (b, q) := fun h => by rw [← hno h]; exact hst
      have hsl : (q.set e.1.toNat (db + 1)).length = k' + 1 := by rw [List.length_set, hql]
      by_cases c1 : 0 ≤ db
      · have d1 : decide (0 ≤ db) = true := by simp [c1]
        by_cases c2 : da < 0
        · have d2 : decide (da < 0) = true := by simp [c2]
          have hr : relaxes q e = true := by rw [hrel, d1, d2]; rfl
          simp (disch := omega) only [go_sem, hga, hgb, d1, d2]
          rw [hyes hr] at hst ⊢
          refine foldK.of ?_ hst
          rw [grV_own (n := k') (by rw [ints_length, hsl]), grA_own (n := k') (by rw [ints_length, hsl])]
          rfl
        · have d2 : decide (da < 0) = false := by simp; omega
          by_cases c3 : db + 1 < da
          · have d3 : decide (db + 1 < da) = true := by simp [c3]
            have hr : relaxes q e = true := by rw [hrel, d1, d2, d3]; rfl
            simp (disch := omega) only [go_sem, hga, hgb, d1, d2, d3]
            rw [hyes hr] at hst ⊢
            refine foldK.of ?_ hst
            rw [grV_own (n := k') (by rw [ints_length, hsl]), grA_own (n := k') (by rw [ints_length, hsl])]
            rfl
          · have d3 : decide (db + 1 < da) = false := by simp; omega
            have hr : relaxes q e = false := by rw [hrel, d1, d2, d3]; rfl
            simp (disch := omega) only [go_sem, hga, hgb, d1, d2, d3]
            rw [hno hr] at hst ⊢
            refine foldK.of ?_ hst
            rw [grV_own (n := k') (by rw [ints_length, hql]), grA_own (n := k') (by rw [ints_length, hql])]
            rfl
      · have d1 : decide (0 ≤ db) = false := by simp; omega
        have hr : relaxes q e = false := by rw [hrel, d1]; rfl
        simp (disch := omega) only [go_sem, d1]
        rw [hno hr] at hst ⊢
        refine foldK.of ?_ hst
        rw [grV_own (n := k') (by rw [ints_length, hql]), grA_own (n := k') (by rw [ints_length, hql])]
        rfl
    · simp (disch := omega) only [go_sem]
      refine ⟨q, ⟨hi.r, fun hq => ?_⟩, ?_, by simp (disch := omega) only [go_sem]⟩
      · obtain ⟨e1, e2⟩ := hi.no hq
        rw [e1]
        rw [List.take_length] at e2
        exact e2
      · dsimp only
        cases hq : q.1 with
        | true =>
          have := hi.yes hq
          simp
          omega
        | false =>
          rw [(hi.no hq).1]
          simp
end Go.Pv

/-
  The law of duals.
-/
namespace Go.Pv

theorem decide_yes {p : Prop} [Decidable p] (h : p) : decide p = true := by simp [h]

end Go.Pv

/-
  The law of trimmed automata.
-/
namespace Go.Pv

/-- The automaton of a draft from a start. -/
def Draft.from (d : Draft) (s : Int) : Auto := ⟨1 + d.n % 4, s % (1 + d.n % 4), d.auto.edges⟩
theorem Draft.from_good {d : Draft} (hd : d.ok) {s : Int} : (d.from s).Good := Draft.good hd ⟨Int.emod_nonneg s (by have := d.st; omega), Int.emod_lt_of_pos s (by have := d.st; omega)⟩

end Go.Pv

/-
  The law of runs.
-/
namespace Go.Pv

theorem Auto.start_at (a : Auto) : atL a.start a.order = 0 := by
  obtain ⟨r, hr⟩ := a.order_head
  rw [hr]
  simp [atL, atFrom]

end Go.Pv

/-
  The laws of the errors of automata, and of proper automata.
-/
namespace Go.Pv

end Go.Pv

/-
  Classes of states: moves, lists that are equal.
-/
namespace Go.Pv

/-- What leads to a state: a direction, a label, a class. -/
structure Mv where
  send : Bool
  label : Int
  cls : Int
  deriving DecidableEq, Inhabited
def Mv.c (m : Mv) : List PV := [.bool m.send, .int .i64 m.label, .int .i64 m.cls]
def mvs (l : List Mv) : List (List PV) := l.map Mv.c
@[go_sem] theorem mvs_length (l : List Mv) : (mvs l).length = l.length := by simp [mvs]
@[go_sem] theorem mvs_nil : mvs [] = [] := rfl
@[go_sem] theorem mvs_get (l : List Mv) (i : Nat) : (mvs l)[i]? = l[i]?.map Mv.c := by simp [mvs]
@[go_sem] theorem Mv.c_eq (m : Mv) : m.c = [.bool m.send, .int .i64 m.label, .int .i64 m.cls] := rfl
theorem mvs_snoc (l : List Mv) (m : Mv) : mvs l ++ [m.c] = mvs (l ++ [m]) := by simp [mvs]
@[go_sem] theorem mvs_snocc (l : List Mv) (d : Bool) (x y : Int) : mvs l ++ [[.bool d, .int .i64 x, .int .i64 y]] = mvs (l ++ [⟨d, x, y⟩]) := by simp [mvs, Mv.c]
@[go_sem] theorem grow0m (bx : List (Nat × List V)) (mp : List (List (PV × PV))) (l : List Mv) (d : Bool) (x y : Int) (hm : l.length + 1 ≤ 2147483648) :
    appendV ⟨bx, grA 3 (mvs l), mp⟩ 3 (grV 0 (mvs l)) (.tl [[.bool d, .int .i64 x, .int .i64 y]]) = some (grV 0 (mvs (l ++ [⟨d, x, y⟩])), grT 0 3 (mvs l) (Mv.c ⟨d, x, y⟩)) := by
  rw [← mvs_snoc]
  exact grow0 bx mp 3 (mvs l) (Mv.c ⟨d, x, y⟩) rfl (by rw [mvs_length]; exact hm)
/-- The moves from a state. -/
def movesL (es : List Edge) (s : Int) (c : List Int) : List Mv := (es.filter fun e => e.fr == s).map fun e => ⟨e.send, e.label, c.getD e.to.toNat 0⟩
theorem movesL_len (es : List Edge) (s : Int) (c : List Int) : (movesL es s c).length ≤ es.length := by
  unfold movesL
  rw [List.length_map]
  exact List.length_filter_le _ _

theorem mv_dec (a b : Mv) : (decide (a.send = b.send) && (decide (a.label = b.label) && decide (a.cls = b.cls))) = decide (a = b) := by
  obtain ⟨a1, a2, a3⟩ := a
  obtain ⟨b1, b2, b3⟩ := b
  by_cases h1 : a1 = b1 <;> by_cases h2 : a2 = b2 <;> by_cases h3 : a3 = b3 <;> simp [h1, h2, h3]
set_option maxHeartbeats 1000000 in
@[go_sem] theorem r14 (t u : Nat) (a b : List Int) (ha : a.length ≤ 2 ^ 63 - 1) (_hb : b.length ≤ 2 ^ 63 - 1) : res A PrA 14 [.lst t (ints a), .lst u (ints b)] = some [.bool (decide (a = b))] := by
  refine res_of a14 rfl rfl ?_
  simp only [F14]
  simp (disch := omega) only [go_sem]
  refine Br.ofP (fun h => ?_) (fun h => ?_) <;> simp (disch := omega) only [go_sem, h]
  case refine_2 =>
    have : ¬ a = b := fun e => h (by rw [e])
    simp [this]
  refine W.upto a.length (fun k => ⟨[(0, .pv (.lst t (ints a))), (1, .pv (.lst u (ints b))), (12, .pv (.int .i64 b.length)), (13, .pv (.int .i64 k))], ⟨[], [], []⟩⟩) (fun k => a.take k = b.take k) rfl rfl fun k hk hi => ?_
  simp (disch := omega) only [go_sem]
  refine Br.ofP (fun g => ?_) (fun g => ?_)
  · obtain ⟨x, hx⟩ := get_at (l := a) (k := k) (by omega)
    obtain ⟨y, hy⟩ := get_at (l := b) (k := k) (by omega)
    simp (disch := omega) only [go_sem, hx, hy]
    refine Br.ofP (fun f => ?_) (fun f => ?_) <;> simp (disch := omega) only [go_sem, f]
    · exact .of (by omega) rfl (take_step hx hy hi f)
    · have : ¬ a = b := fun e => f (by rw [e, hy] at hx; exact (Option.some.inj hx).symm)
      simp [this]
  · simp (disch := omega) only [go_sem]
    have := takes_all (k := k) (by omega) (by omega) hi
    simp [this]

/-- Are two states alike, as far as classes tell? -/
def simB (es : List Edge) (c : List Int) (k i : Nat) : Bool := decide (c.getD k 0 = c.getD i 0) && decide (movesL es (k : Int) c = movesL es (i : Int) c)
/-- The first state that is like another one. -/
def leastC (es : List Edge) (c : List Int) (i : Nat) : Nat := ((List.range i).find? fun k => simB es c k i).getD i
def stepC (n : Nat) (es : List Edge) (c : List Int) : List Int := (List.range n).map fun i => (leastC es c i : Int)
def cls (n : Nat) (es : List Edge) : Nat → List Int
  | 0 => List.replicate n 0
  | j + 1 => stepC n es (cls n es j)
theorem stepC_len (n : Nat) (es : List Edge) (c : List Int) : (stepC n es c).length = n := by simp [stepC]
theorem cls_len (n : Nat) (es : List Edge) : ∀ j, (cls n es j).length = n
  | 0 => by simp [cls]
  | j + 1 => stepC_len n es _

end Go.Pv

/-
  Chapter 05: distances and what is reached; the laws of Valid, Distances, Reach.
-/
namespace Go.Pv

theorem cloneCases {k : Nat} {rows : List (List PV)} (hr : ∀ r ∈ rows, r.length = k) (hm : rows.length ≤ 2147483648) : (rows = [] ∧ ∀ h, cloneP k [.pv (.lst 0 rows)] h = some (.tl [], {})) ∨ (rows ≠ [] ∧ ∀ h, cloneP k [.pv (.lst 0 rows)] h = some (.own h.ar.length 0 0 rows.length, { push := [⟨0, k, .inl rows⟩], base := h.ar.length })) := by
  have hf : rowsFit k (.inl rows) = true := by
    simp only [rowsFit, List.all_eq_true, beq_iff_eq]
    exact hr
  by_cases h0 : rows = []
  · subst h0
    exact .inl ⟨rfl, fun h => by simp [cloneP, srcRows, rowsFit]⟩
  · refine .inr ⟨h0, fun h => ?_⟩
    have hl : ¬ rows.length = 0 := fun e => h0 (List.eq_nil_of_length_eq_zero e)
    have h01 : (0 : Nat) ≤ 1 := by decide
    simp [cloneP, srcRows, hf, hl, mostRows, hm]
theorem clonePrs {es : List (Int × Int)} (hm : es.length ≤ 2147483648) : (es = [] ∧ ∀ h, cloneP 2 [.pv (.lst 0 [])] h = some (.tl [], {})) ∨ (es ≠ [] ∧ ∀ h, cloneP 2 [.pv (.lst 0 (prs es))] h = some (.own h.ar.length 0 0 es.length, { push := [⟨0, 2, .inl (prs es)⟩], base := h.ar.length })) := by
  rcases cloneCases (k := 2) (rows := prs es) (fun r hr => by obtain ⟨x, _, rfl⟩ := List.mem_map.1 hr; rfl) (by rw [prs_length]; omega) with ⟨h0, hc⟩ | ⟨h0, hc⟩
  · cases es with
    | nil => exact .inl ⟨rfl, hc⟩
    | cons x r => simp [prs] at h0
  · rw [prs_length] at hc
    exact .inr ⟨fun h => h0 (by rw [h]; rfl), hc⟩
theorem cloneInts {l : List Int} (hm : l.length ≤ 2147483648) : (l = [] ∧ ∀ h, cloneP 1 [.pv (.lst 0 [])] h = some (.tl [], {})) ∨ (l ≠ [] ∧ ∀ h, cloneP 1 [.pv (.lst 0 (ints l))] h = some (.own h.ar.length 0 0 l.length, { push := [⟨0, 1, .inl (ints l)⟩], base := h.ar.length })) := by
  rcases cloneCases (k := 1) (rows := ints l) (fun r hr => by obtain ⟨x, _, rfl⟩ := List.mem_map.1 hr; rfl) (by rw [ints_length]; omega) with ⟨h0, hc⟩ | ⟨h0, hc⟩
  · cases l with
    | nil => exact .inl ⟨rfl, hc⟩
    | cons x r => simp [ints] at h0
  · rw [ints_length] at hc
    exact .inr ⟨fun h => h0 (by rw [h]; rfl), hc⟩
@[go_sem] theorem r14n (t u : Nat) : res A PrA 14 [.lst t [], .lst u []] = some [.bool true] := r14 t u [] [] (by decide) (by decide)
@[go_sem] theorem r128n (t : Nat) (n : Int) : res A PrA 128 [.int .i64 n, .lst t []] = some [.int .i64 (gErr n [])] := r128 t n [] (by decide)
set_option maxHeartbeats 1000000 in
/-- Distances. -/
theorem r349 (t u : Nat) (n : Int) (es : List (Int × Int)) (to : List Int) (hn : n ≤ 12 ∨ 2000 < n) (hl : es.length ≤ 2 ^ 63 - 1) (hm : to.length ≤ 2000000000) : res A PrA 349 [.int .i64 n, .lst t (prs es), .lst u (ints to)] = some (if gErrL n es to = 0 then [.lst 0 (ints (distsTo n.toNat es to)), .int .i64 0] else [.lst 0 [], .int .i64 (gErrL n es to)]) := by
  refine res_of a349 rfl rfl ?_
  simp only [F349]
  simp (disch := omega) only [go_sem]
  refine Br.ofP (fun h1 => ?_) (fun h1 => ?_) <;> simp (disch := omega) only [go_sem, h1]
  obtain ⟨g1, g2⟩ := gErrL_zero h1
  obtain ⟨f1, f2, f3, f4⟩ := gErr_zero g1
  obtain ⟨m, rfl⟩ := Int.eq_ofNat_of_zero_le f1
  rw [Int.toNat_natCast] at f4
  have f5 := inG_swap f4
  have hsl : (es.map swapP).length = es.length := List.length_map _
  have h115 := r115 0 m (es.map swapP) (by omega) (by omega) f5
  have hok := succs_ok f5 (by omega)
  have h114 := r114 0 u m (succs m (es.map swapP)) to (by omega) (succs_len _ _) hok g2 hm
  simp (disch := omega) only [go_sem, h115, h114]
  rw [if_pos h1]
  rfl
/-- What is reached from some vertices. -/
def reachG (n : Nat) (es : List (Int × Int)) (fr : List Int) : List Int := there (levels (nxt (succs n es)) n fr)
set_option maxHeartbeats 1000000 in
/-- Reach. -/
theorem r363 (t u : Nat) (n : Int) (es : List (Int × Int)) (fr : List Int) (hn : n ≤ 12 ∨ 2000 < n) (hl : es.length ≤ 2 ^ 63 - 1) (hm : fr.length ≤ 2000000000) : res A PrA 363 [.int .i64 n, .lst t (prs es), .lst u (ints fr)] = some (if gErrL n es fr = 0 then [.lst 0 (ints (reachG n.toNat es fr)), .int .i64 0] else [.lst 0 [], .int .i64 (gErrL n es fr)]) := by
  refine res_of a363 rfl rfl ?_
  simp only [F363]
  simp (disch := omega) only [go_sem]
  refine Br.ofP (fun h1 => ?_) (fun h1 => ?_) <;> simp (disch := omega) only [go_sem, h1]
  obtain ⟨g1, g2⟩ := gErrL_zero h1
  obtain ⟨f1, f2, f3, f4⟩ := gErr_zero g1
  obtain ⟨m, rfl⟩ := Int.eq_ofNat_of_zero_le f1
  rw [Int.toNat_natCast] at f4
  have h115 := fun t => r115 t m es (by omega) (by omega) f4
  have hok := succs_ok f4 (by omega)
  have h114 := r114 0 u m (succs m es) fr (by omega) (succs_len _ _) hok g2 hm
  have hll := levels_len (nx := nxt (succs m es)) (nxt_in hok) g2
  simp (disch := omega) only [go_sem, h115, h114]
  rw [if_pos h1]
  rfl
theorem swap_swap (es : List (Int × Int)) : (es.map swapP).map swapP = es := by
  rw [List.map_map]
  exact List.map_id _
theorem badP_swap (n : Int) (x : Int × Int) : badP n (swapP x) = badP n x := by
  unfold badP swapP
  rw [Int.min_comm, Int.max_comm]
theorem gErr_swap (n : Int) (es : List (Int × Int)) : gErr n (es.map swapP) = gErr n es := by
  unfold gErr
  rw [List.length_map, List.any_map]
  have : (badP n ∘ swapP) = badP n := funext fun x => badP_swap n x
  rw [this]
theorem gErrL_swap (n : Int) (es : List (Int × Int)) (l : List Int) : gErrL n (es.map swapP) l = gErrL n es l := by
  unfold gErrL
  rw [gErr_swap]
theorem backward_swap (n : Nat) (es : List (Int × Int)) (l : List Int) : backward n (es.map swapP) l = reachG n es l := by
  unfold backward reachG
  rw [swap_swap]
theorem distsTo_len {n : Nat} {es : List (Int × Int)} {to : List Int} (hg : inG n es) (hl : es.length ≤ 100000) (ht : ∀ x ∈ to, 0 ≤ x ∧ x < (n : Int)) : (distsTo n es to).length = n := (distsTo_dist hg hl ht).len
theorem gErr_big {n : Int} {es : List (Int × Int)} {l : List Int} (h : 2000 < n) : gErrL n es l = 3 := by
  have : gErr n es = 3 := by
    unfold gErr
    rw [if_pos (.inl h)]
  unfold gErrL
  rw [if_pos (by rw [this]; decide), this]
theorem few_true {n : Int} {k : Nat} (h : fewG n k = true) : k ≤ 40 ∧ (n ≤ 12 ∨ 2000 < n) := by
  unfold fewG at h
  simp only [Bool.and_eq_true, Bool.or_eq_true, decide_eq_true_eq] at h
  omega
end Go.Pv

/-
  Plain laws: the first shortest path.
-/
namespace Go.Pv

/-- A distance is less than the number of vertices. -/
theorem Dist.chain {n : Nat} {ed : Int → Int → Prop} {fr d : List Int} (h : Dist n ed fr d) : ∀ (k : Nat) (v : Int), 0 ≤ v → v < n → d.getD v.toNat (-1) = (k : Int) → ∃ L : List Int, L.Nodup ∧ L.length = k + 1 ∧ ∀ x ∈ L, (0 ≤ x ∧ x < n) ∧ d.getD x.toNat (-1) ≤ (k : Int)
  | 0, v, h0, h1, hk => ⟨[v], by simp, rfl, fun x hx => by
    rw [List.mem_singleton.1 hx]
    exact ⟨⟨h0, h1⟩, by omega⟩⟩
  | k + 1, v, h0, h1, hk => by
    obtain ⟨u, _, e2, e3, e4⟩ := h.back v h0 h1 (by omega)
    obtain ⟨L, g1, g2, g3⟩ := Dist.chain h k u e2 e3 (by omega)
    refine ⟨v :: L, List.nodup_cons.2 ⟨fun hm => ?_, g1⟩, by simp [g2], fun x hx => ?_⟩
    · have := (g3 v hm).2
      omega
    · rcases List.mem_cons.1 hx with rfl | hx
      · exact ⟨⟨h0, h1⟩, by omega⟩
      · have := g3 x hx
        exact ⟨this.1, by omega⟩
theorem Dist.top {n : Nat} {ed : Int → Int → Prop} {fr d : List Int} (h : Dist n ed fr d) {v : Int} (h0 : 0 ≤ v) (h1 : v < n) : d.getD v.toNat (-1) < n := by
  rcases Int.lt_or_le (d.getD v.toNat (-1)) 0 with hl | hl
  · omega
  · obtain ⟨L, g1, g2, g3⟩ := h.chain (d.getD v.toNat (-1)).toNat v h0 h1 (by omega)
    have := nodup_bound g1 (fun x hx => (g3 x hx).1)
    omega

/-- The least number with a property. -/
def leastN (n : Nat) (p : Int → Bool) : Int := match (List.range n).find? (fun (w : Nat) => p w) with
  | some w => w
  | none => 0
theorem leastN_eq {n : Nat} {p : Int → Bool} {x : Int} (h0 : 0 ≤ x) (h1 : x < n) (hp : p x = true) (hb : ∀ y : Int, 0 ≤ y → y < x → p y = false) : leastN n p = x := by
  have : (List.range n).find? (fun (w : Nat) => p w) = some x.toNat := by
    rw [List.find?_eq_some_iff_getElem]
    refine ⟨by rw [Int.toNat_of_nonneg h0]; exact hp, x.toNat, by rw [List.length_range]; omega, by simp, fun j hj => ?_⟩
    rw [List.getElem_range, hb j (by omega) (by omega)]
    rfl
  unfold leastN
  rw [this]
  show ((x.toNat : Nat) : Int) = x
  omega
theorem leastN_of {n : Nat} {p : Int → Bool} {x : Int} (h0 : 0 ≤ x) (h1 : x < n) (hp : p x = true) : 0 ≤ leastN n p ∧ leastN n p < n ∧ p (leastN n p) = true := by
  unfold leastN
  cases hf : (List.range n).find? (fun (w : Nat) => p w) with
  | none =>
    rw [List.find?_eq_none] at hf
    exact absurd (by rw [Int.toNat_of_nonneg h0]; exact hp) (hf x.toNat (List.mem_range.2 (by omega)))
  | some w =>
    have h2 := List.find?_some hf
    have h3 := List.mem_range.1 (List.mem_of_find?_eq_some hf)
    exact ⟨by show 0 ≤ (w : Int); omega, by show (w : Int) < n; omega, h2⟩
theorem leastN_lt {n : Nat} {p : Int → Bool} {y : Int} (h0 : 0 ≤ y) (_h1 : y < n) (h : y < leastN n p) : p y = false := by
  unfold leastN at h
  cases hf : (List.range n).find? (fun (w : Nat) => p w) with
  | none =>
    rw [hf] at h
    have : y < 0 := h
    omega
  | some w =>
    rw [hf] at h
    have h : y < (w : Int) := h
    rw [List.find?_eq_some_iff_getElem] at hf
    obtain ⟨_, i, hi, hw, hb⟩ := hf
    rw [List.length_range] at hi
    rw [List.getElem_range] at hw
    have := hb y.toNat (by omega)
    rw [List.getElem_range, Int.toNat_of_nonneg h0] at this
    simpa using this
/-- One step nearer. -/
def nearer (d : List Int) (v w : Int) : Bool := decide (d.getD w.toNat (-1) = d.getD v.toNat (-1) - 1)
def pstep (n : Nat) (es : List (Int × Int)) (d : List Int) (v : Int) : Int := leastN n fun w => nearer d v w && decide ((v, w) ∈ es)
theorem pstep_ok {n : Nat} {es : List (Int × Int)} {fr d : List Int} (h : Dist n (fun v u => (v, u) ∈ es) fr d) {v : Int} (h0 : 0 ≤ v) (h1 : v < n) (hp : 0 < d.getD v.toNat (-1)) : (0 ≤ pstep n es d v ∧ pstep n es d v < n) ∧ d.getD (pstep n es d v).toNat (-1) = d.getD v.toNat (-1) - 1 ∧ (v, pstep n es d v) ∈ es := by
  obtain ⟨u, e1, e2, e3, e4⟩ := h.back v h0 h1 hp
  obtain ⟨g1, g2, g3⟩ := leastN_of (n := n) (p := fun w => nearer d v w && decide ((v, w) ∈ es)) e2 e3 (by simp only [nearer, e1, e4, decide_true, Bool.and_self])
  rw [Bool.and_eq_true, decide_eq_true_eq] at g3
  unfold nearer at g3
  rw [decide_eq_true_eq] at g3
  exact ⟨⟨g1, g2⟩, g3.1, g3.2⟩
/-- The step as one finds it among the successors. -/
theorem pstep_idx {n : Nat} {es : List (Int × Int)} {fr d : List Int} (h : Dist n (fun v u => (v, u) ∈ es) fr d) (hg : inG n es) {v : Int} (h0 : 0 ≤ v) (h1 : v < n) (hp : 0 < d.getD v.toNat (-1)) : 0 ≤ idxP (nearer d v) (nxt (succs n es) v) ∧ (nxt (succs n es) v)[(idxP (nearer d v) (nxt (succs n es) v)).toNat]? = some (pstep n es d v) := by
  have hm : ∀ x, x ∈ nxt (succs n es) v ↔ (v, x) ∈ es := fun x => nxt_succs hg h0
  have ha : (nxt (succs n es) v).Pairwise (· < ·) := by
    unfold nxt
    cases hs : (succs n es)[v.toNat]? with
    | none => simp [hs]
    | some l =>
      simp only [List.getD_eq_getElem?_getD, hs, Option.getD_some]
      obtain ⟨w, _, rfl⟩ := List.mem_map.1 (List.mem_of_getElem? hs)
      exact uniqs_asc _
  obtain ⟨⟨a1, a2⟩, a3, a4⟩ := pstep_ok h h0 h1 hp
  have hin := (hm _).2 a4
  have hpx : nearer d v (pstep n es d v) = true := by simp only [nearer, a3, decide_true]
  obtain ⟨i, hi, hx⟩ := List.getElem_of_mem hin
  have hf : (nxt (succs n es) v).findIdx? (nearer d v) = some i := by
    rw [List.findIdx?_eq_some_iff_getElem]
    refine ⟨hi, by rw [hx]; exact hpx, fun j hj => ?_⟩
    have hlt := List.pairwise_iff_getElem.1 ha j i (by omega) hi hj
    have hin2 := (hm _).1 (List.getElem_mem (l := nxt (succs n es) v) (n := j) (by omega))
    have hr := (hg _ hin2).2
    rw [hx] at hlt
    have := leastN_lt hr.1 hr.2 hlt
    simp only [hin2, decide_true, Bool.and_true] at this
    rw [this]
    exact Bool.false_ne_true
  have : idxP (nearer d v) (nxt (succs n es) v) = i := by unfold idxP; rw [hf]
  rw [this]
  exact ⟨by omega, by rw [Int.toNat_natCast, List.getElem?_eq_getElem hi, hx]⟩
/-- The path's vertices. -/
def walkP (n : Nat) (es : List (Int × Int)) (d : List Int) (v : Int) : Nat → Int
  | 0 => v
  | k + 1 => pstep n es d (walkP n es d v k)
theorem walkP_ok {n : Nat} {es : List (Int × Int)} {fr d : List Int} (h : Dist n (fun v u => (v, u) ∈ es) fr d) {v : Int} (h0 : 0 ≤ v) (h1 : v < n) (k : Nat) (hk : (k : Int) ≤ d.getD v.toNat (-1)) : (0 ≤ walkP n es d v k ∧ walkP n es d v k < n) ∧ d.getD (walkP n es d v k).toNat (-1) = d.getD v.toNat (-1) - k := by
  induction k with
  | zero => exact ⟨⟨h0, h1⟩, by simp [walkP]⟩
  | succ k ih =>
    obtain ⟨⟨g1, g2⟩, g3⟩ := ih (by omega)
    obtain ⟨a1, a3, _⟩ := pstep_ok h g1 g2 (by omega)
    exact ⟨a1, by show d.getD (pstep n es d (walkP n es d v k)).toNat (-1) = _; omega⟩
def pathTo (n : Nat) (es : List (Int × Int)) (d : List Int) (v : Int) (k : Nat) : List Int := (List.range (k + 1)).map (walkP n es d v)
theorem pathTo_succ (n : Nat) (es : List (Int × Int)) (d : List Int) (v : Int) (k : Nat) : pathTo n es d v k ++ [pstep n es d (walkP n es d v k)] = pathTo n es d v (k + 1) := by
  unfold pathTo
  rw [List.range_succ (n := k + 1), List.map_append]
  rfl
theorem pathTo_len (n : Nat) (es : List (Int × Int)) (d : List Int) (v : Int) (k : Nat) : (pathTo n es d v k).length = k + 1 := by simp [pathTo]
/-- The path, and the error of Path. -/
def pathG (n : Nat) (es : List (Int × Int)) (d : List Int) (v : Int) : List Int := pathTo n es d v (d.getD v.toNat (-1)).toNat
end Go.Pv

/-
  Chapter 05: paths.
-/
namespace Go.Pv
theorem r117b (g t u w : Nat) (cs ds : List PV) (l : List Int) (p : Int → Bool) (hl : l.length ≤ 2 ^ 63 - 1) (hi : inls A g = false) (hp : PrA g = none) (ht : takes A g = false) (hf : ∀ x ∈ l, res A PrA g [.int .i64 x, .ro u cs, .ro w ds] = some [.bool (p x)]) : res A PrA 117 [.lst t (ints l), .func g [.ro u cs, .ro w ds]] = some [.int .i64 (idxP p l)] := by
  refine res_of a117 rfl rfl ?_
  simp only [F117]
  simp (disch := omega) only [go_sem]
  refine W.find l p (fun k => ⟨[(0, .pv (.lst t (ints l))), (1, .pv (.func g [.ro u cs, .ro w ds])), (7, .pv (.int .i64 l.length)), (8, .pv (.int .i64 k))], ⟨[], [], []⟩⟩) rfl (fun k x hx hk hfd => ?_) (fun hn => ?_)
  · have hfx := hf x (List.mem_of_getElem? hx)
    simp (disch := omega) only [go_sem]
    refine Br.ofP (fun h => ?_) (fun h => (h (by omega)).elim)
    simp (disch := omega) only [go_sem, hx, CW_none hi hp ht, hfx]
    refine Br.of (fun h2 => ?_) (fun h2 => ?_) <;> simp (disch := omega) only [go_sem]
    · rw [(hfd h2).idxP]
    · exact findK.of h2 rfl
  · simp (disch := omega) only [go_sem]
    rw [hn.idxP]
theorem r368 (u w t : Nat) (x v : Int) (d : List Int) (hx : 0 ≤ x ∧ x < d.length) (hv : 0 ≤ v ∧ v < d.length) (hb : 0 ≤ d.getD v.toNat (-1) ∧ d.getD v.toNat (-1) ≤ 2000000000) : res A PrA 368 [.int .i64 x, .ro u [.lst t (ints d)], .ro w [.int .i64 v]] = some [.bool (nearer d v x)] := by
  refine res_of a368 rfl rfl ?_
  simp only [F368]
  have h1 : d[x.toNat]? = some (d.getD x.toNat (-1)) := by
    have : x.toNat < d.length := by omega
    simp [this]
  have h2 : d[v.toNat]? = some (d.getD v.toNat (-1)) := by
    have : v.toNat < d.length := by omega
    simp [this]
  unfold nearer
  generalize d.getD x.toNat (-1) = dx at *
  generalize d.getD v.toNat (-1) = dv at *
  simp (disch := omega) only [go_sem, idxR_int, h1, h2]
set_option maxHeartbeats 4000000 in
/-- Path. -/
theorem r351 (t : Nat) (n : Int) (es : List (Int × Int)) (a b : Int) (hn : n ≤ 12 ∨ 2000 < n) (hl : es.length ≤ 2 ^ 63 - 1) : res A PrA 351 [.int .i64 n, .lst t (prs es), .int .i64 a, .int .i64 b] = some (if gErrL n es [a, b] = 0 then (if (distsTo n.toNat es [b]).getD a.toNat (-1) < 0 then [.lst 0 [], .int .i64 4] else [.lst 0 (ints (pathG n.toNat es (distsTo n.toNat es [b]) a)), .int .i64 0]) else [.lst 0 [], .int .i64 (gErrL n es [a, b])]) := by
  refine res_of a351 rfl rfl ?_
  simp only [F351]
  have h112 := r112 t 0 n es [a, b] hl (by show 2 ≤ 2 ^ 63 - 1; decide)
  have i2 : ints [a, b] = [[PV.int .i64 a], [PV.int .i64 b]] := rfl
  have i1 : ints [b] = [[PV.int .i64 b]] := rfl
  rw [i2] at h112
  simp (disch := omega) only [go_sem, h112]
  refine Br.ofP (fun h1 => ?_) (fun h1 => ?_) <;> simp (disch := omega) only [go_sem, h1]
  rw [if_pos h1]
  obtain ⟨g1, g2⟩ := gErrL_zero h1
  obtain ⟨f1, f2, f3, f4⟩ := gErr_zero g1
  obtain ⟨m, rfl⟩ := Int.eq_ofNat_of_zero_le f1
  rw [Int.toNat_natCast] at f4 ⊢
  have f5 := inG_swap f4
  have ha := g2 a (by simp)
  have hb := g2 b (by simp)
  have hsl : (es.map swapP).length = es.length := List.length_map _
  have h115' := r115 0 m (es.map swapP) (by omega) (by omega) f5
  have h115 := r115 t m es (by omega) (by omega) f4
  have hok' := succs_ok f5 (by omega)
  have hok := succs_ok f4 (by omega)
  have h114 := r114 0 0 m (succs m (es.map swapP)) [b] (by omega) (succs_len _ _) hok' (fun x hx => by rw [List.mem_singleton.1 hx]; exact hb) (by show 1 ≤ 2000000000; decide)
  rw [i1] at h114
  have hD := distsTo_dist (to := [b]) f4 (by omega) (fun x hx => by rw [List.mem_singleton.1 hx]; exact hb)
  have e1 : levels (nxt (succs m (es.map swapP))) m [b] = distsTo m es [b] := rfl
  rw [e1] at h114
  generalize distsTo m es [b] = d at *
  have hdl := hD.len
  have had : d[a.toNat]? = some (d.getD a.toNat (-1)) := by
    have : a.toNat < d.length := by omega
    simp [this]
  have htop := hD.top ha.1 ha.2
  have hw := fun k => walkP_ok hD ha.1 ha.2 k
  have hs0 : pathG m es d a = pathTo m es d a (d.getD a.toNat (-1)).toNat := rfl
  generalize hda : d.getD a.toNat (-1) = da at *
  simp (disch := omega) only [go_sem, h115', h114, idxR_int, had]
  refine Br.ofP (fun h2 => ?_) (fun h2 => ?_) <;> simp (disch := omega) only [go_sem, h2, h115]
  rw [if_neg h2]
  obtain ⟨D, rfl⟩ := Int.eq_ofNat_of_zero_le (by omega : 0 ≤ da)
  rw [Int.toNat_natCast] at hs0
  have hp0 : pathTo m es d a 0 = [a] := rfl
  refine W.upto D (fun k => ⟨[(3, .pv (.int .i64 b)), (11, .ptr 11 0), (12, .pv (.lst 0 (lls (succs m es)))), (13, glV 0 1 (ints (pathTo m es d a k))), (14, .ptr 14 0)], ⟨[(11, [.pv (.lst 0 (ints d))]), (14, [.pv (.int .i64 (walkP m es d a k))])], glA 1 1 (ints (pathTo m es d a k)), []⟩⟩) (fun _ => True) rfl trivial fun k hk _ => ?_
  obtain ⟨hw1, hw2⟩ := hw k (by omega)
  have hz := hD.zero _ hw1.1 hw1.2
  rw [hw2, List.mem_singleton] at hz
  have hpl := pathTo_len m es d a k
  have hps := pathTo_succ m es d a k
  have hxw : walkP m es d a (k + 1) = pstep m es d (walkP m es d a k) := rfl
  generalize walkP m es d a k = x at *
  simp (disch := omega) only [go_sem]
  refine Br.ofP (fun c => ?_) (fun c => ?_) <;> simp (disch := omega) only [go_sem, c]
  · have hkD : k = D := by have := hz.2 c; omega
    subst hkD
    rw [hs0]
  · have hkD : k < D := by
      have := fun e => c (hz.1 e)
      omega
    have hp := pstep_ok hD hw1.1 hw1.2 (by omega)
    obtain ⟨q1, q2⟩ := pstep_idx hD f4 hw1.1 hw1.2 (by omega)
    have hsv : (succs m es)[x.toNat]? = some (nxt (succs m es) x) := by
      have : x.toNat < (succs m es).length := by rw [succs_len]; omega
      simp [nxt, this]
    have hln := (hok _ (List.mem_of_getElem? hsv)).1
    have h117 := fun u1 u2 t => r117b 368 t u1 u2 [.lst 0 (ints d)] [.int .i64 x] (nxt (succs m es) x) (nearer d x) (by omega) (by kernel_rfl) (by kernel_rfl) (by kernel_rfl) (fun y hy => r368 u1 u2 0 y x d (by have := nxt_in hok _ _ hy; omega) (by omega) (by omega))
    generalize nxt (succs m es) x = l at *
    generalize idxP (nearer d x) l = j at *
    generalize pstep m es d x = y at *
    simp (disch := omega) only [go_sem, idxR_int, hsv, h117, q2]
    generalize pathTo m es d a k = q at *
    have hil : (ints q).length = k + 1 := by rw [ints_length, hpl]
    have hns : glV 0 1 (ints (q ++ [y])) = .own 0 k 0 (k + 2) ∧ glA 1 1 (ints (q ++ [y])) = [⟨k, 1, .inl (ints (q ++ [y]))⟩] := by
      rw [glV_own (m := k) (by rw [ints_length, List.length_append, hpl]; simp; omega), glA_own (m := k) (by rw [ints_length, List.length_append, hpl]; simp; omega)]
      exact ⟨by rw [show 1 + k + 1 = k + 2 by omega], rfl⟩
    cases k with
    | zero =>
      rw [glV_lit (by omega), glA_lit (by omega)]
      simp (disch := omega) only [go_sem]
      refine .of (by omega) ?_ trivial
      rw [← hps, hxw, hns.1, hns.2, hpl]
    | succ k =>
      rw [glV_own (m := k) (by omega), glA_own (m := k) (by omega)]
      simp (disch := omega) only [go_sem]
      refine .of (by omega) ?_ trivial
      rw [← hps, hxw, hns.1, hns.2]
      rw [show 1 + k + 1 + 1 = k + 1 + 2 by omega]
/-- Has, of the document. -/
theorem r369 (t : Nat) (es : List (Int × Int)) (v w : Int) (hl : es.length ≤ 2000000000) : res A PrA 369 [.lst t (prs es), .int .i64 v, .int .i64 w] = some [.bool (decide ((v, w) ∈ es))] := by
  refine res_of a369 rfl rfl ?_
  simp only [F369]
  simp (disch := omega) only [go_sem]
  refine W.find es (fun e => decide (e.1 = v) && decide (e.2 = w)) (fun k => ⟨[(0, .pv (.lst t (prs es))), (1, .pv (.int .i64 v)), (2, .pv (.int .i64 w)), (7, .pv (.int .i64 k))], ⟨[], [], []⟩⟩) rfl (fun k x hx hk hfd => ?_) (fun hn => ?_)
  · simp (disch := omega) only [go_sem]
    refine Br.ofP (fun h => ?_) (fun h => (h (by omega)).elim)
    simp (disch := omega) only [go_sem, hx]
    by_cases c1 : x.1 = v
    · have d1 : decide (x.1 = v) = true := by simp [c1]
      by_cases c2 : x.2 = w
      · have d2 : decide (x.2 = w) = true := by simp [c2]
        simp (disch := omega) only [go_sem, d1, d2, hx]
        have : (v, w) ∈ es := by rw [← c1, ← c2]; exact List.mem_of_getElem? hx
        simp [this]
      · have d2 : decide (x.2 = w) = false := by simp [c2]
        simp (disch := omega) only [go_sem, d1, d2, hx]
        exact findK.of (by rw [d1, d2]; rfl) rfl
    · have d1 : decide (x.1 = v) = false := by simp [c1]
      simp (disch := omega) only [go_sem, d1]
      exact findK.of (by rw [d1]; rfl) rfl
  · simp (disch := omega) only [go_sem]
    have : (v, w) ∉ es := fun hm => by
      have := List.any_eq_false.1 hn.any (v, w) hm
      simp at this
    simp [this]
end Go.Pv

/-
  Chapter 05: the law of Path.
-/
namespace Go.Pv
end Go.Pv

/-
  Plain laws: the first topological order.
-/
namespace Go.Pv

/-- A vertex that may stand next: behind all from which an edge leads to it. -/
def ready (es : List (Int × Int)) (L : List Int) (v : Int) : Bool := !L.contains v && es.all fun e => !decide (e.2 = v) || L.contains e.1
def topF (n : Nat) (es : List (Int × Int)) : Nat → Option (List Int)
  | 0 => some []
  | k + 1 => (topF n es k).bind fun L => if (List.range n).any (fun (v : Nat) => ready es L v) = true then some (L ++ [leastN n (ready es L)]) else none
structure TopOk (n : Nat) (es : List (Int × Int)) (k : Nat) (L : List Int) : Prop where
  len : L.length = k
  inn : ∀ v ∈ L, 0 ≤ v ∧ v < (n : Int)
  nd : L.Nodup
  ord : ∀ (i : Nat) (e : Int × Int), e ∈ es → L[i]? = some e.2 → e.1 ∈ L.take i
theorem ready_iff {es : List (Int × Int)} {L : List Int} {v : Int} : ready es L v = true ↔ v ∉ L ∧ ∀ e ∈ es, e.2 = v → e.1 ∈ L := by
  unfold ready
  rw [Bool.and_eq_true, List.all_eq_true]
  constructor
  · rintro ⟨h1, h2⟩
    refine ⟨by simpa using h1, fun e he hv => ?_⟩
    have := h2 e he
    simpa [hv] using this
  · rintro ⟨h1, h2⟩
    refine ⟨by simpa using h1, fun e he => ?_⟩
    by_cases hv : e.2 = v
    · simp [hv, h2 e he hv]
    · simp [hv]
theorem least_ready {n : Nat} {es : List (Int × Int)} {L : List Int} (h : (List.range n).any (fun (v : Nat) => ready es L v) = true) : 0 ≤ leastN n (ready es L) ∧ leastN n (ready es L) < n ∧ ready es L (leastN n (ready es L)) = true := by
  obtain ⟨v, hv, hr⟩ := List.any_eq_true.1 h
  exact leastN_of (x := (v : Int)) (by omega) (by have := List.mem_range.1 hv; omega) hr
theorem topF_ok {n : Nat} {es : List (Int × Int)} : ∀ {k : Nat} {L : List Int}, topF n es k = some L → TopOk n es k L
  | 0, L, h => by
    cases h
    exact ⟨rfl, fun v hv => (by cases hv), by simp, fun i e _ h => by simp at h⟩
  | k + 1, L, h => by
    simp only [topF, Option.bind_eq_some_iff] at h
    obtain ⟨M, hM, h⟩ := h
    have ok := topF_ok hM
    split at h
    · rename_i hr
      cases h
      obtain ⟨a1, a2, a3⟩ := least_ready hr
      obtain ⟨b1, b2⟩ := ready_iff.1 a3
      refine ⟨by rw [List.length_append, ok.len]; rfl, fun v hv => ?_, ?_, fun i e he hi => ?_⟩
      · rcases List.mem_append.1 hv with hv | hv
        · exact ok.inn v hv
        · rw [List.mem_singleton.1 hv]
          exact ⟨a1, a2⟩
      · rw [List.nodup_append]
        exact ⟨ok.nd, by simp, fun x hx y hy e => b1 (by rw [← List.mem_singleton.1 hy, ← e]; exact hx)⟩
      · rcases Nat.lt_or_ge i M.length with hl | hl
        · rw [List.getElem?_append_left hl] at hi
          have := ok.ord i e he hi
          rw [List.take_append_of_le_length (by omega)]
          exact this
        · rw [List.getElem?_append_right hl] at hi
          have hi0 : i - M.length = 0 := by
            rcases Nat.lt_or_ge (i - M.length) 1 with q | q
            · omega
            · rw [List.getElem?_eq_none (by simpa using q)] at hi
              cases hi
          rw [hi0] at hi
          have hi : leastN n (ready es M) = e.2 := by simpa using hi
          have := b2 e he hi.symm
          rw [show i = M.length by omega, List.take_left']
          · exact this
          · rfl
    · cases h
/-- There is a cycle: an edge whose end leads to its start. -/
def Cyc (n : Nat) (es : List (Int × Int)) : Prop := ∃ e ∈ es, 0 ≤ (distsTo n es [e.1]).getD e.2.toNat (-1)
theorem top_acyclic {n : Nat} {es : List (Int × Int)} {L : List Int} (hg : inG n es) (hl : es.length ≤ 100000) (h : topF n es n = some L) : ¬ Cyc n es := by
  rintro ⟨e, he, hd⟩
  have ok := topF_ok h
  have hi := hg e he
  have hD := distsTo_dist (to := [e.1]) hg hl (fun x hx => by rw [List.mem_singleton.1 hx]; exact hi.1)
  have all : ∀ v : Int, 0 ≤ v → v < n → v ∈ L := fun v h0 h1 => by
    rcases Classical.em (v ∈ L) with hv | hv
    · exact hv
    · have := nodup_bound (l := v :: L) (n := n) (List.nodup_cons.2 ⟨hv, ok.nd⟩) (fun x hx => by
        rcases List.mem_cons.1 hx with rfl | hx
        · exact ⟨h0, h1⟩
        · exact ok.inn x hx)
      rw [List.length_cons, ok.len] at this
      omega
  have same : ∀ (i j : Nat) (x : Int), L[i]? = some x → L[j]? = some x → i = j := fun i j x h1 h2 => by
    obtain ⟨i1, rfl⟩ := List.getElem?_eq_some_iff.1 h1
    obtain ⟨j1, e2⟩ := List.getElem?_eq_some_iff.1 h2
    exact (List.getElem_inj ok.nd).1 e2.symm
  have key : ∀ (k : Nat) (v : Int) (i : Nat), 0 ≤ v → v < n → (distsTo n es [e.1]).getD v.toNat (-1) = k → L[i]? = some v → ∃ j, i ≤ j ∧ L[j]? = some e.1 := by
    intro k
    induction k with
    | zero =>
      intro v i h0 h1 hk hL
      have := (hD.zero v h0 h1).1 hk
      rw [List.mem_singleton.1 this] at hL
      exact ⟨i, Nat.le_refl _, hL⟩
    | succ k ih =>
      intro v i h0 h1 hk hL
      obtain ⟨w, e1, e2, e3, e4⟩ := hD.back v h0 h1 (by omega)
      obtain ⟨i2, hi2, hw⟩ := List.getElem_of_mem (all w e2 e3)
      have hw' : L[i2]? = some w := by rw [List.getElem?_eq_getElem hi2, hw]
      have hv := ok.ord i2 (v, w) e1 hw'
      obtain ⟨i3, hi3, hv3⟩ := List.getElem_of_mem hv
      rw [List.getElem_take] at hv3
      rw [List.length_take] at hi3
      have : i = i3 := same i i3 v hL (by rw [List.getElem?_eq_getElem (by omega), hv3])
      obtain ⟨j, hj1, hj2⟩ := ih w i2 e2 e3 (by omega) hw'
      exact ⟨j, by omega, hj2⟩
  obtain ⟨i, hil, hiv⟩ := List.getElem_of_mem (all e.2 hi.2.1 hi.2.2)
  have hiv' : L[i]? = some e.2 := by rw [List.getElem?_eq_getElem hil, hiv]
  obtain ⟨j, hj1, hj2⟩ := key ((distsTo n es [e.1]).getD e.2.toNat (-1)).toNat e.2 i hi.2.1 hi.2.2 (by omega) hiv'
  have hu := ok.ord i e he hiv'
  obtain ⟨i3, hi3, hv3⟩ := List.getElem_of_mem hu
  rw [List.getElem_take] at hv3
  rw [List.length_take] at hi3
  have := same j i3 e.1 hj2 (by rw [List.getElem?_eq_getElem (by omega), hv3])
  omega
/-- Not all numbers are apart. -/
theorem repeated {n : Nat} (f : Nat → Int) (h : ∀ i, 0 ≤ f i ∧ f i < (n : Int)) : ∃ i j, i < j ∧ f i = f j := by
  rcases Classical.em (((List.range (n + 1)).map f).Nodup) with hd | hd
  · have := nodup_bound (n := n) hd (fun x hx => by
      obtain ⟨i, _, rfl⟩ := List.mem_map.1 hx
      exact h i)
    rw [List.length_map, List.length_range] at this
    omega
  · rw [List.nodup_iff_pairwise_ne, List.pairwise_iff_getElem] at hd
    simp only [Classical.not_forall] at hd
    obtain ⟨i, j, hi, hj, hij, e⟩ := hd
    rw [ne_eq, Classical.not_not] at e
    simp only [List.getElem_map, List.getElem_range] at e
    exact ⟨i, j, hij, e⟩
theorem stuck_cyclic {n : Nat} {es : List (Int × Int)} {k : Nat} {L : List Int} (hg : inG n es) (hl : es.length ≤ 100000) (hL : topF n es k = some L) (hk : k < n) (hs : (List.range n).any (fun (v : Nat) => ready es L v) = false) : Cyc n es := by
  have ok := topF_ok hL
  have hpre : ∀ v : Int, 0 ≤ v → v < n → v ∉ L → ∃ u, (u, v) ∈ es ∧ u ∉ L := fun v h0 h1 hv => by
    have := List.any_eq_false.1 hs v.toNat (List.mem_range.2 (by omega))
    rw [Int.toNat_of_nonneg h0, ready_iff] at this
    rcases Classical.em (∃ u, (u, v) ∈ es ∧ u ∉ L) with h | h
    · exact h
    · refine absurd ⟨hv, fun e he hev => ?_⟩ this
      rcases Classical.em (e.1 ∈ L) with q | q
      · exact q
      · exact absurd ⟨e.1, by rw [← hev]; exact he, q⟩ h
  have hex : ∃ v : Int, 0 ≤ v ∧ v < n ∧ v ∉ L := by
    rcases Classical.em (∃ v : Int, 0 ≤ v ∧ v < n ∧ v ∉ L) with h | h
    · exact h
    · have hsub : ∀ x ∈ (List.range n).map Int.ofNat, x ∈ L := fun x hx => by
        obtain ⟨i, hi, rfl⟩ := List.mem_map.1 hx
        have := List.mem_range.1 hi
        rcases Classical.em (Int.ofNat i ∈ L) with q | q
        · exact q
        · exact absurd ⟨Int.ofNat i, by show 0 ≤ (i : Int); omega, by show (i : Int) < n; omega, q⟩ h
      have hd : ((List.range n).map Int.ofNat).Nodup := by
        rw [List.nodup_iff_pairwise_ne, List.pairwise_map]
        exact List.nodup_range.imp (fun h e => h (Int.ofNat.inj e))
      have := List.Nodup.length_le_of_subset hd hsub
      rw [List.length_map, List.length_range, ok.len] at this
      omega
  obtain ⟨v0, h0, h1, h2⟩ := hex
  let T := {v : Int // (0 ≤ v ∧ v < n) ∧ v ∉ L}
  have hnx : ∀ x : T, ∃ y : T, (y.1, x.1) ∈ es := fun x => by
    obtain ⟨u, hu, hn⟩ := hpre x.1 x.2.1.1 x.2.1.2 x.2.2
    exact ⟨⟨u, (hg _ hu).1, hn⟩, hu⟩
  let f : Nat → T := fun i => Nat.rec ⟨v0, ⟨h0, h1⟩, h2⟩ (fun _ x => Classical.choose (hnx x)) i
  have hf : ∀ i, ((f (i + 1)).1, (f i).1) ∈ es := fun i => Classical.choose_spec (hnx (f i))
  obtain ⟨i, j, hij, e⟩ := repeated (n := n) (fun i => (f i).1) (fun i => (f i).2.1)
  refine ⟨_, hf i, ?_⟩
  have hr := (f (i + 1)).2.1
  have hD := distsTo_dist (to := [(f (i + 1)).1]) hg hl (fun x hx => by rw [List.mem_singleton.1 hx]; exact hr)
  have key : ∀ m, 0 ≤ (distsTo n es [(f (i + 1)).1]).getD (f (i + 1 + m)).1.toNat (-1) := by
    intro m
    induction m with
    | zero =>
      have := (hD.zero _ hr.1 hr.2).2 (List.mem_singleton.2 rfl)
      show 0 ≤ (distsTo n es [(f (i + 1)).1]).getD (f (i + 1)).1.toNat (-1)
      omega
    | succ m ih =>
      have a := (f (i + 1 + m)).2.1
      have b := (f (i + 1 + m + 1)).2.1
      exact (hD.step _ _ (hf (i + 1 + m)) ⟨b.1, b.2, a.1, a.2⟩ ih).1
  have := key (j - (i + 1))
  rw [show i + 1 + (j - (i + 1)) = j by omega] at this
  show 0 ≤ (distsTo n es [(f (i + 1)).1]).getD (f i).1.toNat (-1)
  have e : (f i).1 = (f j).1 := e
  rw [e]
  exact this
end Go.Pv

/-
  Plain laws: the counts of what is to come before.
-/
namespace Go.Pv

def bump (c : Int) (d : List Int) (x : Int) : List Int := d.set x.toNat (d.getD x.toNat (-1) + c)
theorem bump_fold (c : Int) : ∀ (r : List Int) (d : List Int), (∀ x ∈ r, 0 ≤ x ∧ x < (d.length : Int)) → (r.foldl (bump c) d).length = d.length ∧ ∀ v : Nat, v < d.length → (r.foldl (bump c) d).getD v (-1) = d.getD v (-1) + c * (r.count (v : Int))
  | [], d, _ => ⟨rfl, fun v _ => by simp⟩
  | x :: r, d, h => by
    have hx := h x (by simp)
    have hl : (bump c d x).length = d.length := List.length_set
    obtain ⟨h1, h2⟩ := bump_fold c r (bump c d x) (fun y hy => by rw [hl]; exact h y (by simp [hy]))
    refine ⟨by rw [List.foldl_cons, h1, hl], fun v hv => ?_⟩
    rw [List.foldl_cons, h2 v (by rw [hl]; exact hv), List.count_cons]
    unfold bump
    by_cases e : x = (v : Int)
    · subst e
      rw [Int.toNat_natCast]
      have : (d.set v (d.getD v (-1) + c)).getD v (-1) = d.getD v (-1) + c := by simp [hv]
      rw [this]
      simp only [beq_self_eq_true, if_true, Int.natCast_add, Int.mul_add]
      omega
    · have hne : x.toNat ≠ v := by omega
      have : (d.set x.toNat (d.getD x.toNat (-1) + c)).getD v (-1) = d.getD v (-1) := by
        simp only [List.getD_eq_getElem?_getD, List.getElem?_set_ne hne]
      rw [this]
      have hb : (x == (v : Int)) = false := by simp [e]
      simp only [hb, if_neg Bool.false_ne_true, Nat.add_zero]

/-- How many lead to v. -/
def pendF (f : Nat → Nat) (n : Nat) : Nat := ((List.range n).map f).sum
theorem pendF_succ (f : Nat → Nat) (n : Nat) : pendF f (n + 1) = pendF f n + f n := by
  unfold pendF
  rw [List.range_succ, List.map_append, List.sum_append]
  simp
theorem pendF_congr {f g : Nat → Nat} : ∀ {n : Nat}, (∀ u, u < n → f u = g u) → pendF f n = pendF g n
  | 0, _ => rfl
  | n + 1, h => by rw [pendF_succ, pendF_succ, pendF_congr (fun u hu => h u (by omega)), h n (by omega)]
theorem pendF_drop {f g : Nat → Nat} {x : Nat} : ∀ {n : Nat}, x < n → (∀ u, u < n → u ≠ x → f u = g u) → g x = 0 → pendF f n = pendF g n + f x
  | 0, h, _, _ => by omega
  | n + 1, hx, h, h0 => by
    rw [pendF_succ, pendF_succ]
    rcases Nat.lt_or_ge x n with q | q
    · rw [pendF_drop q (fun u hu => h u (by omega)) h0, h n (by omega) (by omega)]
      omega
    · obtain rfl : x = n := by omega
      rw [pendF_congr (fun u hu => h u (by omega) (by omega)), h0]
      omega
theorem pendF_zero {f : Nat → Nat} : ∀ {n : Nat}, pendF f n = 0 ↔ ∀ u, u < n → f u = 0
  | 0 => by simp [pendF]
  | n + 1 => by
    rw [pendF_succ, Nat.add_eq_zero_iff, pendF_zero]
    constructor
    · rintro ⟨h1, h2⟩ u hu
      rcases Nat.lt_or_ge u n with q | q
      · exact h1 u q
      · rw [show u = n by omega]
        exact h2
    · exact fun h => ⟨fun u hu => h u (by omega), h n (by omega)⟩
theorem pendF_le {f : Nat → Nat} {m : Nat} : ∀ {n : Nat}, (∀ u, u < n → f u ≤ m) → pendF f n ≤ m * n
  | 0, _ => by simp [pendF]
  | n + 1, h => by
    have h1 := pendF_le (f := f) (m := m) (n := n) (fun u hu => h u (by omega))
    have h2 := h n (by omega)
    rw [pendF_succ, Nat.mul_succ]
    omega
/-- What still comes before v. -/
def pend (rows : List (List Int)) (L : List Int) (v : Int) (u : Nat) : Nat := if (u : Int) ∈ L then 0 else (nxt rows u).count v
structure KInv (n : Nat) (rows : List (List Int)) (L : List Int) (d : List Int) : Prop where
  len : d.length = n
  val : ∀ v : Nat, v < n → d.getD v (-1) = if (v : Int) ∈ L then -1 else (pendF (pend rows L v) n : Int)
/-- The counts, after the first k rows. -/
structure CInv (n : Nat) (rows : List (List Int)) (k : Nat) (d : List Int) : Prop where
  len : d.length = n
  val : ∀ v : Nat, v < n → d.getD v (-1) = (pendF (pend rows [] v) k : Int)
theorem CInv.zero (n : Nat) (rows : List (List Int)) : CInv n rows 0 (List.replicate n 0) := ⟨by simp, fun v hv => by simp [pendF, hv]⟩
theorem CInv.succ {n : Nat} {rows : List (List Int)} {k : Nat} {d r : List Int} (h : CInv n rows k d) (hr : rows[k]? = some r) (hin : ∀ x ∈ r, 0 ≤ x ∧ x < (n : Int)) : CInv n rows (k + 1) (r.foldl (bump 1) d) := by
  obtain ⟨h1, h2⟩ := bump_fold 1 r d (by rw [h.len]; exact hin)
  refine ⟨by rw [h1, h.len], fun v hv => ?_⟩
  rw [h2 v (by rw [h.len]; exact hv), h.val v hv, pendF_succ]
  have : pend rows [] v k = r.count (v : Int) := by
    unfold pend nxt
    simp [hr]
  rw [this]
  omega
theorem CInv.done {n : Nat} {rows : List (List Int)} {d : List Int} (h : CInv n rows n d) : KInv n rows [] d := ⟨h.len, fun v hv => by rw [h.val v hv]; simp⟩

section
variable {n : Nat} {es : List (Int × Int)} (hg : inG n es)
include hg
theorem KInv.zero_iff {k : Nat} {L d : List Int} (h : KInv n (succs n es) L d) (_ok : TopOk n es k L) (v : Nat) (hv : v < n) : d.getD v (-1) = 0 ↔ ready es L v = true := by
  rw [h.val v hv, ready_iff]
  by_cases hL : (v : Int) ∈ L
  · rw [if_pos hL]
    constructor
    · intro q
      cases q
    · exact fun q => absurd hL q.1
  · rw [if_neg hL, Int.natCast_eq_zero, pendF_zero]
    constructor
    · refine fun q => ⟨hL, fun e he hev => ?_⟩
      have hi := (hg e he).1
      have := q e.1.toNat (by omega)
      unfold pend at this
      rw [Int.toNat_of_nonneg hi.1] at this
      rcases Classical.em (e.1 ∈ L) with g | g
      · exact g
      · rw [if_neg g, List.count_eq_zero] at this
        refine absurd ((nxt_succs hg hi.1).2 ?_) this
        rw [← hev]
        exact he
    · rintro ⟨_, q⟩ u hu
      unfold pend
      split
      · rfl
      · rename_i hu2
        rw [List.count_eq_zero]
        intro hm
        exact hu2 (q _ ((nxt_succs hg (by omega)).1 hm) rfl)
theorem KInv.step {k : Nat} {L d : List Int} (h : KInv n (succs n es) L d) (ok : TopOk n es k L) {x : Int} (h0 : 0 ≤ x) (h1 : x < n) (hr : ready es L x = true) : KInv n (succs n es) (L ++ [x]) ((nxt (succs n es) x).foldl (bump (-1)) (d.set x.toNat (-1))) := by
  obtain ⟨r1, r2⟩ := ready_iff.1 hr
  have hin : ∀ y ∈ nxt (succs n es) x, 0 ≤ y ∧ y < (n : Int) := fun y hy => (hg _ ((nxt_succs hg h0).1 hy)).2
  have hsl : (d.set x.toNat (-1)).length = n := by rw [List.length_set, h.len]
  obtain ⟨g1, g2⟩ := bump_fold (-1) (nxt (succs n es) x) (d.set x.toNat (-1)) (by rw [hsl]; exact hin)
  have hloop : (x, x) ∉ es := fun he => r1 (r2 _ he rfl)
  refine ⟨by rw [g1, hsl], fun v hv => ?_⟩
  rw [g2 v (by rw [hsl]; exact hv)]
  have hcnt : (v : Int) ∈ L ++ [x] → (nxt (succs n es) x).count (v : Int) = 0 := fun hm => by
    rw [List.count_eq_zero]
    intro hc
    have he := (nxt_succs hg h0).1 hc
    rcases List.mem_append.1 hm with hm | hm
    · obtain ⟨i, hi, hx⟩ := List.getElem_of_mem hm
      exact r1 (List.mem_of_mem_take (ok.ord i _ he (by rw [List.getElem?_eq_getElem hi, hx])))
    · rw [List.mem_singleton.1 hm] at he
      exact hloop he
  by_cases hvx : (v : Int) = x
  · have : x.toNat = v := by omega
    rw [if_pos (by simp [hvx]), hcnt (by simp [hvx]), this]
    have : (d.set v (-1)).getD v (-1) = -1 := by simp [h.len, hv]
    rw [this]
    simp
  · have hne : x.toNat ≠ v := by omega
    have hget : (d.set x.toNat (-1)).getD v (-1) = d.getD v (-1) := by
      rw [List.getD_eq_getElem?_getD, List.getD_eq_getElem?_getD, List.getElem?_set_ne hne]
    rw [hget, h.val v hv]
    by_cases hL : (v : Int) ∈ L
    · rw [if_pos hL, if_pos (by simp [hL]), hcnt (by simp [hL])]
      simp
    · rw [if_neg hL, if_neg (by simp [hL, hvx])]
      have hd := pendF_drop (f := pend (succs n es) L v) (g := pend (succs n es) (L ++ [x]) v) (x := x.toNat) (n := n) (by omega) (fun u _ hu => by
        have : (u : Int) ≠ x := by omega
        unfold pend
        simp [this]) (by
        unfold pend
        rw [Int.toNat_of_nonneg h0]
        simp)
      have hx : pend (succs n es) L v x.toNat = (nxt (succs n es) x).count (v : Int) := by
        unfold pend
        rw [Int.toNat_of_nonneg h0, if_neg r1]
      rw [hd, hx]
      omega
end
theorem atFrom_first {x : Int} : ∀ {l : List Int} {k j : Nat}, l[j]? = some x → (∀ i, i < j → l[i]? ≠ some x) → atFrom x k l = ((k + j : Nat) : Int)
  | [], k, j, h, _ => by simp at h
  | y :: r, k, 0, h, _ => by
    have : y = x := by simpa using h
    unfold atFrom
    rw [if_pos this]
    rfl
  | y :: r, k, j + 1, h, hb => by
    have hy : y ≠ x := fun e => hb 0 (by omega) (by simp [e])
    unfold atFrom
    rw [if_neg hy, atFrom_first (l := r) (k := k + 1) (j := j) (by simpa using h) (fun i hi => by simpa using hb (i + 1) (by omega))]
    omega
/-- The least 0 among the counts is the least that is ready. -/
theorem atL_least {n : Nat} {d : List Int} {p : Int → Bool} (hl : d.length = n) (h : ∀ v : Nat, v < n → (d.getD v (-1) = 0 ↔ p v = true)) : ((List.range n).any (fun (v : Nat) => p v) = true → atL 0 d = leastN n p) ∧ ((List.range n).any (fun (v : Nat) => p v) = false → atL 0 d < 0) := by
  constructor
  · intro ha
    obtain ⟨v, hv, hp⟩ := List.any_eq_true.1 ha
    have hv := List.mem_range.1 hv
    obtain ⟨a1, a2, a3⟩ := leastN_of (n := n) (x := (v : Int)) (by omega) (by omega) hp
    have hget : ∀ v : Nat, v < n → d[v]? = some (d.getD v (-1)) := fun v hv => by simp [hl, hv]
    have := atFrom_first (x := 0) (l := d) (k := 0) (j := (leastN n p).toNat) (by
      rw [hget _ (by omega), (h _ (by omega)).2 (by rw [Int.toNat_of_nonneg a1]; exact a3)]) (fun i hi => by
      rw [hget i (by omega)]
      intro e
      have := (h i (by omega)).1 (Option.some.inj e)
      rw [leastN_lt (n := n) (p := p) (y := (i : Int)) (by omega) (by omega) (by omega)] at this
      cases this)
    unfold atL
    rw [this]
    omega
  · intro ha
    rw [atL_neg]
    intro hm
    obtain ⟨i, hi, hx⟩ := List.getElem_of_mem hm
    have := (h i (by omega)).1 (by simp [hi, hx])
    have := List.any_eq_false.1 ha i (List.mem_range.2 (by omega))
    contradiction
end Go.Pv

