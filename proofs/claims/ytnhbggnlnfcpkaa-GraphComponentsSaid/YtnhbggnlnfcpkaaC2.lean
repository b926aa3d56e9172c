/-
  What the functions of the law give.
-/
import Derived.Test.YtnhbggnlnfcpkaaC1
set_option linter.unusedSimpArgs false
set_option linter.unusedVariables false
/-
  Plain laws: distances.
-/
namespace Go.Pv

structure Dist (n : Nat) (ed : Int → Int → Prop) (fr : List Int) (d : List Int) : Prop where
  len : d.length = n
  low : ∀ v : Nat, v < n → -1 ≤ d.getD v (-1)
  zero : ∀ v : Int, 0 ≤ v → v < n → (d.getD v.toNat (-1) = 0 ↔ v ∈ fr)
  step : ∀ v u : Int, ed v u → 0 ≤ v ∧ v < n ∧ 0 ≤ u ∧ u < n → 0 ≤ d.getD u.toNat (-1) → 0 ≤ d.getD v.toNat (-1) ∧ d.getD v.toNat (-1) ≤ d.getD u.toNat (-1) + 1
  back : ∀ v : Int, 0 ≤ v → v < n → 0 < d.getD v.toNat (-1) → ∃ u, ed v u ∧ 0 ≤ u ∧ u < n ∧ d.getD u.toNat (-1) = d.getD v.toNat (-1) - 1
theorem Dist.le {n : Nat} {ed : Int → Int → Prop} {fr d d' : List Int} (h : Dist n ed fr d) (h' : Dist n ed fr d') : ∀ (k : Nat) (v : Int), 0 ≤ v → v < n → d.getD v.toNat (-1) = (k : Int) → 0 ≤ d'.getD v.toNat (-1) ∧ d'.getD v.toNat (-1) ≤ (k : Int)
  | 0, v, h0, h1, hk => by
    have := (h'.zero v h0 h1).2 ((h.zero v h0 h1).1 hk)
    omega
  | k + 1, v, h0, h1, hk => by
    obtain ⟨u, e1, e2, e3, e4⟩ := h.back v h0 h1 (by omega)
    obtain ⟨g1, g2⟩ := Dist.le h h' k u e2 e3 (by omega)
    obtain ⟨f1, f2⟩ := h'.step v u e1 ⟨h0, h1, e2, e3⟩ g1
    exact ⟨f1, by omega⟩
theorem Dist.uniq {n : Nat} {ed : Int → Int → Prop} {fr d d' : List Int} (h : Dist n ed fr d) (h' : Dist n ed fr d') : d = d' := by
  apply List.ext_getElem
  · rw [h.len, h'.len]
  · intro i h1 h2
    rw [h.len] at h1
    have key : ∀ {a b : List Int}, Dist n ed fr a → Dist n ed fr b → 0 ≤ a.getD i (-1) → 0 ≤ b.getD i (-1) ∧ b.getD i (-1) ≤ a.getD i (-1) := fun {a b} ha hb hp => by
      have := Dist.le ha hb (a.getD i (-1)).toNat (i : Int) (by omega) (by omega) (by rw [Int.toNat_natCast]; omega)
      rw [Int.toNat_natCast] at this
      omega
    have e1 : d[i] = d.getD i (-1) := by simp [h.len, h1]
    have e2 : d'[i] = d'.getD i (-1) := by simp [h'.len, h1]
    rw [e1, e2]
    have l1 := h.low i h1
    have l2 := h'.low i h1
    by_cases hp : 0 ≤ d.getD i (-1)
    · obtain ⟨g1, g2⟩ := key h h' hp
      obtain ⟨g3, g4⟩ := key h' h g1
      omega
    · by_cases hq : 0 ≤ d'.getD i (-1)
      · obtain ⟨g1, g2⟩ := key h' h hq
        omega
      · omega


structure LvInv (nx : Int → List Int) (n : Nat) (fr : List Int) (i : Nat) (s : List Int × List Int) : Prop where
  ok : LvOk n s
  low : ∀ v : Nat, v < n → -1 ≤ s.1.getD v (-1)
  mono : ∀ (j k : Nat) (x y : Int), j ≤ k → s.2[j]? = some x → s.2[k]? = some y → s.1.getD x.toNat (-1) ≤ s.1.getD y.toNat (-1)
  near : ∀ (j : Nat) (x y : Int), s.2[i]? = some x → s.2[j]? = some y → s.1.getD y.toNat (-1) ≤ s.1.getD x.toNat (-1) + 1
  zero : ∀ v : Int, 0 ≤ v → v < n → (s.1.getD v.toNat (-1) = 0 ↔ v ∈ fr)
  done : ∀ (j : Nat) (u x : Int), j < i → s.2[j]? = some u → x ∈ nx u → 0 ≤ s.1.getD x.toNat (-1) ∧ s.1.getD x.toNat (-1) ≤ s.1.getD u.toNat (-1) + 1
  back : ∀ v : Int, 0 ≤ v → v < n → 0 < s.1.getD v.toNat (-1) → ∃ u, v ∈ nx u ∧ 0 ≤ u ∧ u < n ∧ s.1.getD u.toNat (-1) = s.1.getD v.toNat (-1) - 1
theorem lvIn_get {n : Nat} {s : List Int × List Int} (h : LvOk n s) {x d : Int} (hx : 0 ≤ x ∧ x < n) (v : Nat) : (lvIn d s x).1.getD v (-1) = if s.1.getD x.toNat (-1) < 0 ∧ x.toNat = v then d else s.1.getD v (-1) := by
  unfold lvIn
  by_cases hc : s.1.getD x.toNat (-1) < 0
  · rw [if_pos hc]
    dsimp only
    rw [getD_set' (by rw [h.len]; omega)]
    by_cases he : x.toNat = v
    · rw [if_pos he, if_pos ⟨hc, he⟩]
    · rw [if_neg he, if_neg (fun hh => he hh.2)]
  · rw [if_neg hc, if_neg (fun hh => hc hh.1)]
theorem lvIn_snd {s : List Int × List Int} {x d : Int} : (lvIn d s x).2 = if s.1.getD x.toNat (-1) < 0 then s.2 ++ [x] else s.2 := by
  unfold lvIn
  split <;> rfl
theorem LvInv.fold {nx : Int → List Int} {n : Nat} {fr : List Int} (_hn : ∀ v x, x ∈ nx v → 0 ≤ x ∧ x < n) {i : Nat} {v d : Int} : ∀ (l : List Int) (s : List Int × List Int), LvInv nx n fr i s → s.2[i]? = some v → d = s.1.getD v.toNat (-1) + 1 → (∀ x ∈ l, x ∈ nx v ∧ 0 ≤ x ∧ x < n) →
    LvInv nx n fr i (l.foldl (lvIn d) s) ∧ (l.foldl (lvIn d) s).2[i]? = some v ∧ (l.foldl (lvIn d) s).1.getD v.toNat (-1) + 1 = d ∧ (∀ u : Nat, 0 ≤ s.1.getD u (-1) → (l.foldl (lvIn d) s).1.getD u (-1) = s.1.getD u (-1)) ∧ ∀ x ∈ l, 0 ≤ (l.foldl (lvIn d) s).1.getD x.toNat (-1) ∧ (l.foldl (lvIn d) s).1.getD x.toNat (-1) ≤ d
  | [], s, h, hv, hd, _ => ⟨h, hv, hd.symm, fun _ _ => rfl, fun x hx => by cases hx⟩
  | x :: l, s, h, hv, hd, hl => by
    obtain ⟨hxn, hx0, hx1⟩ := hl x (by simp)
    have hvm := (h.ok.mem v).1 (List.mem_of_getElem? hv)
    have htop := h.ok.top v.toNat
    have hg := lvIn_get h.ok (d := d) ⟨hx0, hx1⟩
    have hs2 : (lvIn d s x).2 = if s.1.getD x.toNat (-1) < 0 then s.2 ++ [x] else s.2 := lvIn_snd
    have hok := h.ok.step (x := x) (d := d) ⟨hx0, hx1⟩ ⟨by omega, by omega⟩
    have hnear := fun j y (hy : s.2[j]? = some y) => h.near j v y hv hy
    have hsame : ∀ u : Nat, 0 ≤ s.1.getD u (-1) → (lvIn d s x).1.getD u (-1) = s.1.getD u (-1) := fun u hu => by
      rw [hg, if_neg (fun hh => by rw [hh.2] at hh; omega)]
    have hmemq : ∀ (j : Nat) (y : Int), s.2[j]? = some y → 0 ≤ s.1.getD y.toNat (-1) := fun j y hy => ((h.ok.mem y).1 (List.mem_of_getElem? hy)).2.2
    have hq : ∀ (j : Nat) (y : Int), (lvIn d s x).2[j]? = some y → (s.2[j]? = some y ∧ (lvIn d s x).1.getD y.toNat (-1) = s.1.getD y.toNat (-1)) ∨ (s.2.length = j ∧ y = x ∧ s.1.getD x.toNat (-1) < 0 ∧ (lvIn d s x).1.getD y.toNat (-1) = d) := fun j y hy => by
      rw [hs2] at hy
      by_cases hc : s.1.getD x.toNat (-1) < 0
      · rw [if_pos hc] at hy
        rcases Nat.lt_or_ge j s.2.length with hj | hj
        · rw [List.getElem?_append_left hj] at hy
          exact .inl ⟨hy, hsame _ (hmemq j y hy)⟩
        · rw [List.getElem?_append_right hj] at hy
          obtain ⟨h1, h2⟩ := List.getElem?_eq_some_iff.1 hy
          have hj0 : j - s.2.length = 0 := by simpa using h1
          simp [hj0] at h2
          refine .inr ⟨by omega, h2.symm, hc, ?_⟩
          rw [hg, ← h2, if_pos ⟨hc, rfl⟩]
      · rw [if_neg hc] at hy
        exact .inl ⟨hy, hsame _ (hmemq j y hy)⟩
    have hv' : (lvIn d s x).2[i]? = some v := by
      rw [hs2]
      split
      · rw [List.getElem?_append_left (List.getElem?_eq_some_iff.1 hv).1]; exact hv
      · exact hv
    have hdv : (lvIn d s x).1.getD v.toNat (-1) = s.1.getD v.toNat (-1) := hsame _ hvm.2.2
    have hI : LvInv nx n fr i (lvIn d s x) := by
      refine ⟨hok, fun u hu => ?_, fun j k a b hjk ha hb => ?_, fun j a b ha hb => ?_, fun u h0 h1 => ?_, fun j u y hj hu hy => ?_, fun u h0 h1 hp => ?_⟩
      · rw [hg]
        split
        · omega
        · exact h.low u hu
      · rcases hq j a ha with ⟨a1, a2⟩ | ⟨a1, a2, a3, a4⟩
        · rcases hq k b hb with ⟨b1, b2⟩ | ⟨b1, b2, b3, b4⟩
          · rw [a2, b2]; exact h.mono j k a b hjk a1 b1
          · rw [a2, b4]
            have := hnear j a a1
            omega
        · rcases hq k b hb with ⟨b1, b2⟩ | ⟨b1, b2, b3, b4⟩
          · have := (List.getElem?_eq_some_iff.1 b1).1
            omega
          · rw [a4, b4]; exact Int.le_refl _
      · rw [hv'] at ha
        cases ha
        rw [hdv]
        rcases hq j b hb with ⟨b1, b2⟩ | ⟨b1, b2, b3, b4⟩
        · rw [b2]; exact hnear j b b1
        · rw [b4]; omega
      · rw [← h.zero u h0 h1, hg]
        split
        · rename_i hc
          have : x = u := by omega
          subst this
          constructor
          · intro; omega
          · intro; omega
        · exact Iff.rfl
      · rcases hq j u hu with ⟨b1, b2⟩ | ⟨b1, _, _, _⟩
        · obtain ⟨g1, g2⟩ := h.done j u y hj b1 hy
          rw [hsame _ g1, b2]
          exact ⟨g1, g2⟩
        · have := (List.getElem?_eq_some_iff.1 hv).1
          omega
      · rw [hg] at hp
        rw [hg]
        split at hp
        · rename_i hc
          rw [if_pos hc]
          have : x = u := by omega
          subst this
          exact ⟨v, hxn, hvm.1, hvm.2.1, by rw [hdv]; omega⟩
        · rename_i hc
          rw [if_neg hc]
          obtain ⟨w, w1, w2, w3, w4⟩ := h.back u h0 h1 hp
          exact ⟨w, w1, w2, w3, by rw [hsame _ (by omega)]; exact w4⟩
    obtain ⟨f1, f2, f3, f4, f5⟩ := LvInv.fold (d := d) _hn l _ hI hv' (by rw [hdv]; exact hd) (fun y hy => hl y (List.mem_cons_of_mem _ hy))
    refine ⟨f1, f2, f3, fun u hu => ?_, fun y hy => ?_⟩
    · rw [List.foldl_cons, f4 u (by rw [hsame u hu]; exact hu), hsame u hu]
    · rcases List.mem_cons.1 hy with rfl | hy
      · have hle : 0 ≤ (lvIn d s y).1.getD y.toNat (-1) ∧ (lvIn d s y).1.getD y.toNat (-1) ≤ d := by
          rw [hg]
          split
          · omega
          · rename_i hc
            have hp : 0 ≤ s.1.getD y.toNat (-1) := by
              by_cases hc2 : s.1.getD y.toNat (-1) < 0
              · exact absurd ⟨hc2, rfl⟩ hc
              · omega
            obtain ⟨j, hj⟩ := List.mem_iff_getElem?.1 ((h.ok.mem y).2 ⟨hx0, hx1, hp⟩)
            have := hnear j y hj
            omega
        rw [List.foldl_cons, f4 y.toNat hle.1]
        exact hle
      · exact f5 y hy
theorem LvInv.run {nx : Int → List Int} {n : Nat} {fr : List Int} (hn : ∀ v x, x ∈ nx v → 0 ≤ x ∧ x < n) : ∀ (m i : Nat) (s : List Int × List Int), LvInv nx n fr i s → n ≤ i + m → ∃ j, LvInv nx n fr j (lvRun nx m i s) ∧ (lvRun nx m i s).2.length ≤ j
  | 0, i, s, h, hm => ⟨i, h, Nat.le_trans h.ok.bound (by omega)⟩
  | m + 1, i, s, h, hm => by
    unfold lvRun
    cases hv : s.2[i]? with
    | none => exact ⟨i, h, List.getElem?_eq_none_iff.1 hv⟩
    | some v =>
      have hvm := (h.ok.mem v).1 (List.mem_of_getElem? hv)
      obtain ⟨f1, f2, f3, f4, f5⟩ := LvInv.fold hn (nx v) s h hv rfl (fun x hx => ⟨hx, hn v x hx⟩)
      refine LvInv.run hn m (i + 1) _ ⟨f1.ok, f1.low, f1.mono, fun j x y hx hy => ?_, f1.zero, fun j u x hj hu hx => ?_, f1.back⟩ (by omega)
      · have h1 := f1.near j v y f2 hy
        have h2 := f1.mono i (i + 1) v x (by omega) f2 hx
        omega
      · rcases Nat.lt_or_ge j i with hji | hji
        · exact f1.done j u x hji hu hx
        · obtain rfl : j = i := by omega
          rw [f2] at hu
          cases hu
          have := f5 x hx
          exact ⟨this.1, by omega⟩
theorem levels_dist {nx : Int → List Int} {n : Nat} {fr : List Int} (hn : ∀ v x, x ∈ nx v → 0 ≤ x ∧ x < n) (hf : ∀ x ∈ fr, 0 ≤ x ∧ x < n) : Dist n (fun v u => v ∈ nx u) fr (levels nx n fr) := by
  have start : ∀ (l : List Int) (s : List Int × List Int) (pre : List Int), LvOk n s → (∀ v : Nat, v < n → s.1.getD v (-1) = 0 ∨ s.1.getD v (-1) = -1) → (∀ v : Int, 0 ≤ v → v < n → (s.1.getD v.toNat (-1) = 0 ↔ v ∈ pre)) → (∀ x ∈ l, 0 ≤ x ∧ x < n) →
      LvOk n (l.foldl (lvIn 0) s) ∧ (∀ v : Nat, v < n → (l.foldl (lvIn 0) s).1.getD v (-1) = 0 ∨ (l.foldl (lvIn 0) s).1.getD v (-1) = -1) ∧ (∀ v : Int, 0 ≤ v → v < n → ((l.foldl (lvIn 0) s).1.getD v.toNat (-1) = 0 ↔ v ∈ pre ++ l)) := by
    intro l
    induction l with
    | nil => intro s pre h1 h2 h3 _; exact ⟨h1, h2, by simpa using h3⟩
    | cons x l ih =>
      intro s pre h1 h2 h3 hl
      have hx := hl x (by simp)
      have hg := lvIn_get h1 (d := 0) hx
      have := ih (lvIn 0 s x) (pre ++ [x]) (h1.step hx ⟨by omega, by omega⟩) (fun v hv => by
        rw [hg]
        split
        · exact .inl rfl
        · exact h2 v hv) (fun v h0 hv => by
        rw [hg, List.mem_append, List.mem_singleton, ← h3 v h0 hv]
        split
        · rename_i hc
          have : v = x := by omega
          simp [this]
        · rename_i hc
          constructor
          · exact .inl
          · rintro (h | h)
            · exact h
            · subst h
              rcases h2 v.toNat (by omega) with h | h
              · exact h
              · exact absurd ⟨by omega, rfl⟩ hc) (fun y hy => hl y (List.mem_cons_of_mem _ hy))
      rw [List.append_assoc] at this
      exact this
  obtain ⟨a1, a2, a3⟩ := start fr (List.replicate n (-1), []) [] (LvOk.start n) (fun v hv => by simp [hv]) (fun v h0 h1 => by
    have : v.toNat < n := by omega
    simp [this]) hf
  have hI : LvInv nx n fr 0 (fr.foldl (lvIn 0) (List.replicate n (-1), [])) := by
    have hz : ∀ (j : Nat) (x : Int), (fr.foldl (lvIn 0) (List.replicate n (-1), [])).2[j]? = some x → (fr.foldl (lvIn 0) (List.replicate n (-1), [])).1.getD x.toNat (-1) = 0 := fun j x hx => by
      have := (a1.mem x).1 (List.mem_of_getElem? hx)
      rcases a2 x.toNat (by omega) with h | h
      · exact h
      · omega
    refine ⟨a1, fun v hv => ?_, fun j k x y _ hx hy => ?_, fun j x y hx hy => ?_, by simpa using a3, fun j u x hj => absurd hj (Nat.not_lt_zero _), fun v h0 h1 hp => ?_⟩
    · rcases a2 v hv with h | h <;> omega
    · rw [hz j x hx, hz k y hy]; exact Int.le_refl _
    · rw [hz 0 x hx, hz j y hy]; omega
    · rcases a2 v.toNat (by omega) with h | h <;> omega
  obtain ⟨j, h1, h2⟩ := LvInv.run hn n 0 _ hI (by omega)
  refine ⟨h1.ok.len, h1.low, h1.zero, fun v u hv hr hp => ?_, fun v h0 hl hp => ?_⟩
  · obtain ⟨k, hk⟩ := List.mem_iff_getElem?.1 ((h1.ok.mem u).2 ⟨hr.2.2.1, hr.2.2.2, hp⟩)
    exact h1.done k u v (by have := (List.getElem?_eq_some_iff.1 hk).1; omega) hk hv
  · obtain ⟨u, u1, u2, u3, u4⟩ := h1.back v h0 hl hp
    exact ⟨u, u1, u2, u3, u4⟩


theorem sum_set (f : Int → Nat) : ∀ (l : List Int) (i : Nat) (x y : Int), l[i]? = some y → ((l.set i x).map f).sum + f y = (l.map f).sum + f x
  | [], i, x, y, h => by simp at h
  | a :: l, 0, x, y, h => by
    simp at h
    subst h
    simp only [List.set_cons_zero, List.map_cons, List.sum_cons]
    omega
  | a :: l, i + 1, x, y, h => by
    have := sum_set f l i x y (by simpa using h)
    simp only [List.set_cons_succ, List.map_cons, List.sum_cons]
    omega
theorem sum_le (f : Int → Nat) (m : Nat) : ∀ l : List Int, (∀ x ∈ l, f x ≤ m) → (l.map f).sum ≤ m * l.length
  | [], _ => by simp
  | a :: l, h => by
    have h1 := sum_le f m l (fun x hx => h x (List.mem_cons_of_mem _ hx))
    have h2 := h a (by simp)
    simp only [List.map_cons, List.sum_cons, List.length_cons, Nat.mul_add, Nat.mul_one]
    omega
def hasD (d : List Int) : Nat := (d.map fun x => if 0 ≤ x then 1 else 0).sum
def leftD (n : Nat) (d : List Int) : Nat := (d.map fun x => if 0 ≤ x then x.toNat else n).sum
theorem hasD_le (d : List Int) : hasD d ≤ d.length := by
  have := sum_le (fun x => if 0 ≤ x then 1 else 0) 1 d (fun x _ => by split <;> omega)
  unfold hasD
  omega
def relaxes (d : List Int) (e : Int × Int) : Bool := decide (0 ≤ d.getD e.2.toNat (-1)) && (decide (d.getD e.1.toNat (-1) < 0) || decide (d.getD e.2.toNat (-1) + 1 < d.getD e.1.toNat (-1)))
def relax (d : List Int) (e : Int × Int) : List Int := if relaxes d e = true then d.set e.1.toNat (d.getD e.2.toNat (-1) + 1) else d
structure RInv (n : Nat) (es : List (Int × Int)) (fr : List Int) (d : List Int) : Prop where
  len : d.length = n
  low : ∀ v : Nat, v < n → -1 ≤ d.getD v (-1)
  zero : ∀ v : Int, 0 ≤ v → v < n → (d.getD v.toNat (-1) = 0 ↔ v ∈ fr)
  back : ∀ v : Int, 0 ≤ v → v < n → 0 < d.getD v.toNat (-1) → ∃ u, (v, u) ∈ es ∧ 0 ≤ u ∧ u < n ∧ 0 ≤ d.getD u.toNat (-1) ∧ d.getD u.toNat (-1) ≤ d.getD v.toNat (-1) - 1
  top : ∀ v : Nat, v < n → d.getD v (-1) + 1 ≤ hasD d
theorem RInv.relax {n : Nat} {es : List (Int × Int)} {fr d : List Int} (h : RInv n es fr d) {e : Int × Int} (he : e ∈ es) (hi : (0 ≤ e.1 ∧ e.1 < n) ∧ (0 ≤ e.2 ∧ e.2 < n)) (hr : relaxes d e = true) : RInv n es fr (relax d e) ∧ leftD n (relax d e) < leftD n d := by
  obtain ⟨⟨a0, a1⟩, b0, b1⟩ := hi
  have hlen := h.len
  unfold Pv.relax
  rw [if_pos hr]
  simp only [relaxes, Bool.and_eq_true, Bool.or_eq_true, decide_eq_true_eq] at hr
  obtain ⟨hr1, hr2⟩ := hr
  have hal : e.1.toNat < d.length := by omega
  have hg : ∀ v : Nat, (d.set e.1.toNat (d.getD e.2.toNat (-1) + 1)).getD v (-1) = if e.1.toNat = v then d.getD e.2.toNat (-1) + 1 else d.getD v (-1) := fun v => getD_set' hal
  have hget : d[e.1.toNat]? = some (d.getD e.1.toNat (-1)) := by simp [hal]
  have htb := h.top e.2.toNat (by omega)
  have hl1 := h.low e.1.toNat (by omega)
  have hh : hasD d ≤ hasD (d.set e.1.toNat (d.getD e.2.toNat (-1) + 1)) ∧ (d.getD e.1.toNat (-1) < 0 → hasD d + 1 = hasD (d.set e.1.toNat (d.getD e.2.toNat (-1) + 1))) := by
    have := sum_set (fun x => if 0 ≤ x then 1 else 0) d e.1.toNat (d.getD e.2.toNat (-1) + 1) _ hget
    rw [if_pos (show (0 : Int) ≤ d.getD e.2.toNat (-1) + 1 by omega)] at this
    unfold hasD
    constructor
    · split at this <;> omega
    · intro hneg
      rw [if_neg (by omega)] at this
      omega
  have hhl := hasD_le (d.set e.1.toNat (d.getD e.2.toNat (-1) + 1))
  rw [List.length_set, hlen] at hhl
  refine ⟨⟨by rw [List.length_set]; exact hlen, fun v hv => ?_, fun v h0 h1 => ?_, fun v h0 h1 hp => ?_, fun v hv => ?_⟩, ?_⟩
  · rw [hg]
    split
    · omega
    · exact h.low v hv
  · rw [hg, ← h.zero v h0 h1]
    split
    · rename_i hc
      have hv : e.1 = v := by omega
      rw [← hv]
      constructor
      · intro; omega
      · intro; omega
    · exact Iff.rfl
  · rw [hg] at hp
    simp only [hg]
    by_cases hc : e.1.toNat = v.toNat
    · have hv : e.1 = v := by omega
      rw [if_pos hc]
      refine ⟨e.2, by rw [← hv]; exact he, b0, b1, ?_⟩
      by_cases hb : e.1.toNat = e.2.toNat
      · rw [← hb] at hr1 hr2
        omega
      · rw [if_neg hb]
        omega
    · rw [if_neg hc] at hp ⊢
      obtain ⟨u, u1, u2, u3, u4, u5⟩ := h.back v h0 h1 hp
      refine ⟨u, u1, u2, u3, ?_⟩
      split
      · rename_i hu
        rw [hu] at hr2
        omega
      · exact ⟨u4, u5⟩
  · rw [hg]
    split
    · rcases hr2 with hr2 | hr2
      · have := hh.2 hr2
        omega
      · have := h.top e.1.toNat (by omega)
        omega
    · have := h.top v hv
      omega
  · have := sum_set (fun x => if 0 ≤ x then x.toNat else n) d e.1.toNat (d.getD e.2.toNat (-1) + 1) _ hget
    rw [if_pos (show (0 : Int) ≤ d.getD e.2.toNat (-1) + 1 by omega)] at this
    unfold leftD
    rcases hr2 with hr2 | hr2
    · have h2 := hh.2 hr2
      rw [if_neg (by omega)] at this
      omega
    · rw [if_pos (by omega)] at this
      omega
theorem RInv.dist {n : Nat} {es : List (Int × Int)} {fr d : List Int} (h : RInv n es fr d) (hs : ∀ e ∈ es, relaxes d e = false) : Dist n (fun v u => (v, u) ∈ es) fr d := by
  have hstep : ∀ v u : Int, (v, u) ∈ es → 0 ≤ d.getD u.toNat (-1) → 0 ≤ d.getD v.toNat (-1) ∧ d.getD v.toNat (-1) ≤ d.getD u.toNat (-1) + 1 := fun v u he hp => by
    have := hs _ he
    simp only [relaxes, Bool.and_eq_false_iff, Bool.or_eq_false_iff, decide_eq_false_iff_not] at this
    rcases this with h1 | ⟨h1, h2⟩
    · exact absurd hp h1
    · omega
  refine ⟨h.len, h.low, h.zero, fun v u he _ hp => hstep v u he hp, fun v h0 h1 hp => ?_⟩
  obtain ⟨u, u1, u2, u3, u4, u5⟩ := h.back v h0 h1 hp
  have := hstep v u u1 u4
  exact ⟨u, u1, u2, u3, by omega⟩
def rstep (q : Bool × List Int) (e : Int × Int) : Bool × List Int := if relaxes q.2 e = true then (true, relax q.2 e) else q
structure PInv (n : Nat) (es : List (Int × Int)) (fr d0 : List Int) (k : Nat) (q : Bool × List Int) : Prop where
  r : RInv n es fr q.2
  no : q.1 = false → q.2 = d0 ∧ ∀ e ∈ es.take k, relaxes d0 e = false
  yes : q.1 = true → leftD n q.2 < leftD n d0
theorem PInv.start {n : Nat} {es : List (Int × Int)} {fr d0 : List Int} (h : RInv n es fr d0) : PInv n es fr d0 0 (false, d0) := ⟨h, fun _ => ⟨rfl, fun e he => by simp at he⟩, fun h => (by cases h)⟩
theorem PInv.step {n : Nat} {es : List (Int × Int)} {fr d0 : List Int} {k : Nat} {q : Bool × List Int} (h : PInv n es fr d0 k q) {e : Int × Int} (he : es[k]? = some e) (hi : (0 ≤ e.1 ∧ e.1 < n) ∧ (0 ≤ e.2 ∧ e.2 < n)) : PInv n es fr d0 (k + 1) (rstep q e) := by
  have ht : es.take (k + 1) = es.take k ++ [e] := by rw [List.take_add_one, he]; rfl
  unfold rstep
  cases hc : relaxes q.2 e with
  | true =>
    rw [if_pos rfl]
    obtain ⟨g1, g2⟩ := h.r.relax (List.mem_of_getElem? he) hi hc
    refine ⟨g1, fun h => (by cases h), fun _ => ?_⟩
    cases hq : q.1 with
    | true => exact Nat.lt_trans g2 (h.yes hq)
    | false => rw [(h.no hq).1] at g2; rw [(h.no hq).1]; exact g2
  | false =>
    rw [if_neg (by simp)]
    refine ⟨h.r, fun hq => ?_, h.yes⟩
    obtain ⟨g1, g2⟩ := h.no hq
    refine ⟨g1, fun x hx => ?_⟩
    rw [ht, List.mem_append, List.mem_singleton] at hx
    rcases hx with hx | rfl
    · exact g2 x hx
    · rw [← g1]; exact hc
def dist0 (n : Nat) (fr : List Int) : List Int := fr.foldl (fun d v => d.set v.toNat 0) (List.replicate n (-1))
theorem dist0_get (n : Nat) : ∀ (fr : List Int) (d : List Int), d.length = n → (∀ x ∈ fr, 0 ≤ x ∧ x < n) → (fr.foldl (fun d v => d.set v.toNat 0) d).length = n ∧ ∀ v : Int, 0 ≤ v → v < n → (fr.foldl (fun d v => d.set v.toNat 0) d).getD v.toNat (-1) = if v ∈ fr then 0 else d.getD v.toNat (-1)
  | [], d, h, _ => ⟨h, fun v _ _ => by simp⟩
  | x :: fr, d, h, hf => by
    obtain ⟨x0, x1⟩ := hf x (by simp)
    obtain ⟨g1, g2⟩ := dist0_get n fr (d.set x.toNat 0) (by rw [List.length_set]; exact h) (fun y hy => hf y (List.mem_cons_of_mem _ hy))
    refine ⟨g1, fun v h0 h1 => ?_⟩
    rw [List.foldl_cons, g2 v h0 h1, getD_set' (by omega)]
    by_cases hv : v ∈ fr
    · rw [if_pos hv, if_pos (List.mem_cons_of_mem _ hv)]
    · rw [if_neg hv]
      by_cases he : v = x
      · rw [if_pos (by omega), if_pos (by simp [he])]
      · rw [if_neg (by omega), if_neg (by simp [hv, he])]
theorem dist0_inv {n : Nat} {es : List (Int × Int)} {fr : List Int} (hf : ∀ x ∈ fr, 0 ≤ x ∧ x < n) : RInv n es fr (dist0 n fr) := by
  obtain ⟨g1, g2⟩ := dist0_get n fr (List.replicate n (-1)) (by simp) hf
  have hr : ∀ v : Int, 0 ≤ v → v < n → (dist0 n fr).getD v.toNat (-1) = if v ∈ fr then 0 else -1 := fun v h0 h1 => by
    have := g2 v h0 h1
    have hv : v.toNat < n := by omega
    rw [show (List.replicate n (-1 : Int)).getD v.toNat (-1) = -1 by simp [hv]] at this
    exact this
  have hN : ∀ v : Nat, v < n → (dist0 n fr).getD v (-1) = if (v : Int) ∈ fr then 0 else -1 := fun v hv => by
    have := hr (v : Int) (by omega) (by omega)
    rw [Int.toNat_natCast] at this
    exact this
  have hpos : ∀ v : Nat, v < n → 0 ≤ (dist0 n fr).getD v (-1) → 1 ≤ hasD (dist0 n fr) := fun v hv hp => by
    have hget : (dist0 n fr)[v]? = some ((dist0 n fr).getD v (-1)) := by
      have : v < (dist0 n fr).length := by rw [show (dist0 n fr).length = n from g1]; exact hv
      simp [this]
    have := sum_set (fun x => if 0 ≤ x then 1 else 0) (dist0 n fr) v (-1) _ hget
    rw [if_pos hp, if_neg (by omega)] at this
    unfold hasD
    omega
  refine ⟨g1, fun v hv => ?_, fun v h0 h1 => ?_, fun v h0 h1 hp => ?_, fun v hv => ?_⟩
  · rw [hN v hv]
    split <;> omega
  · rw [hr v h0 h1]
    split <;> rename_i h <;> simp [h]
  · rw [hr v h0 h1] at hp
    split at hp <;> omega
  · have h1 := hN v hv
    by_cases hp : 0 ≤ (dist0 n fr).getD v (-1)
    · have := hpos v hv hp
      rw [h1] at hp ⊢
      split at hp
      · rename_i hm
        rw [if_pos hm]
        omega
      · omega
    · omega
end Go.Pv

/-
  Contracts: numbers of lists of actions.
-/
namespace Go.Pv

end Go.Pv

/-
  The law of the errors of automata.
-/
namespace Go.Pv

end Go.Pv

/-
  Lists that begin as a literal and grow by appending; rows of arrays of the call's own.
-/
namespace Go.Pv

def glV (n b : Nat) (rows : List (List PV)) : V := if rows.length ≤ b then .tl rows else .own n (rows.length - b - 1) 0 rows.length
def glA (k b : Nat) (rows : List (List PV)) : List Arr := if rows.length ≤ b then [] else [⟨rows.length - b - 1, k, .inl rows⟩]
theorem glV_lit {n b : Nat} {rows : List (List PV)} (h : rows.length ≤ b) : glV n b rows = .tl rows := if_pos h
theorem glA_lit {k b : Nat} {rows : List (List PV)} (h : rows.length ≤ b) : glA k b rows = [] := if_pos h
theorem glV_own {n b m : Nat} {rows : List (List PV)} (h : rows.length = b + m + 1) : glV n b rows = .own n m 0 (b + m + 1) := by
  unfold glV
  rw [if_neg (by omega), h, show b + m + 1 - b - 1 = m by omega]
theorem glA_own {k b m : Nat} {rows : List (List PV)} (h : rows.length = b + m + 1) : glA k b rows = [⟨m, k, .inl rows⟩] := by
  unfold glA
  rw [if_neg (by omega), h, show b + m + 1 - b - 1 = m by omega]
theorem app_tlr (h : Heap) (k : Nat) (rows : List (List PV)) (r : List PV) (hr : r.length = k) (hk : ∀ x ∈ rows, x.length = k) (hm : rows.length + 1 ≤ 2147483648) : appendV h k (.tl rows) (.tl [r]) = some (.own h.ar.length 0 0 (rows.length + 1), { push := [⟨0, k, .inl (rows ++ [r])⟩], base := h.ar.length }) := by
  have : (rows.all fun x => x.length == k) = true := by simpa using hk
  simp [appendV, srcRows, rowsFit, rowsLen, mostRows, catRows, hr, this, hm]
@[go_sem] theorem app_tli (h : Heap) (l : List Int) (x : Int) (hm : l.length + 1 ≤ 2147483648) : appendV h 1 (.tl (ints l)) (.tl [[.int .i64 x]]) = some (.own h.ar.length 0 0 (l.length + 1), { push := [⟨0, 1, .inl (ints (l ++ [x]))⟩], base := h.ar.length }) := by
  rw [app_tlr h 1 (ints l) [.int .i64 x] rfl (by simp [ints]) (by rw [ints_length]; exact hm), ints_length, ints_snoc]

@[go_sem] theorem lenV_gl (h : Heap) (n b : Nat) (rows : List (List PV)) : lenV h 0 (glV n b rows) = some (rows.length, {}) := by unfold glV; split <;> rfl
@[go_sem] theorem cells_gl (n b : Nat) (rows : List (List PV)) : V.cells (glV n b rows) = [glV n b rows] := by unfold glV; split <;> rfl
@[go_sem] theorem calm_gl (n b : Nat) (rows : List (List PV)) : V.calm (glV n b rows) = true := by unfold glV; split <;> rfl
@[go_sem] theorem sized_gl (n b : Nat) (rows : List (List PV)) : V.sized (glV n b rows) = true := by unfold glV; split <;> rfl
@[go_sem] theorem scrub_gl (kb : List Nat) (n b : Nat) (rows : List (List PV)) : scrub kb (glV n b rows) = glV n b rows := by unfold glV; split <;> rfl
@[go_sem] theorem okc_gl (kb : List Nat) (n b : Nat) (rows : List (List PV)) : okc kb (glV n b rows) = true := by unfold glV; split <;> rfl
@[go_sem] theorem keep_gl (h : Heap) (n b : Nat) (rows : List (List PV)) : keep h false (glV n b rows) = keepc h 4 (glV n b rows) := by unfold glV; split <;> rfl
@[go_sem] theorem lend_gl (h : Heap) (n b : Nat) (rows : List (List PV)) : lend h (glV n b rows) = lendc h 4 (glV n b rows) := by unfold glV; split <;> rfl
def glG (b : Nat) (rows : List (List PV)) : Nat := if rows.length ≤ b then 0 else 1
theorem keepc_gl (bx : List (Nat × List V)) (mp : List (List (PV × PV))) (pre : List Arr) (k b d : Nat) (rows : List (List PV)) : keepc ⟨bx, pre ++ glA k b rows, mp⟩ (d + 1) (glV pre.length b rows) = some (.lst 0 rows) := by
  unfold glV glA
  split
  · rfl
  · simp [keepc_own, ownArr, keepRows, cutRows]
theorem lendc_gl (bx : List (Nat × List V)) (mp : List (List (PV × PV))) (pre : List Arr) (k b d : Nat) (rows : List (List PV)) : lendc ⟨bx, pre ++ glA k b rows, mp⟩ (d + 1) (glV pre.length b rows) = some (.lst (glG b rows) rows) := by
  unfold glV glA glG
  split
  · rfl
  · simp [lendc, ownArr, cutRows]
@[go_sem] theorem keepc_gl0 (bx : List (Nat × List V)) (mp : List (List (PV × PV))) (k b : Nat) (rows : List (List PV)) : keepc ⟨bx, glA k b rows, mp⟩ 4 (glV 0 b rows) = some (.lst 0 rows) := keepc_gl bx mp [] k b 3 rows
@[go_sem] theorem keepc_gl1 (bx : List (Nat × List V)) (mp : List (List (PV × PV))) (a : Arr) (k b : Nat) (rows : List (List PV)) : keepc ⟨bx, a :: glA k b rows, mp⟩ 4 (glV 1 b rows) = some (.lst 0 rows) := keepc_gl bx mp [a] k b 3 rows
@[go_sem] theorem lendc_gl0 (bx : List (Nat × List V)) (mp : List (List (PV × PV))) (k b : Nat) (rows : List (List PV)) : lendc ⟨bx, glA k b rows, mp⟩ 4 (glV 0 b rows) = some (.lst (glG b rows) rows) := lendc_gl bx mp [] k b 3 rows
@[go_sem] theorem lendc_gl1 (bx : List (Nat × List V)) (mp : List (List (PV × PV))) (a : Arr) (k b : Nat) (rows : List (List PV)) : lendc ⟨bx, a :: glA k b rows, mp⟩ 4 (glV 1 b rows) = some (.lst (glG b rows) rows) := lendc_gl bx mp [a] k b 3 rows

attribute [go_sem] Int.lt_irrefl

end Go.Pv

/-
  Lists that are equal; beginnings of lists.
-/
namespace Go.Pv

theorem take_step {α : Type} {a b : List α} {k : Nat} {x y : α} (hx : a[k]? = some x) (hy : b[k]? = some y) (h : a.take k = b.take k) (e : x = y) : a.take (k + 1) = b.take (k + 1) := by
  rw [List.take_add_one, List.take_add_one, hx, hy, h, e]
theorem takes_all {α : Type} {a b : List α} {k : Nat} (ha : a.length ≤ k) (hb : b.length ≤ k) (h : a.take k = b.take k) : a = b := by
  rwa [List.take_of_length_le ha, List.take_of_length_le hb] at h

end Go.Pv

/-
  Edges put in order by the reference.
-/
namespace Go.Pv

@[go_sem] theorem edgs_snocc (l : List Edge) (f : Int) (d : Bool) (x t : Int) : edgs l ++ [[.int .i64 f, .bool d, .int .i64 x, .int .i64 t]] = edgs (l ++ [⟨f, d, x, t⟩]) := by simp [edgs, Edge.c]
@[go_sem] theorem edgs_store {id row ver : Nat} {f x t : Int} {d : Bool} {l : List Edge} (h1 : row < l.length) : storeRow id row 0 [.pv (.int .i64 f), .pv (.bool d), .pv (.int .i64 x), .pv (.int .i64 t)] ⟨ver, 4, .inl (edgs l)⟩ = some { ar := some (id, ⟨ver, 4, .inl (edgs (l.set row ⟨f, d, x, t⟩))⟩) } := by
  rw [storeRow_inl (l := [.int .i64 f, .bool d, .int .i64 x, .int .i64 t]) (by rw [edgs_length]; exact h1) rfl (by simp) rfl]
  have : over row 0 [.int .i64 f, .bool d, .int .i64 x, .int .i64 t] (edgs l) = edgs (l.set row ⟨f, d, x, t⟩) := by
    unfold over edgs
    rw [List.map_set]
    congr 1
    obtain ⟨e, he⟩ : ∃ e, l[row]? = some e := ⟨l[row], by simp [h1]⟩
    simp [he, Edge.c]
  rw [this]

end Go.Pv

/-
  Duals.
-/
namespace Go.Pv

def mapTo {α : Type} (f : α → α) (l : List α) (k : Nat) : List α := (l.take k).map f ++ l.drop k
theorem mapTo_get {α : Type} {f : α → α} {l : List α} {k : Nat} {e : α} (h : l[k]? = some e) : (mapTo f l k)[k]? = some e := by
  have hk := (List.getElem?_eq_some_iff.1 h).1
  unfold mapTo
  rw [List.getElem?_append_right (by simp; omega)]
  simp [Nat.min_eq_left (Nat.le_of_lt hk), h]
theorem mapTo_set {α : Type} {f : α → α} {l : List α} {k : Nat} {e : α} (h : l[k]? = some e) : (mapTo f l k).set k (f e) = mapTo f l (k + 1) := by
  have hk := (List.getElem?_eq_some_iff.1 h).1
  unfold mapTo
  rw [List.set_append_right _ _ (by simp; omega), drop_at h, List.take_add_one, h]
  simp [Nat.min_eq_left (Nat.le_of_lt hk)]
theorem mapTo_all {α : Type} (f : α → α) (l : List α) : mapTo f l l.length = l.map f := by simp [mapTo]
theorem mapTo_zero {α : Type} (f : α → α) (l : List α) : mapTo f l 0 = l := by simp [mapTo]
@[go_sem] theorem edgs_store1 {id row ver : Nat} {d : Bool} {l : List Edge} {e : Edge} (h : l[row]? = some e) : storeRow id row 1 [.pv (.bool d)] ⟨ver, 4, .inl (edgs l)⟩ = some { ar := some (id, ⟨ver, 4, .inl (edgs (l.set row ⟨e.fr, d, e.label, e.to⟩))⟩) } := by
  have hk := (List.getElem?_eq_some_iff.1 h).1
  rw [storeRow_inl (l := [.bool d]) (by rw [edgs_length]; exact hk) rfl (by simp) rfl]
  have : over row 1 [.bool d] (edgs l) = edgs (l.set row ⟨e.fr, d, e.label, e.to⟩) := by
    unfold over edgs
    rw [List.map_set]
    congr 1
    simp [h, Edge.c]
  rw [this]
@[go_sem] theorem sortP_tl (k g : Nat) (f : List (List PV) → Option (List (List PV))) (h : Heap) : sortP k f g [.tl [], .func g []] h = some (.tup [], {}) := by simp [sortP]
end Go.Pv

/-
  Automata that are equal.
-/
namespace Go.Pv

end Go.Pv

/-
  Plain laws: automata of drafts.
-/
namespace Go.Pv

structure Arc where
  fr : Int
  act : Int
  to : Int
  deriving DecidableEq, Inhabited
structure Draft where
  n : Int
  arcs : List Arc
  deriving DecidableEq, Inhabited
def Arc.c (x : Arc) : List PV := [.int .u8 x.fr, .int .u8 x.act, .int .u8 x.to]
def Arc.ok (x : Arc) : Prop := (0 ≤ x.fr ∧ x.fr ≤ 255) ∧ (0 ≤ x.act ∧ x.act ≤ 255) ∧ (0 ≤ x.to ∧ x.to ≤ 255)
def Draft.ok (d : Draft) : Prop := (0 ≤ d.n ∧ d.n ≤ 255) ∧ d.arcs.length ≤ 2 ^ 63 - 1 ∧ ∀ x ∈ d.arcs, x.ok
def Arc.edge (st : Int) (x : Arc) : Edge := ⟨x.fr % st, decide (x.act % 2 = 1), 1 + x.act / 2 % 3, x.to % st⟩
def addE (es : List Edge) (e : Edge) : List Edge := if (nextE e.fr e.send e.label es).isSome = true then es else es ++ [e]
def Draft.raw (d : Draft) : List Edge := (d.arcs.take 12).foldl (fun es x => addE es (x.edge (1 + d.n % 4))) []
def Draft.auto (d : Draft) : Auto := ⟨1 + d.n % 4, 0, sortB Edge.lt d.raw⟩

theorem nextE_none {s : Int} {d : Bool} {x : Int} : ∀ {es : List Edge}, (nextE s d x es).isSome = false ↔ ∀ e ∈ es, ¬ (e.fr = s ∧ e.send = d ∧ e.label = x)
  | [] => by simp [nextE]
  | e :: r => by
    unfold nextE
    split
    · rename_i h
      simp [h]
    · rename_i h
      rw [nextE_none]
      simp only [List.mem_cons]
      exact ⟨fun hh y hy => hy.elim (fun e => e ▸ h) (hh y), fun hh y hy => hh y (.inr hy)⟩
theorem addE_apt {es : List Edge} {e : Edge} (h : es.Pairwise (apt Edge.lt)) : (addE es e).Pairwise (apt Edge.lt) := by
  unfold addE
  split
  · exact h
  · rename_i hn
    have hn' := nextE_none.1 (by simpa using hn)
    rw [List.pairwise_append]
    refine ⟨h, List.pairwise_singleton _ _, fun a ha b hb => ?_⟩
    rw [List.mem_singleton] at hb
    subst hb
    rw [Edge.apt_iff]
    exact hn' a ha
theorem addE_len (es : List Edge) (e : Edge) : (addE es e).length ≤ es.length + 1 := by
  unfold addE
  split <;> simp
theorem addE_mem {es : List Edge} {e x : Edge} (h : x ∈ addE es e) : x ∈ es ∨ x = e := by
  unfold addE at h
  split at h
  · exact .inl h
  · simpa using h
theorem raw_spec {st : Int} (hs : 1 ≤ st ∧ st ≤ 4) : ∀ (l : List Arc) (es : List Edge), (∀ x ∈ l, x.ok) → es.Pairwise (apt Edge.lt) → (∀ e ∈ es, e.fits st = true) →
    (l.foldl (fun es x => addE es (x.edge st)) es).Pairwise (apt Edge.lt) ∧ (∀ e ∈ l.foldl (fun es x => addE es (x.edge st)) es, e.fits st = true) ∧ (l.foldl (fun es x => addE es (x.edge st)) es).length ≤ es.length + l.length
  | [], es, _, h1, h2 => ⟨h1, h2, by simp⟩
  | x :: l, es, hx, h1, h2 => by
    have hxo := hx x (by simp)
    have hf : (x.edge st).fits st = true := by
      rw [fits_iff]
      have a1 := Int.emod_nonneg x.fr (b := st) (by omega)
      have a2 := Int.emod_lt_of_pos x.fr (b := st) (by omega)
      have a3 := Int.emod_nonneg x.to (b := st) (by omega)
      have a4 := Int.emod_lt_of_pos x.to (b := st) (by omega)
      simp only [Arc.edge]
      omega
    obtain ⟨g1, g2, g3⟩ := raw_spec hs l (addE es (x.edge st)) (fun y hy => hx y (by simp [hy])) (addE_apt h1) fun e he => by
      rcases addE_mem he with h | h
      · exact h2 e h
      · exact h ▸ hf
    have := addE_len es (x.edge st)
    exact ⟨g1, g2, by simp only [List.foldl_cons, List.length_cons]; omega⟩
theorem Draft.st {d : Draft} : 1 ≤ 1 + d.n % 4 ∧ 1 + d.n % 4 ≤ 4 := by omega
theorem Draft.raw_ok {d : Draft} (h : d.ok) : d.raw.Pairwise (apt Edge.lt) ∧ (∀ e ∈ d.raw, e.fits (1 + d.n % 4) = true) ∧ d.raw.length ≤ 12 := by
  obtain ⟨h1, h2, h3⟩ := raw_spec d.st (d.arcs.take 12) [] (fun x hx => h.2.2 x (List.mem_of_mem_take hx)) List.Pairwise.nil (fun e he => absurd he (by simp))
  refine ⟨h1, h2, ?_⟩
  have : (d.arcs.take 12).length ≤ 12 := by simp; omega
  simp only [List.length_nil] at h3
  unfold Draft.raw
  omega
theorem Draft.len {d : Draft} (h : d.ok) : d.auto.edges.length ≤ 12 := by
  have := (sortB_perm Edge.lt d.raw).length_eq
  have := d.raw_ok h
  show (sortB Edge.lt d.raw).length ≤ 12
  omega
theorem Draft.good {d : Draft} (h : d.ok) {s : Int} (hs : 0 ≤ s ∧ s < 1 + d.n % 4) : (⟨1 + d.n % 4, s, d.auto.edges⟩ : Auto).Good where
  st := hs
  mx := by
    have := d.st
    show 1 + d.n % 4 ≤ 12
    omega
  len := by
    have := d.len h
    show d.auto.edges.length ≤ 100
    omega
  fit e he := (d.raw_ok h).2.1 e ((sortB_perm Edge.lt d.raw).subset he)
  asc := sortB_sorted Edge.lt_tr (d.raw_ok h).1

end Go.Pv

/-
  Automata of drafts.
-/
namespace Go.Pv

@[go_sem] theorem binV_rem_pos {k : IntKind} {a b : Int} (ha : 0 ≤ a) (hb : 0 < b) : binV .rem (.pv (.int k a)) (.pv (.int k b)) = some (.pv (.int k (a % b))) := by
  rw [binV_rem (by omega), Int.tmod_eq_emod_of_nonneg ha]
@[go_sem] theorem binV_quo_u8 {a b : Int} (ha : 0 ≤ a) (hb : 0 < b) (h2 : a ≤ 255) : binV .quo (.pv (.int .u8 a)) (.pv (.int .u8 b)) = some (.pv (.int .u8 (a / b))) := by
  rw [binV_quo (by omega), Int.tdiv_eq_ediv_of_nonneg ha, wrap_u8]
  · exact Int.ediv_nonneg ha (by omega)
  · exact Int.le_trans (Int.ediv_le_self b ha) h2
attribute [go_sem] wrap_u8

end Go.Pv

/-
  What can be reached, as the reference finds it.
-/
namespace Go.Pv

theorem ints_len (l : List Int) : (ints l).length = l.length := ints_length l

end Go.Pv

/-
  What can be reached, as the program finds it.
-/
namespace Go.Pv

end Go.Pv

/-
  Trimmed automata, runs, proper automata (of the reference).
-/
namespace Go.Pv

def srtT (l : List Edge) : Tn := if l.length = 0 then {} else { ar := some (0, ⟨l.length - 1, 4, .inl (edgs (isort Edge.lt l))⟩) }
@[go_sem] theorem srtT_apply (bx : List (Nat × List V)) (mp : List (List (PV × PV))) (l : List Edge) : (srtT l).apply ⟨bx, grA 4 (edgs l), mp⟩ = ⟨bx, grA 4 (edgs (isort Edge.lt l)), mp⟩ := by
  have hp := (isort_perm Edge.lt l).length_eq
  rcases Nat.eq_zero_or_pos l.length with h | h
  · have : l = [] := List.eq_nil_of_length_eq_zero h
    subst this
    simp [srtT, edgs, isort, Tn.apply, grA]
  · obtain ⟨m, hm'⟩ : ∃ m, (edgs l).length = m + 1 := ⟨l.length - 1, by rw [edgs_length]; omega⟩
    have hm2 : (edgs (isort Edge.lt l)).length = m + 1 := by rw [edgs_length, hp, ← edgs_length]; exact hm'
    rw [grA_own hm', grA_own hm2]
    rw [edgs_length] at hm'
    simp [srtT, Tn.apply, hm']
end Go.Pv

/-
  Runs.
-/
namespace Go.Pv

def actC (x : Bool × Int) : List PV := [.bool x.1, .int .i64 x.2]
@[go_sem] theorem actC_eq (x : Bool × Int) : actC x = [.bool x.1, .int .i64 x.2] := rfl
def acts (l : List (Bool × Int)) : List (List PV) := l.map actC
@[go_sem] theorem acts_length (l : List (Bool × Int)) : (acts l).length = l.length := by simp [acts]
@[go_sem] theorem acts_get (l : List (Bool × Int)) (i : Nat) : (acts l)[i]? = l[i]?.map actC := by simp [acts]
end Go.Pv

/-
  Searches of the library; the errors of graphs.
-/
namespace Go.Pv

@[go_sem] theorem r118 (t : Nat) (l : List Int) (x : Int) (hl : l.length ≤ 2 ^ 63 - 1) : res A PrA 118 [.lst t (ints l), .int .i64 x] = some [.int .i64 (atL x l)] := by
  refine res_of a118 rfl rfl ?_
  simp only [F118]
  simp (disch := omega) only [go_sem]
  refine W.upto l.length (fun k => ⟨[(0, .pv (.lst t (ints l))), (1, .pv (.int .i64 x)), (7, .pv (.int .i64 l.length)), (8, .pv (.int .i64 k))], ⟨[], [], []⟩⟩) (fun k => atL x l = atFrom x k (l.drop k)) rfl rfl fun k hk hi => ?_
  simp (disch := omega) only [go_sem]
  refine Br.ofP (fun h => ?_) (fun h => ?_)
  · obtain ⟨y, hy⟩ := get_at (l := l) (k := k) (by omega)
    rw [drop_at hy] at hi
    simp (disch := omega) only [go_sem, hy]
    refine Br.ofP (fun g1 => ?_) (fun g1 => ?_) <;> simp (disch := omega) only [go_sem, g1]
    · have hi' := hi
      rw [show atL y l = atL x l by rw [g1], hi']
      simp only [atFrom, if_pos g1.symm]
    · exact .of (by omega) rfl (hi.trans (by simp only [atFrom, if_neg (fun e => g1 (Eq.symm e))]))
  · simp (disch := omega) only [go_sem]
    rw [hi, drop_end h]
    rfl
def idxP {α : Type} (p : α → Bool) (l : List α) : Int := match l.findIdx? p with
  | some k => k
  | none => -1
theorem idxP_pos {α : Type} {p : α → Bool} {l : List α} : decide (0 ≤ idxP p l) = l.any p := by
  unfold idxP
  cases h : l.findIdx? p with
  | none =>
    rw [List.findIdx?_eq_none_iff] at h
    have : l.any p = false := by rw [List.any_eq_false]; intro x hx; simp [h x hx]
    simp [this]
  | some k =>
    rw [List.findIdx?_eq_some_iff_getElem] at h
    obtain ⟨hk, hp, _⟩ := h
    have : l.any p = true := List.any_eq_true.2 ⟨_, List.getElem_mem hk, hp⟩
    simp [this]
theorem Found.idxP {α : Type} {l : List α} {p : α → Bool} {k : Nat} {x : α} (h : Found l p k x) : idxP p l = k := by
  unfold Pv.idxP
  rw [h.idx]
theorem Nowhere.idxP {α : Type} {l : List α} {p : α → Bool} (h : Nowhere l p) : idxP p l = -1 := by
  unfold Pv.idxP
  rw [h.idx]

theorem r117 (g t u : Nat) (cs : List PV) (l : List Int) (p : Int → Bool) (hl : l.length ≤ 2 ^ 63 - 1) (hi : inls A g = false) (hp : PrA g = none) (ht : takes A g = false) (hf : ∀ x ∈ l, res A PrA g [.int .i64 x, .ro u cs] = some [.bool (p x)]) : res A PrA 117 [.lst t (ints l), .func g [.ro u cs]] = some [.int .i64 (idxP p l)] := by
  refine res_of a117 rfl rfl ?_
  simp only [F117]
  simp (disch := omega) only [go_sem]
  refine W.find l p (fun k => ⟨[(0, .pv (.lst t (ints l))), (1, .pv (.func g [.ro u cs])), (7, .pv (.int .i64 l.length)), (8, .pv (.int .i64 k))], ⟨[], [], []⟩⟩) rfl (fun k x hx hk hfd => ?_) (fun hn => ?_)
  · have hfx := hf x (List.mem_of_getElem? hx)
    simp (disch := omega) only [go_sem]
    refine Br.ofP (fun h => ?_) (fun h => (h (by omega)).elim)
    simp (disch := omega) only [go_sem, hx, CW_none hi hp ht, hfx]
    refine Br.of (fun h2 => ?_) (fun h2 => ?_) <;> simp (disch := omega) only [go_sem]
    · rw [(hfd h2).idxP]
    · exact findK.of h2 rfl
  · simp (disch := omega) only [go_sem]
    rw [hn.idxP]
theorem r108 (g t u : Nat) (cs : List PV) (l : List Int) (p : Int → Bool) (hl : l.length ≤ 2 ^ 63 - 1) (hi : inls A g = false) (hp : PrA g = none) (ht : takes A g = false) (hf : ∀ x ∈ l, res A PrA g [.int .i64 x, .ro u cs] = some [.bool (p x)]) : res A PrA 108 [.lst t (ints l), .func g [.ro u cs]] = some [.bool (l.any p)] := by
  refine res_of a108 rfl rfl ?_
  simp only [F108]
  have := r117 g t u cs l p hl hi hp ht hf
  simp (disch := omega) only [go_sem, this]
  rw [idxP_pos]

def prs (l : List (Int × Int)) : List (List PV) := l.map fun x => [.int .i64 x.1, .int .i64 x.2]
@[go_sem] theorem prs_length (l : List (Int × Int)) : (prs l).length = l.length := by simp [prs]
@[go_sem] theorem prs_nil : prs [] = [] := rfl
@[go_sem] theorem prs_get (l : List (Int × Int)) (i : Nat) : (prs l)[i]? = l[i]?.map fun x => [.int .i64 x.1, .int .i64 x.2] := by simp [prs]
@[go_sem] theorem prs_snoc (l : List (Int × Int)) (a b : Int) : prs l ++ [[.int .i64 a, .int .i64 b]] = prs (l ++ [(a, b)]) := by simp [prs]
theorem r138 (g t u : Nat) (cs : List PV) (l : List (Int × Int)) (p : Int × Int → Bool) (hl : l.length ≤ 2 ^ 63 - 1) (hi : inls A g = false) (hp : PrA g = none) (ht : takes A g = false) (hf : ∀ x ∈ l, res A PrA g [.agg [.int .i64 x.1, .int .i64 x.2], .ro u cs] = some [.bool (p x)]) : res A PrA 138 [.lst t (prs l), .func g [.ro u cs]] = some [.int .i64 (idxP p l)] := by
  refine res_of a138 rfl rfl ?_
  simp only [F138]
  simp (disch := omega) only [go_sem]
  refine W.find l p (fun k => ⟨[(0, .pv (.lst t (prs l))), (1, .pv (.func g [.ro u cs])), (7, .pv (.int .i64 l.length)), (8, .pv (.int .i64 k))], ⟨[], [], []⟩⟩) rfl (fun k x hx hk hfd => ?_) (fun hn => ?_)
  · have hfx := hf x (List.mem_of_getElem? hx)
    simp (disch := omega) only [go_sem]
    refine Br.ofP (fun h => ?_) (fun h => (h (by omega)).elim)
    simp (disch := omega) only [go_sem, hx, CW_none hi hp ht, hfx]
    refine Br.of (fun h2 => ?_) (fun h2 => ?_) <;> simp (disch := omega) only [go_sem]
    · rw [(hfd h2).idxP]
    · exact findK.of h2 rfl
  · simp (disch := omega) only [go_sem]
    rw [hn.idxP]
theorem r134 (g t u : Nat) (cs : List PV) (l : List (Int × Int)) (p : Int × Int → Bool) (hl : l.length ≤ 2 ^ 63 - 1) (hi : inls A g = false) (hp : PrA g = none) (ht : takes A g = false) (hf : ∀ x ∈ l, res A PrA g [.agg [.int .i64 x.1, .int .i64 x.2], .ro u cs] = some [.bool (p x)]) : res A PrA 134 [.lst t (prs l), .func g [.ro u cs]] = some [.bool (l.any p)] := by
  refine res_of a134 rfl rfl ?_
  simp only [F134]
  have := r138 g t u cs l p hl hi hp ht hf
  simp (disch := omega) only [go_sem, this]
  rw [idxP_pos]

def badP (n : Int) (x : Int × Int) : Bool := decide (min x.1 x.2 < 0) || decide (n ≤ max x.1 x.2)
@[go_sem] theorem r135 (x : Int × Int) (u : Nat) (n : Int) (cs : List PV) : res A PrA 135 [.agg [.int .i64 x.1, .int .i64 x.2], .ro u (.int .i64 n :: cs)] = some [.bool (badP n x)] := by
  refine res_of a135 rfl rfl ?_
  simp only [F135]
  simp (disch := omega) only [go_sem]
  unfold badP
  refine Br.ofP (fun h => ?_) (fun h => ?_) <;> simp (disch := omega) only [go_sem, h]
def gErr (n : Int) (es : List (Int × Int)) : Int := if 2000 < n ∨ 40000 < es.length then 3 else if n < 0 ∨ es.any (badP n) = true then 1 else 0
@[go_sem] theorem r128 (t : Nat) (n : Int) (es : List (Int × Int)) (hl : es.length ≤ 2 ^ 63 - 1) : res A PrA 128 [.int .i64 n, .lst t (prs es)] = some [.int .i64 (gErr n es)] := by
  refine res_of a128 rfl rfl ?_
  simp only [F128]
  simp (disch := omega) only [go_sem]
  unfold gErr
  refine Br.ofP (fun h1 => ?_) (fun h1 => ?_) <;> simp (disch := omega) only [go_sem, h1]
  · rw [if_pos (.inl trivial)]
  refine Br.ofP (fun h2 => ?_) (fun h2 => ?_) <;> simp (disch := omega) only [go_sem, h2]
  · rw [if_pos (by omega)]
  rw [if_neg (by omega)]
  refine Br.ofP (fun h3 => ?_) (fun h3 => ?_) <;> simp (disch := omega) only [go_sem, h3]
  · rw [if_pos (.inl trivial)]
  have h134 := r134 135 t 2 [.int .i64 n] es (badP n) hl (by kernel_rfl) (by kernel_rfl) (by kernel_rfl) (fun x _ => r135 x 2 n [])
  simp (disch := omega) only [go_sem, h134]
  refine Br.of (fun h4 => ?_) (fun h4 => ?_) <;> simp (disch := omega) only [go_sem]
  · rw [if_pos (.inr h4)]
  · rw [if_neg (by simp [h3, h4])]
@[go_sem] theorem r129 (x : Int) (u : Nat) (n : Int) (cs : List PV) : res A PrA 129 [.int .i64 x, .ro u (.int .i64 n :: cs)] = some [.bool (decide (x < 0) || decide (n ≤ x))] := by
  refine res_of a129 rfl rfl ?_
  simp only [F129]
  simp (disch := omega) only [go_sem]
  refine Br.ofP (fun h => ?_) (fun h => ?_) <;> simp (disch := omega) only [go_sem, h]
def gErrL (n : Int) (es : List (Int × Int)) (l : List Int) : Int := if gErr n es ≠ 0 then gErr n es else if (l.any fun x => decide (x < 0) || decide (n ≤ x)) = true then 7 else 0
@[go_sem] theorem r112 (t u : Nat) (n : Int) (es : List (Int × Int)) (l : List Int) (hl : es.length ≤ 2 ^ 63 - 1) (hm : l.length ≤ 2 ^ 63 - 1) : res A PrA 112 [.int .i64 n, .lst t (prs es), .lst u (ints l)] = some [.int .i64 (gErrL n es l)] := by
  refine res_of a112 rfl rfl ?_
  simp only [F112]
  simp (disch := omega) only [go_sem]
  unfold gErrL
  refine Br.ofP (fun h1 => ?_) (fun h1 => ?_) <;> simp (disch := omega) only [go_sem, h1]
  case refine_2 => rw [if_pos h1]
  rw [if_neg (by omega)]
  have h108 := r108 129 u 2 [.int .i64 n] l (fun x => decide (x < 0) || decide (n ≤ x)) hm (by kernel_rfl) (by kernel_rfl) (by kernel_rfl) (fun x _ => r129 x 2 n [])
  simp (disch := omega) only [go_sem, h108]
  refine Br.of (fun h4 => ?_) (fun h4 => ?_) <;> simp (disch := omega) only [go_sem]
  · rw [if_pos h4]
  · rw [if_neg (by simp [h4])]

end Go.Pv

/-
  Parts of graphs: repeated numbers, reversed edges, vertices with a level.
-/
namespace Go.Pv

@[go_sem] theorem r130 {n : Nat} (hn : n ≤ 12) : res A PrA 130 [.lst 0 [[.int .i64 (-1)]], .int .i64 (n : Int)] = some [.fr 1 (ints (List.replicate n (-1)))] := by
  match n, hn with
  | 0, _ => exact res_some.2 ⟨3000, by kernel_rfl⟩
  | 1, _ => exact res_some.2 ⟨3000, by kernel_rfl⟩
  | 2, _ => exact res_some.2 ⟨3000, by kernel_rfl⟩
  | 3, _ => exact res_some.2 ⟨3000, by kernel_rfl⟩
  | 4, _ => exact res_some.2 ⟨3000, by kernel_rfl⟩
  | 5, _ => exact res_some.2 ⟨3000, by kernel_rfl⟩
  | 6, _ => exact res_some.2 ⟨3000, by kernel_rfl⟩
  | 7, _ => exact res_some.2 ⟨3000, by kernel_rfl⟩
  | 8, _ => exact res_some.2 ⟨3000, by kernel_rfl⟩
  | 9, _ => exact res_some.2 ⟨3000, by kernel_rfl⟩
  | 10, _ => exact res_some.2 ⟨3000, by kernel_rfl⟩
  | 11, _ => exact res_some.2 ⟨3000, by kernel_rfl⟩
  | 12, _ => exact res_some.2 ⟨3000, by kernel_rfl⟩

@[go_sem] theorem prs_made (n : Nat) (x y : Int) : sameRows n [.pv (.int .i64 x), .pv (.int .i64 y)] = .inl (prs (List.replicate n (x, y))) := by
  simp [sameRows, mapO, V.purec, PV.perm, prs]
@[go_sem] theorem prs_store {id row ver : Nat} {x y : Int} {l : List (Int × Int)} (h1 : row < l.length) : storeRow id row 0 [.pv (.int .i64 x), .pv (.int .i64 y)] ⟨ver, 2, .inl (prs l)⟩ = some { ar := some (id, ⟨ver, 2, .inl (prs (l.set row (x, y)))⟩) } := by
  rw [storeRow_inl (l := [.int .i64 x, .int .i64 y]) (by rw [prs_length]; exact h1) rfl (by simp) rfl]
  have : over row 0 [.int .i64 x, .int .i64 y] (prs l) = prs (l.set row (x, y)) := by
    unfold over prs
    rw [List.map_set]
    congr 1
    obtain ⟨e, he⟩ : ∃ e, l[row]? = some e := ⟨l[row], by simp [h1]⟩
    simp [he]
  rw [this]
@[go_sem] theorem prs_take (l : List (Int × Int)) (n : Nat) : (prs l).take n = prs (l.take n) := by simp [prs]

def partTo {α β : Type} (f : α → β) (y : β) (l : List α) (k : Nat) : List β := (l.take k).map f ++ List.replicate (l.length - k) y
theorem partTo_len {α β : Type} (f : α → β) (y : β) (l : List α) {k : Nat} (h : k ≤ l.length) : (partTo f y l k).length = l.length := by simp [partTo]; omega
theorem partTo_zero {α β : Type} (f : α → β) (y : β) (l : List α) : partTo f y l 0 = List.replicate l.length y := by simp [partTo]
theorem partTo_all {α β : Type} (f : α → β) (y : β) (l : List α) : partTo f y l l.length = l.map f := by simp [partTo]
theorem partTo_set {α β : Type} {f : α → β} {y : β} {l : List α} {k : Nat} {x : α} (h : l[k]? = some x) : (partTo f y l k).set k (f x) = partTo f y l (k + 1) := by
  have hk := (List.getElem?_eq_some_iff.1 h).1
  unfold partTo
  rw [List.set_append_right _ _ (by simp; omega), List.take_add_one, h]
  obtain ⟨m, hm⟩ : ∃ m, l.length - k = m + 1 := ⟨l.length - k - 1, by omega⟩
  have : l.length - (k + 1) = m := by omega
  rw [hm, this]
  simp [Nat.min_eq_left (Nat.le_of_lt hk), List.replicate_succ]

def swapP (x : Int × Int) : Int × Int := (x.2, x.1)
set_option maxHeartbeats 1000000 in
@[go_sem] theorem r116 (t : Nat) (es : List (Int × Int)) (hl : es.length ≤ 2000000000) : res A PrA 116 [.lst t (prs es)] = some [.lst 0 (prs (es.map swapP))] := by
  refine res_of a116 rfl rfl ?_
  simp only [F116]
  simp (disch := omega) only [go_sem]
  refine W.upto es.length (fun k => ⟨[(3, .own 0 0 0 es.length), (9, .pv (.lst t (prs es))), (10, .pv (.int .i64 es.length)), (11, .pv (.int .i64 k))], ⟨[], [⟨0, 2, .inl (prs (partTo swapP (0, 0) es k))⟩], []⟩⟩) (fun _ => True) (by rw [partTo_zero]; rfl) trivial fun k hk _ => ?_
  have hpl := partTo_len swapP (0, 0) es hk
  simp (disch := omega) only [go_sem]
  refine Br.ofP (fun h => ?_) (fun h => ?_)
  · obtain ⟨x, hx⟩ := get_at (l := es) (k := k) (by omega)
    have hs : (partTo swapP (0, 0) es k).set k (x.2, x.1) = partTo swapP (0, 0) es (k + 1) := partTo_set hx
    simp (disch := omega) only [go_sem, hx, hs]
    exact .of (by omega) rfl trivial
  · obtain rfl : k = es.length := by omega
    simp (disch := omega) only [go_sem]
    rw [partTo_all, List.take_of_length_le (by simp)]

def thereTo (l : List Int) (k : Nat) : List Int := ((List.range k).filter fun (v : Nat) => decide (0 ≤ l.getD v (-1))).map Int.ofNat
theorem thereTo_succ (l : List Int) (k : Nat) : thereTo l (k + 1) = if 0 ≤ l.getD k (-1) then thereTo l k ++ [(k : Int)] else thereTo l k := by
  unfold thereTo
  rw [List.range_succ, List.filter_append, List.map_append]
  by_cases h : 0 ≤ l.getD k (-1)
  · rw [if_pos h]
    have h' : 0 ≤ l[k]?.getD (-1) := by simpa using h
    simp [h']
  · rw [if_neg h]
    have h' : ¬ 0 ≤ l[k]?.getD (-1) := by simpa using h
    simp [h']
theorem thereTo_len (l : List Int) (k : Nat) : (thereTo l k).length ≤ k := by
  unfold thereTo
  rw [List.length_map]
  have := List.length_filter_le (fun (v : Nat) => decide (0 ≤ l.getD v (-1))) (List.range k)
  simpa using this
theorem thereTo_mem {l : List Int} {k : Nat} {x : Int} : x ∈ thereTo l k ↔ 0 ≤ x ∧ x < k ∧ 0 ≤ l.getD x.toNat (-1) := by
  unfold thereTo
  rw [List.mem_map]
  constructor
  · rintro ⟨v, hv, rfl⟩
    obtain ⟨h1, h2⟩ := List.mem_filter.1 hv
    have := List.mem_range.1 h1
    simp only [decide_eq_true_eq] at h2
    exact ⟨by simp, by simp; omega, h2⟩
  · rintro ⟨h1, h2, h3⟩
    exact ⟨x.toNat, List.mem_filter.2 ⟨List.mem_range.2 (by omega), by simpa using h3⟩, by simp; omega⟩
def there (l : List Int) : List Int := thereTo l l.length
@[go_sem] theorem r113 (t : Nat) (l : List Int) (hl : l.length ≤ 2000000000) : res A PrA 113 [.lst t (ints l)] = some [.lst 0 (ints (there l))] := by
  refine res_of a113 rfl rfl ?_
  simp only [F113]
  simp (disch := omega) only [go_sem]
  refine W.upto l.length (fun k => ⟨[(3, grV 0 (ints (thereTo l k))), (6, .pv (.lst t (ints l))), (7, .pv (.int .i64 l.length)), (8, .pv (.int .i64 k))], ⟨[], grA 1 (ints (thereTo l k)), []⟩⟩) (fun _ => True) rfl trivial fun k hk _ => ?_
  have hle := thereTo_len l k
  simp (disch := omega) only [go_sem]
  refine Br.ofP (fun h => ?_) (fun h => ?_)
  · obtain ⟨x, hx⟩ := get_at (l := l) (k := k) (by omega)
    have hs := thereTo_succ l k
    have hd : l.getD k (-1) = x := by simp [hx]
    rw [hd] at hs
    simp (disch := omega) only [go_sem, hx]
    refine Br.ofP (fun g => ?_) (fun g => ?_) <;> simp (disch := omega) only [go_sem, g]
    · rw [if_pos g] at hs
      refine .of (by omega) ?_ trivial
      show _ = St.mk _ _
      rw [hs]
      rfl
    · rw [if_neg g] at hs
      refine .of (by omega) ?_ trivial
      show _ = St.mk _ _
      rw [hs]
      rfl
  · obtain rfl : k = l.length := by omega
    simp (disch := omega) only [go_sem]
    rfl

end Go.Pv

/-
  Lists of lists that a call owns.
-/
namespace Go.Pv

def OwnL (ars : List Arr) (x : V) (l : List Int) : Prop :=
  ((x = .tl [] ∨ x = .pv (.lst 0 [])) ∧ l = []) ∨ ∃ id ver, x = .own (id + 1) ver 0 l.length ∧ l ≠ [] ∧ ars[id]? = some ⟨ver, 1, .inl (ints l)⟩
structure Lists (n : Nat) (s : List (List Int)) (xs : List V) (ars : List Arr) : Prop where
  xl : xs.length = n
  sl : s.length = n
  own : ∀ (v : Nat) (x : V) (l : List Int), xs[v]? = some x → s[v]? = some l → OwnL ars x l
  dis : ∀ (v w : Nat) (x y : V) (i : Nat), xs[v]? = some x → xs[w]? = some y → ownId x = some i → ownId y = some i → v = w
def rowsV (xs : List V) : List (List V) := xs.map fun x => [x]
@[go_sem] theorem rowsV_len (xs : List V) : (rowsV xs).length = xs.length := by simp [rowsV]
@[go_sem] theorem rowsV_get (xs : List V) (i : Nat) : (rowsV xs)[i]? = xs[i]?.map fun x => [x] := by simp [rowsV]
theorem rowsV_set (xs : List V) (i : Nat) (x : V) : (rowsV xs).set i [x] = rowsV (xs.set i x) := by simp [rowsV, List.map_set]
theorem rowsV_store {id row ver : Nat} {xs : List V} {y : V} (h1 : row < xs.length) (hc : y.calm = true) : storeRow id row 0 [y] ⟨ver, 1, .inr (rowsV xs)⟩ = some { ar := some (id, ⟨ver, 1, .inr (rowsV (xs.set row y))⟩) } := by
  have h2 : row < (⟨ver, 1, .inr (rowsV xs)⟩ : Arr).size := by simp [Arr.size, rowsV, h1]
  obtain ⟨z, hz⟩ : ∃ z, xs[row]? = some z := ⟨xs[row], by simp [h1]⟩
  have h3 : (rowsV xs).getD row [] = [z] := by simp [rowsV, hz]
  simp [storeRow, h2, hc, setBody, ← rowsV_set]
  simp [rowsV, hz]
theorem rowsV_made (n : Nat) : sameRows n [.tl []] = .inr (rowsV (List.replicate n (.tl []))) := by
  simp [sameRows, mapO, V.purec, rowsV]
attribute [go_sem] rowsV_made

theorem rep_get {α : Type} {n i : Nat} {a x : α} (h : (List.replicate n a)[i]? = some x) : x = a := List.eq_of_mem_replicate (List.mem_of_getElem? h)
theorem Lists.start (n : Nat) : Lists n (List.replicate n []) (List.replicate n (.tl [])) [] where
  xl := by simp
  sl := by simp
  own v x l hx hl := .inl ⟨.inl (rep_get hx), rep_get hl⟩
  dis v w x y i hx _ hi _ := by
    rw [rep_get hx] at hi
    simp [ownId] at hi
theorem OwnL.id_lt {ars : List Arr} {x : V} {l : List Int} (h : OwnL ars x l) {i : Nat} (hi : ownId x = some i) : ∃ id ver, i = id + 1 ∧ x = .own (id + 1) ver 0 l.length ∧ ars[id]? = some ⟨ver, 1, .inl (ints l)⟩ := by
  rcases h with ⟨rfl | rfl, _⟩ | ⟨id, ver, rfl, _, h⟩
  · simp [ownId] at hi
  · simp [ownId] at hi
  · simp [ownId] at hi
    exact ⟨id, ver, hi.symm, rfl, h⟩
theorem OwnL.set {ars : List Arr} {x : V} {l : List Int} (h : OwnL ars x l) {id : Nat} {a : Arr} (hne : ownId x ≠ some (id + 1)) : OwnL (ars.set id a) x l := by
  rcases h with h | ⟨j, ver, rfl, h1, h2⟩
  · exact .inl h
  · refine .inr ⟨j, ver, rfl, h1, ?_⟩
    rw [List.getElem?_set_ne]
    · exact h2
    · intro e
      exact hne (by rw [e]; rfl)
theorem OwnL.push {ars : List Arr} {x : V} {l : List Int} (h : OwnL ars x l) (a : List Arr) : OwnL (ars ++ a) x l := by
  rcases h with h | ⟨j, ver, rfl, h1, h2⟩
  · exact .inl h
  · exact .inr ⟨j, ver, rfl, h1, by rw [List.getElem?_append_left (List.getElem?_eq_some_iff.1 h2).1]; exact h2⟩

theorem Lists.upd {n : Nat} {s : List (List Int)} {xs : List V} {ars ars' : List Arr} (h : Lists n s xs ars) {v : Nat} {x' : V} {l' : List Int} (hv : v < n) (hx : OwnL ars' x' l')
    (hk : ∀ (w : Nat) (y : V) (l : List Int), w ≠ v → xs[w]? = some y → s[w]? = some l → OwnL ars' y l) (hd : ∀ (w : Nat) (y : V) (i : Nat), w ≠ v → xs[w]? = some y → ownId y = some i → ownId x' ≠ some i) : Lists n (s.set v l') (xs.set v x') ars' where
  xl := by rw [List.length_set]; exact h.xl
  sl := by rw [List.length_set]; exact h.sl
  own w y l hy hl := by
    by_cases e : w = v
    · subst e
      rw [List.getElem?_set_self (by rw [h.xl]; exact hv)] at hy
      rw [List.getElem?_set_self (by rw [h.sl]; exact hv)] at hl
      cases hy
      cases hl
      exact hx
    · rw [List.getElem?_set_ne (Ne.symm e)] at hy hl
      exact hk w y l e hy hl
  dis w w' y y' i hy hy' hi hi' := by
    by_cases e : w = v
    · subst e
      rw [List.getElem?_set_self (by rw [h.xl]; exact hv)] at hy
      cases hy
      by_cases e' : w' = w
      · exact e'.symm
      · rw [List.getElem?_set_ne (Ne.symm e')] at hy'
        exact (hd w' y' i e' hy' hi' hi).elim
    · rw [List.getElem?_set_ne (Ne.symm e)] at hy
      by_cases e' : w' = v
      · subst e'
        rw [List.getElem?_set_self (by rw [h.xl]; exact hv)] at hy'
        cases hy'
        exact (hd w y i e hy hi hi').elim
      · rw [List.getElem?_set_ne (Ne.symm e')] at hy'
        exact h.dis w w' y y' i hy hy' hi hi'
theorem Lists.get {n : Nat} {s : List (List Int)} {xs : List V} {ars : List Arr} (h : Lists n s xs ars) {v : Nat} (hv : v < n) : ∃ x l, xs[v]? = some x ∧ s[v]? = some l ∧ OwnL ars x l := by
  have h1 : v < xs.length := by rw [h.xl]; exact hv
  have h2 : v < s.length := by rw [h.sl]; exact hv
  exact ⟨xs[v], s[v], by simp, by simp, h.own v _ _ (by simp) (by simp)⟩
theorem Lists.lt {n : Nat} {s : List (List Int)} {xs : List V} {ars : List Arr} (h : Lists n s xs ars) {v i : Nat} {x : V} (hx : xs[v]? = some x) (hi : ownId x = some i) : i ≤ ars.length := by
  have hv : v < n := by rw [← h.xl]; exact (List.getElem?_eq_some_iff.1 hx).1
  obtain ⟨x', l, h1, h2, h3⟩ := h.get hv
  rw [hx] at h1
  cases h1
  obtain ⟨id, ver, rfl, _, h4⟩ := h3.id_lt hi
  exact (List.getElem?_eq_some_iff.1 h4).1
theorem Lists.first {n : Nat} {s : List (List Int)} {xs : List V} {ars : List Arr} (h : Lists n s xs ars) {v : Nat} {l : List Int} (hv : v < n) (hl : l ≠ []) : Lists n (s.set v l) (xs.set v (.own (ars.length + 1) 0 0 l.length)) (ars ++ [⟨0, 1, .inl (ints l)⟩]) :=
  h.upd hv (.inr ⟨ars.length, 0, rfl, hl, by simp⟩) (fun w y l _ hy hl => (h.own w y l hy hl).push _) fun w y i _ hy hi e => by
    have := h.lt hy hi
    simp only [ownId, Option.some.injEq] at e
    omega
theorem Lists.same {n : Nat} {s : List (List Int)} {xs : List V} {ars : List Arr} (h : Lists n s xs ars) {v id ver ver' m : Nat} {l : List Int} (hv : v < n) (hx : xs[v]? = some (.own (id + 1) ver 0 m)) (hl : l ≠ []) : Lists n (s.set v l) (xs.set v (.own (id + 1) ver' 0 l.length)) (ars.set id ⟨ver', 1, .inl (ints l)⟩) := by
  have hlt := h.lt hx rfl
  refine h.upd hv (.inr ⟨id, ver', rfl, hl, by rw [List.getElem?_set_self (by omega)]⟩) (fun w y l hw hy hl => (h.own w y l hy hl).set fun e => hw (h.dis w v y _ (id + 1) hy hx e rfl)) fun w y i hw hy hi e => ?_
  simp only [ownId, Option.some.injEq] at e
  subst e
  exact hw (h.dis w v y _ (id + 1) hy hx hi rfl)
theorem Lists.moved {n : Nat} {s : List (List Int)} {xs : List V} {ars : List Arr} (h : Lists n s xs ars) {v id ver m : Nat} {a : Arr} {l : List Int} (hv : v < n) (hx : xs[v]? = some (.own (id + 1) ver 0 m)) (hl : l ≠ []) : Lists n (s.set v l) (xs.set v (.own (ars.length + 1) 0 0 l.length)) (ars.set id a ++ [⟨0, 1, .inl (ints l)⟩]) := by
  refine h.upd hv (.inr ⟨ars.length, 0, rfl, hl, by rw [List.getElem?_append_right (by simp)]; simp⟩) (fun w y l hw hy hl => ((h.own w y l hy hl).set fun e => hw (h.dis w v y _ (id + 1) hy hx e rfl)).push _) fun w y i _ hy hi e => ?_
  have := h.lt hy hi
  simp only [ownId, Option.some.injEq] at e
  omega
theorem Lists.none {n : Nat} {s : List (List Int)} {xs : List V} {ars : List Arr} (h : Lists n s xs ars) {v : Nat} (hv : v < n) {x' : V} (hx : x' = .tl [] ∨ x' = .pv (.lst 0 [])) : Lists n (s.set v []) (xs.set v x') ars :=
  h.upd hv (.inl ⟨hx, rfl⟩) (fun w y l _ hy hl => h.own w y l hy hl) fun w y i _ _ _ e => by rcases hx with rfl | rfl <;> simp [ownId] at e

def lls (s : List (List Int)) : List (List PV) := s.map fun l => [.lst 0 (ints l)]
@[go_sem] theorem lls_len (s : List (List Int)) : (lls s).length = s.length := by simp [lls]
@[go_sem] theorem lls_get (s : List (List Int)) (i : Nat) : (lls s)[i]? = s[i]?.map fun l => [.lst 0 (ints l)] := by simp [lls]
theorem OwnL.keep {a0 : Arr} {ars : List Arr} {x : V} {l : List Int} (h : OwnL ars x l) (d : Nat) : keepc ⟨[], a0 :: ars, []⟩ (d + 1) x = some (.lst 0 (ints l)) := by
  rcases h with ⟨rfl | rfl, rfl⟩ | ⟨id, ver, rfl, _, h2⟩
  · rfl
  · rfl
  · have e1 : (ints l).length = l.length := ints_length l
    simp [keepc_own, ownArr, h2, keepRows, cutRows, List.take_of_length_le (Nat.le_of_eq e1)]
theorem Lists.keep {n : Nat} {s : List (List Int)} {xs : List V} {a0 : Arr} {ars : List Arr} (h : Lists n s xs ars) (d : Nat) : mapO (mapO (keepc ⟨[], a0 :: ars, []⟩ (d + 1))) (rowsV xs) = some (lls s) := by
  have key : ∀ (xs : List V) (s : List (List Int)), xs.length = s.length → (∀ (v : Nat) (x : V) (l : List Int), xs[v]? = some x → s[v]? = some l → OwnL ars x l) → mapO (mapO (keepc ⟨[], a0 :: ars, []⟩ (d + 1))) (rowsV xs) = some (lls s) := by
    intro xs
    induction xs with
    | nil =>
      intro s hl _
      have : s = [] := List.eq_nil_of_length_eq_zero hl.symm
      subst this
      rfl
    | cons x xs ih =>
      intro s hl ho
      match s, hl with
      | l :: s, hl =>
        have h1 := (ho 0 x l rfl rfl).keep (a0 := a0) d
        have h2 := ih s (by simpa using hl) fun v y m hy hm => ho (v + 1) y m (by simpa using hy) (by simpa using hm)
        show mapO (mapO (keepc ⟨[], a0 :: ars, []⟩ (d + 1))) ([x] :: rowsV xs) = some ([.lst 0 (ints l)] :: lls s)
        simp only [mapO, h1, h2]
  exact key xs s (h.xl.trans h.sl.symm) h.own

end Go.Pv

/-
  Successors.
-/
namespace Go.Pv

@[go_sem] theorem rowsV_store_own {id row ver a b c d : Nat} {xs : List V} (h1 : row < xs.length) : storeRow id row 0 [.own a b c d] ⟨ver, 1, .inr (rowsV xs)⟩ = some { ar := some (id, ⟨ver, 1, .inr (rowsV (xs.set row (.own a b c d)))⟩) } := rowsV_store h1 rfl
@[go_sem] theorem rowsV_store_pv {id row ver : Nat} {xs : List V} (h1 : row < xs.length) : storeRow id row 0 [.pv (.lst 0 [])] ⟨ver, 1, .inr (rowsV xs)⟩ = some { ar := some (id, ⟨ver, 1, .inr (rowsV (xs.set row (.pv (.lst 0 []))))⟩) } := rowsV_store h1 rfl
theorem not_set {xs : List V} {x y : V} {i : Nat} (h : x ∉ xs) (hy : x ≠ y) : x ∉ xs.set i y := fun hm => by
  rcases List.mem_or_eq_of_mem_set hm with hm | hm
  · exact h hm
  · exact hy hm
def outP (es : List (Int × Int)) (v : Int) : List Int := (es.filter fun e => e.1 == v).map (·.2)
def succTo (n : Nat) (es : List (Int × Int)) (k : Nat) : List (List Int) := (List.range n).map fun (v : Nat) => outP (es.take k) v
theorem succTo_zero (n : Nat) (es : List (Int × Int)) : succTo n es 0 = List.replicate n [] := by
  apply List.ext_getElem?
  intro i
  unfold succTo outP
  rcases Nat.lt_or_ge i n with hi | hi
  · simp [hi]
  · simp [hi]
theorem succTo_get {n : Nat} {es : List (Int × Int)} {k v : Nat} (h : v < n) : (succTo n es k)[v]? = some (outP (es.take k) v) := by simp [succTo, h]
theorem succTo_succ {n : Nat} {es : List (Int × Int)} {k : Nat} {e : Int × Int} (he : es[k]? = some e) (h : 0 ≤ e.1 ∧ e.1 < n) : (succTo n es k).set e.1.toNat (outP (es.take k) e.1 ++ [e.2]) = succTo n es (k + 1) := by
  have ht : es.take (k + 1) = es.take k ++ [e] := by rw [List.take_add_one, he]; rfl
  apply List.ext_getElem?
  intro i
  rcases Nat.lt_or_ge i n with hi | hi
  · rw [succTo_get hi, ht]
    unfold outP
    rw [List.filter_append, List.map_append]
    by_cases hx : e.1.toNat = i
    · have hx' : e.1 = (i : Int) := by omega
      rw [hx, List.getElem?_set_self (by simp [succTo, hi])]
      simp [hx']
    · have hx' : ¬ e.1 = (i : Int) := by omega
      rw [List.getElem?_set_ne hx, succTo_get hi]
      simp [hx', outP]
  · rw [List.getElem?_eq_none (by simp [succTo, hi]), List.getElem?_eq_none (by simp [succTo, hi])]
theorem outP_len (es : List (Int × Int)) (v : Int) : (outP es v).length ≤ es.length := by
  unfold outP
  rw [List.length_map]
  exact List.length_filter_le _ _
def succs (n : Nat) (es : List (Int × Int)) : List (List Int) := (List.range n).map fun (v : Nat) => uniqs (outP es v)
theorem succs_map (n : Nat) (es : List (Int × Int)) : (succTo n es es.length).map uniqs = succs n es := by
  unfold succTo succs
  rw [List.take_length, List.map_map]
  rfl
theorem uniqs_ne {l : List Int} (h : l ≠ []) : uniqs l ≠ [] := by
  obtain ⟨x, r, rfl⟩ := List.exists_cons_of_ne_nil h
  intro e
  have : x ∈ uniqs (x :: r) := uniqs_mem.2 (by simp)
  rw [e] at this
  cases this
def inG (n : Nat) (es : List (Int × Int)) : Prop := ∀ e ∈ es, (0 ≤ e.1 ∧ e.1 < n) ∧ (0 ≤ e.2 ∧ e.2 < n)

set_option maxHeartbeats 4000000 in
@[go_sem] theorem r115 (t n : Nat) (es : List (Int × Int)) (hl : es.length ≤ 2000000000) (hn : n ≤ 2000000000) (hg : inG n es) : res A PrA 115 [.int .i64 (n : Int), .lst t (prs es)] = some [.lst 0 (lls (succs n es))] := by
  refine res_of a115 rfl rfl ?_
  simp only [F115]
  simp (disch := omega) only [go_sem]
  refine W.loop (α := Nat × List V × List Arr) (fun x => ⟨[(5, .own 0 0 0 n), (11, .pv (.lst t (prs es))), (12, .pv (.int .i64 es.length)), (13, .pv (.int .i64 x.1))], ⟨[], ⟨0, 1, .inr (rowsV x.2.1)⟩ :: x.2.2, []⟩⟩)
    (fun x => x.1 ≤ es.length ∧ Lists n (succTo n es x.1) x.2.1 x.2.2 ∧ V.pv (.lst 0 []) ∉ x.2.1) (fun x => es.length - x.1) (0, List.replicate n (.tl []), []) rfl ⟨Nat.zero_le _, by rw [succTo_zero]; exact Lists.start n, fun hm => by cases List.eq_of_mem_replicate hm⟩ fun x hx => ?_
  obtain ⟨k, xs, ars⟩ := x
  obtain ⟨hk, hL, hno⟩ := hx
  dsimp only at hk hL hno
  simp (disch := omega) only [go_sem]
  refine Br.ofP (fun h => ?_) (fun h => ?_)
  · obtain ⟨e, he⟩ := get_at (l := es) (k := k) (by omega)
    obtain ⟨⟨g1, g2⟩, g3, g4⟩ := hg e (List.mem_of_getElem? he)
    have hv : e.1.toNat < n := by omega
    have hvi : ((e.1.toNat : Nat) : Int) = e.1 := by omega
    obtain ⟨x, l, hx, hs, ho⟩ := hL.get hv
    rw [succTo_get hv, hvi] at hs
    cases hs
    have hol := outP_len (es.take k) e.1
    have htl : (es.take k).length ≤ k := by simp; omega
    have hxl := hL.xl
    have hsucc := succTo_succ he ⟨g1, g2⟩
    rcases ho with ⟨h0, h1⟩ | ⟨id, ver, rfl, h1, h2⟩
    · rcases h0 with rfl | rfl
      · simp (disch := omega) only [go_sem, he, hx]
        refine ⟨(k + 1, _, _), ⟨by dsimp only; omega, ?_, not_set hno (by simp)⟩, by dsimp only; omega, rfl⟩
        dsimp only
        rw [← hsucc, h1]
        exact hL.first hv (by simp)
      · exact (hno (List.mem_of_getElem? hx)).elim
    · simp (disch := omega) only [go_sem, he, hx, h2]
      refine ⟨(k + 1, _, _), ⟨by dsimp only; omega, ?_, not_set hno (by simp)⟩, by dsimp only; omega, rfl⟩
      dsimp only
      rw [← hsucc]
      have := hL.same (ver' := ver + 1) (l := outP (es.take k) e.1 ++ [e.2]) hv hx (by simp)
      simp only [List.length_append, List.length_cons, List.length_nil, Nat.zero_add] at this
      exact this
  · obtain rfl : k = es.length := by omega
    clear h
    simp (disch := omega) only [go_sem]
    refine W.loop (α := Nat × List V × List Arr) (fun x => ⟨[(5, .own 0 0 0 n), (32, .pv (.int .i64 n)), (33, .pv (.int .i64 x.1))], ⟨[], ⟨0, 1, .inr (rowsV x.2.1)⟩ :: x.2.2, []⟩⟩)
      (fun x => x.1 ≤ n ∧ Lists n (mapTo uniqs (succTo n es es.length) x.1) x.2.1 x.2.2 ∧ ∀ w, x.1 ≤ w → x.2.1[w]? ≠ some (.pv (.lst 0 []))) (fun x => n - x.1) (0, xs, ars) rfl ⟨Nat.zero_le _, by rw [mapTo_zero]; exact hL, fun w _ hw => hno (List.mem_of_getElem? hw)⟩ fun x hx => ?_
    obtain ⟨v, xs, ars⟩ := x
    obtain ⟨hk, hL, hno⟩ := hx
    dsimp only at hk hL hno
    simp (disch := omega) only [go_sem]
    refine Br.ofP (fun h => ?_) (fun h => ?_)
    · have hv : v < n := by omega
      obtain ⟨x, l, hx, hs, ho⟩ := hL.get hv
      have hs0 := succTo_get (es := es) (k := es.length) hv
      rw [mapTo_get hs0] at hs
      cases hs
      have hsm := mapTo_set (f := uniqs) hs0
      have hol := outP_len es (v : Int)
      rw [List.take_length] at hsm ho
      have hxl := hL.xl
      have hul := uniqs_len (outP es v)
      rcases ho with ⟨h0, h1⟩ | ⟨id, ver, rfl, h1, h2⟩
      · rcases h0 with rfl | rfl
        · simp (disch := omega) only [go_sem, hx]
          refine ⟨(v + 1, _, _), ⟨by dsimp only; omega, ?_, fun w hw => ?_⟩, by dsimp only; omega, rfl⟩
          · dsimp only
            rw [← hsm, h1]
            exact hL.none hv (.inr rfl)
          · dsimp only at hw ⊢
            rw [List.getElem?_set_ne (by omega)]
            exact hno w (by omega)
        · exact (hno v (Nat.le_refl _) hx).elim
      · have h3 : (outP es (v : Int)).length ≠ 0 := fun e => h1 (List.eq_nil_of_length_eq_zero e)
        have h4 : cmpct (isort ltI (outP es (v : Int))) = uniqs (outP es (v : Int)) := rfl
        have hid := (List.getElem?_eq_some_iff.1 h2).1
        have hget : ∀ a : Arr, (ars.set id a)[id]? = some a := fun a => List.getElem?_set_self hid
        have hil := isort_len (outP es (v : Int))
        simp (disch := omega) only [go_sem, hx, h2, h4, hget, List.set_set, List.length_set]
        refine ⟨(v + 1, _, _), ⟨by dsimp only; omega, ?_, fun w hw => ?_⟩, by dsimp only; omega, rfl⟩
        · dsimp only
          rw [← hsm]
          exact hL.moved (a := ⟨ver + 1, 0, .inl []⟩) hv hx (uniqs_ne h1)
        · dsimp only at hw ⊢
          rw [List.getElem?_set_ne (by omega)]
          exact hno w (by omega)
    · obtain rfl : v = n := by omega
      simp (disch := omega) only [go_sem]
      rw [List.take_of_length_le (by rw [rowsV_len, hL.xl]; exact Nat.le_refl _), hL.keep 2, ← succs_map]
      have : succTo v es es.length = succTo v es es.length := rfl
      have hmm := mapTo_all uniqs (succTo v es es.length)
      rw [show (succTo v es es.length).length = v by simp [succTo]] at hmm
      rw [hmm]
      rfl

end Go.Pv

/-
  Levels; vertices from which some can be reached.
-/
namespace Go.Pv

def nxt (s : List (List Int)) (v : Int) : List Int := s.getD v.toNat []

set_option maxHeartbeats 4000000 in
@[go_sem] theorem r114 (t u n : Nat) (s : List (List Int)) (fr : List Int) (hn : n ≤ 12) (hs : s.length = n) (hr : ∀ l ∈ s, l.length ≤ 100000 ∧ ∀ x ∈ l, 0 ≤ x ∧ x < (n : Int)) (hf : ∀ x ∈ fr, 0 ≤ x ∧ x < (n : Int)) (hm : fr.length ≤ 2000000000) :
    res A PrA 114 [.lst t (lls s), .lst u (ints fr)] = some [.lst 0 (ints (levels (nxt s) n fr))] := by
  refine res_of a114 rfl rfl ?_
  simp only [F114]
  have hrep := r130 hn
  simp (disch := omega) only [go_sem, hs, hrep]
  refine W.fold fr (lvIn 0) (List.replicate n (-1), []) (fun k q => ⟨[(0, .pv (.lst t (lls s))), (5, .own 0 0 0 n), (6, grV 1 (ints q.2)), (17, .pv (.lst u (ints fr))), (18, .pv (.int .i64 fr.length)), (19, .pv (.int .i64 k))], ⟨[], ⟨0, 1, .inl (ints q.1)⟩ :: grA 1 (ints q.2), []⟩⟩) (fun _ q => LvOk n q) (by simp [List.length_replicate, grV, grA, ints]) (LvOk.start n) (fun k x q hx hk _ hi => ?_) (fun q hq hi => ?_)
  · obtain ⟨x0, x1⟩ := hf x (List.mem_of_getElem? hx)
    have hst := hi.step (x := x) (d := 0) ⟨x0, x1⟩ ⟨by omega, by omega⟩
    have hb := hi.bound
    have hlen := hi.len
    obtain ⟨out, q⟩ := q
    dsimp only at hb hlen
    have hg : out[x.toNat]? = some (out.getD x.toNat (-1)) := by
      have : x.toNat < out.length := by omega
      simp [this]
    simp (disch := omega) only [go_sem]
    refine Br.ofP (fun h => ?_) (fun h => (h (by omega)).elim)
    simp (disch := omega) only [go_sem, hx, hg]
    refine Br.ofP (fun g => ?_) (fun g => ?_) <;> simp (disch := omega) only [go_sem, g]
    · have hin : lvIn 0 (out, q) x = (out.set x.toNat 0, q ++ [x]) := if_pos g
      rw [hin] at hst ⊢
      refine foldK.of ?_ hst
      show _ = St.mk _ _
      simp only []
      rfl
    · have hin : lvIn 0 (out, q) x = (out, q) := if_neg g
      rw [hin] at hst ⊢
      exact foldK.of rfl hst
  simp (disch := omega) only [go_sem]
  have hnx : ∀ v x, x ∈ nxt s v → 0 ≤ x ∧ x < (n : Int) := fun v x hx => by
    unfold nxt at hx
    cases hg : s[v.toNat]? with
    | none => simp [hg] at hx
    | some l =>
      simp only [List.getD_eq_getElem?_getD, hg, Option.getD_some] at hx
      exact (hr l (List.mem_of_getElem? hg)).2 x hx
  refine W.loop (α := Nat × List Int × List Int) (fun x => ⟨[(0, .pv (.lst t (lls s))), (5, .own 0 0 0 n), (6, grV 1 (ints x.2.2)), (9, .pv (.int .i64 x.1))], ⟨[], ⟨0, 1, .inl (ints x.2.1)⟩ :: grA 1 (ints x.2.2), []⟩⟩)
    (fun x => LvOk n x.2 ∧ x.1 ≤ x.2.2.length ∧ (lvRun (nxt s) (n - x.1) x.1 x.2).1 = levels (nxt s) n fr) (fun x => n - x.1) (0, q) rfl ⟨hi, Nat.zero_le _, by rw [hq]; rfl⟩ fun x hx => ?_
  obtain ⟨i, out, q⟩ := x
  obtain ⟨hL, h2, hb⟩ := hx
  dsimp only at h2 hb
  have hbo := hL.bound
  have hle := hL.len
  dsimp only at hbo hle
  simp (disch := omega) only [go_sem]
  refine Br.ofP (fun h => ?_) (fun h => ?_)
  · obtain ⟨v, hv⟩ := get_at (l := q) (k := i) (by omega)
    obtain ⟨v0, v1, v2⟩ := (hL.mem v).1 (List.mem_of_getElem? hv)
    obtain ⟨l, hsl⟩ := get_at (l := s) (k := v.toNat) (by omega)
    obtain ⟨hll, hlr⟩ := hr l (List.mem_of_getElem? hsl)
    have hnl : nxt s v = l := by simp [nxt, hsl]
    obtain ⟨m, hm'⟩ : ∃ m, (ints q).length = m + 1 := ⟨q.length - 1, by rw [ints_len]; omega⟩
    have hgV := grV_own (i := 1) hm'
    have hgA := grA_own (k := 1) hm'
    rw [ints_len] at hm'
    rw [hgV, hgA]
    have hd0 : out[v.toNat]? = some (out.getD v.toNat (-1)) := by
      have : v.toNat < out.length := by omega
      simp [this]
    have htop := hL.top v.toNat
    dsimp only at htop v2
    simp (disch := omega) only [go_sem, hv, hsl, idxR_int]
    refine W.fold l (lvIn (out.getD v.toNat (-1) + 1)) (out, q) (fun k q => ⟨[(0, .pv (.lst t (lls s))), (5, .own 0 0 0 n), (6, grV 1 (ints q.2)), (9, .pv (.int .i64 i)), (10, .pv (.int .i64 v)), (49, .pv (.lst 0 (ints l))), (50, .pv (.int .i64 l.length)), (51, .pv (.int .i64 k))], ⟨[], ⟨0, 1, .inl (ints q.1)⟩ :: grA 1 (ints q.2), []⟩⟩)
      (fun _ p => LvOk n p ∧ q.length ≤ p.2.length ∧ p.1.getD v.toNat (-1) = out.getD v.toNat (-1)) (by
        rw [hgV, hgA]
        rfl) ⟨hL, Nat.le_refl _, rfl⟩ (fun k x p hx hk _ hi => ?_) (fun p hp hi => ?_)
    · obtain ⟨out', q'⟩ := p
      obtain ⟨hL', hq', hv'⟩ := hi
      dsimp only at hq' hv'
      obtain ⟨x0, x1⟩ := hlr x (List.mem_of_getElem? hx)
      have hbo' := hL'.bound
      have hle' := hL'.len
      dsimp only at hbo' hle'
      have hst := hL'.step (x := x) (d := out.getD v.toNat (-1) + 1) ⟨x0, x1⟩ ⟨by omega, by dsimp only; omega⟩
      have hg : out'[x.toNat]? = some (out'.getD x.toNat (-1)) := by
        have : x.toNat < out'.length := by omega
        simp [this]
      have hg2 : out'[v.toNat]? = some (out.getD v.toNat (-1)) := by
        have : v.toNat < out'.length := by omega
        rw [← hv']
        simp [this]
      simp (disch := omega) only [go_sem]
      refine Br.ofP (fun h => ?_) (fun h => (h (by omega)).elim)
      simp (disch := omega) only [go_sem, hx, hg]
      refine Br.ofP (fun g => ?_) (fun g => ?_) <;> simp (disch := omega) only [go_sem, g]
      · have hin : lvIn (out.getD v.toNat (-1) + 1) (out', q') x = (out'.set x.toNat (out.getD v.toNat (-1) + 1), q' ++ [x]) := if_pos g
        have hne : x.toNat ≠ v.toNat := fun e => by rw [e, hv'] at g; omega
        simp (disch := omega) only [go_sem, hg2]
        rw [hin] at hst ⊢
        refine foldK.of ?_ ⟨hst, by simp; omega, by dsimp only; rw [getD_set' (by omega), if_neg hne]; exact hv'⟩
        show _ = St.mk _ _
        simp only []
        rfl
      · have hin : lvIn (out.getD v.toNat (-1) + 1) (out', q') x = (out', q') := if_neg g
        rw [hin] at hst ⊢
        exact foldK.of rfl ⟨hst, hq', hv'⟩
    · obtain ⟨hL', hq', hv'⟩ := hi
      have hbo' := hL'.bound
      simp (disch := omega) only [go_sem]
      refine ⟨(i + 1, p), ⟨hL', by dsimp only; omega, ?_⟩, by dsimp only; omega, rfl⟩
      dsimp only
      obtain ⟨r, hr'⟩ : ∃ r, n - i = r + 1 := ⟨n - i - 1, by omega⟩
      rw [hr'] at hb
      unfold lvRun at hb
      dsimp only at hb
      rw [hv] at hb
      dsimp only at hb
      rw [hnl, ← hp] at hb
      rw [← hb]
      congr 2
      omega
  · simp (disch := omega) only [go_sem]
    have : lvRun (nxt s) (n - i) i (out, q) = (out, q) := by
      cases hni : n - i with
      | zero => rfl
      | succ r =>
        unfold lvRun
        rw [List.getElem?_eq_none (by dsimp only; omega)]
    rw [this] at hb
    rw [← hb, List.take_of_length_le (by omega)]

end Go.Pv

/-
  The law of next states, ends and labels.
-/
namespace Go.Pv

end Go.Pv

/-
  Vertices from which some can be reached; proper automata.
-/
namespace Go.Pv

theorem inG_of {n : Nat} {es : List (Int × Int)} (h : es.any (badP n) = false) : inG n es := fun e he => by
  rw [List.any_eq_false] at h
  have := h e he
  simp only [badP, Bool.or_eq_true, decide_eq_true_eq, not_or] at this
  omega
theorem gErr_zero {n : Int} {es : List (Int × Int)} (h : gErr n es = 0) : 0 ≤ n ∧ n ≤ 2000 ∧ es.length ≤ 40000 ∧ inG n.toNat es := by
  unfold gErr at h
  split at h
  · cases h
  · split at h
    · cases h
    · rename_i h1 h2
      have h3 : 0 ≤ n := by omega
      refine ⟨h3, by omega, by omega, inG_of ?_⟩
      rw [show ((n.toNat : Nat) : Int) = n by omega]
      cases hb : es.any (badP n) with
      | false => rfl
      | true => exact (h2 (.inr hb)).elim
theorem gErrL_zero {n : Int} {es : List (Int × Int)} {l : List Int} (h : gErrL n es l = 0) : gErr n es = 0 ∧ ∀ x ∈ l, 0 ≤ x ∧ x < n := by
  unfold gErrL at h
  split at h
  · rename_i h1
    exact (h1 h).elim
  · split at h
    · cases h
    · rename_i h1 h2
      refine ⟨by omega, fun x hx => ?_⟩
      have h2' : (l.any fun x => decide (x < 0) || decide (n ≤ x)) = false := by simpa using h2
      rw [List.any_eq_false] at h2'
      have := h2' x hx
      simp only [Bool.or_eq_true, decide_eq_true_eq, not_or] at this
      omega
theorem inG_swap {n : Nat} {es : List (Int × Int)} (h : inG n es) : inG n (es.map swapP) := fun e he => by
  obtain ⟨x, hx, rfl⟩ := List.mem_map.1 he
  have := h x hx
  exact ⟨this.2, this.1⟩
theorem succs_len (n : Nat) (es : List (Int × Int)) : (succs n es).length = n := by simp [succs]
theorem outP_mem {es : List (Int × Int)} {v x : Int} : x ∈ outP es v ↔ (v, x) ∈ es := by
  unfold outP
  rw [List.mem_map]
  constructor
  · rintro ⟨e, he, rfl⟩
    obtain ⟨h1, h2⟩ := List.mem_filter.1 he
    simp only [beq_iff_eq] at h2
    rw [← h2]
    exact h1
  · exact fun h => ⟨_, List.mem_filter.2 ⟨h, by simp⟩, rfl⟩
theorem succs_ok {n : Nat} {es : List (Int × Int)} (h : inG n es) (hl : es.length ≤ 100000) : ∀ l ∈ succs n es, l.length ≤ 100000 ∧ ∀ x ∈ l, 0 ≤ x ∧ x < (n : Int) := fun l hl' => by
  obtain ⟨v, _, rfl⟩ := List.mem_map.1 hl'
  have h1 := uniqs_len (outP es v)
  have h2 := outP_len es v
  exact ⟨by omega, fun x hx => (h _ (outP_mem.1 (uniqs_mem.1 hx))).2⟩
theorem nxt_succs {n : Nat} {es : List (Int × Int)} (h : inG n es) {v x : Int} (hv : 0 ≤ v) : x ∈ nxt (succs n es) v ↔ (v, x) ∈ es := by
  unfold nxt
  rcases Nat.lt_or_ge v.toNat n with hn | hn
  · have : (succs n es)[v.toNat]? = some (uniqs (outP es v)) := by
      unfold succs
      rw [List.getElem?_map, List.getElem?_range hn]
      simp only [Option.map_some]
      rw [show ((v.toNat : Nat) : Int) = v by omega]
    simp only [List.getD_eq_getElem?_getD, this, Option.getD_some]
    rw [uniqs_mem, outP_mem]
  · have : (succs n es)[v.toNat]? = none := List.getElem?_eq_none (by rw [succs_len]; exact hn)
    simp only [List.getD_eq_getElem?_getD, this, Option.getD_none, List.not_mem_nil, false_iff]
    intro hm
    have := (h _ hm).1
    omega
theorem nxt_in {n : Nat} {s : List (List Int)} (hr : ∀ l ∈ s, l.length ≤ 100000 ∧ ∀ x ∈ l, 0 ≤ x ∧ x < (n : Int)) : ∀ v x, x ∈ nxt s v → 0 ≤ x ∧ x < (n : Int) := fun v x hx => by
  unfold nxt at hx
  cases hg : s[v.toNat]? with
  | none => simp [hg] at hx
  | some l =>
    simp only [List.getD_eq_getElem?_getD, hg, Option.getD_some] at hx
    exact (hr l (List.mem_of_getElem? hg)).2 x hx

theorem there_len (l : List Int) : (there l).length ≤ l.length := thereTo_len l l.length
def edgeP (e : Edge) : Int × Int := (e.fr, e.to)
theorem Rch.all {α : Type} {nx : α → List α} {P : α → Prop} (h : ∀ v, P v → ∀ x ∈ nx v, P x) {s v : α} (hs : P s) (hr : Rch nx s v) : P v := by
  induction hr with
  | refl => exact hs
  | step _ hx ih => exact h _ ih _ hx
theorem Rch.mono {α : Type} {nx nx' : α → List α} {P : α → Prop} (hP : ∀ v, P v → ∀ x ∈ nx v, P x) (h : ∀ v x, P v → x ∈ nx v → x ∈ nx' v) {s v : α} (hs : P s) (hr : Rch nx s v) : Rch nx' s v := by
  induction hr with
  | refl => exact .refl
  | step hr hx ih => exact .step ih (h _ _ (Rch.all hP hs hr) hx)
theorem Auto.Good.inG {a : Auto} (h : a.Good) : inG a.states.toNat (a.edges.map edgeP) := fun e he => by
  obtain ⟨x, hx, rfl⟩ := List.mem_map.1 he
  have := fits_iff.1 (h.fit x hx)
  simp only [edgeP]
  omega
@[go_sem] theorem grow0p (bx : List (Nat × List V)) (mp : List (List (PV × PV))) (l : List (Int × Int)) (x y : Int) (hm : l.length + 1 ≤ 2147483648) :
    appendV ⟨bx, grA 2 (prs l), mp⟩ 2 (grV 0 (prs l)) (.tl [[.int .i64 x, .int .i64 y]]) = some (grV 0 (prs (l ++ [(x, y)])), grT 0 2 (prs l) [.int .i64 x, .int .i64 y]) := by
  rw [grow0 bx mp 2 (prs l) [.int .i64 x, .int .i64 y] rfl (by rw [prs_length]; exact hm), prs_snoc]
end Go.Pv

/-
  Plain laws: the first shortest path.
-/
namespace Go.Pv

theorem Dist.chain {n : Nat} {ed : Int → Int → Prop} {fr d : List Int} (h : Dist n ed fr d) : ∀ (k : Nat) (v : Int), 0 ≤ v → v < n → d.getD v.toNat (-1) = (k : Int) → ∃ L : List Int, L.Nodup ∧ L.length = k + 1 ∧ ∀ x ∈ L, (0 ≤ x ∧ x < n) ∧ d.getD x.toNat (-1) ≤ (k : Int)
  | 0, v, h0, h1, hk => ⟨[v], by simp, rfl, fun x hx => by
    rw [List.mem_singleton.1 hx]
    exact ⟨⟨h0, h1⟩, by omega⟩⟩
  | k + 1, v, h0, h1, hk => by
    obtain ⟨u, _, e2, e3, e4⟩ := h.back v h0 h1 (by omega)
    obtain ⟨L, g1, g2, g3⟩ := Dist.chain h k u e2 e3 (by omega)
    refine ⟨v :: L, List.nodup_cons.2 ⟨fun hm => ?_, g1⟩, by simp [g2], fun x hx => ?_⟩
    · have := (g3 v hm).2
      omega
    · rcases List.mem_cons.1 hx with rfl | hx
      · exact ⟨⟨h0, h1⟩, by omega⟩
      · have := g3 x hx
        exact ⟨this.1, by omega⟩
theorem Dist.top {n : Nat} {ed : Int → Int → Prop} {fr d : List Int} (h : Dist n ed fr d) {v : Int} (h0 : 0 ≤ v) (h1 : v < n) : d.getD v.toNat (-1) < n := by
  rcases Int.lt_or_le (d.getD v.toNat (-1)) 0 with hl | hl
  · omega
  · obtain ⟨L, g1, g2, g3⟩ := h.chain (d.getD v.toNat (-1)).toNat v h0 h1 (by omega)
    have := nodup_bound g1 (fun x hx => (g3 x hx).1)
    omega

def leastN (n : Nat) (p : Int → Bool) : Int := match (List.range n).find? (fun (w : Nat) => p w) with
  | some w => w
  | none => 0
theorem leastN_of {n : Nat} {p : Int → Bool} {x : Int} (h0 : 0 ≤ x) (h1 : x < n) (hp : p x = true) : 0 ≤ leastN n p ∧ leastN n p < n ∧ p (leastN n p) = true := by
  unfold leastN
  cases hf : (List.range n).find? (fun (w : Nat) => p w) with
  | none =>
    rw [List.find?_eq_none] at hf
    exact absurd (by rw [Int.toNat_of_nonneg h0]; exact hp) (hf x.toNat (List.mem_range.2 (by omega)))
  | some w =>
    have h2 := List.find?_some hf
    have h3 := List.mem_range.1 (List.mem_of_find?_eq_some hf)
    exact ⟨by show 0 ≤ (w : Int); omega, by show (w : Int) < n; omega, h2⟩
theorem leastN_lt {n : Nat} {p : Int → Bool} {y : Int} (h0 : 0 ≤ y) (_h1 : y < n) (h : y < leastN n p) : p y = false := by
  unfold leastN at h
  cases hf : (List.range n).find? (fun (w : Nat) => p w) with
  | none =>
    rw [hf] at h
    have : y < 0 := h
    omega
  | some w =>
    rw [hf] at h
    have h : y < (w : Int) := h
    rw [List.find?_eq_some_iff_getElem] at hf
    obtain ⟨_, i, hi, hw, hb⟩ := hf
    rw [List.length_range] at hi
    rw [List.getElem_range] at hw
    have := hb y.toNat (by omega)
    rw [List.getElem_range, Int.toNat_of_nonneg h0] at this
    simpa using this
def nearer (d : List Int) (v w : Int) : Bool := decide (d.getD w.toNat (-1) = d.getD v.toNat (-1) - 1)
def pstep (n : Nat) (es : List (Int × Int)) (d : List Int) (v : Int) : Int := leastN n fun w => nearer d v w && decide ((v, w) ∈ es)
theorem pstep_ok {n : Nat} {es : List (Int × Int)} {fr d : List Int} (h : Dist n (fun v u => (v, u) ∈ es) fr d) {v : Int} (h0 : 0 ≤ v) (h1 : v < n) (hp : 0 < d.getD v.toNat (-1)) : (0 ≤ pstep n es d v ∧ pstep n es d v < n) ∧ d.getD (pstep n es d v).toNat (-1) = d.getD v.toNat (-1) - 1 ∧ (v, pstep n es d v) ∈ es := by
  obtain ⟨u, e1, e2, e3, e4⟩ := h.back v h0 h1 hp
  obtain ⟨g1, g2, g3⟩ := leastN_of (n := n) (p := fun w => nearer d v w && decide ((v, w) ∈ es)) e2 e3 (by simp only [nearer, e1, e4, decide_true, Bool.and_self])
  rw [Bool.and_eq_true, decide_eq_true_eq] at g3
  unfold nearer at g3
  rw [decide_eq_true_eq] at g3
  exact ⟨⟨g1, g2⟩, g3.1, g3.2⟩
theorem pstep_idx {n : Nat} {es : List (Int × Int)} {fr d : List Int} (h : Dist n (fun v u => (v, u) ∈ es) fr d) (hg : inG n es) {v : Int} (h0 : 0 ≤ v) (h1 : v < n) (hp : 0 < d.getD v.toNat (-1)) : 0 ≤ idxP (nearer d v) (nxt (succs n es) v) ∧ (nxt (succs n es) v)[(idxP (nearer d v) (nxt (succs n es) v)).toNat]? = some (pstep n es d v) := by
  have hm : ∀ x, x ∈ nxt (succs n es) v ↔ (v, x) ∈ es := fun x => nxt_succs hg h0
  have ha : (nxt (succs n es) v).Pairwise (· < ·) := by
    unfold nxt
    cases hs : (succs n es)[v.toNat]? with
    | none => simp [hs]
    | some l =>
      simp only [List.getD_eq_getElem?_getD, hs, Option.getD_some]
      obtain ⟨w, _, rfl⟩ := List.mem_map.1 (List.mem_of_getElem? hs)
      exact uniqs_asc _
  obtain ⟨⟨a1, a2⟩, a3, a4⟩ := pstep_ok h h0 h1 hp
  have hin := (hm _).2 a4
  have hpx : nearer d v (pstep n es d v) = true := by simp only [nearer, a3, decide_true]
  obtain ⟨i, hi, hx⟩ := List.getElem_of_mem hin
  have hf : (nxt (succs n es) v).findIdx? (nearer d v) = some i := by
    rw [List.findIdx?_eq_some_iff_getElem]
    refine ⟨hi, by rw [hx]; exact hpx, fun j hj => ?_⟩
    have hlt := List.pairwise_iff_getElem.1 ha j i (by omega) hi hj
    have hin2 := (hm _).1 (List.getElem_mem (l := nxt (succs n es) v) (n := j) (by omega))
    have hr := (hg _ hin2).2
    rw [hx] at hlt
    have := leastN_lt hr.1 hr.2 hlt
    simp only [hin2, decide_true, Bool.and_true] at this
    rw [this]
    exact Bool.false_ne_true
  have : idxP (nearer d v) (nxt (succs n es) v) = i := by unfold idxP; rw [hf]
  rw [this]
  exact ⟨by omega, by rw [Int.toNat_natCast, List.getElem?_eq_getElem hi, hx]⟩
def walkP (n : Nat) (es : List (Int × Int)) (d : List Int) (v : Int) : Nat → Int
  | 0 => v
  | k + 1 => pstep n es d (walkP n es d v k)
theorem walkP_ok {n : Nat} {es : List (Int × Int)} {fr d : List Int} (h : Dist n (fun v u => (v, u) ∈ es) fr d) {v : Int} (h0 : 0 ≤ v) (h1 : v < n) (k : Nat) (hk : (k : Int) ≤ d.getD v.toNat (-1)) : (0 ≤ walkP n es d v k ∧ walkP n es d v k < n) ∧ d.getD (walkP n es d v k).toNat (-1) = d.getD v.toNat (-1) - k := by
  induction k with
  | zero => exact ⟨⟨h0, h1⟩, by simp [walkP]⟩
  | succ k ih =>
    obtain ⟨⟨g1, g2⟩, g3⟩ := ih (by omega)
    obtain ⟨a1, a3, _⟩ := pstep_ok h g1 g2 (by omega)
    exact ⟨a1, by show d.getD (pstep n es d (walkP n es d v k)).toNat (-1) = _; omega⟩
def pathTo (n : Nat) (es : List (Int × Int)) (d : List Int) (v : Int) (k : Nat) : List Int := (List.range (k + 1)).map (walkP n es d v)
theorem pathTo_succ (n : Nat) (es : List (Int × Int)) (d : List Int) (v : Int) (k : Nat) : pathTo n es d v k ++ [pstep n es d (walkP n es d v k)] = pathTo n es d v (k + 1) := by
  unfold pathTo
  rw [List.range_succ (n := k + 1), List.map_append]
  rfl
theorem pathTo_len (n : Nat) (es : List (Int × Int)) (d : List Int) (v : Int) (k : Nat) : (pathTo n es d v k).length = k + 1 := by simp [pathTo]
def pathG (n : Nat) (es : List (Int × Int)) (d : List Int) (v : Int) : List Int := pathTo n es d v (d.getD v.toNat (-1)).toNat
end Go.Pv

