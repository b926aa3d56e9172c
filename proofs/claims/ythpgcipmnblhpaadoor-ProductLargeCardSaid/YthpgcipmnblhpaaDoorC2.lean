/-
  What the functions of the law give.
-/
import Derived.Test.YthpgcipmnblhpaaDoorC1
set_option linter.unusedSimpArgs false
set_option linter.unusedVariables false
/-
  Lists of lists that a call owns.
-/
namespace Go.Pv

def OwnL (ars : List Arr) (x : V) (l : List Int) : Prop :=
  ((x = .tl [] ∨ x = .pv (.lst 0 [])) ∧ l = []) ∨ ∃ id ver, x = .own (id + 1) ver 0 l.length ∧ l ≠ [] ∧ ars[id]? = some ⟨ver, 1, .inl (ints l)⟩
structure Lists (n : Nat) (s : List (List Int)) (xs : List V) (ars : List Arr) : Prop where
  xl : xs.length = n
  sl : s.length = n
  own : ∀ (v : Nat) (x : V) (l : List Int), xs[v]? = some x → s[v]? = some l → OwnL ars x l
  dis : ∀ (v w : Nat) (x y : V) (i : Nat), xs[v]? = some x → xs[w]? = some y → ownId x = some i → ownId y = some i → v = w
def rowsV (xs : List V) : List (List V) := xs.map fun x => [x]
@[go_sem] theorem rowsV_len (xs : List V) : (rowsV xs).length = xs.length := by simp [rowsV]
@[go_sem] theorem rowsV_get (xs : List V) (i : Nat) : (rowsV xs)[i]? = xs[i]?.map fun x => [x] := by simp [rowsV]
theorem rowsV_set (xs : List V) (i : Nat) (x : V) : (rowsV xs).set i [x] = rowsV (xs.set i x) := by simp [rowsV, List.map_set]
theorem rowsV_store {id row ver : Nat} {xs : List V} {y : V} (h1 : row < xs.length) (hc : y.calm = true) : storeRow id row 0 [y] ⟨ver, 1, .inr (rowsV xs)⟩ = some { ar := some (id, ⟨ver, 1, .inr (rowsV (xs.set row y))⟩) } := by
  have h2 : row < (⟨ver, 1, .inr (rowsV xs)⟩ : Arr).size := by simp [Arr.size, rowsV, h1]
  obtain ⟨z, hz⟩ : ∃ z, xs[row]? = some z := ⟨xs[row], by simp [h1]⟩
  have h3 : (rowsV xs).getD row [] = [z] := by simp [rowsV, hz]
  simp [storeRow, h2, hc, setBody, ← rowsV_set]
  simp [rowsV, hz]
theorem rowsV_made (n : Nat) : sameRows n [.tl []] = .inr (rowsV (List.replicate n (.tl []))) := by
  simp [sameRows, mapO, V.purec, rowsV]
attribute [go_sem] rowsV_made

theorem rep_get {α : Type} {n i : Nat} {a x : α} (h : (List.replicate n a)[i]? = some x) : x = a := List.eq_of_mem_replicate (List.mem_of_getElem? h)
theorem Lists.start (n : Nat) : Lists n (List.replicate n []) (List.replicate n (.tl [])) [] where
  xl := by simp
  sl := by simp
  own v x l hx hl := .inl ⟨.inl (rep_get hx), rep_get hl⟩
  dis v w x y i hx _ hi _ := by
    rw [rep_get hx] at hi
    simp [ownId] at hi
theorem OwnL.id_lt {ars : List Arr} {x : V} {l : List Int} (h : OwnL ars x l) {i : Nat} (hi : ownId x = some i) : ∃ id ver, i = id + 1 ∧ x = .own (id + 1) ver 0 l.length ∧ ars[id]? = some ⟨ver, 1, .inl (ints l)⟩ := by
  rcases h with ⟨rfl | rfl, _⟩ | ⟨id, ver, rfl, _, h⟩
  · simp [ownId] at hi
  · simp [ownId] at hi
  · simp [ownId] at hi
    exact ⟨id, ver, hi.symm, rfl, h⟩
theorem OwnL.set {ars : List Arr} {x : V} {l : List Int} (h : OwnL ars x l) {id : Nat} {a : Arr} (hne : ownId x ≠ some (id + 1)) : OwnL (ars.set id a) x l := by
  rcases h with h | ⟨j, ver, rfl, h1, h2⟩
  · exact .inl h
  · refine .inr ⟨j, ver, rfl, h1, ?_⟩
    rw [List.getElem?_set_ne]
    · exact h2
    · intro e
      exact hne (by rw [e]; rfl)
theorem OwnL.push {ars : List Arr} {x : V} {l : List Int} (h : OwnL ars x l) (a : List Arr) : OwnL (ars ++ a) x l := by
  rcases h with h | ⟨j, ver, rfl, h1, h2⟩
  · exact .inl h
  · exact .inr ⟨j, ver, rfl, h1, by rw [List.getElem?_append_left (List.getElem?_eq_some_iff.1 h2).1]; exact h2⟩

theorem Lists.upd {n : Nat} {s : List (List Int)} {xs : List V} {ars ars' : List Arr} (h : Lists n s xs ars) {v : Nat} {x' : V} {l' : List Int} (hv : v < n) (hx : OwnL ars' x' l')
    (hk : ∀ (w : Nat) (y : V) (l : List Int), w ≠ v → xs[w]? = some y → s[w]? = some l → OwnL ars' y l) (hd : ∀ (w : Nat) (y : V) (i : Nat), w ≠ v → xs[w]? = some y → ownId y = some i → ownId x' ≠ some i) : Lists n (s.set v l') (xs.set v x') ars' where
  xl := by rw [List.length_set]; exact h.xl
  sl := by rw [List.length_set]; exact h.sl
  own w y l hy hl := by
    by_cases e : w = v
    · subst e
      rw [List.getElem?_set_self (by rw [h.xl]; exact hv)] at hy
      rw [List.getElem?_set_self (by rw [h.sl]; exact hv)] at hl
      cases hy
      cases hl
      exact hx
    · rw [List.getElem?_set_ne (Ne.symm e)] at hy hl
      exact hk w y l e hy hl
  dis w w' y y' i hy hy' hi hi' := by
    by_cases e : w = v
    · subst e
      rw [List.getElem?_set_self (by rw [h.xl]; exact hv)] at hy
      cases hy
      by_cases e' : w' = w
      · exact e'.symm
      · rw [List.getElem?_set_ne (Ne.symm e')] at hy'
        exact (hd w' y' i e' hy' hi' hi).elim
    · rw [List.getElem?_set_ne (Ne.symm e)] at hy
      by_cases e' : w' = v
      · subst e'
        rw [List.getElem?_set_self (by rw [h.xl]; exact hv)] at hy'
        cases hy'
        exact (hd w y i e hy hi hi').elim
      · rw [List.getElem?_set_ne (Ne.symm e')] at hy'
        exact h.dis w w' y y' i hy hy' hi hi'
theorem Lists.get {n : Nat} {s : List (List Int)} {xs : List V} {ars : List Arr} (h : Lists n s xs ars) {v : Nat} (hv : v < n) : ∃ x l, xs[v]? = some x ∧ s[v]? = some l ∧ OwnL ars x l := by
  have h1 : v < xs.length := by rw [h.xl]; exact hv
  have h2 : v < s.length := by rw [h.sl]; exact hv
  exact ⟨xs[v], s[v], by simp, by simp, h.own v _ _ (by simp) (by simp)⟩
theorem Lists.lt {n : Nat} {s : List (List Int)} {xs : List V} {ars : List Arr} (h : Lists n s xs ars) {v i : Nat} {x : V} (hx : xs[v]? = some x) (hi : ownId x = some i) : i ≤ ars.length := by
  have hv : v < n := by rw [← h.xl]; exact (List.getElem?_eq_some_iff.1 hx).1
  obtain ⟨x', l, h1, h2, h3⟩ := h.get hv
  rw [hx] at h1
  cases h1
  obtain ⟨id, ver, rfl, _, h4⟩ := h3.id_lt hi
  exact (List.getElem?_eq_some_iff.1 h4).1
theorem Lists.first {n : Nat} {s : List (List Int)} {xs : List V} {ars : List Arr} (h : Lists n s xs ars) {v : Nat} {l : List Int} (hv : v < n) (hl : l ≠ []) : Lists n (s.set v l) (xs.set v (.own (ars.length + 1) 0 0 l.length)) (ars ++ [⟨0, 1, .inl (ints l)⟩]) :=
  h.upd hv (.inr ⟨ars.length, 0, rfl, hl, by simp⟩) (fun w y l _ hy hl => (h.own w y l hy hl).push _) fun w y i _ hy hi e => by
    have := h.lt hy hi
    simp only [ownId, Option.some.injEq] at e
    omega
theorem Lists.same {n : Nat} {s : List (List Int)} {xs : List V} {ars : List Arr} (h : Lists n s xs ars) {v id ver ver' m : Nat} {l : List Int} (hv : v < n) (hx : xs[v]? = some (.own (id + 1) ver 0 m)) (hl : l ≠ []) : Lists n (s.set v l) (xs.set v (.own (id + 1) ver' 0 l.length)) (ars.set id ⟨ver', 1, .inl (ints l)⟩) := by
  have hlt := h.lt hx rfl
  refine h.upd hv (.inr ⟨id, ver', rfl, hl, by rw [List.getElem?_set_self (by omega)]⟩) (fun w y l hw hy hl => (h.own w y l hy hl).set fun e => hw (h.dis w v y _ (id + 1) hy hx e rfl)) fun w y i hw hy hi e => ?_
  simp only [ownId, Option.some.injEq] at e
  subst e
  exact hw (h.dis w v y _ (id + 1) hy hx hi rfl)
theorem Lists.none {n : Nat} {s : List (List Int)} {xs : List V} {ars : List Arr} (h : Lists n s xs ars) {v : Nat} (hv : v < n) {x' : V} (hx : x' = .tl [] ∨ x' = .pv (.lst 0 [])) : Lists n (s.set v []) (xs.set v x') ars :=
  h.upd hv (.inl ⟨hx, rfl⟩) (fun w y l _ hy hl => h.own w y l hy hl) fun w y i _ _ _ e => by rcases hx with rfl | rfl <;> simp [ownId] at e

def lls (s : List (List Int)) : List (List PV) := s.map fun l => [.lst 0 (ints l)]
@[go_sem] theorem lls_len (s : List (List Int)) : (lls s).length = s.length := by simp [lls]
@[go_sem] theorem lls_get (s : List (List Int)) (i : Nat) : (lls s)[i]? = s[i]?.map fun l => [.lst 0 (ints l)] := by simp [lls]
theorem OwnL.keep {a0 : Arr} {ars : List Arr} {x : V} {l : List Int} (h : OwnL ars x l) (d : Nat) : keepc ⟨[], a0 :: ars, []⟩ (d + 1) x = some (.lst 0 (ints l)) := by
  rcases h with ⟨rfl | rfl, rfl⟩ | ⟨id, ver, rfl, _, h2⟩
  · rfl
  · rfl
  · have e1 : (ints l).length = l.length := ints_length l
    simp [keepc_own, ownArr, h2, keepRows, cutRows, List.take_of_length_le (Nat.le_of_eq e1)]
theorem Lists.keep {n : Nat} {s : List (List Int)} {xs : List V} {a0 : Arr} {ars : List Arr} (h : Lists n s xs ars) (d : Nat) : mapO (mapO (keepc ⟨[], a0 :: ars, []⟩ (d + 1))) (rowsV xs) = some (lls s) := by
  have key : ∀ (xs : List V) (s : List (List Int)), xs.length = s.length → (∀ (v : Nat) (x : V) (l : List Int), xs[v]? = some x → s[v]? = some l → OwnL ars x l) → mapO (mapO (keepc ⟨[], a0 :: ars, []⟩ (d + 1))) (rowsV xs) = some (lls s) := by
    intro xs
    induction xs with
    | nil =>
      intro s hl _
      have : s = [] := List.eq_nil_of_length_eq_zero hl.symm
      subst this
      rfl
    | cons x xs ih =>
      intro s hl ho
      match s, hl with
      | l :: s, hl =>
        have h1 := (ho 0 x l rfl rfl).keep (a0 := a0) d
        have h2 := ih s (by simpa using hl) fun v y m hy hm => ho (v + 1) y m (by simpa using hy) (by simpa using hm)
        show mapO (mapO (keepc ⟨[], a0 :: ars, []⟩ (d + 1))) ([x] :: rowsV xs) = some ([.lst 0 (ints l)] :: lls s)
        simp only [mapO, h1, h2]
  exact key xs s (h.xl.trans h.sl.symm) h.own

end Go.Pv

/-
  Successors.
-/
namespace Go.Pv

@[go_sem] theorem rowsV_store_own {id row ver a b c d : Nat} {xs : List V} (h1 : row < xs.length) : storeRow id row 0 [.own a b c d] ⟨ver, 1, .inr (rowsV xs)⟩ = some { ar := some (id, ⟨ver, 1, .inr (rowsV (xs.set row (.own a b c d)))⟩) } := rowsV_store h1 rfl
@[go_sem] theorem rowsV_store_pv {id row ver : Nat} {xs : List V} (h1 : row < xs.length) : storeRow id row 0 [.pv (.lst 0 [])] ⟨ver, 1, .inr (rowsV xs)⟩ = some { ar := some (id, ⟨ver, 1, .inr (rowsV (xs.set row (.pv (.lst 0 []))))⟩) } := rowsV_store h1 rfl
end Go.Pv

/-
  Plain laws: levels.
-/
namespace Go.Pv

def lvIn (d : Int) (s : List Int × List Int) (x : Int) : List Int × List Int := if s.1.getD x.toNat (-1) < 0 then (s.1.set x.toNat d, s.2 ++ [x]) else s
def lvRun (nx : Int → List Int) : Nat → Nat → List Int × List Int → List Int × List Int
  | 0, _, s => s
  | n + 1, i, s => match s.2[i]? with
    | none => s
    | some v => lvRun nx n (i + 1) ((nx v).foldl (lvIn (s.1.getD v.toNat (-1) + 1)) s)
structure LvOk (n : Nat) (s : List Int × List Int) : Prop where
  len : s.1.length = n
  nd : s.2.Nodup
  mem : ∀ x, x ∈ s.2 ↔ 0 ≤ x ∧ x < n ∧ 0 ≤ s.1.getD x.toNat (-1)
  top : ∀ v : Nat, s.1.getD v (-1) ≤ s.2.length
theorem getD_set' {l : List Int} {i j : Nat} {x y : Int} (hi : i < l.length) : (l.set i x).getD j y = if i = j then x else l.getD j y := by
  simp only [List.getD_eq_getElem?_getD, List.getElem?_set]
  by_cases h : i = j
  · subst h
    simp [hi]
  · simp [h]
theorem LvOk.start (n : Nat) : LvOk n (List.replicate n (-1), []) where
  len := by simp
  nd := by simp
  mem x := by
    simp only [List.not_mem_nil, false_iff, List.getD_eq_getElem?_getD, List.getElem?_replicate]
    intro ⟨_, _, h⟩
    split at h <;> simp at h
  top v := by
    simp only [List.getD_eq_getElem?_getD, List.getElem?_replicate]
    split <;> simp
theorem LvOk.step {n : Nat} {s : List Int × List Int} (h : LvOk n s) {x d : Int} (hx : 0 ≤ x ∧ x < n) (hd : 0 ≤ d ∧ d ≤ s.2.length + 1) : LvOk n (lvIn d s x) := by
  unfold lvIn
  split
  · rename_i hc
    have hxl : x.toNat < s.1.length := by rw [h.len]; omega
    have hxn : x ∉ s.2 := fun hm => by
      have := (h.mem x).1 hm
      omega
    refine ⟨by simpa using h.len, ?_, fun y => ?_, fun v => ?_⟩
    · rw [List.nodup_append]
      exact ⟨h.nd, by simp, fun a ha b hb => by
        rw [List.mem_singleton] at hb
        subst hb
        exact fun e => hxn (e ▸ ha)⟩
    · rw [List.mem_append, List.mem_singleton, h.mem, getD_set' hxl]
      by_cases e : y = x
      · subst e
        simp
        omega
      · simp only [e, or_false]
        by_cases hy : 0 ≤ y
        · rw [if_neg (by omega)]
        · exact ⟨fun h' => absurd h'.1 hy, fun h' => absurd h'.1 hy⟩
    · dsimp only
      rw [getD_set' hxl]
      have := h.top v
      rw [List.length_append]
      simp only [List.length_cons, List.length_nil]
      split <;> omega
  · exact h
theorem LvOk.bound {n : Nat} {s : List Int × List Int} (h : LvOk n s) : s.2.length ≤ n := nodup_bound h.nd fun x hx => by
  have := (h.mem x).1 hx
  omega
def levels (nx : Int → List Int) (n : Nat) (fr : List Int) : List Int := (lvRun nx n 0 (fr.foldl (lvIn 0) (List.replicate n (-1), []))).1
end Go.Pv

/-
  Levels; vertices from which some can be reached.
-/
namespace Go.Pv

end Go.Pv

/-
  The law of next states, ends and labels.
-/
namespace Go.Pv

end Go.Pv

/-
  Vertices from which some can be reached; proper automata.
-/
namespace Go.Pv

theorem Rch.all {α : Type} {nx : α → List α} {P : α → Prop} (h : ∀ v, P v → ∀ x ∈ nx v, P x) {s v : α} (hs : P s) (hr : Rch nx s v) : P v := by
  induction hr with
  | refl => exact hs
  | step _ hx ih => exact h _ ih _ hx
theorem Rch.mono {α : Type} {nx nx' : α → List α} {P : α → Prop} (hP : ∀ v, P v → ∀ x ∈ nx v, P x) (h : ∀ v x, P v → x ∈ nx v → x ∈ nx' v) {s v : α} (hs : P s) (hr : Rch nx s v) : Rch nx' s v := by
  induction hr with
  | refl => exact .refl
  | step hr hx ih => exact .step ih (h _ _ (Rch.all hP hs hr) hx)
@[go_sem] theorem grow0p (bx : List (Nat × List V)) (mp : List (List (PV × PV))) (l : List (Int × Int)) (x y : Int) (hm : l.length + 1 ≤ 2147483648) :
    appendV ⟨bx, grA 2 (prs l), mp⟩ 2 (grV 0 (prs l)) (.tl [[.int .i64 x, .int .i64 y]]) = some (grV 0 (prs (l ++ [(x, y)])), grT 0 2 (prs l) [.int .i64 x, .int .i64 y]) := by
  rw [grow0 bx mp 2 (prs l) [.int .i64 x, .int .i64 y] rfl (by rw [prs_length]; exact hm), prs_snoc]
end Go.Pv

/-
  The law of duals.
-/
namespace Go.Pv

end Go.Pv

/-
  The law of trimmed automata.
-/
namespace Go.Pv

def Draft.from (d : Draft) (s : Int) : Auto := ⟨1 + d.n % 4, s % (1 + d.n % 4), d.auto.edges⟩
end Go.Pv

/-
  The law of runs.
-/
namespace Go.Pv

end Go.Pv

/-
  The laws of the errors of automata, and of proper automata.
-/
namespace Go.Pv

end Go.Pv

/-
  Classes of states: moves, lists that are equal.
-/
namespace Go.Pv

structure Mv where
  send : Bool
  label : Int
  cls : Int
  deriving DecidableEq, Inhabited
def Mv.c (m : Mv) : List PV := [.bool m.send, .int .i64 m.label, .int .i64 m.cls]
def mvs (l : List Mv) : List (List PV) := l.map Mv.c
@[go_sem] theorem mvs_length (l : List Mv) : (mvs l).length = l.length := by simp [mvs]
@[go_sem] theorem mvs_nil : mvs [] = [] := rfl
@[go_sem] theorem mvs_get (l : List Mv) (i : Nat) : (mvs l)[i]? = l[i]?.map Mv.c := by simp [mvs]
@[go_sem] theorem Mv.c_eq (m : Mv) : m.c = [.bool m.send, .int .i64 m.label, .int .i64 m.cls] := rfl
theorem mvs_snoc (l : List Mv) (m : Mv) : mvs l ++ [m.c] = mvs (l ++ [m]) := by simp [mvs]
@[go_sem] theorem mvs_snocc (l : List Mv) (d : Bool) (x y : Int) : mvs l ++ [[.bool d, .int .i64 x, .int .i64 y]] = mvs (l ++ [⟨d, x, y⟩]) := by simp [mvs, Mv.c]
@[go_sem] theorem grow0m (bx : List (Nat × List V)) (mp : List (List (PV × PV))) (l : List Mv) (d : Bool) (x y : Int) (hm : l.length + 1 ≤ 2147483648) :
    appendV ⟨bx, grA 3 (mvs l), mp⟩ 3 (grV 0 (mvs l)) (.tl [[.bool d, .int .i64 x, .int .i64 y]]) = some (grV 0 (mvs (l ++ [⟨d, x, y⟩])), grT 0 3 (mvs l) (Mv.c ⟨d, x, y⟩)) := by
  rw [← mvs_snoc]
  exact grow0 bx mp 3 (mvs l) (Mv.c ⟨d, x, y⟩) rfl (by rw [mvs_length]; exact hm)
def movesL (es : List Edge) (s : Int) (c : List Int) : List Mv := (es.filter fun e => e.fr == s).map fun e => ⟨e.send, e.label, c.getD e.to.toNat 0⟩
def simB (es : List Edge) (c : List Int) (k i : Nat) : Bool := decide (c.getD k 0 = c.getD i 0) && decide (movesL es (k : Int) c = movesL es (i : Int) c)
def leastC (es : List Edge) (c : List Int) (i : Nat) : Nat := ((List.range i).find? fun k => simB es c k i).getD i
def stepC (n : Nat) (es : List Edge) (c : List Int) : List Int := (List.range n).map fun i => (leastC es c i : Int)
def cls (n : Nat) (es : List Edge) : Nat → List Int
  | 0 => List.replicate n 0
  | j + 1 => stepC n es (cls n es j)
end Go.Pv

/-
  Classes of states: rounds.
-/
namespace Go.Pv

end Go.Pv

/-
  States that are told apart: by one action, by more.
-/
namespace Go.Pv

def edgesOf (es : List Edge) (s : Int) : List Edge := es.filter fun e => e.fr == s
def lackE (a b : List Edge) (p q : Int) : Option Edge := (edgesOf a p).find? fun e => !(nextE q e.send e.label b).isSome
def matG (g : List Int → Nat) (M : List (List Int)) : List (List PV) := M.map fun l => [.lst (g l) (ints l)]
@[go_sem] theorem matG_len (g : List Int → Nat) (M : List (List Int)) : (matG g M).length = M.length := by simp [matG]
@[go_sem] theorem matG_get (g : List Int → Nat) (M : List (List Int)) (i : Nat) : (matG g M)[i]? = M[i]?.map fun l => [.lst (g l) (ints l)] := by simp [matG]
def ent (M : List (List Int)) (p q : Int) : Int := (M.getD p.toNat []).getD q.toNat 0
def nearP (b : List Edge) (M : List (List Int)) (q k : Int) (e : Edge) : Bool := match nextE q e.send e.label b with
  | some n => decide (ent M e.to n = k)
  | none => false
def nearE (a b : List Edge) (M : List (List Int)) (p q k : Int) : Option Edge := (edgesOf a p).find? (nearP b M q k)
structure MatOk (na nb : Nat) (M : List (List Int)) : Prop where
  len : M.length = na
  row : ∀ l ∈ M, l.length = nb
theorem MatOk.get {na nb : Nat} {M : List (List Int)} (h : MatOk na nb M) {p q : Int} (hp : 0 ≤ p ∧ p < na) (hq : 0 ≤ q ∧ q < nb) : ∃ l, M[p.toNat]? = some l ∧ l.length = nb ∧ l[q.toNat]? = some (ent M p q) := by
  have h1 : p.toNat < M.length := by rw [h.len]; omega
  have h2 : M[p.toNat]? = some M[p.toNat] := by simp
  have h3 := h.row _ (List.mem_of_getElem? h2)
  refine ⟨_, h2, h3, ?_⟩
  unfold ent
  have h4 : q.toNat < M[p.toNat].length := by omega
  simp [h1, h4]
end Go.Pv

/-
  The reference's table of differences.
-/
namespace Go.Pv

def rowArr (r : List Int) : Arr := ⟨0, 1, .inl (ints r)⟩
def mAr (M : List (List Int)) : List Arr := M.map rowArr
@[go_sem] theorem mAr_len (M : List (List Int)) : (mAr M).length = M.length := by simp [mAr]
@[go_sem] theorem mAr_get (M : List (List Int)) (i : Nat) : (mAr M)[i]? = M[i]?.map fun r => ⟨0, 1, .inl (ints r)⟩ := by
  unfold mAr
  rw [List.getElem?_map]
  rfl
@[go_sem] theorem mAr_set (M : List (List Int)) (i : Nat) (r : List Int) : (mAr M).set i ⟨0, 1, .inl (ints r)⟩ = mAr (M.set i r) := by simp [mAr, rowArr, List.map_set]
@[go_sem] theorem mAr_snoc (M : List (List Int)) (r : List Int) : mAr M ++ [⟨0, 1, .inl (ints r)⟩] = mAr (M ++ [r]) := by simp [mAr, rowArr]
end Go.Pv

/-
  Differ, of the reference.
-/
namespace Go.Pv

def lkB (a b : List Edge) (p q : Int) : Bool := (lackE a b p q).isSome || (lackE b a q p).isSome
def b01 (c : Bool) : Int := if c = true then 1 else 0
def bTo (a b : List Edge) (nb p q : Nat) : List Int := partTo (fun (q : Nat) => b01 (lkB a b p q)) 0 (List.range nb) q
def baseM (a b : List Edge) (nb m : Nat) : List (List Int) := (List.range m).map fun p => bTo a b nb p nb
def setM (M : List (List Int)) (p q : Nat) (v : Int) : List (List Int) := M.set p ((M.getD p []).set q v)
def stepM (a b : List Edge) (k : Int) (p : Nat) (M : List (List Int)) (q : Nat) : List (List Int) := if (nearE a b M p q k).isSome = true ∧ ent M p q = 0 then setM M p q (k + 1) else M
def rowM (a b : List Edge) (nb : Nat) (k : Int) (M : List (List Int)) (p : Nat) : List (List Int) := (List.range nb).foldl (stepM a b k p) M
def roundM (a b : List Edge) (na nb : Nat) (k : Int) (M : List (List Int)) : List (List Int) := (List.range na).foldl (rowM a b nb k) M
def difM (a b : List Edge) (na nb : Nat) : Nat → List (List Int)
  | 0 => baseM a b nb na
  | j + 1 => roundM a b na nb ((j + 1 : Nat) : Int) (difM a b na nb j)
def differ (a b : Auto) : List (List Int) := difM a.edges b.edges a.states.toNat b.states.toNat (a.states.toNat * b.states.toNat)

end Go.Pv

/-
  Plain laws: states that are alike for so many actions.
-/
namespace Go.Pv

def OptR (R : Int → Int → Prop) : Option Int → Option Int → Prop
  | none, none => True
  | some x, some y => R x y
  | _, _ => False
theorem OptR.mono {R S : Int → Int → Prop} {x y : Option Int} (h : ∀ a b, x = some a → y = some b → R a b → S a b) (hr : OptR R x y) : OptR S x y := by
  cases x <;> cases y <;> simp_all [OptR]
def Ev (a b : List Edge) : Nat → Int → Int → Prop
  | 0, _, _ => True
  | j + 1, p, q => ∀ d x, OptR (Ev a b j) (nextE p d x a) (nextE q d x b)
theorem Ev.refl (a : List Edge) : ∀ (j : Nat) (p : Int), Ev a a j p p
  | 0, _ => trivial
  | j + 1, p => fun d x => by
    cases nextE p d x a with
    | none => trivial
    | some t => exact Ev.refl a j t
theorem Ev.symm {a b : List Edge} : ∀ {j : Nat} {p q : Int}, Ev a b j p q → Ev b a j q p
  | 0, _, _, _ => trivial
  | j + 1, p, q, h => fun d x => by
    have := h d x
    cases hp : nextE p d x a <;> cases hq : nextE q d x b <;> simp only [hp, hq, OptR] at this ⊢
    exact Ev.symm this
theorem Ev.trans {a b c : List Edge} : ∀ {j : Nat} {p q r : Int}, Ev a b j p q → Ev b c j q r → Ev a c j p r
  | 0, _, _, _, _, _ => trivial
  | j + 1, p, q, r, h, h2 => fun d x => by
    have h3 := h d x
    have h4 := h2 d x
    cases hp : nextE p d x a <;> cases hq : nextE q d x b <;> cases hr : nextE r d x c <;> simp only [hp, hq, hr, OptR] at h3 h4 ⊢
    exact Ev.trans h3 h4

open Classical in
noncomputable def lst (a b : List Edge) : Nat → Int → Int → Nat
  | 0, _, _ => 0
  | k + 1, p, q => if lst a b k p q ≠ 0 then lst a b k p q else if Ev a b (k + 1) p q then 0 else k + 1
end Go.Pv

/-
  What the table of differences holds.
-/
namespace Go.Pv

end Go.Pv

/-
  Classes of states: the program's and the reference's.
-/
namespace Go.Pv

def Mv.lt (a b : Mv) : Bool := if a.send ≠ b.send then b.send else decide (a.label < b.label)
def leastR (D : List (List Int)) (n : Nat) (p : Nat) : Nat := ((List.range n).find? fun (q : Nat) => decide (ent D p q = 0)).getD 0
def Auto.classes (a : Auto) : List Int := (List.range a.states.toNat).map fun p => (leastR (differ a a) a.states.toNat p : Int)
end Go.Pv

/-
  Classes and minimized automata.
-/
namespace Go.Pv

end Go.Pv

/-
  Minimized automata; the law of classes.
-/
namespace Go.Pv

end Go.Pv

/-
  Edges of a state, as the program finds them.
-/
namespace Go.Pv

theorem r77 (g t u : Nat) (cs : List PV) (l : List Edge) (p : Edge → Bool) (hl : l.length ≤ 2 ^ 63 - 1) (hi : inls A g = false) (hp : PrA g = none) (ht : takes A g = false) (hf : ∀ x ∈ l, res A PrA g [.agg [.int .i64 x.fr, .bool x.send, .int .i64 x.label, .int .i64 x.to], .ro u cs] = some [.bool (p x)]) : res A PrA 77 [.lst t (edgs l), .func g [.ro u cs]] = some [.int .i64 (idxP p l)] := by
  refine res_of a77 rfl rfl ?_
  simp only [F77]
  simp (disch := omega) only [go_sem]
  refine W.find l p (fun k => ⟨[(0, .pv (.lst t (edgs l))), (1, .pv (.func g [.ro u cs])), (7, .pv (.int .i64 l.length)), (8, .pv (.int .i64 k))], ⟨[], [], []⟩⟩) rfl (fun k x hx hk hfd => ?_) (fun hn => ?_)
  · have hfx := hf x (List.mem_of_getElem? hx)
    simp (disch := omega) only [go_sem]
    refine Br.ofP (fun h => ?_) (fun h => (h (by omega)).elim)
    simp (disch := omega) only [go_sem, hx, CW_none hi hp ht, hfx]
    refine Br.of (fun h2 => ?_) (fun h2 => ?_) <;> simp (disch := omega) only [go_sem]
    · rw [(hfd h2).idxP]
    · exact findK.of h2 rfl
  · simp (disch := omega) only [go_sem]
    rw [hn.idxP]

@[go_sem] theorem fresh_edgs (bx : List (Nat × List V)) (mp : List (List (PV × PV))) (ar : List Arr) (v n : Nat) (l : List Edge) : keep ⟨bx, ⟨v, 4, .inl (edgs l)⟩ :: ar, mp⟩ true (.own 0 v 0 n) = some (.fr 4 (edgs (l.take n))) := by
  simp [keep, freshc, ownArr, edgs]
@[go_sem] theorem lendA_edgs {id ver v len : Nat} {l : List Edge} (hn : len = l.length) : lendA id ver len ⟨v, 4, .inl (edgs l)⟩ = some ([.fr 4 (edgs l)], some (id, ⟨ver + 1, 0, .inl []⟩)) := by
  subst hn
  simp [lendA, Arr.size, edgs_length]
@[go_sem] theorem edgs_take (l : List Edge) (n : Nat) : (edgs l).take n = edgs (l.take n) := by simp [edgs]
@[go_sem] theorem edgs_drop (l : List Edge) (n : Nat) : (edgs l).drop n = edgs (l.drop n) := by simp [edgs]

end Go.Pv

/-
  Parts of slices that are plain rows.
-/
namespace Go.Pv
theorem rowsFit_rows {k : Nat} {rows : List (List PV)} (h : ∀ r ∈ rows, r.length = k) : rowsFit k (.inl rows) = true := by
  simp only [rowsFit, List.all_eq_true, beq_iff_eq]
  exact h
@[go_sem] theorem rowsFit_ints (l : List Int) : rowsFit 1 (.inl (ints l)) = true := rowsFit_rows fun r hr => by
  obtain ⟨x, _, rfl⟩ := List.mem_map.1 hr
  rfl
@[go_sem] theorem sl_lst_to (g : Opd → V) (h : Heap) (k t : Nat) (rows : List (List PV)) (hi : Opd) :
    sliceV g h k (.pv (.lst t rows)) none (some hi) none = if rowsFit k (.inl rows) = true then (intOf (g hi)).bind fun i => chkR i rows.length (.pv (.lst t (rows.take i.toNat)), {}) else none := by
  cases hf : rowsFit k (.inl rows) with
  | false => simp [sliceV, hf]
  | true =>
    cases hj : intOf (g hi) with
    | none => simp [sliceV, hf, bounds, bound, hj]
    | some i => by_cases h0 : 0 ≤ i ∧ i ≤ rows.length <;> simp [sliceV, hf, bounds, bound, hj, h0, chkR]
@[go_sem] theorem sl_lst_from (g : Opd → V) (h : Heap) (k t : Nat) (rows : List (List PV)) (lo : Opd) :
    sliceV g h k (.pv (.lst t rows)) (some lo) none none = if rowsFit k (.inl rows) = true then (intOf (g lo)).bind fun i => chkR i rows.length (.pv (.lst t (rows.drop i.toNat)), {}) else none := by
  cases hf : rowsFit k (.inl rows) with
  | false => simp [sliceV, hf]
  | true =>
    cases hj : intOf (g lo) with
    | none => simp [sliceV, hf, bounds, bound, hj]
    | some i => by_cases h0 : 0 ≤ i ∧ i ≤ rows.length <;> simp [sliceV, hf, bounds, bound, hj, h0, chkR]
@[go_sem] theorem sl_tl_from (g : Opd → V) (h : Heap) (k : Nat) (rows : List (List PV)) (lo : Opd) :
    sliceV g h k (.tl rows) (some lo) none none = if rowsFit k (.inl rows) = true then (intOf (g lo)).bind fun i => chkR i rows.length (.tl (rows.drop i.toNat), {}) else none := by
  cases hf : rowsFit k (.inl rows) with
  | false => simp [sliceV, hf]
  | true =>
    cases hj : intOf (g lo) with
    | none => simp [sliceV, hf, bounds, bound, hj]
    | some i => by_cases h0 : 0 ≤ i ∧ i ≤ rows.length <;> simp [sliceV, hf, bounds, bound, hj, h0, chkR]
end Go.Pv

/-
  Chapter 29: moves are ordered; systems, configurations.
-/
namespace Go.Pv

theorem r198 {Pr : Prims} (b : Bool) : res A Pr 198 [.bool b] = some [.int .i64 (if b = true then 1 else 0)] := by
  refine res_of a198 rfl rfl ?_
  simp only [F198]
  cases b <;> simp (disch := omega) only [go_sem]
theorem r197 {Pr : Prims} (h66 : Pr 66 = none) (h60 : Pr 60 = none) (h59 : Pr 59 = none) (h198 : Pr 198 = none) (a b : Mov) : res A Pr 197 [.agg a.c, .agg b.c] = some [.int .i64 (Mov.cmp a b)] := by
  refine res_of a197 rfl rfl ?_
  simp only [F197]
  have e59 := fun x y z => r59 (Pr := Pr) 0 [x, y, z] (by simp)
  simp only [ints, List.map_cons, List.map_nil] at e59
  simp (disch := omega) only [go_sem, CW_CN (by kernel_rfl) h60 tk60, CW_CN (by kernel_rfl) h59 tk59, CW_CN (by kernel_rfl) h198 tk198, r60 h66, r198, e59]
  unfold Mov.cmp Edge.cmp Edge.side Mov.e
  by_cases h : cmpI a.label b.label = 0 <;> simp [orI, h]

def sysErr (a b : Auto) (cap : Int) : Int := if a.err ≠ 0 then a.err else if b.err ≠ 0 then b.err else if cap < 1 ∨ 3 < cap then 7 else 0
set_option maxHeartbeats 1000000 in
@[go_sem] theorem r152 (t1 t2 : Nat) (a b : Auto) (cap : Int) (ha : a.edges.length ≤ 2 ^ 63 - 1) (hb : b.edges.length ≤ 2 ^ 63 - 1) : res A PrA 152 [.agg [.int .i64 a.states, .int .i64 a.start, .lst t1 (a.edges.map Edge.c), .int .i64 b.states, .int .i64 b.start, .lst t2 (b.edges.map Edge.c), .int .i64 cap]] = some [.int .i64 (sysErr a b cap)] := by
  refine res_of a152 rfl rfl ?_
  simp only [F152]
  unfold sysErr
  simp (disch := omega) only [go_sem]
  by_cases h1 : a.err = 0
  · by_cases h2 : b.err = 0
    · by_cases h3 : cap < 1
      · simp (disch := omega) only [go_sem, h1, h2, h3]
        simp
      · by_cases h4 : 3 < cap
        · simp (disch := omega) only [go_sem, h1, h2, h3, h4]
          simp
        · simp (disch := omega) only [go_sem, h1, h2, h3, h4]
          simp
    · simp (disch := omega) only [go_sem, h1, h2]
      simp [h2]
  · simp (disch := omega) only [go_sem, h1]
    simp [h1]
@[go_sem] theorem r155 (t1 t2 : Nat) (a b : Auto) (cap : Int) : res A PrA 155 [.agg [.int .i64 a.states, .int .i64 a.start, .lst t1 (a.edges.map Edge.c), .int .i64 b.states, .int .i64 b.start, .lst t2 (b.edges.map Edge.c), .int .i64 cap]] = some [.agg [.int .i64 a.start, .int .i64 b.start, .lst 0 [], .lst 0 []]] := by
  refine res_of a155 rfl rfl ?_
  simp only [F155]
  simp (disch := omega) only [go_sem]
@[go_sem] theorem r176 (t u : Nat) (a b : List Int) (ha : a.length ≤ 2 ^ 63 - 1) (_hb : b.length ≤ 2 ^ 63 - 1) : res A PrA 176 [.lst t (ints a), .lst u (ints b)] = some [.bool (decide (a = b))] := by
  refine res_of a176 rfl rfl ?_
  simp only [F176]
  simp (disch := omega) only [go_sem]
  refine Br.ofP (fun h => ?_) (fun h => ?_) <;> simp (disch := omega) only [go_sem, h]
  case refine_2 =>
    have : ¬ a = b := fun e => h (by rw [e])
    simp [this]
  refine W.upto a.length (fun k => ⟨[(0, .pv (.lst t (ints a))), (1, .pv (.lst u (ints b))), (5, .pv (.int .i64 k))], ⟨[], [], []⟩⟩) (fun k => a.take k = b.take k) rfl rfl fun k hk hi => ?_
  simp (disch := omega) only [go_sem]
  refine Br.ofP (fun g => ?_) (fun g => ?_)
  · obtain ⟨x, hx⟩ := get_at (l := a) (k := k) (by omega)
    obtain ⟨y, hy⟩ := get_at (l := b) (k := k) (by omega)
    simp (disch := omega) only [go_sem, hx, hy]
    refine Br.ofP (fun f => ?_) (fun f => ?_) <;> simp (disch := omega) only [go_sem, f]
    · exact .of (by omega) rfl (take_step hx hy hi f)
    · have : ¬ a = b := fun e => f (by rw [e, hy] at hx; exact (Option.some.inj hx).symm)
      simp [this]
  · simp (disch := omega) only [go_sem]
    have := takes_all (k := k) (by omega) (by omega) hi
    simp [this]
@[go_sem] theorem r154 (u1 u2 w1 w2 : Nat) (x y x' y' : Int) (l m l' m' : List Int) (hl : l.length ≤ 2 ^ 63 - 1) (hm : m.length ≤ 2 ^ 63 - 1) (hl' : l'.length ≤ 2 ^ 63 - 1) (hm' : m'.length ≤ 2 ^ 63 - 1) : res A PrA 154 [.agg [.int .i64 x, .int .i64 y, .lst u1 (ints l), .lst u2 (ints m)], .agg [.int .i64 x', .int .i64 y', .lst w1 (ints l'), .lst w2 (ints m')]] = some [.bool (decide ((⟨x, y, l, m⟩ : Cfg) = ⟨x', y', l', m'⟩))] := by
  refine res_of a154 rfl rfl ?_
  simp only [F154]
  simp (disch := omega) only [go_sem]
  by_cases h1 : x = x'
  · by_cases h2 : y = y'
    · by_cases h3 : l = l'
      · simp (disch := omega) only [go_sem, h1, h2, h3]
        simp
      · simp (disch := omega) only [go_sem, h1, h2, h3]
        simp [h3]
    · simp (disch := omega) only [go_sem, h1, h2]
      simp [h2]
  · simp (disch := omega) only [go_sem, h1]
    simp [h1]
def badL (x : Int) : Bool := decide (x < 1) || decide (1000 < x)
def chanB (l : List Int) (cap : Int) : Bool := decide ((l.length : Int) ≤ cap) && !l.any badL
theorem r188 (x : Int) : res A PrA 188 [.int .i64 x] = some [.bool (badL x)] := by
  refine res_of a188 rfl rfl ?_
  simp only [F188]
  simp (disch := omega) only [go_sem]
  unfold badL
  by_cases c1 : x < 1
  · simp (disch := omega) only [go_sem, c1]
  · simp (disch := omega) only [go_sem, c1]
theorem r117c (g t : Nat) (l : List Int) (p : Int → Bool) (hl : l.length ≤ 2 ^ 63 - 1) (hi : inls A g = false) (hp : PrA g = none) (ht : takes A g = false) (hf : ∀ x ∈ l, res A PrA g [.int .i64 x] = some [.bool (p x)]) : res A PrA 117 [.lst t (ints l), .func g []] = some [.int .i64 (idxP p l)] := by
  refine res_of a117 rfl rfl ?_
  simp only [F117]
  simp (disch := omega) only [go_sem]
  refine W.find l p (fun k => ⟨[(0, .pv (.lst t (ints l))), (1, .pv (.func g [])), (7, .pv (.int .i64 l.length)), (8, .pv (.int .i64 k))], ⟨[], [], []⟩⟩) rfl (fun k x hx hk hfd => ?_) (fun hn => ?_)
  · have hfx := hf x (List.mem_of_getElem? hx)
    simp (disch := omega) only [go_sem]
    refine Br.ofP (fun h => ?_) (fun h => (h (by omega)).elim)
    simp (disch := omega) only [go_sem, hx, CW_none hi hp ht, hfx]
    refine Br.of (fun h2 => ?_) (fun h2 => ?_) <;> simp (disch := omega) only [go_sem]
    · rw [(hfd h2).idxP]
    · exact findK.of h2 rfl
  · simp (disch := omega) only [go_sem]
    rw [hn.idxP]
theorem r108c (t : Nat) (l : List Int) (hl : l.length ≤ 2 ^ 63 - 1) : res A PrA 108 [.lst t (ints l), .func 188 []] = some [.bool (l.any badL)] := by
  refine res_of a108 rfl rfl ?_
  simp only [F108]
  have := r117c 188 t l badL hl (by kernel_rfl) (by kernel_rfl) (by kernel_rfl) (fun x _ => r188 x)
  simp (disch := omega) only [go_sem, this]
  rw [idxP_pos]
@[go_sem] theorem r177 (t : Nat) (l : List Int) (cap : Int) (hl : l.length ≤ 2000000000) : res A PrA 177 [.lst t (ints l), .int .i64 cap] = some [.bool (chanB l cap)] := by
  refine res_of a177 rfl rfl ?_
  simp only [F177]
  have h108 := r108c t l (by omega)
  unfold chanB
  by_cases c : (l.length : Int) ≤ cap
  · simp (disch := omega) only [go_sem, c, h108]
  · simp (disch := omega) only [go_sem, c]
def fitsB (a b : Auto) (cap : Int) (x y : Int) (l m : List Int) : Bool := decide (sysErr a b cap = 0) && decide (0 ≤ x) && decide (x < a.states) && decide (0 ≤ y) && decide (y < b.states) && chanB l cap && chanB m cap
end Go.Pv

/-
  Chapter 29: what fits, what is done.
-/
namespace Go.Pv
theorem bool_le {a b : Int} : decide (0 ≤ min a b) = (decide (0 ≤ a) && decide (0 ≤ b)) := by
  by_cases h1 : 0 ≤ a <;> by_cases h2 : 0 ≤ b <;> simp [h1, h2] <;> omega
set_option maxHeartbeats 2000000 in
@[go_sem] theorem r157 (t1 t2 : Nat) (a b : Auto) (cap : Int) (u1 u2 : Nat) (x y : Int) (l m : List Int) (ha : a.edges.length ≤ 2 ^ 63 - 1) (hb : b.edges.length ≤ 2 ^ 63 - 1) (hl : l.length ≤ 2000000000) (hm : m.length ≤ 2000000000) : res A PrA 157 [.agg [.int .i64 a.states, .int .i64 a.start, .lst t1 (a.edges.map Edge.c), .int .i64 b.states, .int .i64 b.start, .lst t2 (b.edges.map Edge.c), .int .i64 cap], .agg [.int .i64 x, .int .i64 y, .lst u1 (ints l), .lst u2 (ints m)]] = some [.bool (fitsB a b cap x y l m)] := by
  refine res_of a157 rfl rfl ?_
  simp only [F157]
  simp (disch := omega) only [go_sem]
  unfold fitsB
  rw [bool_le]
  cases hb2 : decide (0 ≤ x)
  · cases hb1 : decide (sysErr a b cap = 0) <;> simp (disch := omega) only [go_sem, hb1]
  · cases hb4 : decide (0 ≤ y)
    · cases hb1 : decide (sysErr a b cap = 0) <;> simp (disch := omega) only [go_sem, hb1]
    · cases hb3 : decide (x < a.states)
      · cases hb1 : decide (sysErr a b cap = 0) <;> simp (disch := omega) only [go_sem, hb1, hb3]
      · cases hb5 : decide (y < b.states)
        · cases hb1 : decide (sysErr a b cap = 0) <;> simp (disch := omega) only [go_sem, hb1, hb3, hb5]
        · cases hb1 : decide (sysErr a b cap = 0)
          · simp (disch := omega) only [go_sem, hb1, hb3, hb5]
          · cases hb6 : chanB l cap
            · simp (disch := omega) only [go_sem, hb1, hb3, hb5, hb6]
            · simp (disch := omega) only [go_sem, hb1, hb3, hb5, hb6]
theorem r181 (t : Nat) (e : Edge) (s : Int) : res A PrA 181 [.agg [.int .i64 e.fr, .bool e.send, .int .i64 e.label, .int .i64 e.to], .ro t [.int .i64 s]] = some [.bool (decide (e.fr = s))] := by
  refine res_of a181 rfl rfl ?_
  simp only [F181]
  simp (disch := omega) only [go_sem]
theorem isEnd_any (s : Int) : ∀ l : List Edge, isEnd s l = !(l.any fun e => decide (e.fr = s))
  | [] => rfl
  | e :: r => by
    unfold isEnd
    rw [List.any_cons, isEnd_any s r]
    by_cases h : e.fr = s <;> simp [h]
theorem r180 (t u : Nat) (l : List Edge) (s : Int) (hl : l.length ≤ 2 ^ 63 - 1) : res A PrA 180 [.lst t (l.map Edge.c), .func 181 [.ro u [.int .i64 s]]] = some [.bool (!isEnd s l)] := by
  refine res_of a180 rfl rfl ?_
  simp only [F180]
  have h77 := r77 181 t u [.int .i64 s] l (fun e => decide (e.fr = s)) hl (by kernel_rfl) (by kernel_rfl) (by kernel_rfl) (fun e _ => r181 u e s)
  have e1 : edgs l = l.map Edge.c := rfl
  rw [e1] at h77
  simp (disch := omega) only [go_sem, h77]
  rw [idxP_pos, isEnd_any, Bool.not_not]
@[go_sem] theorem r179 (t : Nat) (a : Auto) (s : Int) (hl : a.edges.length ≤ 2 ^ 63 - 1) : res A PrA 179 [.agg [.int .i64 a.states, .int .i64 a.start, .lst t (a.edges.map Edge.c)], .int .i64 s] = some [.bool (!isEnd s a.edges)] := by
  refine res_of a179 rfl rfl ?_
  simp only [F179]
  have h180 := fun t u => r180 t u a.edges s hl
  simp (disch := omega) only [go_sem, h180]
def doneB (a b : Auto) (cap : Int) (x y : Int) (l m : List Int) : Bool := fitsB a b cap x y l m && decide (l.length + m.length = 0) && isEnd x a.edges && isEnd y b.edges
set_option maxHeartbeats 2000000 in
@[go_sem] theorem r159 (t1 t2 : Nat) (a b : Auto) (cap : Int) (u1 u2 : Nat) (x y : Int) (l m : List Int) (ha : a.edges.length ≤ 2 ^ 63 - 1) (hb : b.edges.length ≤ 2 ^ 63 - 1) (hl : l.length ≤ 2000000000) (hm : m.length ≤ 2000000000) : res A PrA 159 [.agg [.int .i64 a.states, .int .i64 a.start, .lst t1 (a.edges.map Edge.c), .int .i64 b.states, .int .i64 b.start, .lst t2 (b.edges.map Edge.c), .int .i64 cap], .agg [.int .i64 x, .int .i64 y, .lst u1 (ints l), .lst u2 (ints m)]] = some [.bool (doneB a b cap x y l m)] := by
  refine res_of a159 rfl rfl ?_
  simp only [F159]
  simp (disch := omega) only [go_sem]
  unfold doneB
  cases hb1 : fitsB a b cap x y l m
  · simp (disch := omega) only [go_sem]
  · by_cases hc : l.length + m.length = 0
    · have q1 : ¬ (0 < (l.length : Int) + m.length) := by omega
      simp (disch := omega) only [go_sem, q1]
      cases hb2 : isEnd x a.edges
      · simp (disch := omega) only [go_sem]
      · simp (disch := omega) only [go_sem]
        simp [hc]
    · have q1 : (0 < (l.length : Int) + m.length) := by omega
      simp (disch := omega) only [go_sem, q1]
      rw [decide_eq_false hc]
      rfl
end Go.Pv

/-
  Plain laws: distances.
-/
namespace Go.Pv

structure LvInv (nx : Int → List Int) (n : Nat) (fr : List Int) (i : Nat) (s : List Int × List Int) : Prop where
  ok : LvOk n s
  low : ∀ v : Nat, v < n → -1 ≤ s.1.getD v (-1)
  mono : ∀ (j k : Nat) (x y : Int), j ≤ k → s.2[j]? = some x → s.2[k]? = some y → s.1.getD x.toNat (-1) ≤ s.1.getD y.toNat (-1)
  near : ∀ (j : Nat) (x y : Int), s.2[i]? = some x → s.2[j]? = some y → s.1.getD y.toNat (-1) ≤ s.1.getD x.toNat (-1) + 1
  zero : ∀ v : Int, 0 ≤ v → v < n → (s.1.getD v.toNat (-1) = 0 ↔ v ∈ fr)
  done : ∀ (j : Nat) (u x : Int), j < i → s.2[j]? = some u → x ∈ nx u → 0 ≤ s.1.getD x.toNat (-1) ∧ s.1.getD x.toNat (-1) ≤ s.1.getD u.toNat (-1) + 1
  back : ∀ v : Int, 0 ≤ v → v < n → 0 < s.1.getD v.toNat (-1) → ∃ u, v ∈ nx u ∧ 0 ≤ u ∧ u < n ∧ s.1.getD u.toNat (-1) = s.1.getD v.toNat (-1) - 1
theorem lvIn_get {n : Nat} {s : List Int × List Int} (h : LvOk n s) {x d : Int} (hx : 0 ≤ x ∧ x < n) (v : Nat) : (lvIn d s x).1.getD v (-1) = if s.1.getD x.toNat (-1) < 0 ∧ x.toNat = v then d else s.1.getD v (-1) := by
  unfold lvIn
  by_cases hc : s.1.getD x.toNat (-1) < 0
  · rw [if_pos hc]
    dsimp only
    rw [getD_set' (by rw [h.len]; omega)]
    by_cases he : x.toNat = v
    · rw [if_pos he, if_pos ⟨hc, he⟩]
    · rw [if_neg he, if_neg (fun hh => he hh.2)]
  · rw [if_neg hc, if_neg (fun hh => hc hh.1)]
theorem lvIn_snd {s : List Int × List Int} {x d : Int} : (lvIn d s x).2 = if s.1.getD x.toNat (-1) < 0 then s.2 ++ [x] else s.2 := by
  unfold lvIn
  split <;> rfl
theorem LvInv.fold {nx : Int → List Int} {n : Nat} {fr : List Int} (_hn : ∀ v x, x ∈ nx v → 0 ≤ x ∧ x < n) {i : Nat} {v d : Int} : ∀ (l : List Int) (s : List Int × List Int), LvInv nx n fr i s → s.2[i]? = some v → d = s.1.getD v.toNat (-1) + 1 → (∀ x ∈ l, x ∈ nx v ∧ 0 ≤ x ∧ x < n) →
    LvInv nx n fr i (l.foldl (lvIn d) s) ∧ (l.foldl (lvIn d) s).2[i]? = some v ∧ (l.foldl (lvIn d) s).1.getD v.toNat (-1) + 1 = d ∧ (∀ u : Nat, 0 ≤ s.1.getD u (-1) → (l.foldl (lvIn d) s).1.getD u (-1) = s.1.getD u (-1)) ∧ ∀ x ∈ l, 0 ≤ (l.foldl (lvIn d) s).1.getD x.toNat (-1) ∧ (l.foldl (lvIn d) s).1.getD x.toNat (-1) ≤ d
  | [], s, h, hv, hd, _ => ⟨h, hv, hd.symm, fun _ _ => rfl, fun x hx => by cases hx⟩
  | x :: l, s, h, hv, hd, hl => by
    obtain ⟨hxn, hx0, hx1⟩ := hl x (by simp)
    have hvm := (h.ok.mem v).1 (List.mem_of_getElem? hv)
    have htop := h.ok.top v.toNat
    have hg := lvIn_get h.ok (d := d) ⟨hx0, hx1⟩
    have hs2 : (lvIn d s x).2 = if s.1.getD x.toNat (-1) < 0 then s.2 ++ [x] else s.2 := lvIn_snd
    have hok := h.ok.step (x := x) (d := d) ⟨hx0, hx1⟩ ⟨by omega, by omega⟩
    have hnear := fun j y (hy : s.2[j]? = some y) => h.near j v y hv hy
    have hsame : ∀ u : Nat, 0 ≤ s.1.getD u (-1) → (lvIn d s x).1.getD u (-1) = s.1.getD u (-1) := fun u hu => by
      rw [hg, if_neg (fun hh => by rw [hh.2] at hh; omega)]
    have hmemq : ∀ (j : Nat) (y : Int), s.2[j]? = some y → 0 ≤ s.1.getD y.toNat (-1) := fun j y hy => ((h.ok.mem y).1 (List.mem_of_getElem? hy)).2.2
    have hq : ∀ (j : Nat) (y : Int), (lvIn d s x).2[j]? = some y → (s.2[j]? = some y ∧ (lvIn d s x).1.getD y.toNat (-1) = s.1.getD y.toNat (-1)) ∨ (s.2.length = j ∧ y = x ∧ s.1.getD x.toNat (-1) < 0 ∧ (lvIn d s x).1.getD y.toNat (-1) = d) := fun j y hy => by
      rw [hs2] at hy
      by_cases hc : s.1.getD x.toNat (-1) < 0
      · rw [if_pos hc] at hy
        rcases Nat.lt_or_ge j s.2.length with hj | hj
        · rw [List.getElem?_append_left hj] at hy
          exact .inl ⟨hy, hsame _ (hmemq j y hy)⟩
        · rw [List.getElem?_append_right hj] at hy
          obtain ⟨h1, h2⟩ := List.getElem?_eq_some_iff.1 hy
          have hj0 : j - s.2.length = 0 := by simpa using h1
          simp [hj0] at h2
          refine .inr ⟨by omega, h2.symm, hc, ?_⟩
          rw [hg, ← h2, if_pos ⟨hc, rfl⟩]
      · rw [if_neg hc] at hy
        exact .inl ⟨hy, hsame _ (hmemq j y hy)⟩
    have hv' : (lvIn d s x).2[i]? = some v := by
      rw [hs2]
      split
      · rw [List.getElem?_append_left (List.getElem?_eq_some_iff.1 hv).1]; exact hv
      · exact hv
    have hdv : (lvIn d s x).1.getD v.toNat (-1) = s.1.getD v.toNat (-1) := hsame _ hvm.2.2
    have hI : LvInv nx n fr i (lvIn d s x) := by
      refine ⟨hok, fun u hu => ?_, fun j k a b hjk ha hb => ?_, fun j a b ha hb => ?_, fun u h0 h1 => ?_, fun j u y hj hu hy => ?_, fun u h0 h1 hp => ?_⟩
      · rw [hg]
        split
        · omega
        · exact h.low u hu
      · rcases hq j a ha with ⟨a1, a2⟩ | ⟨a1, a2, a3, a4⟩
        · rcases hq k b hb with ⟨b1, b2⟩ | ⟨b1, b2, b3, b4⟩
          · rw [a2, b2]; exact h.mono j k a b hjk a1 b1
          · rw [a2, b4]
            have := hnear j a a1
            omega
        · rcases hq k b hb with ⟨b1, b2⟩ | ⟨b1, b2, b3, b4⟩
          · have := (List.getElem?_eq_some_iff.1 b1).1
            omega
          · rw [a4, b4]; exact Int.le_refl _
      · rw [hv'] at ha
        cases ha
        rw [hdv]
        rcases hq j b hb with ⟨b1, b2⟩ | ⟨b1, b2, b3, b4⟩
        · rw [b2]; exact hnear j b b1
        · rw [b4]; omega
      · rw [← h.zero u h0 h1, hg]
        split
        · rename_i hc
          have : x = u := by omega
          subst this
          constructor
          · intro; omega
          · intro; omega
        · exact Iff.rfl
      · rcases hq j u hu with ⟨b1, b2⟩ | ⟨b1, _, _, _⟩
        · obtain ⟨g1, g2⟩ := h.done j u y hj b1 hy
          rw [hsame _ g1, b2]
          exact ⟨g1, g2⟩
        · have := (List.getElem?_eq_some_iff.1 hv).1
          omega
      · rw [hg] at hp
        rw [hg]
        split at hp
        · rename_i hc
          rw [if_pos hc]
          have : x = u := by omega
          subst this
          exact ⟨v, hxn, hvm.1, hvm.2.1, by rw [hdv]; omega⟩
        · rename_i hc
          rw [if_neg hc]
          obtain ⟨w, w1, w2, w3, w4⟩ := h.back u h0 h1 hp
          exact ⟨w, w1, w2, w3, by rw [hsame _ (by omega)]; exact w4⟩
    obtain ⟨f1, f2, f3, f4, f5⟩ := LvInv.fold (d := d) _hn l _ hI hv' (by rw [hdv]; exact hd) (fun y hy => hl y (List.mem_cons_of_mem _ hy))
    refine ⟨f1, f2, f3, fun u hu => ?_, fun y hy => ?_⟩
    · rw [List.foldl_cons, f4 u (by rw [hsame u hu]; exact hu), hsame u hu]
    · rcases List.mem_cons.1 hy with rfl | hy
      · have hle : 0 ≤ (lvIn d s y).1.getD y.toNat (-1) ∧ (lvIn d s y).1.getD y.toNat (-1) ≤ d := by
          rw [hg]
          split
          · omega
          · rename_i hc
            have hp : 0 ≤ s.1.getD y.toNat (-1) := by
              by_cases hc2 : s.1.getD y.toNat (-1) < 0
              · exact absurd ⟨hc2, rfl⟩ hc
              · omega
            obtain ⟨j, hj⟩ := List.mem_iff_getElem?.1 ((h.ok.mem y).2 ⟨hx0, hx1, hp⟩)
            have := hnear j y hj
            omega
        rw [List.foldl_cons, f4 y.toNat hle.1]
        exact hle
      · exact f5 y hy
theorem LvInv.run {nx : Int → List Int} {n : Nat} {fr : List Int} (hn : ∀ v x, x ∈ nx v → 0 ≤ x ∧ x < n) : ∀ (m i : Nat) (s : List Int × List Int), LvInv nx n fr i s → n ≤ i + m → ∃ j, LvInv nx n fr j (lvRun nx m i s) ∧ (lvRun nx m i s).2.length ≤ j
  | 0, i, s, h, hm => ⟨i, h, Nat.le_trans h.ok.bound (by omega)⟩
  | m + 1, i, s, h, hm => by
    unfold lvRun
    cases hv : s.2[i]? with
    | none => exact ⟨i, h, List.getElem?_eq_none_iff.1 hv⟩
    | some v =>
      have hvm := (h.ok.mem v).1 (List.mem_of_getElem? hv)
      obtain ⟨f1, f2, f3, f4, f5⟩ := LvInv.fold hn (nx v) s h hv rfl (fun x hx => ⟨hx, hn v x hx⟩)
      refine LvInv.run hn m (i + 1) _ ⟨f1.ok, f1.low, f1.mono, fun j x y hx hy => ?_, f1.zero, fun j u x hj hu hx => ?_, f1.back⟩ (by omega)
      · have h1 := f1.near j v y f2 hy
        have h2 := f1.mono i (i + 1) v x (by omega) f2 hx
        omega
      · rcases Nat.lt_or_ge j i with hji | hji
        · exact f1.done j u x hji hu hx
        · obtain rfl : j = i := by omega
          rw [f2] at hu
          cases hu
          have := f5 x hx
          exact ⟨this.1, by omega⟩
theorem sum_set (f : Int → Nat) : ∀ (l : List Int) (i : Nat) (x y : Int), l[i]? = some y → ((l.set i x).map f).sum + f y = (l.map f).sum + f x
  | [], i, x, y, h => by simp at h
  | a :: l, 0, x, y, h => by
    simp at h
    subst h
    simp only [List.set_cons_zero, List.map_cons, List.sum_cons]
    omega
  | a :: l, i + 1, x, y, h => by
    have := sum_set f l i x y (by simpa using h)
    simp only [List.set_cons_succ, List.map_cons, List.sum_cons]
    omega
theorem sum_le (f : Int → Nat) (m : Nat) : ∀ l : List Int, (∀ x ∈ l, f x ≤ m) → (l.map f).sum ≤ m * l.length
  | [], _ => by simp
  | a :: l, h => by
    have h1 := sum_le f m l (fun x hx => h x (List.mem_cons_of_mem _ hx))
    have h2 := h a (by simp)
    simp only [List.map_cons, List.sum_cons, List.length_cons, Nat.mul_add, Nat.mul_one]
    omega
def hasD (d : List Int) : Nat := (d.map fun x => if 0 ≤ x then 1 else 0).sum
def leftD (n : Nat) (d : List Int) : Nat := (d.map fun x => if 0 ≤ x then x.toNat else n).sum
theorem hasD_le (d : List Int) : hasD d ≤ d.length := by
  have := sum_le (fun x => if 0 ≤ x then 1 else 0) 1 d (fun x _ => by split <;> omega)
  unfold hasD
  omega
def relaxes (d : List Int) (e : Int × Int) : Bool := decide (0 ≤ d.getD e.2.toNat (-1)) && (decide (d.getD e.1.toNat (-1) < 0) || decide (d.getD e.2.toNat (-1) + 1 < d.getD e.1.toNat (-1)))
def relax (d : List Int) (e : Int × Int) : List Int := if relaxes d e = true then d.set e.1.toNat (d.getD e.2.toNat (-1) + 1) else d
structure RInv (n : Nat) (es : List (Int × Int)) (fr : List Int) (d : List Int) : Prop where
  len : d.length = n
  low : ∀ v : Nat, v < n → -1 ≤ d.getD v (-1)
  zero : ∀ v : Int, 0 ≤ v → v < n → (d.getD v.toNat (-1) = 0 ↔ v ∈ fr)
  back : ∀ v : Int, 0 ≤ v → v < n → 0 < d.getD v.toNat (-1) → ∃ u, (v, u) ∈ es ∧ 0 ≤ u ∧ u < n ∧ 0 ≤ d.getD u.toNat (-1) ∧ d.getD u.toNat (-1) ≤ d.getD v.toNat (-1) - 1
  top : ∀ v : Nat, v < n → d.getD v (-1) + 1 ≤ hasD d
theorem RInv.relax {n : Nat} {es : List (Int × Int)} {fr d : List Int} (h : RInv n es fr d) {e : Int × Int} (he : e ∈ es) (hi : (0 ≤ e.1 ∧ e.1 < n) ∧ (0 ≤ e.2 ∧ e.2 < n)) (hr : relaxes d e = true) : RInv n es fr (relax d e) ∧ leftD n (relax d e) < leftD n d := by
  obtain ⟨⟨a0, a1⟩, b0, b1⟩ := hi
  have hlen := h.len
  unfold Pv.relax
  rw [if_pos hr]
  simp only [relaxes, Bool.and_eq_true, Bool.or_eq_true, decide_eq_true_eq] at hr
  obtain ⟨hr1, hr2⟩ := hr
  have hal : e.1.toNat < d.length := by omega
  have hg : ∀ v : Nat, (d.set e.1.toNat (d.getD e.2.toNat (-1) + 1)).getD v (-1) = if e.1.toNat = v then d.getD e.2.toNat (-1) + 1 else d.getD v (-1) := fun v => getD_set' hal
  have hget : d[e.1.toNat]? = some (d.getD e.1.toNat (-1)) := by simp [hal]
  have htb := h.top e.2.toNat (by omega)
  have hl1 := h.low e.1.toNat (by omega)
  have hh : hasD d ≤ hasD (d.set e.1.toNat (d.getD e.2.toNat (-1) + 1)) ∧ (d.getD e.1.toNat (-1) < 0 → hasD d + 1 = hasD (d.set e.1.toNat (d.getD e.2.toNat (-1) + 1))) := by
    have := sum_set (fun x => if 0 ≤ x then 1 else 0) d e.1.toNat (d.getD e.2.toNat (-1) + 1) _ hget
    rw [if_pos (show (0 : Int) ≤ d.getD e.2.toNat (-1) + 1 by omega)] at this
    unfold hasD
    constructor
    · split at this <;> omega
    · intro hneg
      rw [if_neg (by omega)] at this
      omega
  have hhl := hasD_le (d.set e.1.toNat (d.getD e.2.toNat (-1) + 1))
  rw [List.length_set, hlen] at hhl
  refine ⟨⟨by rw [List.length_set]; exact hlen, fun v hv => ?_, fun v h0 h1 => ?_, fun v h0 h1 hp => ?_, fun v hv => ?_⟩, ?_⟩
  · rw [hg]
    split
    · omega
    · exact h.low v hv
  · rw [hg, ← h.zero v h0 h1]
    split
    · rename_i hc
      have hv : e.1 = v := by omega
      rw [← hv]
      constructor
      · intro; omega
      · intro; omega
    · exact Iff.rfl
  · rw [hg] at hp
    simp only [hg]
    by_cases hc : e.1.toNat = v.toNat
    · have hv : e.1 = v := by omega
      rw [if_pos hc]
      refine ⟨e.2, by rw [← hv]; exact he, b0, b1, ?_⟩
      by_cases hb : e.1.toNat = e.2.toNat
      · rw [← hb] at hr1 hr2
        omega
      · rw [if_neg hb]
        omega
    · rw [if_neg hc] at hp ⊢
      obtain ⟨u, u1, u2, u3, u4, u5⟩ := h.back v h0 h1 hp
      refine ⟨u, u1, u2, u3, ?_⟩
      split
      · rename_i hu
        rw [hu] at hr2
        omega
      · exact ⟨u4, u5⟩
  · rw [hg]
    split
    · rcases hr2 with hr2 | hr2
      · have := hh.2 hr2
        omega
      · have := h.top e.1.toNat (by omega)
        omega
    · have := h.top v hv
      omega
  · have := sum_set (fun x => if 0 ≤ x then x.toNat else n) d e.1.toNat (d.getD e.2.toNat (-1) + 1) _ hget
    rw [if_pos (show (0 : Int) ≤ d.getD e.2.toNat (-1) + 1 by omega)] at this
    unfold leftD
    rcases hr2 with hr2 | hr2
    · have h2 := hh.2 hr2
      rw [if_neg (by omega)] at this
      omega
    · rw [if_pos (by omega)] at this
      omega
def rstep (q : Bool × List Int) (e : Int × Int) : Bool × List Int := if relaxes q.2 e = true then (true, relax q.2 e) else q
structure PInv (n : Nat) (es : List (Int × Int)) (fr d0 : List Int) (k : Nat) (q : Bool × List Int) : Prop where
  r : RInv n es fr q.2
  no : q.1 = false → q.2 = d0 ∧ ∀ e ∈ es.take k, relaxes d0 e = false
  yes : q.1 = true → leftD n q.2 < leftD n d0
theorem PInv.start {n : Nat} {es : List (Int × Int)} {fr d0 : List Int} (h : RInv n es fr d0) : PInv n es fr d0 0 (false, d0) := ⟨h, fun _ => ⟨rfl, fun e he => by simp at he⟩, fun h => (by cases h)⟩
theorem PInv.step {n : Nat} {es : List (Int × Int)} {fr d0 : List Int} {k : Nat} {q : Bool × List Int} (h : PInv n es fr d0 k q) {e : Int × Int} (he : es[k]? = some e) (hi : (0 ≤ e.1 ∧ e.1 < n) ∧ (0 ≤ e.2 ∧ e.2 < n)) : PInv n es fr d0 (k + 1) (rstep q e) := by
  have ht : es.take (k + 1) = es.take k ++ [e] := by rw [List.take_add_one, he]; rfl
  unfold rstep
  cases hc : relaxes q.2 e with
  | true =>
    rw [if_pos rfl]
    obtain ⟨g1, g2⟩ := h.r.relax (List.mem_of_getElem? he) hi hc
    refine ⟨g1, fun h => (by cases h), fun _ => ?_⟩
    cases hq : q.1 with
    | true => exact Nat.lt_trans g2 (h.yes hq)
    | false => rw [(h.no hq).1] at g2; rw [(h.no hq).1]; exact g2
  | false =>
    rw [if_neg (by simp)]
    refine ⟨h.r, fun hq => ?_, h.yes⟩
    obtain ⟨g1, g2⟩ := h.no hq
    refine ⟨g1, fun x hx => ?_⟩
    rw [ht, List.mem_append, List.mem_singleton] at hx
    rcases hx with hx | rfl
    · exact g2 x hx
    · rw [← g1]; exact hc
end Go.Pv

/-
  Chapter 05: few, errors, reversed edges, as the document says.
-/
namespace Go.Pv

end Go.Pv

/-
  Loops whose rounds leave more than the next round takes.
-/
namespace Go.Pv
variable {A : Nat → Option AFunc} {Pr : Prims}

def rndM {α : Type} (kt kb : List Nat) (S : α → St) (P : α → Prop) (m : α → Nat) (x : α) (Q : Ex → St → Prop) (_t : Tie (kt, kb, S, P, m, x, Q) := .mk) : Ex → St → Prop
  | .normal, s => ∃ y, P y ∧ m y < m x ∧ s.mask kt kb = S y
  | .exit i, s => Q (.exit i) s
  | .ret, s => Q .ret s
@[go_sem] theorem rndM_exit {α : Type} (kt kb : List Nat) (S : α → St) (P : α → Prop) (m : α → Nat) (x : α) (Q : Ex → St → Prop) (i : Nat) (s : St) : rndM kt kb S P m x Q .mk (.exit i) s = Q (.exit i) s := rfl
@[go_sem] theorem rndM_ret {α : Type} (kt kb : List Nat) (S : α → St) (P : α → Prop) (m : α → Nat) (x : α) (Q : Ex → St → Prop) (s : St) : rndM kt kb S P m x Q .mk .ret s = Q .ret s := rfl
@[congr] theorem rndM_congr {α : Type} {kt kb : List Nat} {S : α → St} {P : α → Prop} {m : α → Nat} {x : α} {Q : Ex → St → Prop} {e e' : Ex} {s s' : St} (he : e = e') (hs : s = s') : rndM kt kb S P m x Q .mk e s = rndM kt kb S P m x Q .mk e' s' := by rw [he, hs]

end Go.Pv

/-
  Chapter 05: distances, as the document says.
-/
namespace Go.Pv

end Go.Pv

/-
  Chapter 05: distances and what is reached; the laws of Valid, Distances, Reach.
-/
namespace Go.Pv

end Go.Pv

/-
  Chapter 29: what comes after a move.
-/
namespace Go.Pv
theorem cloneIntsT {l : List Int} (hm : l.length ≤ 2147483648) (t : Nat) (ht : t ≤ 1) : (l = [] ∧ ∀ h, cloneP 1 [.pv (.lst t [])] h = some (.tl [], {})) ∨ (l ≠ [] ∧ ∀ h, cloneP 1 [.pv (.lst t (ints l))] h = some (.own h.ar.length 0 0 l.length, { push := [⟨0, 1, .inl (ints l)⟩], base := h.ar.length })) := by
  by_cases h0 : l = []
  · subst h0
    exact .inl ⟨rfl, fun h => by simp [cloneP, srcRows, rowsFit, ht]⟩
  · refine .inr ⟨h0, fun h => ?_⟩
    have hl : ¬ l.length = 0 := fun e => h0 (List.eq_nil_of_length_eq_zero e)
    have hf := rowsFit_ints l
    have hil : (ints l).length = l.length := ints_length l
    simp [cloneP, srcRows, hf, hl, mostRows, hm, ht, hil]
def cfgP (c : Cfg) : PV := .agg [.int .i64 c.a, .int .i64 c.b, .lst 0 (ints c.toA), .lst 0 (ints c.toB)]
@[go_sem] theorem cfgP_eq (c : Cfg) : cfgP c = .agg [.int .i64 c.a, .int .i64 c.b, .lst 0 (ints c.toA), .lst 0 (ints c.toB)] := rfl
def cfg0 : Cfg := ⟨0, 0, [], []⟩
def putC (x y : Int) (party state : Int) (i o : List Int) : Cfg := if party = 0 then ⟨state, y, i, o⟩ else ⟨x, state, o, i⟩
set_option maxHeartbeats 2000000 in
theorem r190 (u1 u2 w1 w2 : Nat) (x y party state : Int) (l m i o : List Int) (hw1 : w1 ≤ 1) (hw2 : w2 ≤ 1) (hi : i.length ≤ 2147483648) (ho : o.length ≤ 2147483648) : res A PrA 190 [.agg [.int .i64 x, .int .i64 y, .lst u1 (ints l), .lst u2 (ints m)], .int .i64 party, .int .i64 state, .lst w1 (ints i), .lst w2 (ints o)] = some [cfgP (putC x y party state i o)] := by
  refine res_of a190 rfl rfl ?_
  simp only [F190]
  unfold putC cfgP
  rcases cloneIntsT hi w1 hw1 with ⟨rfl, hc⟩ | ⟨h0, hc⟩ <;> rcases cloneIntsT ho w2 hw2 with ⟨rfl, hd⟩ | ⟨h2, hd⟩
  all_goals
    by_cases hp : party = 0
    · have dp : decide (party = 0) = true := by simp [hp]
      simp (disch := omega) only [go_sem, dp, hc, hd, List.take_length, if_pos hp]
    · have dp : decide (party = 0) = false := by simp [hp]
      simp (disch := omega) only [go_sem, dp, hc, hd, List.take_length, if_neg hp]

theorem r189 (a b : Auto) (cap : Int) (x y : Int) (l m : List Int) (party : Int) : res A PrA 189 [.agg [.int .i64 a.states, .int .i64 a.start, .lst 0 (a.edges.map Edge.c), .int .i64 b.states, .int .i64 b.start, .lst 0 (b.edges.map Edge.c), .int .i64 cap], .agg [.int .i64 x, .int .i64 y, .lst 0 (ints l), .lst 0 (ints m)], .int .i64 party] = some [if party = 0 then .agg [.int .i64 a.states, .int .i64 a.start, .lst 0 (a.edges.map Edge.c), .int .i64 x, .lst 0 (ints l), .lst 0 (ints m), .int .i64 cap] else .agg [.int .i64 b.states, .int .i64 b.start, .lst 0 (b.edges.map Edge.c), .int .i64 y, .lst 0 (ints m), .lst 0 (ints l), .int .i64 cap]] := by
  refine res_of a189 rfl rfl ?_
  simp only [F189]
  by_cases hp : party = 0
  · have dp : decide (party = 0) = true := by simp [hp]
    simp (disch := omega) only [go_sem, dp, if_pos hp]
  · have dp : decide (party = 0) = false := by simp [hp]
    simp (disch := omega) only [go_sem, dp, if_neg hp]
def sideC (es : List Edge) (cap st : Int) (i o : List Int) (send : Bool) (label : Int) : Option (Int × List Int × List Int) × Bool :=
  match nextE st send label es with
  | none => (none, false)
  | some q => if send = true then (some (q, i, o ++ [label]), decide ((o.length : Int) < cap)) else match i with
    | [] => (none, false)
    | z :: r => if z = label then (some (q, r, o), true) else (none, false)
def afterC (a b : Auto) (cap x y : Int) (l m : List Int) (mv : Mov) : Cfg × Bool :=
  if mv.party = 0 then (match sideC a.edges cap x l m mv.send mv.label with
    | (none, ok) => (cfg0, ok)
    | (some (q, i, o), ok) => (⟨q, y, i, o⟩, ok))
  else if mv.party = 1 then (match sideC b.edges cap y m l mv.send mv.label with
    | (none, ok) => (cfg0, ok)
    | (some (q, i, o), ok) => (⟨x, q, o, i⟩, ok))
  else (cfg0, false)
set_option maxHeartbeats 4000000 in
theorem r182 (a b : Auto) (cap : Int) (x y : Int) (l m : List Int) (mv : Mov) (ha : a.edges.length ≤ 2 ^ 63 - 1) (hb : b.edges.length ≤ 2 ^ 63 - 1) (hl : l.length ≤ 2000000000) (hm : m.length ≤ 2000000000) : res A PrA 182 [.agg [.int .i64 a.states, .int .i64 a.start, .lst 0 (a.edges.map Edge.c), .int .i64 b.states, .int .i64 b.start, .lst 0 (b.edges.map Edge.c), .int .i64 cap], .agg [.int .i64 x, .int .i64 y, .lst 0 (ints l), .lst 0 (ints m)], .agg [.int .i64 mv.party, .bool mv.send, .int .i64 mv.label]] = some [cfgP (afterC a b cap x y l m mv).1, .bool (afterC a b cap x y l m mv).2] := by
  refine res_of a182 rfl rfl ?_
  simp only [F182]
  obtain ⟨p, send, label⟩ := mv
  have h190 := fun u1 u2 w1 w2 x y q s l m i o h1 h2 h3 h4 => r190 u1 u2 w1 w2 x y q s l m i o h1 h2 h3 h4
  have h189 := r189 a b cap x y l m
  by_cases hp : p = 0
  · subst hp
    have d0 : decide (((0 : Nat) : Int) = 0) = true := rfl
    have hA : afterC a b cap x y l m ⟨0, send, label⟩ = (match sideC a.edges cap x l m send label with
      | (none, ok) => (cfg0, ok)
      | (some (q, i, o), ok) => (⟨q, y, i, o⟩, ok)) := rfl
    rw [hA]
    unfold sideC
    have h189 := h189 0
    rw [if_pos rfl] at h189
    cases hn : nextE x send label a.edges with
    | none =>
      simp (disch := omega) only [go_sem, h189, hn, Option.isSome_none, Option.getD_none]
      rfl
    | some q =>
      cases send with
      | true =>
        have htk : (m ++ [label]).take (m.length + 1) = m ++ [label] := List.take_of_length_le (by simp)
        have hml : (m ++ [label]).length = m.length + 1 := by simp
        have h190' := fun u1 u2 w1 w2 h1 h2 => h190 u1 u2 w1 w2 x y 0 q l m l (m ++ [label]) h1 h2 (by omega) (by omega)
        rcases cloneIntsT (l := m) (by omega) 0 (by omega) with ⟨rfl, hd⟩ | ⟨h2, hd⟩
        · simp only [ints_nil, List.nil_append] at h189 h190'
          simp (disch := omega) only [go_sem, h189, h190', hn, hd, Option.isSome_some, Option.getD_some]
          rfl
        · simp (disch := omega) only [go_sem, h189, hn, hd, Option.isSome_some, Option.getD_some, htk, h190']
          rfl
      | false =>
        cases l with
        | nil =>
          simp only [ints_nil] at h189 h190
          simp (disch := omega) only [go_sem, h189, hn, Option.isSome_some, Option.getD_some, d0]
          rfl
        | cons z r =>
          have dz : decide (((r.length + 1 : Nat) : Int) = 0) = false := by rw [decide_eq_false_iff_not]; omega
          simp (disch := omega) only [go_sem, h189, hn, Option.isSome_some, Option.getD_some, dz, idxR_int]
          by_cases hz : z = label
          · have dl : decide (z = label) = true := by simp [hz]
            have hl' : r.length + 1 ≤ 2000000000 := hl
            have h190z := fun u1 u2 w1 w2 l' h1 h2 => h190 u1 u2 w1 w2 x y 0 q l' m r m h1 h2 (by omega) (by omega)
            simp (disch := omega) only [go_sem, dl, h190z, if_pos hz]
            rfl
          · have dl : decide (z = label) = false := by simp [hz]
            simp (disch := omega) only [go_sem, dl, if_neg hz]
            rfl
  · by_cases hp1 : p = 1
    · subst hp1
      have d0 : decide (((0 : Nat) : Int) = 0) = true := rfl
      have hA : afterC a b cap x y l m ⟨1, send, label⟩ = (match sideC b.edges cap y m l send label with
        | (none, ok) => (cfg0, ok)
        | (some (q, i, o), ok) => (⟨x, q, o, i⟩, ok)) := rfl
      rw [hA]
      unfold sideC
      have h189 := h189 1
      rw [if_neg (by decide)] at h189
      cases hn : nextE y send label b.edges with
      | none =>
        simp (disch := omega) only [go_sem, h189, hn, Option.isSome_none, Option.getD_none]
        rfl
      | some q =>
        cases send with
        | true =>
          have htk : (l ++ [label]).take (l.length + 1) = l ++ [label] := List.take_of_length_le (by simp)
          have hml : (l ++ [label]).length = l.length + 1 := by simp
          have h190' := fun u1 u2 w1 w2 h1 h2 => h190 u1 u2 w1 w2 x y 1 q l m m (l ++ [label]) h1 h2 (by omega) (by omega)
          rcases cloneIntsT (l := l) (by omega) 0 (by omega) with ⟨rfl, hd⟩ | ⟨h2, hd⟩
          · simp only [ints_nil, List.nil_append] at h189 h190'
            simp (disch := omega) only [go_sem, h189, h190', hn, hd, Option.isSome_some, Option.getD_some]
            rfl
          · simp (disch := omega) only [go_sem, h189, hn, hd, Option.isSome_some, Option.getD_some, htk, h190']
            rfl
        | false =>
          cases m with
          | nil =>
            simp only [ints_nil] at h189 h190
            simp (disch := omega) only [go_sem, h189, hn, Option.isSome_some, Option.getD_some, d0]
            rfl
          | cons z r =>
            have dz : decide (((r.length + 1 : Nat) : Int) = 0) = false := by rw [decide_eq_false_iff_not]; omega
            simp (disch := omega) only [go_sem, h189, hn, Option.isSome_some, Option.getD_some, dz, idxR_int]
            by_cases hz : z = label
            · have dl : decide (z = label) = true := by simp [hz]
              have hl' : r.length + 1 ≤ 2000000000 := hm
              have h190z := fun u1 u2 w1 w2 l' h1 h2 => h190 u1 u2 w1 w2 x y 1 q l l' r l h1 h2 (by omega) (by omega)
              simp (disch := omega) only [go_sem, dl, h190z, if_pos hz]
              rfl
            · have dl : decide (z = label) = false := by simp [hz]
              simp (disch := omega) only [go_sem, dl, if_neg hz]
              rfl
    · have hA : afterC a b cap x y l m ⟨p, send, label⟩ = (cfg0, false) := by
        unfold afterC
        rw [if_neg hp, if_neg hp1]
      rw [hA]
      have e0 : decide (p = 0) = false := by simp [hp]
      have e1 : decide (p = 1) = false := by simp [hp1]
      simp (disch := omega) only [go_sem, e0, e1]
      rfl
end Go.Pv

/-
  Chapter 29: what comes after a move, of the document.
-/
namespace Go.Pv
@[go_sem] theorem app_tlst0 (h : Heap) : appendV h 1 (.tl []) (.pv (.lst 0 [])) = some (.tl [], {}) := by simp [appendV, srcRows, rowsFit, rowsLen]
def swapC (c : Cfg) : Cfg := ⟨c.b, c.a, c.toB, c.toA⟩
theorem after_swap (a b : Auto) (cap x y : Int) (l m : List Int) (send : Bool) (label : Int) : swapC (afterC b a cap y x m l ⟨0, send, label⟩).1 = (afterC a b cap x y l m ⟨1, send, label⟩).1 ∧ (afterC b a cap y x m l ⟨0, send, label⟩).2 = (afterC a b cap x y l m ⟨1, send, label⟩).2 := by
  have h0 : afterC b a cap y x m l ⟨0, send, label⟩ = (match sideC b.edges cap y m l send label with
    | (none, ok) => (cfg0, ok)
    | (some (q, i, o), ok) => (⟨q, x, i, o⟩, ok)) := rfl
  have h1 : afterC a b cap x y l m ⟨1, send, label⟩ = (match sideC b.edges cap y m l send label with
    | (none, ok) => (cfg0, ok)
    | (some (q, i, o), ok) => (⟨x, q, o, i⟩, ok)) := rfl
  rw [h0, h1]
  rcases sideC b.edges cap y m l send label with ⟨_ | ⟨q, i, o⟩, ok⟩ <;> exact ⟨rfl, rfl⟩
end Go.Pv

/-
  Chapter 29: the possible moves.
-/
namespace Go.Pv
def mvs3 (l : List Mov) : List (List PV) := l.map Mov.c
@[go_sem] theorem mvs3_length (l : List Mov) : (mvs3 l).length = l.length := by simp [mvs3]
@[go_sem] theorem mvs3_nil : mvs3 [] = [] := rfl
@[go_sem] theorem mvs3_get (l : List Mov) (i : Nat) : (mvs3 l)[i]? = l[i]?.map fun x => [.int .i64 x.party, .bool x.send, .int .i64 x.label] := by simp [mvs3]; rfl
@[go_sem] theorem mvs3_snoc (l : List Mov) (a : Int) (b : Bool) (c : Int) : mvs3 l ++ [[.int .i64 a, .bool b, .int .i64 c]] = mvs3 (l ++ [⟨a, b, c⟩]) := by simp [mvs3, Mov.c]
@[go_sem] theorem grow03 (bx : List (Nat × List V)) (mp : List (List (PV × PV))) (rows : List (List PV)) (a b c : PV) (hm : rows.length + 1 ≤ 2147483648) : appendV ⟨bx, grA 3 rows, mp⟩ 3 (grV 0 rows) (.tl [[a, b, c]]) = some (grV 0 (rows ++ [[a, b, c]]), grT 0 3 rows [a, b, c]) := grow0 bx mp 3 rows [a, b, c] rfl hm
def Edge.mv (p : Int) (e : Edge) : Mov := ⟨p, e.send, e.label⟩
def mvsOf (a b : Auto) (cap x y : Int) (l m : List Int) (p st : Int) (es : List Edge) : List Mov :=
  (es.filter fun e => decide (e.fr = st) && (afterC a b cap x y l m (e.mv p)).2).map (Edge.mv p)
def movesC (a b : Auto) (cap x y : Int) (l m : List Int) : List Mov := mvsOf a b cap x y l m 0 x a.edges ++ mvsOf a b cap x y l m 1 y b.edges
theorem mvsOf_snoc (a b : Auto) (cap x y : Int) (l m : List Int) (p st : Int) {es : List Edge} {k : Nat} {e : Edge} (h : es[k]? = some e) : mvsOf a b cap x y l m p st (es.take (k + 1)) = if e.fr = st ∧ (afterC a b cap x y l m (e.mv p)).2 = true then mvsOf a b cap x y l m p st (es.take k) ++ [e.mv p] else mvsOf a b cap x y l m p st (es.take k) := by
  unfold mvsOf
  rw [List.take_add_one, h, List.filter_append, List.map_append]
  by_cases h1 : e.fr = st
  · cases h2 : (afterC a b cap x y l m (e.mv p)).2 <;> simp [h1, h2]
  · simp [h1]
theorem mvsOf_len (a b : Auto) (cap x y : Int) (l m : List Int) (p st : Int) (es : List Edge) : (mvsOf a b cap x y l m p st es).length ≤ es.length := by
  unfold mvsOf
  rw [List.length_map]
  exact List.length_filter_le _ _

end Go.Pv

/-
  Chapter 29: the possible moves, of the program: they are sorted, and were so already.
-/
namespace Go.Pv
theorem isort_id {α : Type} {lt : α → α → Bool} (asym : ∀ x y, lt x y = true → lt y x = false) : ∀ {l : List α}, l.Pairwise (fun a b => lt a b = true) → isort lt l = l
  | [], _ => rfl
  | x :: l, h => by
    obtain ⟨h1, h2⟩ := List.pairwise_cons.1 h
    unfold isort
    rw [isort_id asym h2]
    cases l with
    | nil => rfl
    | cons y r =>
      unfold ins
      rw [if_neg (by rw [asym x y (h1 y (by simp))]; decide)]
theorem Mov.asym (x y : Mov) (h : Mov.lt x y = true) : Mov.lt y x = false := by
  cases hc : Mov.lt y x with
  | false => rfl
  | true =>
    have := Mov.swo.trans x y x h hc
    rw [Mov.swo.irrefl] at this
    cases this
theorem mvs3_dec (l : List Mov) : mapO Mov.dec (mvs3 l) = some l := by
  induction l with
  | nil => rfl
  | cons x l ih =>
    show mapO Mov.dec (x.c :: mvs3 l) = _
    have : Mov.dec x.c = some x := rfl
    simp only [mapO, this, ih]
def srtM (l : List Mov) : Tn := if l.length = 0 then {} else { ar := some (0, ⟨l.length - 1, 3, .inl (mvs3 l)⟩) }
theorem sortP_mvs {bx : List (Nat × List V)} {mp : List (List (PV × PV))} {l : List Mov} (hm : l.length ≤ 2147483648) (hs : l.Pairwise (fun a b => Mov.lt a b = true)) :
    sortP 3 (sortRows Mov.c Mov.dec Mov.lt) 197 [grV 0 (mvs3 l), .func 197 []] ⟨bx, grA 3 (mvs3 l), mp⟩ = some (.tup [], srtM l) := by
  rcases Nat.eq_zero_or_pos l.length with h | h
  · have : l = [] := List.eq_nil_of_length_eq_zero h
    subst this
    simp [srtM, grV, sortP, mvs3]
  · obtain ⟨q, hq⟩ : ∃ q, (mvs3 l).length = q + 1 := ⟨l.length - 1, by rw [mvs3_length]; omega⟩
    have e1 : (mvs3 l).length = l.length := mvs3_length l
    rw [grV_own hq, grA_own hq]
    have hr := rising_of hs
    have hid := isort_id Mov.asym hs
    have hl : q + 1 = l.length := by omega
    have ho : ownArr ⟨bx, [⟨q, 3, .inl (mvs3 l)⟩], mp⟩ 0 q = some ⟨q, 3, .inl (mvs3 l)⟩ := by simp [ownArr]
    rw [hl]
    have h0 : ¬ l.length = 0 := by omega
    have hlq : l.length - 1 = q := by omega
    simp [sortP, ho, h0, e1, mostRows, hm, sortRows, mvs3_dec, hr, hid, List.take_of_length_le (Nat.le_of_eq e1), List.drop_eq_nil_of_le (Nat.le_of_eq e1), srtM, hlq]
    rfl
@[go_sem] theorem srtM_apply (bx : List (Nat × List V)) (mp : List (List (PV × PV))) (l : List Mov) : (srtM l).apply ⟨bx, grA 3 (mvs3 l), mp⟩ = ⟨bx, grA 3 (mvs3 l), mp⟩ := by
  rcases Nat.eq_zero_or_pos l.length with h | h
  · have : l = [] := List.eq_nil_of_length_eq_zero h
    subst this
    simp [srtM, mvs3, Tn.apply, grA]
  · obtain ⟨q, hq⟩ : ∃ q, (mvs3 l).length = q + 1 := ⟨l.length - 1, by rw [mvs3_length]; omega⟩
    have e1 : (mvs3 l).length = l.length := mvs3_length l
    have h0 : ¬ l.length = 0 := by omega
    have hlq : l.length - 1 = q := by omega
    rw [grA_own hq]
    simp [srtM, h0, hlq, Tn.apply]
theorem mvsOf_mem {a b : Auto} {cap x y : Int} {l m : List Int} {p st : Int} {es : List Edge} {mv : Mov} : mv ∈ mvsOf a b cap x y l m p st es ↔ ∃ e ∈ es, e.fr = st ∧ mv = e.mv p ∧ (afterC a b cap x y l m mv).2 = true := by
  unfold mvsOf
  rw [List.mem_map]
  constructor
  · rintro ⟨e, he, rfl⟩
    obtain ⟨h1, h2⟩ := List.mem_filter.1 he
    rw [Bool.and_eq_true, decide_eq_true_eq] at h2
    exact ⟨e, h1, h2.1, rfl, h2.2⟩
  · rintro ⟨e, h1, h2, rfl, h3⟩
    exact ⟨e, List.mem_filter.2 ⟨h1, by rw [h3, decide_eq_true h2]; rfl⟩, rfl⟩
theorem mvsOf_asc {a b : Auto} {cap x y : Int} {l m : List Int} {p st : Int} {es : List Edge} (h : es.Pairwise (fun x y => Edge.lt x y = true)) : (mvsOf a b cap x y l m p st es).Pairwise (fun x y => Mov.lt x y = true) := by
  unfold mvsOf
  rw [List.pairwise_map]
  refine (h.filter _).imp_of_mem fun {e f} he hf hlt => ?_
  have h1 := (List.mem_filter.1 he).2
  have h2 := (List.mem_filter.1 hf).2
  rw [Bool.and_eq_true, decide_eq_true_eq] at h1 h2
  have h3 : e.fr = f.fr := h1.1.trans h2.1.symm
  unfold Mov.lt Mov.e Edge.mv
  unfold Edge.lt at hlt ⊢
  simpa [h3] using hlt
theorem movesC_asc {a b : Auto} {cap x y : Int} {l m : List Int} (ha : a.edges.Pairwise (fun x y => Edge.lt x y = true)) (hb : b.edges.Pairwise (fun x y => Edge.lt x y = true)) : (movesC a b cap x y l m).Pairwise (fun x y => Mov.lt x y = true) := by
  unfold movesC
  rw [List.pairwise_append]
  refine ⟨mvsOf_asc ha, mvsOf_asc hb, fun u hu v hv => ?_⟩
  obtain ⟨e, _, _, rfl, _⟩ := mvsOf_mem.1 hu
  obtain ⟨f, _, _, rfl, _⟩ := mvsOf_mem.1 hv
  unfold Mov.lt Mov.e Edge.mv Edge.lt
  simp
theorem sys_good {a b : Auto} {cap : Int} (h : sysErr a b cap = 0) : a.Good ∧ b.Good ∧ 1 ≤ cap ∧ cap ≤ 3 := by
  unfold sysErr at h
  by_cases h1 : a.err = 0
  · rw [if_neg (by simp [h1])] at h
    by_cases h2 : b.err = 0
    · rw [if_neg (by simp [h2])] at h
      refine ⟨Auto.good_iff.1 h1, Auto.good_iff.1 h2, ?_⟩
      by_cases h3 : cap < 1 ∨ 3 < cap
      · rw [if_pos h3] at h
        cases h
      · omega
    · rw [if_pos (by simp [h2])] at h
      exact absurd h h2
  · rw [if_pos (by simp [h1])] at h
    exact absurd h h1

set_option maxHeartbeats 8000000 in
theorem r186 (a b : Auto) (cap : Int) (x y : Int) (l m : List Int) (ha : a.edges.length ≤ 1000000) (hb : b.edges.length ≤ 1000000) (hl : l.length ≤ 2000000000) (hm : m.length ≤ 2000000000) (hs : (movesC a b cap x y l m).Pairwise (fun x y => Mov.lt x y = true)) : res A PrA 186 [.agg [.int .i64 a.states, .int .i64 a.start, .lst 0 (a.edges.map Edge.c), .int .i64 b.states, .int .i64 b.start, .lst 0 (b.edges.map Edge.c), .int .i64 cap], .agg [.int .i64 x, .int .i64 y, .lst 0 (ints l), .lst 0 (ints m)]] = some [.lst 0 (mvs3 (movesC a b cap x y l m))] := by
  refine res_of a186 rfl rfl ?_
  simp only [F186]
  have h182 := fun mv => r182 a b cap x y l m mv (by omega) (by omega) hl hm
  have h1890 := r189 a b cap x y l m ((0 : Nat) : Int)
  have h1891 := r189 a b cap x y l m ((1 : Nat) : Int)
  rw [if_pos (by rfl)] at h1890
  rw [if_neg (by decide)] at h1891
  simp (disch := omega) only [go_sem]
  refine W.upto 2 (fun k => ⟨[(2, .ptr 2 0), (3, .ptr 3 0), (5, grV 0 (mvs3 (if k = 0 then [] else if k = 1 then mvsOf a b cap x y l m 0 x a.edges else movesC a b cap x y l m))), (13, .pv (.int .i64 k))], ⟨[(2, [.pv (.int .i64 a.states), .pv (.int .i64 a.start), .pv (.lst 0 (a.edges.map Edge.c)), .pv (.int .i64 b.states), .pv (.int .i64 b.start), .pv (.lst 0 (b.edges.map Edge.c)), .pv (.int .i64 cap)]), (3, [.pv (.int .i64 x), .pv (.int .i64 y), .pv (.lst 0 (ints l)), .pv (.lst 0 (ints m))])], grA 3 (mvs3 (if k = 0 then [] else if k = 1 then mvsOf a b cap x y l m 0 x a.edges else movesC a b cap x y l m)), []⟩⟩) (fun _ => True) rfl trivial fun k hk _ => ?_
  have d0 : decide (((0 : Nat) : Int) < 2) = true := rfl
  have d1 : decide (((1 : Nat) : Int) < 2) = true := rfl
  have d2 : decide (((2 : Nat) : Int) < 2) = false := rfl
  have hl0 := mvsOf_len a b cap x y l m 0 x a.edges
  obtain rfl | rfl | rfl : k = 0 ∨ k = 1 ∨ k = 2 := by omega
  · simp (disch := omega) only [go_sem, d0, h1890]
    refine W.upto a.edges.length (fun k => ⟨[(2, .ptr 2 0), (3, .ptr 3 0), (5, grV 0 (mvs3 (mvsOf a b cap x y l m 0 x (a.edges.take k)))), (6, .pv (.int .i64 0)), (7, .ptr 7 0), (13, .pv (.int .i64 0)), (22, .pv (.lst 0 (a.edges.map Edge.c))), (23, .pv (.int .i64 a.edges.length)), (24, .pv (.int .i64 k))], ⟨[(2, [.pv (.int .i64 a.states), .pv (.int .i64 a.start), .pv (.lst 0 (a.edges.map Edge.c)), .pv (.int .i64 b.states), .pv (.int .i64 b.start), .pv (.lst 0 (b.edges.map Edge.c)), .pv (.int .i64 cap)]), (3, [.pv (.int .i64 x), .pv (.int .i64 y), .pv (.lst 0 (ints l)), .pv (.lst 0 (ints m))]), (7, [.pv (.int .i64 a.states), .pv (.int .i64 a.start), .pv (.lst 0 (a.edges.map Edge.c)), .pv (.int .i64 x), .pv (.lst 0 (ints l)), .pv (.lst 0 (ints m)), .pv (.int .i64 cap)])], grA 3 (mvs3 (mvsOf a b cap x y l m 0 x (a.edges.take k))), []⟩⟩) (fun _ => True) ?_ trivial fun k hk _ => ?_
    · rw [show mvsOf a b cap x y l m 0 x (a.edges.take 0) = [] from rfl]
      rfl
    simp (disch := omega) only [go_sem]
    refine Br.ofP (fun c => ?_) (fun c => ?_)
    · obtain ⟨e, he⟩ := get_at (l := a.edges) (k := k) (by omega)
      have hlen : (mvsOf a b cap x y l m 0 x (a.edges.take k)).length ≤ k := Nat.le_trans (mvsOf_len a b cap x y l m 0 x _) (by rw [List.length_take]; omega)
      have hs : mvsOf a b cap x y l m 0 x (a.edges.take (k + 1)) = if e.fr = x ∧ (afterC a b cap x y l m ⟨0, e.send, e.label⟩).2 = true then (mvsOf a b cap x y l m 0 x (a.edges.take k)) ++ [⟨0, e.send, e.label⟩] else mvsOf a b cap x y l m 0 x (a.edges.take k) := by
        rw [mvsOf_snoc a b cap x y l m 0 x he]
        rfl
      have h182e := h182 ⟨0, e.send, e.label⟩
      have hql : (mvsOf a b cap x y l m 0 x (a.edges.take k)).length ≤ 3000000 := by omega
      generalize mvsOf a b cap x y l m 0 x (a.edges.take k) = q at *
      have hq2 : (mvs3 q).length ≤ 3000000 := by rw [mvs3_length]; exact hql
      simp (disch := omega) only [go_sem, he]
      by_cases c1 : e.fr = x
      · have e1 : decide (e.fr = x) = true := by simp [c1]
        simp (disch := omega) only [go_sem, e1, h182e]
        refine Br.of (fun g => ?_) (fun g => ?_) <;> simp (disch := omega) only [go_sem, g]
        · refine .of (by omega) ?_ trivial
          rw [hs, if_pos ⟨c1, g⟩]
          rfl
        · refine .of (by omega) ?_ trivial
          rw [hs, if_neg (fun h => by rw [h.2] at g; cases g)]
          rfl
      · have e1 : decide (e.fr = x) = false := by simp [c1]
        simp (disch := omega) only [go_sem, e1]
        refine .of (by omega) ?_ trivial
        rw [hs, if_neg (fun h => c1 h.1)]
        rfl
    · obtain rfl : k = a.edges.length := by omega
      rw [List.take_length]
      simp (disch := omega) only [go_sem]
      refine .of (by omega) ?_ trivial
      rfl
  · simp (disch := omega) only [go_sem, d1, h1891]
    refine W.upto b.edges.length (fun k => ⟨[(2, .ptr 2 0), (3, .ptr 3 0), (5, grV 0 (mvs3 (mvsOf a b cap x y l m 0 x a.edges ++ mvsOf a b cap x y l m 1 y (b.edges.take k)))), (6, .pv (.int .i64 1)), (7, .ptr 7 0), (13, .pv (.int .i64 1)), (22, .pv (.lst 0 (b.edges.map Edge.c))), (23, .pv (.int .i64 b.edges.length)), (24, .pv (.int .i64 k))], ⟨[(2, [.pv (.int .i64 a.states), .pv (.int .i64 a.start), .pv (.lst 0 (a.edges.map Edge.c)), .pv (.int .i64 b.states), .pv (.int .i64 b.start), .pv (.lst 0 (b.edges.map Edge.c)), .pv (.int .i64 cap)]), (3, [.pv (.int .i64 x), .pv (.int .i64 y), .pv (.lst 0 (ints l)), .pv (.lst 0 (ints m))]), (7, [.pv (.int .i64 b.states), .pv (.int .i64 b.start), .pv (.lst 0 (b.edges.map Edge.c)), .pv (.int .i64 y), .pv (.lst 0 (ints m)), .pv (.lst 0 (ints l)), .pv (.int .i64 cap)])], grA 3 (mvs3 (mvsOf a b cap x y l m 0 x a.edges ++ mvsOf a b cap x y l m 1 y (b.edges.take k))), []⟩⟩) (fun _ => True) ?_ trivial fun k hk _ => ?_
    · rw [show mvsOf a b cap x y l m 0 x a.edges ++ mvsOf a b cap x y l m 1 y (b.edges.take 0) = mvsOf a b cap x y l m 0 x a.edges from List.append_nil _]
      rfl
    simp (disch := omega) only [go_sem]
    refine Br.ofP (fun c => ?_) (fun c => ?_)
    · obtain ⟨e, he⟩ := get_at (l := b.edges) (k := k) (by omega)
      have hlen : (mvsOf a b cap x y l m 1 y (b.edges.take k)).length ≤ k := Nat.le_trans (mvsOf_len a b cap x y l m 1 y _) (by rw [List.length_take]; omega)
      have hs : mvsOf a b cap x y l m 0 x a.edges ++ mvsOf a b cap x y l m 1 y (b.edges.take (k + 1)) = if e.fr = y ∧ (afterC a b cap x y l m ⟨1, e.send, e.label⟩).2 = true then (mvsOf a b cap x y l m 0 x a.edges ++ mvsOf a b cap x y l m 1 y (b.edges.take k)) ++ [⟨1, e.send, e.label⟩] else mvsOf a b cap x y l m 0 x a.edges ++ mvsOf a b cap x y l m 1 y (b.edges.take k) := by
        rw [mvsOf_snoc a b cap x y l m 1 y he]
        unfold Edge.mv; split <;> simp
      have h182e := h182 ⟨1, e.send, e.label⟩
      have hql : (mvsOf a b cap x y l m 0 x a.edges ++ mvsOf a b cap x y l m 1 y (b.edges.take k)).length ≤ 3000000 := by rw [List.length_append]; omega
      generalize mvsOf a b cap x y l m 0 x a.edges ++ mvsOf a b cap x y l m 1 y (b.edges.take k) = q at *
      have hq2 : (mvs3 q).length ≤ 3000000 := by rw [mvs3_length]; exact hql
      simp (disch := omega) only [go_sem, he]
      by_cases c1 : e.fr = y
      · have e1 : decide (e.fr = y) = true := by simp [c1]
        simp (disch := omega) only [go_sem, e1, h182e]
        refine Br.of (fun g => ?_) (fun g => ?_) <;> simp (disch := omega) only [go_sem, g]
        · refine .of (by omega) ?_ trivial
          rw [hs, if_pos ⟨c1, g⟩]
          rfl
        · refine .of (by omega) ?_ trivial
          rw [hs, if_neg (fun h => by rw [h.2] at g; cases g)]
          rfl
      · have e1 : decide (e.fr = y) = false := by simp [c1]
        simp (disch := omega) only [go_sem, e1]
        refine .of (by omega) ?_ trivial
        rw [hs, if_neg (fun h => c1 h.1)]
        rfl
    · obtain rfl : k = b.edges.length := by omega
      rw [List.take_length]
      simp (disch := omega) only [go_sem]
      refine .of (by omega) ?_ trivial
      rfl
  · have hml : (movesC a b cap x y l m).length ≤ 2000000 := by
      have := mvsOf_len a b cap x y l m 1 y b.edges
      unfold movesC
      rw [List.length_append]
      omega
    have hsp := fun bx mp => sortP_mvs (bx := bx) (mp := mp) (l := movesC a b cap x y l m) (by omega) hs
    have e20 : ((if 2 = 0 then [] else if 2 = 1 then mvsOf a b cap x y l m 0 x a.edges else movesC a b cap x y l m) : List Mov) = movesC a b cap x y l m := rfl
    rw [e20]
    generalize movesC a b cap x y l m = q at *
    simp (disch := omega) only [go_sem, d2, hsp]
end Go.Pv

