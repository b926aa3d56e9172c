/-
  What the functions of the law give.
-/
import Derived.Test.YtdeoikfaclbniaaTab
set_option linter.unusedSimpArgs false
set_option linter.unusedVariables false
/-
  Lists that grow by appending.
-/
namespace Go.Pv
variable {A : Nat → Option AFunc} {Pr : Prims}

/-- A list that a call has built by appending; its array, if there is one, is the n-th. -/
def grV (n : Nat) : List (List PV) → V
  | [] => .tl []
  | _ :: r => .own n r.length 0 (r.length + 1)
def grA (k : Nat) : List (List PV) → List Arr
  | [] => []
  | x :: r => [⟨r.length, k, .inl (x :: r)⟩]
def grT (n k : Nat) (rows : List (List PV)) (r : List PV) : Tn :=
  match rows with
  | [] => { push := [⟨0, k, .inl [r]⟩], base := n }
  | x :: q => { ar := some (n, ⟨q.length + 1, k, .inl (x :: q ++ [r])⟩) }

theorem grow (bx : List (Nat × List V)) (mp : List (List (PV × PV))) (pre : List Arr) (k : Nat) (rows : List (List PV)) (r : List PV) (hr : r.length = k) (hm : rows.length + 1 ≤ 2147483648) :
    appendV ⟨bx, pre ++ grA k rows, mp⟩ k (grV pre.length rows) (.tl [r]) = some (grV pre.length (rows ++ [r]), grT pre.length k rows r) := by
  cases rows with
  | nil => simp [appendV, grV, grA, grT, srcRows, rowsFit, rowsLen, hr, catRows, mostRows]
  | cons x q =>
    have h1 : ownArr ⟨bx, pre ++ grA k (x :: q), mp⟩ pre.length q.length = some ⟨q.length, k, .inl (x :: q)⟩ := by simp [ownArr, grA]
    have h2 : (⟨q.length, k, .inl (x :: q)⟩ : Arr).size = q.length + 1 := rfl
    have h3 : ((x :: q).drop 0).take (q.length + 1) = x :: q := by simp
    simp only [List.length_cons] at hm
    simp [appendV, grV, grT, srcRows, rowsFit, rowsLen, hr, h1, h2, catRows, cutRows, mostRows]
    omega

theorem grT_apply (bx : List (Nat × List V)) (mp : List (List (PV × PV))) (pre : List Arr) (k : Nat) (rows : List (List PV)) (r : List PV) :
    (grT pre.length k rows r).apply ⟨bx, pre ++ grA k rows, mp⟩ = ⟨bx, pre ++ grA k (rows ++ [r]), mp⟩ := by
  cases rows with
  | nil => simp [grT, Tn.apply, grA]
  | cons x q => simp [grT, Tn.apply, grA]

@[go_sem] theorem grow0 (bx : List (Nat × List V)) (mp : List (List (PV × PV))) (k : Nat) (rows : List (List PV)) (r : List PV) (hr : r.length = k) (hm : rows.length + 1 ≤ 2147483648) :
    appendV ⟨bx, grA k rows, mp⟩ k (grV 0 rows) (.tl [r]) = some (grV 0 (rows ++ [r]), grT 0 k rows r) := grow bx mp [] k rows r hr hm
@[go_sem] theorem grow1 (bx : List (Nat × List V)) (mp : List (List (PV × PV))) (a : Arr) (k : Nat) (rows : List (List PV)) (r : List PV) (hr : r.length = k) (hm : rows.length + 1 ≤ 2147483648) :
    appendV ⟨bx, a :: grA k rows, mp⟩ k (grV 1 rows) (.tl [r]) = some (grV 1 (rows ++ [r]), grT 1 k rows r) := grow bx mp [a] k rows r hr hm
@[go_sem] theorem grow2 (bx : List (Nat × List V)) (mp : List (List (PV × PV))) (a b : Arr) (k : Nat) (rows : List (List PV)) (r : List PV) (hr : r.length = k) (hm : rows.length + 1 ≤ 2147483648) :
    appendV ⟨bx, a :: b :: grA k rows, mp⟩ k (grV 2 rows) (.tl [r]) = some (grV 2 (rows ++ [r]), grT 2 k rows r) := grow bx mp [a, b] k rows r hr hm
@[go_sem] theorem grT_apply0 (bx : List (Nat × List V)) (mp : List (List (PV × PV))) (k : Nat) (rows : List (List PV)) (r : List PV) :
    (grT 0 k rows r).apply ⟨bx, grA k rows, mp⟩ = ⟨bx, grA k (rows ++ [r]), mp⟩ := grT_apply bx mp [] k rows r
@[go_sem] theorem grT_apply1 (bx : List (Nat × List V)) (mp : List (List (PV × PV))) (a : Arr) (k : Nat) (rows : List (List PV)) (r : List PV) :
    (grT 1 k rows r).apply ⟨bx, a :: grA k rows, mp⟩ = ⟨bx, a :: grA k (rows ++ [r]), mp⟩ := grT_apply bx mp [a] k rows r
@[go_sem] theorem grT_apply2 (bx : List (Nat × List V)) (mp : List (List (PV × PV))) (a b : Arr) (k : Nat) (rows : List (List PV)) (r : List PV) :
    (grT 2 k rows r).apply ⟨bx, a :: b :: grA k rows, mp⟩ = ⟨bx, a :: b :: grA k (rows ++ [r]), mp⟩ := grT_apply bx mp [a, b] k rows r

@[go_sem] theorem lenV_gr (h : Heap) (n : Nat) (rows : List (List PV)) : lenV h 0 (grV n rows) = some (rows.length, {}) := by cases rows <;> rfl
@[go_sem] theorem cells_gr (n : Nat) (rows : List (List PV)) : V.cells (grV n rows) = [grV n rows] := by cases rows <;> rfl
@[go_sem] theorem calm_gr (n : Nat) (rows : List (List PV)) : V.calm (grV n rows) = true := by cases rows <;> rfl
@[go_sem] theorem sized_gr (n : Nat) (rows : List (List PV)) : V.sized (grV n rows) = true := by cases rows <;> rfl
@[go_sem] theorem scrub_gr (kb : List Nat) (n : Nat) (rows : List (List PV)) : scrub kb (grV n rows) = grV n rows := by cases rows <;> rfl
@[go_sem] theorem okc_gr (kb : List Nat) (n : Nat) (rows : List (List PV)) : okc kb (grV n rows) = true := by cases rows <;> rfl
@[go_sem] theorem purec_gr (n : Nat) (rows : List (List PV)) : V.purec (grV n rows) = none := by cases rows <;> rfl

theorem own_gr (bx : List (Nat × List V)) (mp : List (List (PV × PV))) (pre post : List Arr) (k : Nat) (x : List PV) (q : List (List PV)) : ownArr ⟨bx, pre ++ (grA k (x :: q) ++ post), mp⟩ pre.length q.length = some ⟨q.length, k, .inl (x :: q)⟩ := by simp [ownArr, grA]
theorem keepc_gr (bx : List (Nat × List V)) (mp : List (List (PV × PV))) (pre : List Arr) (k d : Nat) (rows : List (List PV)) : keepc ⟨bx, pre ++ grA k rows, mp⟩ (d + 1) (grV pre.length rows) = some (.lst 0 rows) := by
  cases rows with
  | nil => rfl
  | cons x q =>
    have := own_gr bx mp pre [] k x q
    rw [List.append_nil] at this
    simp [grV, keepc_own, this, keepRows, cutRows]
@[go_sem] theorem keepc_gr0 (bx : List (Nat × List V)) (mp : List (List (PV × PV))) (k : Nat) (rows : List (List PV)) : keepc ⟨bx, grA k rows, mp⟩ 4 (grV 0 rows) = some (.lst 0 rows) := keepc_gr bx mp [] k 3 rows
@[go_sem] theorem keepc_gr1 (bx : List (Nat × List V)) (mp : List (List (PV × PV))) (a : Arr) (k : Nat) (rows : List (List PV)) : keepc ⟨bx, a :: grA k rows, mp⟩ 4 (grV 1 rows) = some (.lst 0 rows) := keepc_gr bx mp [a] k 3 rows
@[go_sem] theorem keepc_gr2 (bx : List (Nat × List V)) (mp : List (List (PV × PV))) (a b : Arr) (k : Nat) (rows : List (List PV)) : keepc ⟨bx, a :: b :: grA k rows, mp⟩ 4 (grV 2 rows) = some (.lst 0 rows) := keepc_gr bx mp [a, b] k 3 rows
@[go_sem] theorem keep_gr (h : Heap) (n : Nat) (rows : List (List PV)) : keep h false (grV n rows) = keepc h 4 (grV n rows) := by cases rows <;> rfl

/-- With which tag such a list is lent. -/
def grG : List (List PV) → Nat
  | [] => 0
  | _ => 1
theorem lendc_gr (bx : List (Nat × List V)) (mp : List (List (PV × PV))) (pre : List Arr) (k d : Nat) (rows : List (List PV)) : lendc ⟨bx, pre ++ grA k rows, mp⟩ (d + 1) (grV pre.length rows) = some (.lst (grG rows) rows) := by
  cases rows with
  | nil => rfl
  | cons x q =>
    have := own_gr bx mp pre [] k x q
    rw [List.append_nil] at this
    simp [grV, lendc, this, cutRows, grG]
@[go_sem] theorem lendc_gr0 (bx : List (Nat × List V)) (mp : List (List (PV × PV))) (k : Nat) (rows : List (List PV)) : lendc ⟨bx, grA k rows, mp⟩ 4 (grV 0 rows) = some (.lst (grG rows) rows) := lendc_gr bx mp [] k 3 rows
@[go_sem] theorem lendc_gr1 (bx : List (Nat × List V)) (mp : List (List (PV × PV))) (a : Arr) (k : Nat) (rows : List (List PV)) : lendc ⟨bx, a :: grA k rows, mp⟩ 4 (grV 1 rows) = some (.lst (grG rows) rows) := lendc_gr bx mp [a] k 3 rows
@[go_sem] theorem lendc_gr2 (bx : List (Nat × List V)) (mp : List (List (PV × PV))) (a b : Arr) (k : Nat) (rows : List (List PV)) : lendc ⟨bx, a :: b :: grA k rows, mp⟩ 4 (grV 2 rows) = some (.lst (grG rows) rows) := lendc_gr bx mp [a, b] k 3 rows
@[go_sem] theorem lend_gr (h : Heap) (n : Nat) (rows : List (List PV)) : lend h (grV n rows) = lendc h 4 (grV n rows) := by cases rows <;> rfl
/-- One that is not empty. -/
theorem grV_own {i n : Nat} {rows : List (List PV)} (h : rows.length = n + 1) : grV i rows = .own i n 0 (n + 1) := by
  match rows, h with
  | x :: q, h =>
    simp at h
    simp [grV, h]
theorem grA_own {k n : Nat} {rows : List (List PV)} (h : rows.length = n + 1) : grA k rows = [⟨n, k, .inl rows⟩] := by
  match rows, h with
  | x :: q, h =>
    simp at h
    simp [grA, h]

-- parts of an array of the call's own
def chkR {α : Type} (i : Int) (len : Nat) (v : α) : Option α := if 0 ≤ i ∧ i ≤ len then some v else none
@[go_sem] theorem chkR_ok {α : Type} {i : Int} {len : Nat} {v : α} (h0 : 0 ≤ i) (h1 : i ≤ (len : Int)) : chkR i len v = some v := if_pos ⟨h0, h1⟩
@[go_sem] theorem sl_from (g : Opd → V) (h : Heap) (k id ver off len : Nat) (lo : Opd) :
    sliceV g h k (.own id ver off len) (some lo) none none = (ownArr h id ver).bind fun a => (intOf (g lo)).bind fun i => if a.k = k then chkR i len (.own id ver (off + i.toNat) (len - i.toNat), { ra := some id }) else none := by
  cases ho : ownArr h id ver with
  | none => simp [sliceV, ho]
  | some a =>
    cases hi : intOf (g lo) with
    | none => simp [sliceV, ho, bounds, bound, hi]
    | some i => by_cases hk : a.k = k <;> by_cases h0 : 0 ≤ i ∧ i ≤ len <;> simp [sliceV, ho, bounds, bound, hi, hk, h0, chkR]
@[go_sem] theorem sl_to (g : Opd → V) (h : Heap) (k id ver off len : Nat) (hi : Opd) :
    sliceV g h k (.own id ver off len) none (some hi) none = (ownArr h id ver).bind fun a => (intOf (g hi)).bind fun i => if a.k = k then chkR i len (.own id ver off i.toNat, { ra := some id }) else none := by
  cases ho : ownArr h id ver with
  | none => simp [sliceV, ho]
  | some a =>
    cases hj : intOf (g hi) with
    | none => simp [sliceV, ho, bounds, bound, hj]
    | some i => by_cases hk : a.k = k <;> by_cases h0 : 0 ≤ i ∧ i ≤ len <;> simp [sliceV, ho, bounds, bound, hj, hk, h0, chkR]

end Go.Pv

/-
  Lists of numbers and of edges that grow by appending.
-/
namespace Go.Pv

@[go_sem] theorem ints_nil : ints [] = [] := rfl
@[go_sem] theorem ints_snoc (l : List Int) (x : Int) : ints l ++ [[.int .i64 x]] = ints (l ++ [x]) := by simp [ints]
/-- Edges, each a row. -/
def edgs (l : List Edge) : List (List PV) := l.map Edge.c
@[go_sem] theorem edgs_length (l : List Edge) : (edgs l).length = l.length := by simp [edgs]
@[go_sem] theorem edgs_nil : edgs [] = [] := rfl
theorem edgs_map (l : List Edge) : l.map Edge.c = edgs l := rfl
@[go_sem] theorem edgs_get (l : List Edge) (i : Nat) : (edgs l)[i]? = l[i]?.map Edge.c := by simp [edgs]
theorem edgs_snoc (l : List Edge) (e : Edge) : edgs l ++ [e.c] = edgs (l ++ [e]) := by simp [edgs]
@[go_sem] theorem grow0i (bx : List (Nat × List V)) (mp : List (List (PV × PV))) (l : List Int) (x : Int) (hm : l.length + 1 ≤ 2147483648) :
    appendV ⟨bx, grA 1 (ints l), mp⟩ 1 (grV 0 (ints l)) (.tl [[.int .i64 x]]) = some (grV 0 (ints (l ++ [x])), grT 0 1 (ints l) [.int .i64 x]) := by
  rw [grow0 bx mp  1 (ints l) [.int .i64 x] rfl (by rw [ints_length]; exact hm), ints_snoc]
@[go_sem] theorem grow0e (bx : List (Nat × List V)) (mp : List (List (PV × PV))) (l : List Edge) (f : Int) (s : Bool) (x t : Int) (hm : l.length + 1 ≤ 2147483648) :
    appendV ⟨bx, grA 4 (edgs l), mp⟩ 4 (grV 0 (edgs l)) (.tl [[.int .i64 f, .bool s, .int .i64 x, .int .i64 t]]) = some (grV 0 (edgs (l ++ [⟨f, s, x, t⟩])), grT 0 4 (edgs l) (Edge.c ⟨f, s, x, t⟩)) := by
  rw [← edgs_snoc]
  exact grow0 bx mp  4 (edgs l) (Edge.c ⟨f, s, x, t⟩) rfl (by rw [edgs_length]; exact hm)
@[go_sem] theorem grow1i (bx : List (Nat × List V)) (mp : List (List (PV × PV))) (a : Arr) (l : List Int) (x : Int) (hm : l.length + 1 ≤ 2147483648) :
    appendV ⟨bx, a :: grA 1 (ints l), mp⟩ 1 (grV 1 (ints l)) (.tl [[.int .i64 x]]) = some (grV 1 (ints (l ++ [x])), grT 1 1 (ints l) [.int .i64 x]) := by
  rw [grow1 bx mp a 1 (ints l) [.int .i64 x] rfl (by rw [ints_length]; exact hm), ints_snoc]
@[go_sem] theorem grow1e (bx : List (Nat × List V)) (mp : List (List (PV × PV))) (a : Arr) (l : List Edge) (f : Int) (s : Bool) (x t : Int) (hm : l.length + 1 ≤ 2147483648) :
    appendV ⟨bx, a :: grA 4 (edgs l), mp⟩ 4 (grV 1 (edgs l)) (.tl [[.int .i64 f, .bool s, .int .i64 x, .int .i64 t]]) = some (grV 1 (edgs (l ++ [⟨f, s, x, t⟩])), grT 1 4 (edgs l) (Edge.c ⟨f, s, x, t⟩)) := by
  rw [← edgs_snoc]
  exact grow1 bx mp a 4 (edgs l) (Edge.c ⟨f, s, x, t⟩) rfl (by rw [edgs_length]; exact hm)
@[go_sem] theorem grow2i (bx : List (Nat × List V)) (mp : List (List (PV × PV))) (a b : Arr) (l : List Int) (x : Int) (hm : l.length + 1 ≤ 2147483648) :
    appendV ⟨bx, a :: b :: grA 1 (ints l), mp⟩ 1 (grV 2 (ints l)) (.tl [[.int .i64 x]]) = some (grV 2 (ints (l ++ [x])), grT 2 1 (ints l) [.int .i64 x]) := by
  rw [grow2 bx mp a b 1 (ints l) [.int .i64 x] rfl (by rw [ints_length]; exact hm), ints_snoc]
@[go_sem] theorem grow2e (bx : List (Nat × List V)) (mp : List (List (PV × PV))) (a b : Arr) (l : List Edge) (f : Int) (s : Bool) (x t : Int) (hm : l.length + 1 ≤ 2147483648) :
    appendV ⟨bx, a :: b :: grA 4 (edgs l), mp⟩ 4 (grV 2 (edgs l)) (.tl [[.int .i64 f, .bool s, .int .i64 x, .int .i64 t]]) = some (grV 2 (edgs (l ++ [⟨f, s, x, t⟩])), grT 2 4 (edgs l) (Edge.c ⟨f, s, x, t⟩)) := by
  rw [← edgs_snoc]
  exact grow2 bx mp a b 4 (edgs l) (Edge.c ⟨f, s, x, t⟩) rfl (by rw [edgs_length]; exact hm)

/-- Truth values, each a row. -/
def bools (l : List Bool) : List (List PV) := l.map fun b => [.bool b]
@[go_sem] theorem bools_length (l : List Bool) : (bools l).length = l.length := by simp [bools]
@[go_sem] theorem bools_get (l : List Bool) (i : Nat) : (bools l)[i]? = l[i]?.map fun b => [.bool b] := by simp [bools]
theorem bools_set (l : List Bool) (i : Nat) (b : Bool) : (bools l).set i [.bool b] = bools (l.set i b) := by simp [bools, List.map_set]
@[go_sem] theorem bools_store {id row ver : Nat} {b : Bool} {l : List Bool} (h1 : row < l.length) : storeRow id row 0 [.pv (.bool b)] ⟨ver, 1, .inl (bools l)⟩ = some { ar := some (id, ⟨ver, 1, .inl (bools (l.set row b))⟩) } := by
  rw [storeRow_one (by rw [bools_length]; exact h1) rfl (.inr ⟨.bool l[row], by simp [bools, h1]⟩) rfl, bools_set]
@[go_sem] theorem bools_made (n : Nat) (b : Bool) : sameRows n [.pv (.bool b)] = .inl (bools (List.replicate n b)) := by
  simp [sameRows, mapO, V.purec, PV.perm, bools]

end Go.Pv

/-
  Appending to arrays that are given in full; two lists of numbers that grow side by side.
-/
namespace Go.Pv

def apI (id ver off len : Nat) (x : Int) (a : Arr) : Option (V × Tn) :=
  if off + len = a.size ∧ a.k = 1 ∧ len + 1 ≤ mostRows then some (.own id (ver + 1) 0 (len + 1), { ar := some (id, ⟨ver + 1, 1, catRows (cutRows off len a.body) (.inl [[.int .i64 x]])⟩) }) else none
@[go_sem] theorem app_own (h : Heap) (id ver off len : Nat) (x : Int) : appendV h 1 (.own id ver off len) (.tl [[.int .i64 x]]) = (ownArr h id ver).bind (apI id ver off len x) := by
  cases ho : ownArr h id ver with
  | none => simp [appendV, srcRows, rowsFit, ho]
  | some a =>
    simp only [appendV, srcRows, rowsFit, ho, rowsLen, apI, List.all_cons, List.all_nil, List.length_cons, List.length_nil, Option.bind_some]
    by_cases h1 : off + len = a.size <;> by_cases h2 : a.k = 1 <;> by_cases h3 : len + 1 ≤ mostRows <;> simp [h1, h2, h3]
@[go_sem] theorem apI_ok {id ver len : Nat} {x : Int} {l : List Int} (h1 : len = l.length) (h2 : l.length + 1 ≤ 2147483648) : apI id ver 0 len x ⟨ver, 1, .inl (ints l)⟩ = some (.own id (ver + 1) 0 (len + 1), { ar := some (id, ⟨ver + 1, 1, .inl (ints (l ++ [x]))⟩) }) := by
  subst h1
  unfold apI
  rw [if_pos ⟨by simp [Arr.size, ints], rfl, h2⟩]
  have : List.take l.length (List.map (fun x => [PV.int IntKind.i64 x]) l) = List.map (fun x => [PV.int IntKind.i64 x]) l := List.take_of_length_le (by simp)
  simp [catRows, cutRows, ints, this]
@[go_sem] theorem app_tl (h : Heap) (x : Int) : appendV h 1 (.tl []) (.tl [[.int .i64 x]]) = some (.own h.ar.length 0 0 1, { push := [⟨0, 1, .inl (ints [x])⟩], base := h.ar.length }) := by
  simp [appendV, srcRows, rowsFit, rowsLen, mostRows, catRows, ints]

end Go.Pv

/-
  Loops over lists: folds and searches.
-/
namespace Go.Pv
variable {A : Nat → Option AFunc} {Pr : Prims}

/-- What a round of a fold comes to. -/
def foldK {σ : Type} (S : Nat → σ → St) (I : Nat → σ → Prop) (k : Nat) (acc : σ) (Q : Ex → St → Prop) (_t : Tie (S, I, k, acc, Q) := .mk) : Ex → St → Prop
  | .normal, s => s = S k acc ∧ I k acc
  | .exit i, s => Q (.exit i) s
  | .ret, s => Q .ret s
@[congr] theorem foldK_congr {σ : Type} {S : Nat → σ → St} {I : Nat → σ → Prop} {k : Nat} {acc : σ} {Q : Ex → St → Prop} {e e' : Ex} {s s' : St} (he : e = e') (hs : s = s') : foldK S I k acc Q .mk e s = foldK S I k acc Q .mk e' s' := by rw [he, hs]
@[go_sem] theorem foldK_exit {σ : Type} (S : Nat → σ → St) (I : Nat → σ → Prop) (k : Nat) (acc : σ) (Q : Ex → St → Prop) (i : Nat) (s : St) : foldK S I k acc Q .mk (.exit i) s = Q (.exit i) s := rfl
@[go_sem] theorem foldK_ret {σ : Type} (S : Nat → σ → St) (I : Nat → σ → Prop) (k : Nat) (acc : σ) (Q : Ex → St → Prop) (s : St) : foldK S I k acc Q .mk .ret s = Q .ret s := rfl
theorem foldK.of {σ : Type} {S : Nat → σ → St} {I : Nat → σ → Prop} {k : Nat} {acc : σ} {Q : Ex → St → Prop} {s : St} (h : s = S k acc) (h2 : I k acc) : foldK S I k acc Q .mk .normal s := ⟨h, h2⟩

/-- The end of a loop: no more rounds. -/
def exitK (Q : Ex → St → Prop) (_t : Tie Q := .mk) : Ex → St → Prop
  | .normal, _ => False
  | .exit i, s => Q (.exit i) s
  | .ret, s => Q .ret s
@[congr] theorem exitK_congr {Q : Ex → St → Prop} {e e' : Ex} {s s' : St} (he : e = e') (hs : s = s') : exitK Q .mk e s = exitK Q .mk e' s' := by rw [he, hs]
@[go_sem] theorem exitK_exit (Q : Ex → St → Prop) (i : Nat) (s : St) : exitK Q .mk (.exit i) s = Q (.exit i) s := rfl
@[go_sem] theorem exitK_ret (Q : Ex → St → Prop) (s : St) : exitK Q .mk .ret s = Q .ret s := rfl

/-- A loop over a list that folds. -/
theorem W.fold {σ α : Type} {a : AC} {s : St} {Q : Ex → St → Prop} (l : List α) (f : σ → α → σ) (x0 : σ) (S : Nat → σ → St) (I : Nat → σ → Prop) (hs : s = S 0 x0) (h0 : I 0 x0)
    (hr : ∀ k x acc, l[k]? = some x → k < l.length → acc = (l.take k).foldl f x0 → I k acc → W A Pr a (S k acc) (foldK S I (k + 1) (f acc x) Q))
    (he : ∀ acc, acc = l.foldl f x0 → I l.length acc → W A Pr a (S l.length acc) (exitK Q)) : W A Pr (.loop a) s Q := by
  refine W.upto l.length (fun k => S k ((l.take k).foldl f x0)) (fun k => I k ((l.take k).foldl f x0)) (by simpa using hs) (by simpa using h0) fun k hk hi => ?_
  rcases Nat.lt_or_ge k l.length with h | h
  · obtain ⟨x, hx⟩ : ∃ x, l[k]? = some x := ⟨l[k], by simp [h]⟩
    obtain ⟨ex, s', h1, h2⟩ := hr k x _ hx h rfl hi
    have ht : (l.take (k + 1)).foldl f x0 = f ((l.take k).foldl f x0) x := by rw [List.take_add_one, hx]; simp [List.foldl_append]
    refine ⟨ex, s', h1, ?_⟩
    cases ex with
    | normal => exact .of h (by rw [ht]; exact h2.1) (by rw [ht]; exact h2.2)
    | exit i => exact h2
    | ret => exact h2
  · obtain rfl : k = l.length := by omega
    rw [List.take_length] at hi ⊢
    obtain ⟨ex, s', h1, h2⟩ := he _ rfl hi
    refine ⟨ex, s', h1, ?_⟩
    cases ex with
    | normal => exact h2.elim
    | exit i => exact h2
    | ret => exact h2

/-- A loop that counts, and folds. -/
theorem W.foldN {σ : Type} {a : AC} {s : St} {Q : Ex → St → Prop} (n : Nat) (f : σ → Nat → σ) (x0 : σ) (S : Nat → σ → St) (I : Nat → σ → Prop) (hs : s = S 0 x0) (h0 : I 0 x0)
    (hr : ∀ k acc, k < n → acc = (List.range k).foldl f x0 → I k acc → W A Pr a (S k acc) (foldK S I (k + 1) (f acc k) Q))
    (he : ∀ acc, acc = (List.range n).foldl f x0 → I n acc → W A Pr a (S n acc) (exitK Q)) : W A Pr (.loop a) s Q := by
  refine W.fold (List.range n) f x0 S I hs h0 (fun k x acc hx hk ha hi => ?_) (fun acc ha hi => ?_)
  · rw [List.length_range] at hk
    rw [List.getElem?_range hk] at hx
    cases hx
    refine hr k acc hk ?_ hi
    rw [ha, List.take_range, Nat.min_eq_left (by omega)]
  · rw [List.length_range] at hi ⊢
    exact he acc ha hi

/-- What a round of a search comes to. -/
def findK (S : Nat → St) (k : Nat) (p : Bool) (Q : Ex → St → Prop) (_t : Tie (S, k, p, Q) := .mk) : Ex → St → Prop
  | .normal, s => p = false ∧ s = S k
  | .exit i, s => Q (.exit i) s
  | .ret, s => Q .ret s
@[congr] theorem findK_congr {S : Nat → St} {k : Nat} {p : Bool} {Q : Ex → St → Prop} {e e' : Ex} {s s' : St} (he : e = e') (hs : s = s') : findK S k p Q .mk e s = findK S k p Q .mk e' s' := by rw [he, hs]
@[go_sem] theorem findK_exit (S : Nat → St) (k : Nat) (p : Bool) (Q : Ex → St → Prop) (i : Nat) (s : St) : findK S k p Q .mk (.exit i) s = Q (.exit i) s := rfl
@[go_sem] theorem findK_ret (S : Nat → St) (k : Nat) (p : Bool) (Q : Ex → St → Prop) (s : St) : findK S k p Q .mk .ret s = Q .ret s := rfl
theorem findK.of {S : Nat → St} {k : Nat} {p : Bool} {Q : Ex → St → Prop} {s : St} (h : p = false) (h2 : s = S k) : findK S k p Q .mk .normal s := ⟨h, h2⟩

/-- Where a search stands. -/
structure Found {α : Type} (l : List α) (p : α → Bool) (k : Nat) (x : α) : Prop where
  any : l.any p = true
  all : l.all (fun y => !p y) = false
  find : l.find? p = some x
  idx : l.findIdx? p = some k
structure Nowhere {α : Type} (l : List α) (p : α → Bool) : Prop where
  any : l.any p = false
  all : l.all (fun y => !p y) = true
  find : l.find? p = none
  idx : l.findIdx? p = none

theorem found_of {α : Type} {l : List α} {p : α → Bool} {k : Nat} {x : α} (hb : ∀ j, j < k → ∀ y, l[j]? = some y → p y = false) (hx : l[k]? = some x) (hp : p x = true) : Found l p k x := by
  obtain ⟨hk, rfl⟩ := List.getElem?_eq_some_iff.1 hx
  have hi : l.findIdx? p = some k := by
    rw [List.findIdx?_eq_some_iff_getElem]
    exact ⟨hk, hp, fun j hj => by simpa using hb j hj _ (by rw [List.getElem?_eq_getElem (by omega)])⟩
  refine ⟨List.any_eq_true.2 ⟨_, List.getElem_mem hk, hp⟩, ?_, ?_, hi⟩
  · rw [List.all_eq_false]
    exact ⟨_, List.getElem_mem hk, by simp [hp]⟩
  · rw [List.find?_eq_some_iff_getElem]
    exact ⟨hp, k, hk, rfl, fun j hj => by simpa using hb j hj _ (by rw [List.getElem?_eq_getElem (by omega)])⟩

theorem nowhere_of {α : Type} {l : List α} {p : α → Bool} (hb : ∀ j, j < l.length → ∀ y, l[j]? = some y → p y = false) : Nowhere l p := by
  have hm : ∀ x ∈ l, p x = false := fun x hx => by
    obtain ⟨j, hj, rfl⟩ := List.getElem_of_mem hx
    exact hb j hj _ (by rw [List.getElem?_eq_getElem])
  exact ⟨by rw [List.any_eq_false]; intro x hx; simp [hm x hx], by rw [List.all_eq_true]; intro x hx; simp [hm x hx], by rw [List.find?_eq_none]; intro x hx; simp [hm x hx], by rw [List.findIdx?_eq_none_iff]; exact hm⟩

/-- A loop over a list that searches. -/
theorem W.find {α : Type} {a : AC} {s : St} {Q : Ex → St → Prop} (l : List α) (p : α → Bool) (S : Nat → St) (hs : s = S 0)
    (hr : ∀ k x, l[k]? = some x → k < l.length → (p x = true → Found l p k x) → W A Pr a (S k) (findK S (k + 1) (p x) Q))
    (he : Nowhere l p → W A Pr a (S l.length) (exitK Q)) : W A Pr (.loop a) s Q := by
  refine W.upto l.length S (fun k => ∀ j, j < k → ∀ y, l[j]? = some y → p y = false) hs (fun j hj => absurd hj (Nat.not_lt_zero _)) fun k hk hi => ?_
  rcases Nat.lt_or_ge k l.length with h | h
  · obtain ⟨x, hx⟩ : ∃ x, l[k]? = some x := ⟨l[k], by simp [h]⟩
    obtain ⟨ex, s', h1, h2⟩ := hr k x hx h (fun hp => found_of hi hx hp)
    refine ⟨ex, s', h1, ?_⟩
    cases ex with
    | normal =>
      refine .of h h2.2 fun j hj y hy => ?_
      rcases Nat.lt_or_ge j k with g | g
      · exact hi j g y hy
      · obtain rfl : j = k := by omega
        rw [hx] at hy
        cases hy
        exact h2.1
    | exit i => exact h2
    | ret => exact h2
  · obtain rfl : k = l.length := by omega
    obtain ⟨ex, s', h1, h2⟩ := he (nowhere_of hi)
    refine ⟨ex, s', h1, ?_⟩
    cases ex with
    | normal => exact h2.elim
    | exit i => exact h2
    | ret => exact h2

/-- One round, and the loop again. -/
def againK (A : Nat → Option AFunc) (Pr : Prims) (a : AC) (Q : Ex → St → Prop) (_t : Tie (a, Q) := .mk) : Ex → St → Prop
  | .normal, s => W A Pr (.loop a) s Q
  | .exit i, s => Q (.exit i) s
  | .ret, s => Q .ret s
@[congr] theorem againK_congr {a : AC} {Q : Ex → St → Prop} {e e' : Ex} {s s' : St} (he : e = e') (hs : s = s') : againK A Pr a Q .mk e s = againK A Pr a Q .mk e' s' := by rw [he, hs]
@[go_sem] theorem againK_normal (a : AC) (Q : Ex → St → Prop) (s : St) : againK A Pr a Q .mk .normal s = W A Pr (.loop a) s Q := rfl
@[go_sem] theorem againK_exit (a : AC) (Q : Ex → St → Prop) (i : Nat) (s : St) : againK A Pr a Q .mk (.exit i) s = Q (.exit i) s := rfl
@[go_sem] theorem againK_ret (a : AC) (Q : Ex → St → Prop) (s : St) : againK A Pr a Q .mk .ret s = Q .ret s := rfl
theorem W.once {a : AC} {s : St} {Q : Ex → St → Prop} (h : W A Pr a s (againK A Pr a Q)) : W A Pr (.loop a) s Q := by
  obtain ⟨ex, s', h1, h2⟩ := h
  cases ex with
  | normal =>
    obtain ⟨e2, s2, h3, h4⟩ := h2
    exact ⟨e2, s2, Runs.loop_step h1 h3, h4⟩
  | exit i => exact ⟨_, _, Runs.loop_out h1 (by simp), h2⟩
  | ret => exact ⟨_, _, Runs.loop_out h1 (by simp), h2⟩

end Go.Pv

/-
  Lists that begin as a literal and grow by appending; rows of arrays of the call's own.
-/
namespace Go.Pv

/-- A list of which the first b rows were written out. Its array is the n-th. -/
def glV (n b : Nat) (rows : List (List PV)) : V := if rows.length ≤ b then .tl rows else .own n (rows.length - b - 1) 0 rows.length
def glA (k b : Nat) (rows : List (List PV)) : List Arr := if rows.length ≤ b then [] else [⟨rows.length - b - 1, k, .inl rows⟩]
theorem glV_lit {n b : Nat} {rows : List (List PV)} (h : rows.length ≤ b) : glV n b rows = .tl rows := if_pos h
theorem glA_lit {k b : Nat} {rows : List (List PV)} (h : rows.length ≤ b) : glA k b rows = [] := if_pos h
theorem glV_own {n b m : Nat} {rows : List (List PV)} (h : rows.length = b + m + 1) : glV n b rows = .own n m 0 (b + m + 1) := by
  unfold glV
  rw [if_neg (by omega), h, show b + m + 1 - b - 1 = m by omega]
theorem glA_own {k b m : Nat} {rows : List (List PV)} (h : rows.length = b + m + 1) : glA k b rows = [⟨m, k, .inl rows⟩] := by
  unfold glA
  rw [if_neg (by omega), h, show b + m + 1 - b - 1 = m by omega]
theorem gl_cases {b : Nat} {rows : List (List PV)} : rows.length ≤ b ∨ ∃ m, rows.length = b + m + 1 := by
  rcases Nat.lt_or_ge b rows.length with h | h
  · exact .inr ⟨rows.length - b - 1, by omega⟩
  · exact .inl h
theorem glV_snoc {n b : Nat} {rows : List (List PV)} {r : List PV} (h : b ≤ rows.length) : glV n b (rows ++ [r]) = .own n (rows.length - b) 0 (rows.length + 1) := by
  rw [glV_own (m := rows.length - b) (by simp; omega), show b + (rows.length - b) + 1 = rows.length + 1 by omega]
theorem glA_snoc {k b : Nat} {rows : List (List PV)} {r : List PV} (h : b ≤ rows.length) : glA k b (rows ++ [r]) = [⟨rows.length - b, k, .inl (rows ++ [r])⟩] := glA_own (by simp; omega)

/-- Rows appended to an array of the call's own. -/
def apR (id ver off len k : Nat) (r : List PV) (a : Arr) : Option (V × Tn) :=
  if off + len = a.size ∧ a.k = k ∧ len + 1 ≤ mostRows then some (.own id (ver + 1) 0 (len + 1), { ar := some (id, ⟨ver + 1, k, catRows (cutRows off len a.body) (.inl [r])⟩) }) else none
theorem app_ownr (h : Heap) (id ver off len k : Nat) (r : List PV) (hr : r.length = k) : appendV h k (.own id ver off len) (.tl [r]) = (ownArr h id ver).bind (apR id ver off len k r) := by
  cases ho : ownArr h id ver with
  | none => simp [appendV, srcRows, rowsFit, ho]
  | some a =>
    simp only [appendV, srcRows, rowsFit, ho, rowsLen, apR, List.all_cons, List.all_nil, List.length_cons, List.length_nil, Option.bind_some, hr, beq_self_eq_true, Bool.and_self, if_true]
    by_cases h1 : off + len = a.size <;> by_cases h2 : a.k = k <;> by_cases h3 : len + 1 ≤ mostRows <;> simp [h1, h2, h3]
theorem apR_ok {id ver len k : Nat} {r : List PV} {l : List (List PV)} (h1 : len = l.length) (h2 : l.length + 1 ≤ 2147483648) : apR id ver 0 len k r ⟨ver, k, .inl l⟩ = some (.own id (ver + 1) 0 (len + 1), { ar := some (id, ⟨ver + 1, k, .inl (l ++ [r])⟩) }) := by
  subst h1
  unfold apR
  rw [if_pos ⟨by simp [Arr.size], rfl, h2⟩]
  simp [catRows, cutRows]
theorem app_tlr (h : Heap) (k : Nat) (rows : List (List PV)) (r : List PV) (hr : r.length = k) (hk : ∀ x ∈ rows, x.length = k) (hm : rows.length + 1 ≤ 2147483648) : appendV h k (.tl rows) (.tl [r]) = some (.own h.ar.length 0 0 (rows.length + 1), { push := [⟨0, k, .inl (rows ++ [r])⟩], base := h.ar.length }) := by
  have : (rows.all fun x => x.length == k) = true := by simpa using hk
  simp [appendV, srcRows, rowsFit, rowsLen, mostRows, catRows, hr, this, hm]
@[go_sem] theorem app_tli (h : Heap) (l : List Int) (x : Int) (hm : l.length + 1 ≤ 2147483648) : appendV h 1 (.tl (ints l)) (.tl [[.int .i64 x]]) = some (.own h.ar.length 0 0 (l.length + 1), { push := [⟨0, 1, .inl (ints (l ++ [x]))⟩], base := h.ar.length }) := by
  rw [app_tlr h 1 (ints l) [.int .i64 x] rfl (by simp [ints]) (by rw [ints_length]; exact hm), ints_length, ints_snoc]

@[go_sem] theorem lenV_gl (h : Heap) (n b : Nat) (rows : List (List PV)) : lenV h 0 (glV n b rows) = some (rows.length, {}) := by unfold glV; split <;> rfl
@[go_sem] theorem cells_gl (n b : Nat) (rows : List (List PV)) : V.cells (glV n b rows) = [glV n b rows] := by unfold glV; split <;> rfl
@[go_sem] theorem calm_gl (n b : Nat) (rows : List (List PV)) : V.calm (glV n b rows) = true := by unfold glV; split <;> rfl
@[go_sem] theorem sized_gl (n b : Nat) (rows : List (List PV)) : V.sized (glV n b rows) = true := by unfold glV; split <;> rfl
@[go_sem] theorem scrub_gl (kb : List Nat) (n b : Nat) (rows : List (List PV)) : scrub kb (glV n b rows) = glV n b rows := by unfold glV; split <;> rfl
@[go_sem] theorem okc_gl (kb : List Nat) (n b : Nat) (rows : List (List PV)) : okc kb (glV n b rows) = true := by unfold glV; split <;> rfl
@[go_sem] theorem keep_gl (h : Heap) (n b : Nat) (rows : List (List PV)) : keep h false (glV n b rows) = keepc h 4 (glV n b rows) := by unfold glV; split <;> rfl
@[go_sem] theorem lend_gl (h : Heap) (n b : Nat) (rows : List (List PV)) : lend h (glV n b rows) = lendc h 4 (glV n b rows) := by unfold glV; split <;> rfl
def glG (b : Nat) (rows : List (List PV)) : Nat := if rows.length ≤ b then 0 else 1
theorem keepc_gl (bx : List (Nat × List V)) (mp : List (List (PV × PV))) (pre : List Arr) (k b d : Nat) (rows : List (List PV)) : keepc ⟨bx, pre ++ glA k b rows, mp⟩ (d + 1) (glV pre.length b rows) = some (.lst 0 rows) := by
  unfold glV glA
  split
  · rfl
  · simp [keepc_own, ownArr, keepRows, cutRows]
theorem lendc_gl (bx : List (Nat × List V)) (mp : List (List (PV × PV))) (pre : List Arr) (k b d : Nat) (rows : List (List PV)) : lendc ⟨bx, pre ++ glA k b rows, mp⟩ (d + 1) (glV pre.length b rows) = some (.lst (glG b rows) rows) := by
  unfold glV glA glG
  split
  · rfl
  · simp [lendc, ownArr, cutRows]
@[go_sem] theorem keepc_gl0 (bx : List (Nat × List V)) (mp : List (List (PV × PV))) (k b : Nat) (rows : List (List PV)) : keepc ⟨bx, glA k b rows, mp⟩ 4 (glV 0 b rows) = some (.lst 0 rows) := keepc_gl bx mp [] k b 3 rows
@[go_sem] theorem keepc_gl1 (bx : List (Nat × List V)) (mp : List (List (PV × PV))) (a : Arr) (k b : Nat) (rows : List (List PV)) : keepc ⟨bx, a :: glA k b rows, mp⟩ 4 (glV 1 b rows) = some (.lst 0 rows) := keepc_gl bx mp [a] k b 3 rows
@[go_sem] theorem lendc_gl0 (bx : List (Nat × List V)) (mp : List (List (PV × PV))) (k b : Nat) (rows : List (List PV)) : lendc ⟨bx, glA k b rows, mp⟩ 4 (glV 0 b rows) = some (.lst (glG b rows) rows) := lendc_gl bx mp [] k b 3 rows
@[go_sem] theorem lendc_gl1 (bx : List (Nat × List V)) (mp : List (List (PV × PV))) (a : Arr) (k b : Nat) (rows : List (List PV)) : lendc ⟨bx, a :: glA k b rows, mp⟩ 4 (glV 1 b rows) = some (.lst (glG b rows) rows) := lendc_gl bx mp [a] k b 3 rows

attribute [go_sem] Int.lt_irrefl

end Go.Pv

/-
  Sets of strings, kept as maps.
-/
namespace Go.Pv

def seenS (l : List ByteArray) : List (PV × PV) := l.map fun s => (.str s, .bool true)
def lookS (x : ByteArray) (l : List ByteArray) : Option (Nat × PV) := (l.findIdx? fun s => decide (s = x)).map fun i => (i, .bool true)
def hasS (l : List ByteArray) (x : ByteArray) : Bool := l.any fun s => decide (s = x)
theorem hasS_iff {l : List ByteArray} {x : ByteArray} : hasS l x = true ↔ x ∈ l := by simp [hasS]
/-- One more. -/
def insS (l : List ByteArray) (x : ByteArray) : List ByteArray := if hasS l x = true then l else l ++ [x]
theorem mem_insS {l : List ByteArray} {x y : ByteArray} : y ∈ insS l x ↔ y ∈ l ∨ y = x := by
  unfold insS
  split
  · rename_i h
    rw [hasS_iff] at h
    constructor
    · exact .inl
    · rintro (h1 | rfl)
      · exact h1
      · exact h
  · simp
theorem keyEq_str (a b : ByteArray) : keyEq false [2] (.str a) (.str b) = some (decide (a = b)) := by
  show eqsAll [2] [.str a] [.str b] = _
  rw [eqsAll_cons, eqs_str, eqsAll_nil]
  simp
theorem findKey_str (x : ByteArray) : ∀ (l : List ByteArray) (i : Nat), findKey false [2] (.str x) (seenS l) i = some ((lookS x l).map fun p => (p.1 + i, p.2))
  | [], i => by
    show (if (keyEq false [2] (.str x) (.str x)).isSome then some none else none) = _
    rw [keyEq_str]
    rfl
  | y :: l, i => by
    show (match keyEq false [2] (.str x) (.str y) with
      | some true => some (some (i, PV.bool true))
      | some false => findKey false [2] (.str x) (seenS l) (i + 1)
      | none => none) = _
    rw [keyEq_str]
    by_cases h : x = y
    · subst h
      simp [lookS, List.findIdx?_cons]
    · have h' : ¬ y = x := fun e => h e.symm
      simp only [h, decide_false]
      rw [findKey_str x l (i + 1)]
      simp only [lookS, List.findIdx?_cons, h', decide_false]
      cases l.findIdx? fun s => decide (s = x) with
      | none => rfl
      | some j => simp; omega
@[go_sem] theorem find_seenS (x : ByteArray) (l : List ByteArray) : findKey false [2] (.str x) (seenS l) 0 = some (lookS x l) := by
  rw [findKey_str]
  cases lookS x l <;> rfl
theorem lookS_some {x : ByteArray} {l : List ByteArray} : (lookS x l).isSome = true ↔ x ∈ l := by
  unfold lookS
  rw [Option.isSome_map, List.findIdx?_isSome, List.any_eq_true]
  simp
@[go_sem] theorem found_seenS (x : ByteArray) (l : List ByteArray) : foundV (.pv (.bool false)) false (lookS x l) = .pv (.bool (hasS l x)) := by
  have h := lookS_some (x := x) (l := l)
  rw [← hasS_iff] at h
  cases hl : lookS x l with
  | none =>
    rw [hl] at h
    have : hasS l x = false := by
      cases hx : hasS l x with
      | false => rfl
      | true => simpa using h.2 hx
    simp [foundV, this]
  | some p =>
    rw [hl] at h
    have hx : hasS l x = true := h.1 rfl
    have hp : p.2 = .bool true := by
      unfold lookS at hl
      obtain ⟨i, _, rfl⟩ := Option.map_eq_some_iff.1 hl
      rfl
    simp [foundV, hx, hp]
@[go_sem] theorem upd_seenS (x : ByteArray) (l : List ByteArray) (id : Nat) : updM false [2] (.str x) (.bool true) id (seenS l) = some { mp := some (id, seenS (insS l x)) } := by
  unfold updM
  rw [find_seenS]
  have h := lookS_some (x := x) (l := l)
  rw [← hasS_iff] at h
  cases hl : lookS x l with
  | none =>
    rw [hl] at h
    have : hasS l x = false := by
      cases hx : hasS l x with
      | false => rfl
      | true => simpa using h.2 hx
    simp [insS, this, seenS]
  | some p =>
    rw [hl] at h
    have hx : hasS l x = true := h.1 rfl
    unfold lookS at hl
    obtain ⟨i, hi, rfl⟩ := Option.map_eq_some_iff.1 hl
    obtain ⟨h1, h2, _⟩ := List.findIdx?_eq_some_iff_getElem.1 hi
    have h3 : l[i] = x := by simpa using h2
    simp only [insS, hx, if_true]
    congr 4
    apply List.ext_getElem?
    intro j
    rw [List.getElem?_set]
    split
    · rename_i hj
      subst hj
      simp [seenS, h1, h3]
    · rfl
end Go.Pv

/-
  Sorting of lists of numbers that were begun as a literal.
-/
namespace Go.Pv

def sortJ1 (id ver off len : Nat) (a : Arr) : Option (V × Tn) :=
  if len = 0 then some (.tup [], { ra := some id }) else (match a.body with
        | .inl rows => if a.k = 1 ∧ off + len ≤ rows.length ∧ len ≤ mostRows then (match mapO intDec ((rows.drop off).take len) with
          | some l => some (.tup [], { ar := some (id, ⟨ver, 1, .inl (rows.take off ++ (isort ltI l).map (fun x => [.int .i64 x]) ++ rows.drop (off + len))⟩) })
          | none => none) else none
        | .inr _ => none)
@[go_sem] theorem sortJP_tl (h : Heap) : sortIP [.tl []] h = some (.tup [], {}) := rfl
@[go_sem] theorem sortJP_own (h : Heap) (id ver off len : Nat) : sortIP [.own id ver off len] h = (ownArr h id ver).bind (sortJ1 id ver off len) := by
  simp only [sortIP]
  cases ownArr h id ver <;> rfl
theorem ints_dec (l : List Int) : mapO intDec (ints l) = some l := by
  induction l with
  | nil => rfl
  | cons x l ih =>
    show mapO intDec ([.int .i64 x] :: ints l) = _
    simp only [mapO, intDec, ih]
@[go_sem] theorem sortJ1_ints {id ver n : Nat} {l : List Int} (hn : n = l.length) (h0 : n ≠ 0) (hm : n ≤ 2147483648) : sortJ1 id ver 0 n ⟨ver, 1, .inl (ints l)⟩ = some (.tup [], { ar := some (id, ⟨ver, 1, .inl (ints (isort ltI l))⟩) }) := by
  subst hn
  have e1 : (ints l).length = l.length := ints_length l
  simp [sortJ1, h0, e1, mostRows, hm, ints_dec, List.take_of_length_le (Nat.le_of_eq e1), List.drop_eq_nil_of_le (Nat.le_of_eq e1)]
  rfl
@[go_sem] theorem lendAll_tl (h : Heap) : lendAll h true [.tl []] = some ([.lst 0 []], none) := rfl
@[go_sem] theorem sortJP_one (h : Heap) (x : Int) : sortIP [.tl [[.int .i64 x]]] h = some (.tup [], {}) := rfl
theorem glV_intsS {n b : Nat} {o : List Int} {x : Int} (h : b ≤ o.length) : glV n b (ints (o ++ [x])) = .own n (o.length - b) 0 (o.length + 1) := by
  rw [← ints_snoc, glV_snoc (by rw [ints_length]; exact h), ints_length]
theorem glA_intsS {b : Nat} {o : List Int} {x : Int} (h : b ≤ o.length) : glA 1 b (ints (o ++ [x])) = [⟨o.length - b, 1, .inl (ints (o ++ [x]))⟩] := by
  rw [← ints_snoc, glA_snoc (by rw [ints_length]; exact h), ints_length]
theorem isort_lenS (l : List Int) : (isort ltI l).length = l.length := (isort_perm ltI l).length_eq
end Go.Pv

/-
  Values, types and schemas that a law is given.
-/
namespace Go.Pv
variable {P : Program}

theorem VOk.up : ∀ {n : Nat} {cs : List PV}, VOk n cs → VOk (n + 1) cs
  | 0, _, h => h.elim
  | n + 1, _, h => by
    obtain ⟨v, h1, h2, h3, h4, h5, h6⟩ := h
    exact ⟨v, h1, h2, h3, fun r hr => VOk.up (h4 r hr), fun r hr => VOk.up (h5 r hr), h6⟩
theorem ty_int {n : Nat} {t : TypeId} {cs : List PV} (hu : P.underlying t = some (.int .i64)) (h : typed P n t cs) : ∃ x, cs = [.int .i64 x] ∧ I64 x := by
  cases n with
  | zero => exact h.elim
  | succ n =>
    obtain ⟨x, rfl, h1, h2⟩ := typed_int hu h
    exact ⟨x, rfl, h1, h2⟩
theorem ty_bool {n : Nat} {t : TypeId} {cs : List PV} (hu : P.underlying t = some .bool) (h : typed P n t cs) : ∃ x, cs = [.bool x] := by
  cases n with
  | zero => exact h.elim
  | succ n => exact typed_bool hu h
theorem ty_str {n : Nat} {t : TypeId} {cs : List PV} (hu : P.underlying t = some .string) (h : typed P n t cs) : ∃ s, cs = [.str s] ∧ strOk s := by
  cases n with
  | zero => exact h.elim
  | succ n =>
    simp only [typed, hu] at h
    exact h
theorem ty_slice {α : Type} {c : α → List PV} {ok : α → Prop} {n : Nat} {t el : TypeId} {cs : List PV} (hu : P.underlying t = some (.slice el)) (he : ∀ m cs, m + 1 = n → typed P m el cs → ∃ x, cs = c x ∧ ok x) (h : typed P n t cs) : ∃ l : List α, cs = [.lst 0 (l.map c)] ∧ lenOk l ∧ ∀ x ∈ l, ok x := by
  cases n with
  | zero => exact h.elim
  | succ n =>
    obtain ⟨rows, rfl, hl, hr⟩ := typed_slice hu h
    obtain ⟨l, rfl⟩ := rows_map (c := fun x : {x : α // ok x} => c x.1) (rows := rows) (fun r hr' => by
      obtain ⟨x, rfl, hx⟩ := he n r rfl (hr r hr')
      exact ⟨⟨x, hx⟩, rfl⟩)
    refine ⟨l.map (·.1), by simp, by simpa [lenOk, maxLen] using hl, fun x hx => ?_⟩
    obtain ⟨y, _, rfl⟩ := List.mem_map.1 hx
    exact y.2

/-- The types of values, types and schemas. -/
structure SchT (P : Program) (sch typ sym mem val raw ls lsym lmem lval lraw tx ti t64 tb : TypeId) : Prop where
  i : P.underlying ti = some (.int .i64)
  i64 : P.underlying t64 = some (.int .i64)
  b : P.underlying tb = some .bool
  x : P.underlying tx = some .string
  l : P.underlying ls = some (.slice typ)
  ly : P.underlying lsym = some (.slice sym)
  lm : P.underlying lmem = some (.slice mem)
  lv : P.underlying lval = some (.slice val)
  lr : P.underlying lraw = some (.slice raw)
  s : ∃ fs, P.underlying sch = some (.struct fs) ∧ fs.toList.map (·.type) = [ls]
  t : ∃ fs, P.underlying typ = some (.struct fs) ∧ fs.toList.map (·.type) = [ti, tx, t64, t64, ti, lsym, lmem, ti, ti, tb]
  y : ∃ fs, P.underlying sym = some (.struct fs) ∧ fs.toList.map (·.type) = [ti, tx]
  m : ∃ fs, P.underlying mem = some (.struct fs) ∧ fs.toList.map (·.type) = [ti, tx, ti, tb, tb, val]
  v : ∃ fs, P.underlying val = some (.struct fs) ∧ fs.toList.map (·.type) = [ti, tb, t64, tx, ti, lval, lval, lraw]
  r : ∃ fs, P.underlying raw = some (.struct fs) ∧ fs.toList.map (·.type) = [ti, tx]
section
variable {sch typ sym mem val raw ls lsym lmem lval lraw tx ti t64 tb : TypeId}
theorem raw_typed (T : SchT P sch typ sym mem val raw ls lsym lmem lval lraw tx ti t64 tb) {n : Nat} {cs : List PV} (h : typed P n raw cs) : ∃ r : Raw, cs = r.c ∧ r.ok := by
  cases n with
  | zero => exact h.elim
  | succ n =>
    obtain ⟨fs, hu, hts⟩ := T.r
    obtain ⟨r0, q0, rfl, h0, r1, q1, rfl, h1, rfl⟩ := typed_struct hu hts h
    obtain ⟨x, rfl, hx⟩ := ty_int T.i h0
    obtain ⟨s, rfl, hs⟩ := ty_str T.x h1
    exact ⟨⟨x, s⟩, rfl, hx, hs⟩
theorem sym_typed (T : SchT P sch typ sym mem val raw ls lsym lmem lval lraw tx ti t64 tb) {n : Nat} {cs : List PV} (h : typed P n sym cs) : ∃ r : Sym, cs = r.c ∧ r.ok := by
  cases n with
  | zero => exact h.elim
  | succ n =>
    obtain ⟨fs, hu, hts⟩ := T.y
    obtain ⟨r0, q0, rfl, h0, r1, q1, rfl, h1, rfl⟩ := typed_struct hu hts h
    obtain ⟨x, rfl, hx⟩ := ty_int T.i h0
    obtain ⟨s, rfl, hs⟩ := ty_str T.x h1
    exact ⟨⟨x, s⟩, rfl, hx, hs⟩
theorem val_typed (T : SchT P sch typ sym mem val raw ls lsym lmem lval lraw tx ti t64 tb) : ∀ (n : Nat) {cs : List PV}, typed P n val cs → VOk n cs
  | 0, _, h => h.elim
  | 1, cs, h => by
    obtain ⟨fs, hu, hts⟩ := T.v
    obtain ⟨r0, q0, rfl, h0, _⟩ := typed_struct hu hts h
    exact h0.elim
  | n + 2, cs, h => by
    obtain ⟨fs, hu, hts⟩ := T.v
    obtain ⟨r0, q0, rfl, h0, r1, q1, rfl, h1, r2, q2, rfl, h2, r3, q3, rfl, h3, r4, q4, rfl, h4, r5, q5, rfl, h5, r6, q6, rfl, h6, r7, q7, rfl, h7, rfl⟩ := typed_struct hu hts h
    obtain ⟨kind, rfl, k1⟩ := ty_int T.i h0
    obtain ⟨b, rfl⟩ := ty_bool T.b h1
    obtain ⟨i, rfl, k2⟩ := ty_int T.i64 h2
    obtain ⟨s, rfl, k3⟩ := ty_str T.x h3
    obtain ⟨id, rfl, k4⟩ := ty_int T.i h4
    obtain ⟨keys, rfl, l1, g1⟩ := typed_slice T.lv h5
    obtain ⟨items, rfl, l2, g2⟩ := typed_slice T.lv h6
    obtain ⟨rest, rfl, l3, g3⟩ := ty_slice T.lr (fun m cs _ hh => raw_typed T hh) h7
    exact ⟨⟨kind, b, i, s, id, keys, items, rest⟩, rfl, ⟨k1, k2, k3, k4⟩, ⟨by simpa [lenOk, maxLen] using l1, by simpa [lenOk, maxLen] using l2, l3⟩, fun r hr => (val_typed T n (g1 r hr)).up, fun r hr => (val_typed T n (g2 r hr)).up, g3⟩
theorem mem_typed (T : SchT P sch typ sym mem val raw ls lsym lmem lval lraw tx ti t64 tb) {n : Nat} {cs : List PV} (h : typed P n mem cs) : ∃ r : Mem, cs = r.c ∧ r.ok := by
  cases n with
  | zero => exact h.elim
  | succ n =>
    obtain ⟨fs, hu, hts⟩ := T.m
    obtain ⟨r0, q0, rfl, h0, r1, q1, rfl, h1, r2, q2, rfl, h2, r3, q3, rfl, h3, r4, q4, rfl, h4, r5, q5, rfl, h5, rfl⟩ := typed_struct hu hts h
    obtain ⟨id, rfl, k1⟩ := ty_int T.i h0
    obtain ⟨s, rfl, k2⟩ := ty_str T.x h1
    obtain ⟨t, rfl, k3⟩ := ty_int T.i h2
    obtain ⟨c, rfl⟩ := ty_bool T.b h3
    obtain ⟨hd, rfl⟩ := ty_bool T.b h4
    have hv := val_typed T n h5
    cases n with
    | zero => exact hv.elim
    | succ n =>
      have hv' := hv
      obtain ⟨v, rfl, _⟩ := hv'
      exact ⟨⟨id, s, t, c, hd, v⟩, by simp [Mem.c, Val.c], k1, k2, k3, _, hv⟩
theorem typ_typed (T : SchT P sch typ sym mem val raw ls lsym lmem lval lraw tx ti t64 tb) {n : Nat} {cs : List PV} (h : typed P n typ cs) : ∃ r : Typ, cs = r.c ∧ r.ok := by
  cases n with
  | zero => exact h.elim
  | succ n =>
    obtain ⟨fs, hu, hts⟩ := T.t
    obtain ⟨r0, q0, rfl, h0, r1, q1, rfl, h1, r2, q2, rfl, h2, r3, q3, rfl, h3, r4, q4, rfl, h4, r5, q5, rfl, h5, r6, q6, rfl, h6, r7, q7, rfl, h7, r8, q8, rfl, h8, r9, q9, rfl, h9, rfl⟩ := typed_struct hu hts h
    obtain ⟨kind, rfl, k0⟩ := ty_int T.i h0
    obtain ⟨s, rfl, k1⟩ := ty_str T.x h1
    obtain ⟨lo, rfl, k2⟩ := ty_int T.i64 h2
    obtain ⟨hi, rfl, k3⟩ := ty_int T.i64 h3
    obtain ⟨mx, rfl, k4⟩ := ty_int T.i h4
    obtain ⟨syms, rfl, k5, g5⟩ := ty_slice T.ly (fun m cs _ hh => sym_typed T hh) h5
    obtain ⟨mems, rfl, k6, g6⟩ := ty_slice T.lm (fun m cs _ hh => mem_typed T hh) h6
    obtain ⟨key, rfl, k7⟩ := ty_int T.i h7
    obtain ⟨el, rfl, k8⟩ := ty_int T.i h8
    obtain ⟨op, rfl⟩ := ty_bool T.b h9
    exact ⟨⟨kind, s, lo, hi, mx, syms, mems, key, el, op⟩, rfl, ⟨k0, k1, k2, k3, k4, k7, k8⟩, ⟨k5, k6⟩, g5, g6⟩
theorem sch_typed (T : SchT P sch typ sym mem val raw ls lsym lmem lval lraw tx ti t64 tb) {n : Nat} {cs : List PV} (h : typed P n sch cs) : ∃ l : List Typ, cs = [.lst 0 (l.map Typ.c)] ∧ lenOk l ∧ ∀ t ∈ l, t.ok := by
  cases n with
  | zero => exact h.elim
  | succ n =>
    obtain ⟨fs, hu, hts⟩ := T.s
    obtain ⟨r0, q0, rfl, h0, rfl⟩ := typed_struct hu hts h
    obtain ⟨l, rfl, k, g⟩ := ty_slice T.l (fun m cs _ hh => typ_typed T hh) h0
    exact ⟨l, by simp, k, g⟩
end
end Go.Pv

/-
  Plain laws: ascending lists; breadth-first searches.
-/
namespace Go.Pv

/-- Ascending lists with the same members are the same. -/
theorem pw_ext {α : Type} {r : α → α → Prop} (irr : ∀ x, ¬ r x x) (tr : ∀ x y z, r x y → r y z → r x z) : ∀ {l m : List α}, l.Pairwise r → m.Pairwise r → (∀ x, x ∈ l ↔ x ∈ m) → l = m
  | [], [], _, _, _ => rfl
  | [], y :: m, _, _, h => absurd ((h y).2 (by simp)) (by simp)
  | x :: l, [], _, _, h => absurd ((h x).1 (by simp)) (by simp)
  | x :: l, y :: m, hl, hm, h => by
    rw [List.pairwise_cons] at hl hm
    have e : x = y := by
      rcases List.mem_cons.1 ((h x).1 (by simp)) with e | hx
      · exact e
      · rcases List.mem_cons.1 ((h y).2 (by simp)) with e | hy
        · exact e.symm
        · exact (irr x (tr x y x (hl.1 y hy) (hm.1 x hx))).elim
    subst e
    congr 1
    refine pw_ext irr tr hl.2 hm.2 fun z => ⟨fun hz => ?_, fun hz => ?_⟩
    · rcases List.mem_cons.1 ((h z).1 (List.mem_cons_of_mem _ hz)) with rfl | hz'
      · exact (irr z (hl.1 z hz)).elim
      · exact hz'
    · rcases List.mem_cons.1 ((h z).2 (List.mem_cons_of_mem _ hz)) with rfl | hz'
      · exact (irr z (hm.1 z hz)).elim
      · exact hz'

theorem asc_ext {l m : List Int} (hl : l.Pairwise (· < ·)) (hm : m.Pairwise (· < ·)) (h : ∀ x, x ∈ l ↔ x ∈ m) : l = m :=
  pw_ext (r := (· < ·)) (fun x => Int.lt_irrefl x) (fun _ _ _ => Int.lt_trans) hl hm h

/-- Numbers from 0 on, each once: no more than there are. -/
theorem nodup_bound {l : List Int} {n : Nat} (hn : l.Nodup) (h : ∀ x ∈ l, 0 ≤ x ∧ x < n) : l.length ≤ n := by
  have := List.Nodup.length_le_of_subset (l₂ := (List.range n).map Int.ofNat) hn (fun x hx => by
    have := h x hx
    rw [List.mem_map]
    exact ⟨x.toNat, List.mem_range.2 (by omega), by simp; omega⟩)
  simpa using this

section
variable {α : Type} [DecidableEq α]

/-- One more, unless it is there. -/
def addN (o : List α) (x : α) : List α := if x ∈ o then o else o ++ [x]
theorem addN_mem {o : List α} {x y : α} : y ∈ addN o x ↔ y ∈ o ∨ y = x := by
  unfold addN
  split
  · rename_i h
    exact ⟨.inl, fun h' => h'.elim id (fun e => e ▸ h)⟩
  · simp
theorem addN_nodup {o : List α} {x : α} (h : o.Nodup) : (addN o x).Nodup := by
  unfold addN
  split
  · exact h
  · rename_i hx
    rw [List.nodup_append]
    exact ⟨h, by simp, fun a ha b hb => by
      rw [List.mem_singleton] at hb
      subst hb
      exact fun e => hx (e ▸ ha)⟩
theorem addN_pre (o : List α) (x : α) : o <+: addN o x := by
  unfold addN
  split
  · exact List.prefix_refl o
  · exact List.prefix_append o [x]
def addL (o : List α) (l : List α) : List α := l.foldl addN o
theorem addL_cons (o : List α) (x : α) (l : List α) : addL o (x :: l) = addL (addN o x) l := rfl
theorem addL_snoc (o : List α) (l : List α) (x : α) : addL o (l ++ [x]) = addN (addL o l) x := by simp [addL, List.foldl_append]
theorem addL_mem : ∀ {l o : List α} {y : α}, y ∈ addL o l ↔ y ∈ o ∨ y ∈ l
  | [], o, y => by simp [addL]
  | x :: l, o, y => by
    rw [addL_cons, addL_mem, addN_mem]
    simp [or_assoc]
theorem addL_nodup : ∀ {l o : List α}, o.Nodup → (addL o l).Nodup
  | [], _, h => h
  | x :: l, o, h => by
    rw [addL_cons]
    exact addL_nodup (addN_nodup h)
theorem addL_pre : ∀ (o l : List α), o <+: addL o l
  | o, [] => List.prefix_refl o
  | o, x :: l => by
    rw [addL_cons]
    exact (addN_pre o x).trans (addL_pre _ l)

/-- A breadth-first search, for so many rounds. -/
def bfs (nx : α → List α) : Nat → Nat → List α → List α
  | 0, _, o => o
  | n + 1, i, o => match o[i]? with
    | none => o
    | some v => bfs nx n (i + 1) (addL o (nx v))

theorem bfs_step {nx : α → List α} {n i : Nat} {o : List α} {v : α} (h : o[i]? = some v) : bfs nx (n + 1) i o = bfs nx n (i + 1) (addL o (nx v)) := by
  simp only [bfs, h]
theorem bfs_end {nx : α → List α} : ∀ {n i : Nat} {o : List α}, o.length ≤ i → bfs nx n i o = o
  | 0, _, _, _ => rfl
  | n + 1, i, o, h => by simp only [bfs, List.getElem?_eq_none h]

theorem bfs_pre {nx : α → List α} : ∀ (n i : Nat) (o : List α), o <+: bfs nx n i o
  | 0, _, o => List.prefix_refl o
  | n + 1, i, o => by
    unfold bfs
    split
    · exact List.prefix_refl o
    · exact (addL_pre o _).trans (bfs_pre n _ _)
theorem bfs_nodup {nx : α → List α} : ∀ (n i : Nat) {o : List α}, o.Nodup → (bfs nx n i o).Nodup
  | 0, _, _, h => h
  | n + 1, i, o, h => by
    unfold bfs
    split
    · exact h
    · exact bfs_nodup n _ (addL_nodup h)

/-- What is reached from something. -/
inductive Rch (nx : α → List α) (s : α) : α → Prop
  | refl : Rch nx s s
  | step {v x : α} : Rch nx s v → x ∈ nx v → Rch nx s x
omit [DecidableEq α] in
theorem Rch.trans {nx : α → List α} {s v x : α} (h : Rch nx s v) (h2 : Rch nx v x) : Rch nx s x := by
  induction h2 with
  | refl => exact h
  | step _ hx ih => exact .step ih hx
omit [DecidableEq α] in
theorem Rch.head {nx : α → List α} {s v x : α} (h : v ∈ nx s) (h2 : Rch nx v x) : Rch nx s x := Rch.trans (.step .refl h) h2

theorem bfs_all {nx : α → List α} {P : α → Prop} (hP : ∀ v, P v → ∀ x ∈ nx v, P x) : ∀ (n i : Nat) {o : List α}, (∀ v ∈ o, P v) → ∀ v ∈ bfs nx n i o, P v
  | 0, _, _, h => h
  | n + 1, i, o, h => by
    unfold bfs
    split
    · exact h
    · rename_i v hv
      refine bfs_all hP n _ fun x hx => ?_
      rcases addL_mem.1 hx with hx | hx
      · exact h x hx
      · exact hP v (h v (List.mem_of_getElem? hv)) x hx

/-- It ends closed, if there are rounds enough. -/
theorem bfs_done {nx : α → List α} {N : Nat} {P : α → Prop} (hP : ∀ v, P v → ∀ x ∈ nx v, P x) (hN : ∀ o : List α, o.Nodup → (∀ v ∈ o, P v) → o.length ≤ N) : ∀ (n i : Nat) {o : List α}, N ≤ n + i → o.Nodup → (∀ v ∈ o, P v) →
    (∀ j v, j < i → o[j]? = some v → ∀ x ∈ nx v, x ∈ o) → ∀ v ∈ bfs nx n i o, ∀ x ∈ nx v, x ∈ bfs nx n i o
  | 0, i, o, hn, hd, ho, hc => by
    intro v hv x hx
    obtain ⟨j, hj, rfl⟩ := List.getElem_of_mem hv
    have := hN o hd ho
    have hlt : j < o.length := hj
    exact hc j o[j] (by omega) (by simp) x hx
  | n + 1, i, o, hn, hd, ho, hc => by
    unfold bfs
    split
    · rename_i hnone
      intro v hv x hx
      obtain ⟨j, hj, rfl⟩ := List.getElem_of_mem hv
      have := List.getElem?_eq_none_iff.1 hnone
      exact hc j o[j] (by omega) (by simp) x hx
    · rename_i v hv
      refine bfs_done hP hN n (i + 1) (by omega) (addL_nodup hd) (fun x hx => ?_) (fun j w hj hw x hx => ?_)
      · rcases addL_mem.1 hx with hx | hx
        · exact ho x hx
        · exact hP v (ho v (List.mem_of_getElem? hv)) x hx
      · rw [addL_mem]
        have hi : i < o.length := (List.getElem?_eq_some_iff.1 hv).1
        obtain ⟨t, ht⟩ := addL_pre o (nx v)
        rw [← ht, List.getElem?_append_left (by omega)] at hw
        rcases Nat.lt_or_ge j i with h | h
        · exact .inl (hc j w h hw x hx)
        · obtain rfl : j = i := by omega
          rw [hv] at hw
          cases hw
          exact .inr hx

/-- Exactly what is reached is found. -/
theorem bfs_rch {nx : α → List α} {N : Nat} {P : α → Prop} {s : α} (hP : ∀ v, P v → ∀ x ∈ nx v, P x) (hN : ∀ o : List α, o.Nodup → (∀ v ∈ o, P v) → o.length ≤ N) (hs : P s) {v : α} : v ∈ bfs nx N 0 [s] ↔ Rch nx s v := by
  constructor
  · exact bfs_all (P := Rch nx s) (fun v hv x hx => .step hv hx) N 0 (by simp; exact .refl) v
  · have hc := bfs_done hP hN N 0 (o := [s]) (by omega) (by simp) (by simpa using hs) (fun j v hj => absurd hj (Nat.not_lt_zero _))
    have hp : s ∈ bfs nx N 0 [s] := (bfs_pre N 0 [s]).subset (by simp)
    intro h
    induction h with
    | refl => exact hp
    | step _ hx ih => exact hc _ ih _ hx

section
variable {β : Type} [DecidableEq β]
theorem addN_map {g : α → β} {o : List α} {x : α} (hg : ∀ y ∈ o, g y = g x → y = x) : addN (o.map g) (g x) = (addN o x).map g := by
  unfold addN
  by_cases h : x ∈ o
  · rw [if_pos h, if_pos (List.mem_map_of_mem h)]
  · rw [if_neg h, if_neg (fun hm => by
      obtain ⟨y, hy, e⟩ := List.mem_map.1 hm
      exact h (hg y hy e ▸ hy)), List.map_append]
    rfl
theorem addL_map {g : α → β} {P : α → Prop} (hg : ∀ x y, P x → P y → g x = g y → x = y) : ∀ (l : List α) {o : List α}, (∀ v ∈ o, P v) → (∀ v ∈ l, P v) → addL (o.map g) (l.map g) = (addL o l).map g
  | [], _, _, _ => rfl
  | x :: l, o, ho, hl => by
    rw [List.map_cons, addL_cons, addL_cons, addN_map (fun y hy e => hg y x (ho y hy) (hl x (by simp)) e)]
    refine addL_map hg l (fun v hv => ?_) (fun v hv => hl v (by simp [hv]))
    rcases addN_mem.1 hv with h | h
    · exact ho v h
    · exact h ▸ hl x (by simp)
/-- The same search under other names. -/
theorem bfs_map {g : α → β} {P : α → Prop} {nx : α → List α} {nx' : β → List β} (hg : ∀ x y, P x → P y → g x = g y → x = y) (hP : ∀ v, P v → ∀ x ∈ nx v, P x) (hx : ∀ v, P v → nx' (g v) = (nx v).map g) :
    ∀ (n i : Nat) {o : List α}, (∀ v ∈ o, P v) → bfs nx' n i (o.map g) = (bfs nx n i o).map g
  | 0, _, _, _ => rfl
  | n + 1, i, o, ho => by
    simp only [bfs, List.getElem?_map]
    cases h : o[i]? with
    | none => rfl
    | some v =>
      have hv := ho v (List.mem_of_getElem? h)
      simp only [Option.map_some]
      rw [hx v hv, addL_map hg (nx v) ho (hP v hv)]
      refine bfs_map hg hP hx n (i + 1) fun x hx' => ?_
      rcases addL_mem.1 hx' with h' | h'
      · exact ho x h'
      · exact hP v hv x h'
end
end

/-- More rounds than needed change nothing. -/
theorem bfs_more {α : Type} [DecidableEq α] {nx : α → List α} {N : Nat} {P : α → Prop} (hP : ∀ v, P v → ∀ x ∈ nx v, P x) (hN : ∀ o : List α, o.Nodup → (∀ v ∈ o, P v) → o.length ≤ N) : ∀ (n m i : Nat) {o : List α}, N ≤ n + i → N ≤ m + i → o.Nodup → (∀ v ∈ o, P v) → bfs nx n i o = bfs nx m i o
  | 0, m, i, o, h1, _, hd, ho => by
    have := hN o hd ho
    rw [bfs_end (by omega), bfs_end (by omega)]
  | n + 1, 0, i, o, _, h2, hd, ho => by
    have := hN o hd ho
    rw [bfs_end (by omega), bfs_end (by omega)]
  | n + 1, m + 1, i, o, h1, h2, hd, ho => by
    simp only [bfs]
    cases h : o[i]? with
    | none => rfl
    | some v =>
      have hv := ho v (List.mem_of_getElem? h)
      refine bfs_more hP hN n m (i + 1) (by omega) (by omega) (addL_nodup hd) fun x hx => ?_
      rcases addL_mem.1 hx with h' | h'
      · exact ho x h'
      · exact hP v hv x h'

end Go.Pv

/-
  Chapter 07: sizes of values.
-/
namespace Go.Pv

@[go_sem] theorem rawc_len (r : Raw) : r.c.length = 2 := rfl
def wr (x : Int) : Int := IntKind.wrap .i64 x
def szRest (acc : Int) (r : Raw) : Int := wr (wr (acc + 1) + r.data.size)
/-- The size of a value, so deep. -/
def szN : Nat → List PV → Int
  | 0, _ => 0
  | n + 1, cs => match cs with
    | [_, _, _, .str s, _, .lst _ keys, .lst _ items, .lst _ rest] => rest.foldl (fun acc r => match r with | [_, .str d] => wr (wr (acc + 1) + d.size) | _ => acc) (items.foldl (fun acc r => wr (acc + szN n r)) (keys.foldl (fun acc r => wr (acc + szN n r)) (wr (1 + s.size))))
    | _ => 0
theorem szN_val (n : Nat) (v : Val) : szN (n + 1) v.c = v.rest.foldl szRest (v.items.foldl (fun acc r => wr (acc + szN n r)) (v.keys.foldl (fun acc r => wr (acc + szN n r)) (wr (1 + v.str.size)))) := by
  unfold Val.c
  simp only [szN]
  rw [List.foldl_map]
  rfl
theorem VOk.len : ∀ {n : Nat} {cs : List PV}, VOk n cs → cs.length = 8
  | 0, _, h => h.elim
  | _ + 1, _, h => by
    obtain ⟨v, rfl, _⟩ := h
    rfl
theorem VOk.val {n : Nat} {cs : List PV} (h : VOk n cs) : ∃ w : Val, cs = w.c := by
  cases n with
  | zero => exact h.elim
  | succ n =>
    obtain ⟨v, hv, _⟩ := h
    exact ⟨v, hv⟩
set_option maxHeartbeats 2000000 in
/-- size. -/
theorem r282 : ∀ (n : Nat) (cs : List PV), VOk n cs → res A PrA 282 [.agg cs] = some [.int .i64 (szN n cs)]
  | 0, cs, h => h.elim
  | n + 1, cs, h => by
    obtain ⟨v, rfl, ⟨h1, h2, h3, h4⟩, ⟨h5, h6, h7⟩, h8, h9, h10⟩ := h
    have ih := r282 n
    rw [szN_val]
    unfold lenOk at h5 h6 h7
    unfold strOk at h3
    obtain ⟨kind, bool, int, str, id, keys, items, rest⟩ := v
    unfold Val.c
    dsimp only at *
    refine res_of a282 rfl rfl ?_
    simp only [F282]
    simp (disch := omega) only [go_sem]
    refine W.fold keys (fun acc r => wr (acc + szN n r)) (wr (1 + str.size)) (fun k acc => ⟨[(1, .ptr 1 0), (3, .pv (.int .i64 acc)), (4, .pv (.int .i64 k))], ⟨[(1, [.pv (.int .i64 kind), .pv (.bool bool), .pv (.int .i64 int), .pv (.str str), .pv (.int .i64 id), .pv (.lst 0 keys), .pv (.lst 0 items), .pv (.lst 0 (rest.map Raw.c))])], [], []⟩⟩) (fun _ _ => True) rfl trivial (fun k r acc hr hk _ _ => ?_) (fun acc hacc _ => ?_)
    · have hv := h8 r (List.mem_of_getElem? hr)
      obtain ⟨w, rfl⟩ := hv.val
      have hi := ih _ hv
      generalize szN n w.c = z at hi ⊢
      unfold Val.c at hi hr
      simp (disch := omega) only [go_sem]
      refine Br.ofP (fun h => ?_) (fun h => (h (by omega)).elim)
      simp (disch := omega) only [go_sem, hr, hi]
      exact foldK.of rfl trivial
    · simp (disch := omega) only [go_sem]
      refine W.fold items (fun acc r => wr (acc + szN n r)) acc (fun k acc => ⟨[(1, .ptr 1 0), (3, .pv (.int .i64 acc)), (5, .pv (.int .i64 k))], ⟨[(1, [.pv (.int .i64 kind), .pv (.bool bool), .pv (.int .i64 int), .pv (.str str), .pv (.int .i64 id), .pv (.lst 0 keys), .pv (.lst 0 items), .pv (.lst 0 (rest.map Raw.c))])], [], []⟩⟩) (fun _ _ => True) rfl trivial (fun k r acc hr hk _ _ => ?_) (fun acc2 hacc2 _ => ?_)
      · have hv := h9 r (List.mem_of_getElem? hr)
        obtain ⟨w, rfl⟩ := hv.val
        have hi := ih _ hv
        generalize szN n w.c = z at hi ⊢
        unfold Val.c at hi hr
        simp (disch := omega) only [go_sem]
        refine Br.ofP (fun h => ?_) (fun h => (h (by omega)).elim)
        simp (disch := omega) only [go_sem, hr, hi]
        exact foldK.of rfl trivial
      · simp (disch := omega) only [go_sem]
        refine W.fold rest szRest acc2 (fun k acc => ⟨[(1, .ptr 1 0), (3, .pv (.int .i64 acc)), (6, .pv (.int .i64 k))], ⟨[(1, [.pv (.int .i64 kind), .pv (.bool bool), .pv (.int .i64 int), .pv (.str str), .pv (.int .i64 id), .pv (.lst 0 keys), .pv (.lst 0 items), .pv (.lst 0 (rest.map Raw.c))])], [], []⟩⟩) (fun _ _ => True) rfl trivial (fun k r acc hr hk _ _ => ?_) (fun acc3 hacc3 _ => ?_)
        · have hrk := (h10 r (List.mem_of_getElem? hr)).2
          unfold strOk at hrk
          simp (disch := omega) only [go_sem]
          refine Br.ofP (fun h => ?_) (fun h => (h (by omega)).elim)
          simp (disch := omega) only [go_sem, hr, Raw.c]
          exact foldK.of rfl trivial
        · simp (disch := omega) only [go_sem]
          rw [hacc3, hacc2, hacc]

end Go.Pv

/-
  Chapter 07: Few.
-/
namespace Go.Pv

@[go_sem] theorem typc_len (t : Typ) : t.c.length = 10 := rfl
@[go_sem] theorem memc_len (t : Mem) : t.c.length = 13 := rfl
@[go_sem] theorem symc_len (t : Sym) : t.c.length = 2 := rfl
open Classical in
noncomputable def szV (cs : List PV) : Int := if h : ∃ n, VOk n cs then szN (Classical.choose h) cs else 0
theorem r282v {cs : List PV} (h : ∃ n, VOk n cs) : res A PrA 282 [.agg cs] = some [.int .i64 (szV cs)] := by
  unfold szV
  rw [dif_pos h]
  exact r282 _ cs (Classical.choose_spec h)
noncomputable def fewM (acc : Int) (m : Mem) : Int := wr (wr (acc + szV m.dflt.c) + m.name.size)
noncomputable def fewT (acc : Int) (t : Typ) : Int := (t.mems.take 100).foldl fewM (wr (wr (wr (acc + t.mems.length) + t.syms.length) + t.name.size))
noncomputable def few (l : List Typ) : Bool := decide ((l.length : Int) ≤ 40) && decide (l.foldl fewT 0 ≤ 400)
set_option maxHeartbeats 4000000 in
/-- Few. -/
theorem r266 (u : Nat) (l : List Typ) (ho : ∀ t ∈ l, t.ok) : res A PrA 266 [.agg [.lst u (l.map Typ.c)]] = some [.bool (few l)] := by
  refine res_of a266 rfl rfl ?_
  simp only [F266]
  simp (disch := omega) only [go_sem]
  refine Br.ofP (fun h40 => ?_) (fun h40 => ?_) <;> simp (disch := omega) only [go_sem, h40]
  · have : ¬ (l.length : Int) ≤ 40 := by omega
    simp [few, this]
  refine W.fold l fewT 0 (fun k acc => ⟨[(1, .ptr 1 0), (3, .pv (.int .i64 acc)), (4, .pv (.int .i64 k))], ⟨[(1, [.pv (.lst u (l.map Typ.c))])], [], []⟩⟩) (fun _ _ => True) rfl trivial (fun k t acc ht hk _ _ => ?_) (fun acc hacc _ => ?_)
  · obtain ⟨⟨_, t2, _⟩, ⟨t3, t4⟩, _, t5⟩ := ho t (List.mem_of_getElem? ht)
    unfold strOk at t2
    unfold lenOk at t3 t4
    simp (disch := omega) only [go_sem]
    refine Br.ofP (fun h => ?_) (fun h => (h (by omega)).elim)
    simp (disch := omega) only [go_sem, ht, Typ.c]
    refine W.fold (t.mems.take 100) fewM (wr (wr (wr (acc + t.mems.length) + t.syms.length) + t.name.size)) (fun j n => ⟨[(1, .ptr 1 0), (3, .pv (.int .i64 n)), (4, .pv (.int .i64 k)), (5, .ptr 5 0), (6, .pv (.int .i64 j))], ⟨[(1, [.pv (.lst u (l.map Typ.c))]), (5, t.c.map .pv)], [], []⟩⟩) (fun _ _ => True) rfl trivial (fun j m n hm hj _ _ => ?_) (fun n hn _ => ?_)
    · have hj' : j < 100 ∧ j < t.mems.length := by rw [List.length_take] at hj; omega
      have hm : t.mems[j]? = some m := by
        rw [List.getElem?_take, if_pos hj'.1] at hm
        exact hm
      obtain ⟨_, m2, _, m3⟩ := t5 m (List.mem_of_getElem? hm)
      unfold strOk at m2
      have hsz := r282v m3
      generalize hz : szV m.dflt.c = z at hsz
      unfold Val.c at hsz
      unfold Typ.c
      simp (disch := omega) only [go_sem, List.map_cons, List.map_nil]
      refine Br.ofP (fun c => ?_) (fun c => (c (by omega)).elim)
      simp (disch := omega) only [go_sem, c]
      refine Br.ofP (fun c2 => ?_) (fun c2 => (c2 (by omega)).elim)
      simp (disch := omega) only [go_sem, hm, Mem.c, hsz]
      refine foldK.of ?_ trivial
      show _ = St.mk _ _
      unfold fewM
      rw [hz]
      rfl
    · have hlen : ¬ ((t.mems.take 100).length < 100 ∧ (t.mems.take 100).length < t.mems.length) := by rw [List.length_take]; omega
      have hle : (t.mems.take 100).length ≤ t.mems.length := by rw [List.length_take]; omega
      have hl1 : (t.mems.take 100).length ≤ 100 := by rw [List.length_take]; omega
      generalize (t.mems.take 100).length = j at hlen hle hl1
      unfold Typ.c
      simp (disch := omega) only [go_sem, List.map_cons, List.map_nil]
      have fin : (⟨[(1, .ptr 1 0), (3, .pv (.int .i64 n)), (4, .pv (.int .i64 (k + 1)))], ⟨[(1, [.pv (.lst u (l.map Typ.c))])], [], []⟩⟩ : St) = ⟨[(1, .ptr 1 0), (3, .pv (.int .i64 (fewT acc t))), (4, .pv (.int .i64 ((k + 1 : Nat) : Int)))], ⟨[(1, [.pv (.lst u (l.map Typ.c))])], [], []⟩⟩ := by
        rw [hn]
        rfl
      refine Br.ofP (fun c => ?_) (fun c => ?_) <;> simp (disch := omega) only [go_sem, c]
      · refine Br.ofP (fun c2 => (hlen (by omega)).elim) (fun c2 => ?_)
        simp (disch := omega) only [go_sem, c2]
        exact foldK.of fin trivial
      · exact foldK.of fin trivial
  · simp (disch := omega) only [go_sem]
    have h4 : (l.length : Int) ≤ 40 := by omega
    simp [few, h4, hacc]

end Go.Pv

/-
  Chapter 07: members and symbols of a type.
-/
namespace Go.Pv

/-- The first place where something holds; -1: nowhere. -/
def firstI {α : Type} (p : α → Bool) (l : List α) : Int := match l.findIdx? p with
  | some k => (k : Int)
  | none => -1
theorem Found.firstI {α : Type} {l : List α} {p : α → Bool} {k : Nat} {x : α} (h : Found l p k x) : Pv.firstI p l = k := by
  unfold Pv.firstI
  rw [h.idx]
theorem Nowhere.firstI {α : Type} {l : List α} {p : α → Bool} (h : Nowhere l p) : Pv.firstI p l = -1 := by
  unfold Pv.firstI
  rw [h.idx]
def memP (i : Int) (m : Mem) : Bool := decide (m.id = i)
def symP (i : Int) (m : Sym) : Bool := decide (m.id = i)
@[go_sem] theorem r305 (m : Mem) (u : Nat) (i : Int) (cs : List PV) : res A PrA 305 [.agg m.c, .ro u (.int .i64 i :: cs)] = some [.bool (memP i m)] := by
  refine res_of a305 rfl rfl ?_
  simp only [F305]
  simp (disch := omega) only [go_sem, Mem.c]
  rfl
@[go_sem] theorem r395 (m : Sym) (u : Nat) (i : Int) (cs : List PV) : res A PrA 395 [.agg m.c, .ro u (.int .i64 i :: cs)] = some [.bool (symP i m)] := by
  refine res_of a395 rfl rfl ?_
  simp only [F395]
  simp (disch := omega) only [go_sem, Sym.c]
  rfl
theorem r304 (t u : Nat) (i : Int) (cs : List PV) (l : List Mem) (hl : l.length ≤ 2 ^ 63 - 1) : res A PrA 304 [.lst t (l.map Mem.c), .func 305 [.ro u (.int .i64 i :: cs)]] = some [.int .i64 (firstI (memP i) l)] := by
  refine res_of a304 rfl rfl ?_
  simp only [F304]
  simp (disch := omega) only [go_sem]
  refine W.find l (memP i) (fun k => ⟨[(0, .pv (.lst t (l.map Mem.c))), (1, .pv (.func 305 [.ro u (.int .i64 i :: cs)])), (7, .pv (.int .i64 l.length)), (8, .pv (.int .i64 k))], ⟨[], [], []⟩⟩) rfl (fun k x hx hk hfd => ?_) (fun hn => ?_)
  · have hfx := r305 x u i cs
    have hl13 : x.c.length = 13 := rfl
    have hmap : (x.c.map V.pv).take 13 = x.c.map .pv := rfl
    simp (disch := omega) only [go_sem]
    refine Br.ofP (fun h => ?_) (fun h => (h (by omega)).elim)
    unfold Mem.c at hfx
    simp (disch := omega) only [go_sem, hx, Mem.c, hfx]
    refine Br.of (fun h2 => ?_) (fun h2 => ?_) <;> simp (disch := omega) only [go_sem]
    · rw [(hfd h2).firstI]
    · exact findK.of h2 rfl
  · simp (disch := omega) only [go_sem]
    rw [hn.firstI]
theorem r394 (t u : Nat) (i : Int) (cs : List PV) (l : List Sym) (hl : l.length ≤ 2 ^ 63 - 1) : res A PrA 394 [.lst t (l.map Sym.c), .func 395 [.ro u (.int .i64 i :: cs)]] = some [.int .i64 (firstI (symP i) l)] := by
  refine res_of a394 rfl rfl ?_
  simp only [F394]
  simp (disch := omega) only [go_sem]
  refine W.find l (symP i) (fun k => ⟨[(0, .pv (.lst t (l.map Sym.c))), (1, .pv (.func 395 [.ro u (.int .i64 i :: cs)])), (7, .pv (.int .i64 l.length)), (8, .pv (.int .i64 k))], ⟨[], [], []⟩⟩) rfl (fun k x hx hk hfd => ?_) (fun hn => ?_)
  · have hfx := r395 x u i cs
    simp (disch := omega) only [go_sem]
    refine Br.ofP (fun h => ?_) (fun h => (h (by omega)).elim)
    unfold Sym.c at hfx
    simp (disch := omega) only [go_sem, hx, Sym.c, hfx]
    refine Br.of (fun h2 => ?_) (fun h2 => ?_) <;> simp (disch := omega) only [go_sem]
    · rw [(hfd h2).firstI]
    · exact findK.of h2 rfl
  · simp (disch := omega) only [go_sem]
    rw [hn.firstI]

end Go.Pv

/-
  Chapter 07: Member and Symbol, and the law of them.
-/
namespace Go.Pv

theorem firstI_ge {α : Type} (p : α → Bool) (l : List α) : -1 ≤ firstI p l ∧ firstI p l < l.length := by
  unfold firstI
  cases h : l.findIdx? p with
  | none =>
    dsimp only
    omega
  | some k =>
    have := List.findIdx?_eq_some_iff_getElem.1 h
    obtain ⟨hk, _⟩ := this
    dsimp only
    omega
theorem r281 (t : Typ) (i : Int) (h : t.mems.length ≤ 2 ^ 63 - 1) : res A PrA 281 [.agg t.c, .int .i64 i] = some [.int .i64 (max (firstI (memP i) t.mems) 0), .bool (decide (0 ≤ firstI (memP i) t.mems))] := by
  refine res_of a281 rfl rfl ?_
  simp only [F281]
  unfold Typ.c
  have h304 := fun u => r304 0 u i [] t.mems h
  simp (disch := omega) only [go_sem, h304]
theorem r392 (t : Typ) (i : Int) (h : t.syms.length ≤ 2 ^ 63 - 1) : res A PrA 392 [.agg t.c, .int .i64 i] = some [.int .i64 (max (firstI (symP i) t.syms) 0), .bool (decide (0 ≤ firstI (symP i) t.syms))] := by
  refine res_of a392 rfl rfl ?_
  simp only [F392]
  unfold Typ.c
  have h394 := fun u => r394 0 u i [] t.syms h
  simp (disch := omega) only [go_sem, h394]
theorem r391 (t : Typ) (i : Int) (h : t.mems.length ≤ 2 ^ 63 - 1) : res A PrA 391 [.agg t.c, .int .i64 i] = some [.int .i64 (max (firstI (memP i) t.mems) 0), .bool (decide (0 ≤ firstI (memP i) t.mems))] := by
  refine res_of a391 rfl rfl ?_
  simp only [F391]
  unfold Typ.c
  simp (disch := omega) only [go_sem]
  refine W.find t.mems (memP i) (fun k => ⟨[(1, .pv (.int .i64 i)), (2, .ptr 2 0), (6, .pv (.int .i64 k))], ⟨[(2, t.c.map .pv)], [], []⟩⟩) rfl (fun k x hx hk hfd => ?_) (fun hn => ?_)
  · unfold Typ.c
    simp (disch := omega) only [go_sem, List.map_cons, List.map_nil]
    refine Br.ofP (fun h => ?_) (fun h => (h (by omega)).elim)
    simp (disch := omega) only [go_sem, hx, Mem.c]
    have hpx : decide (x.id = i) = memP i x := rfl
    rw [hpx]
    refine Br.of (fun g => ?_) (fun g => ?_) <;> simp (disch := omega) only [go_sem]
    · rw [(hfd g).firstI]
      have h1 : max (k : Int) 0 = k := by omega
      have h2 : (0 : Int) ≤ k := by omega
      simp [h1, h2]
    · exact findK.of g rfl
  · unfold Typ.c
    simp (disch := omega) only [go_sem, List.map_cons, List.map_nil]
    rw [hn.firstI]
    rfl

theorem r393 (t : Typ) (i : Int) (h : t.syms.length ≤ 2 ^ 63 - 1) : res A PrA 393 [.agg t.c, .int .i64 i] = some [.int .i64 (max (firstI (symP i) t.syms) 0), .bool (decide (0 ≤ firstI (symP i) t.syms))] := by
  refine res_of a393 rfl rfl ?_
  simp only [F393]
  unfold Typ.c
  simp (disch := omega) only [go_sem]
  refine W.find t.syms (symP i) (fun k => ⟨[(1, .pv (.int .i64 i)), (2, .ptr 2 0), (6, .pv (.int .i64 k))], ⟨[(2, t.c.map .pv)], [], []⟩⟩) rfl (fun k x hx hk hfd => ?_) (fun hn => ?_)
  · unfold Typ.c
    simp (disch := omega) only [go_sem, List.map_cons, List.map_nil]
    refine Br.ofP (fun h => ?_) (fun h => (h (by omega)).elim)
    simp (disch := omega) only [go_sem, hx, Sym.c]
    have hpx : decide (x.id = i) = symP i x := rfl
    rw [hpx]
    refine Br.of (fun g => ?_) (fun g => ?_) <;> simp (disch := omega) only [go_sem]
    · rw [(hfd g).firstI]
      have h1 : max (k : Int) 0 = k := by omega
      have h2 : (0 : Int) ≤ k := by omega
      simp [h1, h2]
    · exact findK.of g rfl
  · unfold Typ.c
    simp (disch := omega) only [go_sem, List.map_cons, List.map_nil]
    rw [hn.firstI]
    rfl


end Go.Pv

/-
  The law of members and symbols.
-/
namespace Go.Pv

set_option maxHeartbeats 1000000 in
/-- SchemaParts, given that the chapter is awake (r265; see NOTES). -/
theorem r390 (r265 : res A PrA 265 [] = some [.bool true]) (t : Typ) (i : Int) (ho : t.ok) : res A PrA 390 [.agg t.c, .int .i64 i] = some [.bool true] := by
  refine res_of a390 rfl rfl ?_
  simp only [F390]
  obtain ⟨_, ⟨o1, o2⟩, _⟩ := id ho
  unfold lenOk at o1 o2
  have h266 := fun u => r266 u [t] (fun x hx => by rw [List.mem_singleton] at hx; subst hx; exact ho)
  simp only [List.map_cons, List.map_nil] at h266
  have h281 := r281 t i (by omega)
  have h391 := r391 t i (by omega)
  have h392 := r392 t i (by omega)
  have h393 := r393 t i (by omega)
  generalize few [t] = f at h266
  unfold Typ.c at *
  simp (disch := omega) only [go_sem, r265, h266]
  refine Br.of (fun hf => ?_) (fun hf => ?_) <;> simp (disch := omega) only [go_sem, r265, h281, h391, h392, h393]

end Go.Pv

/-
  Chapter 07: Find, and the law of it.
-/
namespace Go.Pv

def findP (s : ByteArray) (t : Typ) : Bool := decide (t.name = s) && (decide (4 ≤ t.kind) && decide (t.kind ≤ 6))
theorem r290 (t : Typ) (u : Nat) (s : ByteArray) (cs : List PV) : res A PrA 290 [.agg t.c, .ro u (.str s :: cs)] = some [.bool (findP s t)] := by
  refine res_of a290 rfl rfl ?_
  simp only [F290]
  simp (disch := omega) only [go_sem, Typ.c]
  refine Br.ofP (fun h1 => ?_) (fun h1 => ?_) <;> simp (disch := omega) only [go_sem, h1]
  · refine Br.ofP (fun h2 => ?_) (fun h2 => ?_) <;> simp (disch := omega) only [go_sem, h2]
    · simp [findP, h1, h2]
    · simp [findP, h2]
  · simp [findP, h1]
theorem r286 (k : Int) : res A PrA 286 [.int .i64 k] = some [.bool (decide (4 ≤ k) && decide (k ≤ 6))] := by
  refine res_of a286 rfl rfl ?_
  simp only [F286]
  simp (disch := omega) only [go_sem]
  have hk : (decide (4 ≤ k) && decide (k ≤ 6)) = decide (k = 4 ∨ k = 5 ∨ k = 6) := by
    rw [Bool.eq_iff_iff]
    simp only [Bool.and_eq_true, decide_eq_true_eq]
    omega
  rw [hk]
  refine Br.ofP (fun h1 => ?_) (fun h1 => ?_)
  · have : decide (k = 4 ∨ k = 5 ∨ k = 6) = true := by simp [h1]
    rw [this]
    simp (disch := omega) only [go_sem, h1]
  · by_cases h2 : k = 5
    · have : decide (k = 4 ∨ k = 5 ∨ k = 6) = true := by simp [h2]
      rw [this]
      simp (disch := omega) only [go_sem, h2]
    · have : decide (k = 4 ∨ k = 5 ∨ k = 6) = decide (k = 6) := by simp [h1, h2]
      rw [this]
      simp (disch := omega) only [go_sem, h1]
      refine Br.ofP (fun h3 => (h2 h3).elim) (fun h3 => ?_)
      simp (disch := omega) only [go_sem, h3]
theorem r289 (t u : Nat) (s : ByteArray) (cs : List PV) (l : List Typ) (hl : l.length ≤ 2 ^ 63 - 1) : res A PrA 289 [.lst t (l.map Typ.c), .func 290 [.ro u (.str s :: cs)]] = some [.int .i64 (firstI (findP s) l)] := by
  refine res_of a289 rfl rfl ?_
  simp only [F289]
  simp (disch := omega) only [go_sem]
  refine W.find l (findP s) (fun k => ⟨[(0, .pv (.lst t (l.map Typ.c))), (1, .pv (.func 290 [.ro u (.str s :: cs)])), (7, .pv (.int .i64 l.length)), (8, .pv (.int .i64 k))], ⟨[], [], []⟩⟩) rfl (fun k x hx hk hfd => ?_) (fun hn => ?_)
  · have hfx := r290 x u s cs
    simp (disch := omega) only [go_sem]
    refine Br.ofP (fun h => ?_) (fun h => (h (by omega)).elim)
    unfold Typ.c at hfx
    simp (disch := omega) only [go_sem, hx, Typ.c, hfx]
    refine Br.of (fun h2 => ?_) (fun h2 => ?_) <;> simp (disch := omega) only [go_sem]
    · rw [(hfd h2).firstI]
    · exact findK.of h2 rfl
  · simp (disch := omega) only [go_sem]
    rw [hn.firstI]
/-- Where a type is found, or the error. -/
def findR (s : ByteArray) (l : List Typ) : List PV := if firstI (findP s) l < 0 then [.int .i64 0, .int .i64 4] else [.int .i64 (firstI (findP s) l), .int .i64 0]
theorem r269 (t : Nat) (s : ByteArray) (l : List Typ) (hl : l.length ≤ 2 ^ 63 - 1) : res A PrA 269 [.agg [.lst t (l.map Typ.c)], .str s] = some (findR s l) := by
  refine res_of a269 rfl rfl ?_
  simp only [F269]
  have h289 := fun u => r289 t u s [] l hl
  simp (disch := omega) only [go_sem, h289]
  unfold findR
  refine Br.ofP (fun h1 => ?_) (fun h1 => ?_) <;> simp (disch := omega) only [go_sem, h1]
theorem r270 (t : Nat) (s : ByteArray) (l : List Typ) (hl : l.length ≤ 2 ^ 63 - 1) : res A PrA 270 [.agg [.lst t (l.map Typ.c)], .str s] = some (findR s l) := by
  refine res_of a270 rfl rfl ?_
  simp only [F270]
  simp (disch := omega) only [go_sem]
  refine W.find l (findP s) (fun k => ⟨[(1, .pv (.str s)), (2, .ptr 2 0), (6, .pv (.int .i64 k))], ⟨[(2, [.pv (.lst t (l.map Typ.c))])], [], []⟩⟩) rfl (fun k x hx hk hfd => ?_) (fun hn => ?_)
  · have h286 := r286 x.kind
    simp (disch := omega) only [go_sem]
    refine Br.ofP (fun h => ?_) (fun h => (h (by omega)).elim)
    simp (disch := omega) only [go_sem, hx, Typ.c, h286]
    refine Br.of (fun g1 => ?_) (fun g1 => ?_) <;> simp (disch := omega) only [go_sem, hx, Typ.c, g1]
    · refine Br.ofP (fun g2 => ?_) (fun g2 => ?_) <;> simp (disch := omega) only [go_sem, hx, g2]
      · have hp : findP s x = true := by simp [findP, g2, g1]
        have h0 : ¬ (k : Int) < 0 := by omega
        simp [findR, (hfd hp).firstI, h0]
      · exact findK.of (by simp [findP, g2]) rfl
    · exact findK.of (by simp [findP, g1]) rfl
  · simp (disch := omega) only [go_sem]
    simp [findR, hn.firstI]

end Go.Pv

/-
  The law of Find.
-/
namespace Go.Pv

set_option maxHeartbeats 1000000 in
/-- SchemaFind, given that the chapter is awake. -/
theorem r260 (r265 : res A PrA 265 [] = some [.bool true]) (l : List Typ) (s : ByteArray) (hl : lenOk l) (ho : ∀ t ∈ l, t.ok) (hs : strOk s) : res A PrA 260 [.agg [.lst 0 (l.map Typ.c)], .str s] = some [.bool true] := by
  refine res_of a260 rfl rfl ?_
  simp only [F260]
  unfold lenOk at hl
  unfold strOk at hs
  have h266 := r266 0 l ho
  have h269 := r269 0 s l (by omega)
  have h270 := r270 0 s l (by omega)
  generalize few l = f at h266
  obtain ⟨i, e, he⟩ : ∃ i e : Int, findR s l = [.int .i64 i, .int .i64 e] := by
    unfold findR
    split
    · exact ⟨_, _, rfl⟩
    · exact ⟨_, _, rfl⟩
  rw [he] at h269 h270
  simp (disch := omega) only [go_sem, r265, h266]
  cases f with
  | false =>
    simp (disch := omega) only [go_sem, r265]
  | true =>
    simp (disch := omega) only [go_sem, r265]
    refine Br.ofP (fun hn => ?_) (fun hn => ?_) <;> simp (disch := omega) only [go_sem, r265, h269, h270]

end Go.Pv

/-
  Chapter 07: equality of values, types and schemas, in two ways.
-/
namespace Go.Pv

open Classical in
/-- Are they one? -/
noncomputable def eqv {α : Type} (a b : α) : Bool := decide (a = b)
theorem eqv_same {α : Type} (a : α) : eqv a a = true := by simp [eqv]
theorem eqv_ne {α : Type} {a b : α} (h : a ≠ b) : eqv a b = false := by simp [eqv, h]
theorem eqv_iff {α : Type} {a b : α} : eqv a b = true ↔ a = b := by simp [eqv]
theorem eqv_no {α : Type} {a b : α} : eqv a b = false ↔ a ≠ b := by simp [eqv]
theorem eqv_comm {α : Type} (a b : α) : eqv a b = eqv b a := by
  rw [Bool.eq_iff_iff, eqv_iff, eqv_iff]
  exact ⟨Eq.symm, Eq.symm⟩
theorem Nowhere.eq {α : Type} {l m : List α} (hl : l.length = m.length) (h : Nowhere (l.zip m) fun q => !eqv q.1 q.2) : l = m := by
  have ha := h.any
  rw [List.any_eq_false] at ha
  apply List.ext_getElem hl
  intro i h1 h2
  have hm : (l[i], m[i]) ∈ l.zip m := List.mem_of_getElem? (List.getElem?_zip_eq_some.2 ⟨List.getElem?_eq_getElem h1, List.getElem?_eq_getElem h2⟩)
  have := ha _ hm
  simpa [eqv_iff] using this
theorem Found.ne {α : Type} {l m : List α} {k : Nat} {x : α × α} (h : Found (l.zip m) (fun q => !eqv q.1 q.2) k x) : eqv l m = false := by
  rw [eqv_no]
  rintro rfl
  have ha := h.any
  rw [List.any_eq_true] at ha
  obtain ⟨q, hq, hn⟩ := ha
  obtain ⟨i, hi⟩ := List.mem_iff_getElem?.1 hq
  obtain ⟨h1, h2⟩ := List.getElem?_zip_eq_some.1 hi
  have : q.1 = q.2 := Option.some.inj (h1.symm.trans h2)
  rw [this, eqv_same] at hn
  cases hn
theorem zip_get {α : Type} {l m : List α} {k : Nat} {q : α × α} (h : (l.zip m)[k]? = some q) : l[k]? = some q.1 ∧ m[k]? = some q.2 := List.getElem?_zip_eq_some.1 h

theorem eqv_map {α β : Type} {f : α → β} (hf : ∀ x y, f x = f y → x = y) (l m : List α) : eqv (l.map f) (m.map f) = eqv l m := by
  rw [Bool.eq_iff_iff, eqv_iff, eqv_iff]
  refine ⟨fun h => ?_, fun h => by rw [h]⟩
  induction l generalizing m with
  | nil => cases m with
    | nil => rfl
    | cons y m => simp at h
  | cons x l ih => cases m with
    | nil => simp at h
    | cons y m =>
      simp only [List.map_cons, List.cons.injEq] at h
      rw [hf _ _ h.1, ih _ h.2]
theorem Sym.c_inj (x y : Sym) (h : x.c = y.c) : x = y := by
  obtain ⟨a, b⟩ := x
  obtain ⟨c, d⟩ := y
  simp only [Sym.c, List.cons.injEq, PV.int.injEq, PV.str.injEq, true_and, and_true] at h
  rw [h.1, h.2]
theorem Raw.c_inj (x y : Raw) (h : x.c = y.c) : x = y := by
  obtain ⟨a, b⟩ := x
  obtain ⟨c, d⟩ := y
  simp only [Raw.c, List.cons.injEq, PV.int.injEq, PV.str.injEq, true_and, and_true] at h
  rw [h.1, h.2]
theorem eqv_sym (x y : Sym) : eqv x y = (decide (x.id = y.id) && decide (x.name = y.name)) := by
  obtain ⟨a, b⟩ := x
  obtain ⟨c, d⟩ := y
  simp [eqv]
theorem eqv_raw (x y : Raw) : eqv x y = (decide (x.id = y.id) && decide (x.data = y.data)) := by
  obtain ⟨a, b⟩ := x
  obtain ⟨c, d⟩ := y
  simp [eqv]
theorem zip_len {α : Type} {l m : List α} (h : l.length = m.length) : (l.zip m).length = l.length := by simp [h]
theorem r317 (t u : Nat) (l m : List Sym) (hl : l.length ≤ 2 ^ 63 - 1) (hm : m.length ≤ 2 ^ 63 - 1) : res A PrA 317 [.lst t (l.map Sym.c), .lst u (m.map Sym.c)] = some [.bool (eqv l m)] := by
  refine res_of a317 rfl rfl ?_
  simp only [F317]
  simp (disch := omega) only [go_sem]
  refine Br.ofP (fun h => ?_) (fun h => ?_) <;> simp (disch := omega) only [go_sem]
  · refine W.find (l.zip m) (fun q => !eqv q.1 q.2) (fun k => ⟨[(0, .pv (.lst t (l.map Sym.c))), (1, .pv (.lst u (m.map Sym.c))), (12, .pv (.int .i64 l.length)), (13, .pv (.int .i64 k))], ⟨[], [], []⟩⟩) rfl (fun k q hq hk hfd => ?_) (fun hn => ?_)
    · obtain ⟨h1, h2⟩ := zip_get hq
      rw [zip_len (by omega)] at hk
      simp (disch := omega) only [go_sem]
      refine Br.ofP (fun c => ?_) (fun c => (c (by omega)).elim)
      simp (disch := omega) only [go_sem, h1, h2, Sym.c]
      rw [← eqv_sym]
      refine Br.of (fun g => ?_) (fun g => ?_) <;> simp (disch := omega) only [go_sem]
      · exact findK.of (by rw [g]; rfl) rfl
      · rw [(hfd (by rw [g]; rfl)).ne]
    · have hz : (l.zip m).length = l.length := zip_len (by omega)
      rw [hz]
      simp (disch := omega) only [go_sem]
      rw [hn.eq (by omega), eqv_same]
  · rw [eqv_ne (fun e => h (by rw [e]))]
theorem r333 (t u : Nat) (l m : List Raw) (hl : l.length ≤ 2 ^ 63 - 1) (hm : m.length ≤ 2 ^ 63 - 1) : res A PrA 333 [.lst t (l.map Raw.c), .lst u (m.map Raw.c)] = some [.bool (eqv l m)] := by
  refine res_of a333 rfl rfl ?_
  simp only [F333]
  simp (disch := omega) only [go_sem]
  refine Br.ofP (fun h => ?_) (fun h => ?_) <;> simp (disch := omega) only [go_sem]
  · refine W.find (l.zip m) (fun q => !eqv q.1 q.2) (fun k => ⟨[(0, .pv (.lst t (l.map Raw.c))), (1, .pv (.lst u (m.map Raw.c))), (12, .pv (.int .i64 l.length)), (13, .pv (.int .i64 k))], ⟨[], [], []⟩⟩) rfl (fun k q hq hk hfd => ?_) (fun hn => ?_)
    · obtain ⟨h1, h2⟩ := zip_get hq
      rw [zip_len (by omega)] at hk
      simp (disch := omega) only [go_sem]
      refine Br.ofP (fun c => ?_) (fun c => (c (by omega)).elim)
      simp (disch := omega) only [go_sem, h1, h2, Raw.c]
      rw [← eqv_raw]
      refine Br.of (fun g => ?_) (fun g => ?_) <;> simp (disch := omega) only [go_sem]
      · exact findK.of (by rw [g]; rfl) rfl
      · rw [(hfd (by rw [g]; rfl)).ne]
    · have hz : (l.zip m).length = l.length := zip_len (by omega)
      rw [hz]
      simp (disch := omega) only [go_sem]
      rw [hn.eq (by omega), eqv_same]
  · rw [eqv_ne (fun e => h (by rw [e]))]
@[go_sem] theorem valc_len (v : Val) : v.c.length = 8 := rfl
/-- Lists of values. -/
theorem r334 (t u : Nat) (l m : List (List PV)) (hl : l.length ≤ 2 ^ 63 - 1) (hm : m.length ≤ 2 ^ 63 - 1) (vl : ∀ r ∈ l, ∃ v : Val, r = v.c) (vm : ∀ r ∈ m, ∃ v : Val, r = v.c)
    (hr : ∀ r ∈ l, ∀ q ∈ m, res A PrA 320 [.agg r, .agg q] = some [.bool (eqv r q)]) : res A PrA 334 [.lst t l, .lst u m, .func 320 []] = some [.bool (eqv l m)] := by
  refine res_of a334 rfl rfl ?_
  simp only [F334]
  simp (disch := omega) only [go_sem]
  refine Br.ofP (fun h => ?_) (fun h => ?_) <;> simp (disch := omega) only [go_sem]
  · refine W.find (l.zip m) (fun q => !eqv q.1 q.2) (fun k => ⟨[(1, .pv (.lst u m)), (2, .pv (.func 320 [])), (15, .pv (.lst t l)), (16, .pv (.int .i64 l.length)), (17, .pv (.int .i64 k))], ⟨[], [], []⟩⟩) rfl (fun k q hq hk hfd => ?_) (fun hn => ?_)
    · obtain ⟨h1, h2⟩ := zip_get hq
      rw [zip_len (by omega)] at hk
      have hc := hr q.1 (List.mem_of_getElem? h1) q.2 (List.mem_of_getElem? h2)
      obtain ⟨v, hv⟩ := vl q.1 (List.mem_of_getElem? h1)
      obtain ⟨w, hw⟩ := vm q.2 (List.mem_of_getElem? h2)
      generalize eqv q.1 q.2 = e at hc hfd ⊢
      rw [hv, hw] at hc
      rw [hv] at h1
      rw [hw] at h2
      unfold Val.c at hc h1 h2
      simp (disch := omega) only [go_sem]
      refine Br.ofP (fun c => ?_) (fun c => (c (by omega)).elim)
      simp (disch := omega) only [go_sem, h1, h2, hc]
      refine Br.of (fun g => ?_) (fun g => ?_) <;> simp (disch := omega) only [go_sem]
      · exact findK.of (by rw [g]; rfl) rfl
      · rw [(hfd (by rw [g]; rfl)).ne]
    · have hz : (l.zip m).length = l.length := zip_len (by omega)
      rw [hz]
      simp (disch := omega) only [go_sem]
      rw [hn.eq (by omega), eqv_same]
  · rw [eqv_ne (fun e => h (by rw [e]))]
end Go.Pv

/-
  Chapter 07: values, are they one?
-/
namespace Go.Pv

theorem Val.c_inj (x y : Val) (h : x.c = y.c) : x = y := by
  obtain ⟨a1, a2, a3, a4, a5, a6, a7, a8⟩ := x
  obtain ⟨b1, b2, b3, b4, b5, b6, b7, b8⟩ := y
  simp only [Val.c, List.cons.injEq, PV.int.injEq, PV.bool.injEq, PV.str.injEq, PV.lst.injEq, true_and, and_true] at h
  obtain ⟨h1, h2, h3, h4, h5, h6, h7, h8⟩ := h
  have h8 : a8 = b8 := eqv_iff.1 (by rw [← eqv_map Raw.c_inj, h8, eqv_same])
  rw [h1, h2, h3, h4, h5, h6, h7, h8]
theorem eqv_val (x y : Val) : eqv x.c y.c = eqv x y := by
  rw [Bool.eq_iff_iff, eqv_iff, eqv_iff]
  exact ⟨x.c_inj y, fun h => by rw [h]⟩

set_option maxHeartbeats 4000000 in
/-- same. -/
theorem r320 : ∀ (n k : Nat) (cs ds : List PV), VOk n cs → VOk k ds → res A PrA 320 [.agg cs, .agg ds] = some [.bool (eqv cs ds)]
  | 0, _, _, _, h, _ => h.elim
  | _ + 1, 0, _, _, _, h => h.elim
  | n + 1, k + 1, cs, ds, h, h' => by
    obtain ⟨v, rfl, ⟨h1, h2, h3, h4⟩, ⟨h5, h6, h7⟩, h8, h9, h10⟩ := h
    obtain ⟨w, rfl, ⟨g1, g2, g3, g4⟩, ⟨g5, g6, g7⟩, g8, g9, g10⟩ := h'
    have ih := r320 n k
    unfold lenOk at h5 h6 h7 g5 g6 g7
    have hk := fun t u => r334 t u v.keys w.keys (by omega) (by omega) (fun r hr => (h8 r hr).val) (fun r hr => (g8 r hr).val) (fun r hr q hq => ih r q (h8 r hr) (g8 q hq))
    have hi := fun t u => r334 t u v.items w.items (by omega) (by omega) (fun r hr => (h9 r hr).val) (fun r hr => (g9 r hr).val) (fun r hr q hq => ih r q (h9 r hr) (g9 q hq))
    have hr := fun t u => r333 t u v.rest w.rest (by omega) (by omega)
    rw [eqv_val]
    obtain ⟨a1, a2, a3, a4, a5, a6, a7, a8⟩ := v
    obtain ⟨b1, b2, b3, b4, b5, b6, b7, b8⟩ := w
    unfold Val.c
    dsimp only at *
    clear ih
    refine res_of a320 rfl rfl ?_
    simp only [F320]
    simp (disch := omega) only [go_sem]
    have no : ∀ {p q : Val}, p ≠ q → (some [PV.bool false] : Option (List PV)) = some [PV.bool (eqv p q)] := fun h => by rw [eqv_ne h]
    refine Br.ofP (fun e => ?_) (fun e => ?_) <;> simp (disch := omega) only [go_sem, e]
    rotate_left
    · exact no (fun q => e (by cases q; rfl))
    subst e
    refine Br.ofP (fun e => ?_) (fun e => ?_) <;> simp (disch := omega) only [go_sem, e]
    rotate_left
    · exact no (fun q => e (by cases q; rfl))
    subst e
    refine Br.ofP (fun e => ?_) (fun e => ?_) <;> simp (disch := omega) only [go_sem, e]
    rotate_left
    · exact no (fun q => e (by cases q; rfl))
    subst e
    refine Br.ofP (fun e => ?_) (fun e => ?_) <;> simp (disch := omega) only [go_sem, e]
    rotate_left
    · exact no (fun q => e (by cases q; rfl))
    subst e
    refine Br.ofP (fun e => ?_) (fun e => ?_) <;> simp (disch := omega) only [go_sem, e]
    rotate_left
    · exact no (fun q => e (by cases q; rfl))
    subst e
    simp (disch := omega) only [go_sem, hr]
    refine Br.of (fun e => ?_) (fun e => ?_) <;> simp (disch := omega) only [go_sem, e]
    rotate_left
    · exact no (fun q => eqv_no.1 e (by cases q; rfl))
    have e := eqv_iff.1 e
    subst e
    simp (disch := omega) only [go_sem, hk]
    refine Br.of (fun e => ?_) (fun e => ?_) <;> simp (disch := omega) only [go_sem, e]
    rotate_left
    · exact no (fun q => eqv_no.1 e (by cases q; rfl))
    have e := eqv_iff.1 e
    subst e
    simp (disch := omega) only [go_sem, hi]
    congr 3
    rw [Bool.eq_iff_iff, eqv_iff, eqv_iff]
    exact ⟨fun e => by rw [e], fun q => by cases q; rfl⟩
theorem r320v {cs ds : List PV} (h : ∃ n, VOk n cs) (h' : ∃ n, VOk n ds) : res A PrA 320 [.agg cs, .agg ds] = some [.bool (eqv cs ds)] := by
  obtain ⟨n, h⟩ := h
  obtain ⟨k, h'⟩ := h'
  exact r320 n k cs ds h h'
/-- SameValues, given SameValue. -/
theorem r336 (t u : Nat) (l m : List (List PV)) (hl : l.length ≤ 2 ^ 63 - 1) (hm : m.length ≤ 2 ^ 63 - 1) (vl : ∀ r ∈ l, ∃ v : Val, r = v.c) (vm : ∀ r ∈ m, ∃ v : Val, r = v.c)
    (hr : ∀ r ∈ l, ∀ q ∈ m, res A PrA 330 [.agg r, .agg q] = some [.bool (eqv r q)]) : res A PrA 336 [.lst t l, .lst u m] = some [.bool (eqv l m)] := by
  refine res_of a336 rfl rfl ?_
  simp only [F336]
  simp (disch := omega) only [go_sem]
  refine Br.ofP (fun h => ?_) (fun h => ?_) <;> simp (disch := omega) only [go_sem]
  · refine W.find (l.zip m) (fun q => !eqv q.1 q.2) (fun k => ⟨[(0, .pv (.lst t l)), (1, .pv (.lst u m)), (5, .pv (.int .i64 k))], ⟨[], [], []⟩⟩) rfl (fun k q hq hk hfd => ?_) (fun hn => ?_)
    · obtain ⟨h1, h2⟩ := zip_get hq
      rw [zip_len (by omega)] at hk
      have hc := hr q.1 (List.mem_of_getElem? h1) q.2 (List.mem_of_getElem? h2)
      obtain ⟨v, hv⟩ := vl q.1 (List.mem_of_getElem? h1)
      obtain ⟨w, hw⟩ := vm q.2 (List.mem_of_getElem? h2)
      generalize eqv q.1 q.2 = e at hc hfd ⊢
      rw [hv, hw] at hc
      rw [hv] at h1
      rw [hw] at h2
      unfold Val.c at hc h1 h2
      simp (disch := omega) only [go_sem]
      refine Br.ofP (fun c => ?_) (fun c => (c (by omega)).elim)
      simp (disch := omega) only [go_sem, h1, h2, hc]
      refine Br.of (fun g => ?_) (fun g => ?_) <;> simp (disch := omega) only [go_sem]
      · exact findK.of (by rw [g]; rfl) rfl
      · rw [(hfd (by rw [g]; rfl)).ne]
    · have hz : (l.zip m).length = l.length := zip_len (by omega)
      rw [hz]
      simp (disch := omega) only [go_sem]
      rw [hn.eq (by omega), eqv_same]
  · rw [eqv_ne (fun e => h (by rw [e]))]
set_option maxHeartbeats 4000000 in
/-- SameValue. -/
theorem r330 : ∀ (n k : Nat) (cs ds : List PV), VOk n cs → VOk k ds → res A PrA 330 [.agg cs, .agg ds] = some [.bool (eqv cs ds)]
  | 0, _, _, _, h, _ => h.elim
  | _ + 1, 0, _, _, _, h => h.elim
  | n + 1, k + 1, cs, ds, h, h' => by
    obtain ⟨v, rfl, ⟨h1, h2, h3, h4⟩, ⟨h5, h6, h7⟩, h8, h9, h10⟩ := h
    obtain ⟨w, rfl, ⟨g1, g2, g3, g4⟩, ⟨g5, g6, g7⟩, g8, g9, g10⟩ := h'
    have ih := r330 n k
    unfold lenOk at h5 h6 h7 g5 g6 g7
    have hk := fun t u => r336 t u v.keys w.keys (by omega) (by omega) (fun r hr => (h8 r hr).val) (fun r hr => (g8 r hr).val) (fun r hr q hq => ih r q (h8 r hr) (g8 q hq))
    have hi := fun t u => r336 t u v.items w.items (by omega) (by omega) (fun r hr => (h9 r hr).val) (fun r hr => (g9 r hr).val) (fun r hr q hq => ih r q (h9 r hr) (g9 q hq))
    rw [eqv_val]
    obtain ⟨a1, a2, a3, a4, a5, a6, a7, a8⟩ := v
    obtain ⟨b1, b2, b3, b4, b5, b6, b7, b8⟩ := w
    unfold Val.c
    dsimp only at *
    clear ih
    refine res_of a330 rfl rfl ?_
    simp only [F330]
    simp (disch := omega) only [go_sem]
    have no : ∀ {p q : Val}, p ≠ q → (some [PV.bool false] : Option (List PV)) = some [PV.bool (eqv p q)] := fun h => by rw [eqv_ne h]
    refine Br.ofP (fun e => ?_) (fun e => ?_) <;> simp (disch := omega) only [go_sem, e]
    rotate_left
    · exact no (fun q => e (by cases q; rfl))
    subst e
    refine Br.ofP (fun e => ?_) (fun e => ?_) <;> simp (disch := omega) only [go_sem, e]
    rotate_left
    · exact no (fun q => e (by cases q; rfl))
    subst e
    refine Br.ofP (fun e => ?_) (fun e => ?_) <;> simp (disch := omega) only [go_sem, e]
    rotate_left
    · exact no (fun q => e (by cases q; rfl))
    subst e
    refine Br.ofP (fun e => ?_) (fun e => ?_) <;> simp (disch := omega) only [go_sem, e]
    rotate_left
    · exact no (fun q => e (by cases q; rfl))
    subst e
    refine Br.ofP (fun e => ?_) (fun e => ?_) <;> simp (disch := omega) only [go_sem, e]
    rotate_left
    · exact no (fun q => e (by cases q; rfl))
    subst e
    refine Br.ofP (fun e => ?_) (fun e => ?_) <;> simp (disch := omega) only [go_sem]
    rotate_left
    · exact no (fun q => e (by cases q; rfl))
    refine W.find (a8.zip b8) (fun q => !eqv q.1 q.2) (fun k => ⟨[(2, .ptr 2 0), (3, .ptr 3 0), (5, .pv (.int .i64 k))], ⟨[(2, [.pv (.int .i64 a1), .pv (.bool a2), .pv (.int .i64 a3), .pv (.str a4), .pv (.int .i64 a5), .pv (.lst 0 a6), .pv (.lst 0 a7), .pv (.lst 0 (a8.map Raw.c))]), (3, [.pv (.int .i64 a1), .pv (.bool a2), .pv (.int .i64 a3), .pv (.str a4), .pv (.int .i64 a5), .pv (.lst 0 b6), .pv (.lst 0 b7), .pv (.lst 0 (b8.map Raw.c))])], [], []⟩⟩) rfl (fun k q hq hk' hfd => ?_) (fun hn => ?_)
    · obtain ⟨q1, q2⟩ := zip_get hq
      rw [zip_len (by omega)] at hk'
      simp (disch := omega) only [go_sem]
      refine Br.ofP (fun c => ?_) (fun c => (c (by omega)).elim)
      simp (disch := omega) only [go_sem, q1, q2, Raw.c]
      rw [← eqv_raw]
      refine Br.of (fun g => ?_) (fun g => ?_) <;> simp (disch := omega) only [go_sem]
      · exact findK.of (by rw [g]; rfl) rfl
      · exact no (fun q => eqv_no.1 (hfd (by rw [g]; rfl)).ne (by cases q; rfl))
    · have hz : (a8.zip b8).length = a8.length := zip_len (by omega)
      rw [hz]
      have e := hn.eq (by omega)
      subst e
      simp (disch := omega) only [go_sem, hk]
      refine Br.of (fun e => ?_) (fun e => ?_) <;> simp (disch := omega) only [go_sem, e]
      rotate_left
      · exact no (fun q => eqv_no.1 e (by cases q; rfl))
      have e := eqv_iff.1 e
      subst e
      simp (disch := omega) only [go_sem, hi]
      congr 3
      rw [Bool.eq_iff_iff, eqv_iff, eqv_iff]
      exact ⟨fun e => by rw [e], fun q => by cases q; rfl⟩
theorem r330v {cs ds : List PV} (h : ∃ n, VOk n cs) (h' : ∃ n, VOk n ds) : res A PrA 330 [.agg cs, .agg ds] = some [.bool (eqv cs ds)] := by
  obtain ⟨n, h⟩ := h
  obtain ⟨k, h'⟩ := h'
  exact r330 n k cs ds h h'
end Go.Pv

/-
  Chapter 07: members, types and schemas, are they one?
-/
namespace Go.Pv

theorem Mem.c_inj (x y : Mem) (h : x.c = y.c) : x = y := by
  obtain ⟨a1, a2, a3, a4, a5, v⟩ := x
  obtain ⟨b1, b2, b3, b4, b5, w⟩ := y
  simp only [Mem.c, List.cons.injEq, PV.int.injEq, PV.bool.injEq, PV.str.injEq, true_and] at h
  obtain ⟨h1, h2, h3, h4, h5, h6⟩ := h
  have h6 : v = w := Val.c_inj v w (by simp only [Val.c, List.cons.injEq, PV.int.injEq, PV.bool.injEq, PV.str.injEq, true_and]; exact h6)
  rw [h1, h2, h3, h4, h5, h6]
set_option maxHeartbeats 4000000 in
theorem r319 (x y : Mem) (hx : x.ok) (hy : y.ok) : res A PrA 319 [.agg x.c, .agg y.c] = some [.bool (eqv x y)] := by
  have hv := r320v hx.2.2.2 hy.2.2.2
  rw [eqv_val] at hv
  obtain ⟨a1, a2, a3, a4, a5, v⟩ := x
  obtain ⟨b1, b2, b3, b4, b5, w⟩ := y
  unfold Mem.c
  unfold Val.c at hv
  dsimp only at *
  have no : ∀ {p q : Mem}, p ≠ q → (some [PV.bool false] : Option (List PV)) = some [PV.bool (eqv p q)] := fun h => by rw [eqv_ne h]
  refine res_of a319 rfl rfl ?_
  simp only [F319]
  simp (disch := omega) only [go_sem]
  refine Br.ofP (fun e => ?_) (fun e => ?_) <;> simp (disch := omega) only [go_sem, e]
  rotate_left
  · exact no (fun q => e (by cases q; rfl))
  subst e
  refine Br.ofP (fun e => ?_) (fun e => ?_) <;> simp (disch := omega) only [go_sem, e]
  rotate_left
  · exact no (fun q => e (by cases q; rfl))
  subst e
  refine Br.ofP (fun e => ?_) (fun e => ?_) <;> simp (disch := omega) only [go_sem, e]
  rotate_left
  · exact no (fun q => e (by cases q; rfl))
  subst e
  refine Br.ofP (fun e => ?_) (fun e => ?_) <;> simp (disch := omega) only [go_sem, e]
  rotate_left
  · exact no (fun q => e (by cases q; rfl))
  subst e
  refine Br.ofP (fun e => ?_) (fun e => ?_) <;> simp (disch := omega) only [go_sem, e]
  rotate_left
  · exact no (fun q => e (by cases q; rfl))
  subst e
  simp (disch := omega) only [go_sem, hv]
  congr 3
  rw [Bool.eq_iff_iff, eqv_iff, eqv_iff]
  exact ⟨fun e => by rw [e], fun q => by cases q; rfl⟩
set_option maxHeartbeats 4000000 in
theorem r316 (x y : Mem) (hx : x.ok) (hy : y.ok) : res A PrA 316 [.agg x.c, .agg y.c] = some [.bool (eqv x y)] := by
  have hv := r330v hx.2.2.2 hy.2.2.2
  rw [eqv_val] at hv
  obtain ⟨a1, a2, a3, a4, a5, v⟩ := x
  obtain ⟨b1, b2, b3, b4, b5, w⟩ := y
  unfold Mem.c
  unfold Val.c at hv
  dsimp only at *
  have no : ∀ {p q : Mem}, p ≠ q → (some [PV.bool false] : Option (List PV)) = some [PV.bool (eqv p q)] := fun h => by rw [eqv_ne h]
  refine res_of a316 rfl rfl ?_
  simp only [F316]
  simp (disch := omega) only [go_sem]
  refine Br.ofP (fun e => ?_) (fun e => ?_) <;> simp (disch := omega) only [go_sem, e]
  rotate_left
  · exact no (fun q => e (by cases q; rfl))
  subst e
  refine Br.ofP (fun e => ?_) (fun e => ?_) <;> simp (disch := omega) only [go_sem, e]
  rotate_left
  · exact no (fun q => e (by cases q; rfl))
  subst e
  refine Br.ofP (fun e => ?_) (fun e => ?_) <;> simp (disch := omega) only [go_sem, e]
  rotate_left
  · exact no (fun q => e (by cases q; rfl))
  subst e
  refine Br.ofP (fun e => ?_) (fun e => ?_) <;> simp (disch := omega) only [go_sem, e]
  rotate_left
  · exact no (fun q => e (by cases q; rfl))
  subst e
  refine Br.ofP (fun e => ?_) (fun e => ?_) <;> simp (disch := omega) only [go_sem, e]
  rotate_left
  · exact no (fun q => e (by cases q; rfl))
  subst e
  simp (disch := omega) only [go_sem, hv]
  congr 3
  rw [Bool.eq_iff_iff, eqv_iff, eqv_iff]
  exact ⟨fun e => by rw [e], fun q => by cases q; rfl⟩
set_option maxHeartbeats 4000000 in
theorem r318 (t u : Nat) (l m : List Mem) (hl : l.length ≤ 2 ^ 63 - 1) (hm : m.length ≤ 2 ^ 63 - 1) (vl : ∀ r ∈ l, r.ok) (vm : ∀ r ∈ m, r.ok) : res A PrA 318 [.lst t (l.map Mem.c), .lst u (m.map Mem.c), .func 319 []] = some [.bool (eqv l m)] := by
  refine res_of a318 rfl rfl ?_
  simp only [F318]
  simp (disch := omega) only [go_sem]
  refine Br.ofP (fun h => ?_) (fun h => ?_) <;> simp (disch := omega) only [go_sem]
  · refine W.find (l.zip m) (fun q => !eqv q.1 q.2) (fun k => ⟨[(1, .pv (.lst u (m.map Mem.c))), (2, .pv (.func 319 [])), (15, .pv (.lst t (l.map Mem.c))), (16, .pv (.int .i64 l.length)), (17, .pv (.int .i64 k))], ⟨[], [], []⟩⟩) rfl (fun k q hq hk hfd => ?_) (fun hn => ?_)
    · obtain ⟨h1, h2⟩ := zip_get hq
      rw [zip_len (by omega)] at hk
      have hc := r319 q.1 q.2 (vl q.1 (List.mem_of_getElem? h1)) (vm q.2 (List.mem_of_getElem? h2))
      unfold Mem.c at hc
      simp (disch := omega) only [go_sem]
      refine Br.ofP (fun c => ?_) (fun c => (c (by omega)).elim)
      simp (disch := omega) only [go_sem, h1, h2, Mem.c, hc]
      refine Br.of (fun g => ?_) (fun g => ?_) <;> simp (disch := omega) only [go_sem]
      · exact findK.of (by rw [g]; rfl) rfl
      · rw [(hfd (by rw [g]; rfl)).ne]
    · have hz : (l.zip m).length = l.length := zip_len (by omega)
      rw [hz]
      simp (disch := omega) only [go_sem]
      rw [hn.eq (by omega), eqv_same]
  · rw [eqv_ne (fun e => h (by rw [e]))]
set_option maxHeartbeats 8000000 in
theorem r297 (x y : Typ) (hx : x.ok) (hy : y.ok) : res A PrA 297 [.agg x.c, .agg y.c] = some [.bool (eqv x y)] := by
  obtain ⟨_, ⟨lx1, lx2⟩, _, lx3⟩ := hx
  obtain ⟨_, ⟨ly1, ly2⟩, _, ly3⟩ := hy
  unfold lenOk at *
  have hs := fun t u => r317 t u x.syms y.syms (by omega) (by omega)
  have hm := fun t u => r318 t u x.mems y.mems (by omega) (by omega) lx3 ly3
  obtain ⟨a1, a2, a3, a4, a5, a6, a7, a8, a9, a10⟩ := x
  obtain ⟨b1, b2, b3, b4, b5, b6, b7, b8, b9, b10⟩ := y
  unfold Typ.c
  dsimp only at *
  have no : ∀ {p q : Typ}, p ≠ q → (some [PV.bool false] : Option (List PV)) = some [PV.bool (eqv p q)] := fun h => by rw [eqv_ne h]
  refine res_of a297 rfl rfl ?_
  simp only [F297]
  simp (disch := omega) only [go_sem]
  refine Br.ofP (fun e => ?_) (fun e => ?_) <;> simp (disch := omega) only [go_sem, e]
  rotate_left
  · exact no (fun q => e (by cases q; rfl))
  subst e
  refine Br.ofP (fun e => ?_) (fun e => ?_) <;> simp (disch := omega) only [go_sem, e]
  rotate_left
  · exact no (fun q => e (by cases q; rfl))
  subst e
  refine Br.ofP (fun e => ?_) (fun e => ?_) <;> simp (disch := omega) only [go_sem, e]
  rotate_left
  · exact no (fun q => e (by cases q; rfl))
  subst e
  refine Br.ofP (fun e => ?_) (fun e => ?_) <;> simp (disch := omega) only [go_sem, e]
  rotate_left
  · exact no (fun q => e (by cases q; rfl))
  subst e
  refine Br.ofP (fun e => ?_) (fun e => ?_) <;> simp (disch := omega) only [go_sem, e]
  rotate_left
  · exact no (fun q => e (by cases q; rfl))
  subst e
  refine Br.ofP (fun e => ?_) (fun e => ?_) <;> simp (disch := omega) only [go_sem, e]
  rotate_left
  · exact no (fun q => e (by cases q; rfl))
  subst e
  refine Br.ofP (fun e => ?_) (fun e => ?_) <;> simp (disch := omega) only [go_sem, e]
  rotate_left
  · exact no (fun q => e (by cases q; rfl))
  subst e
  refine Br.ofP (fun e => ?_) (fun e => ?_) <;> simp (disch := omega) only [go_sem, e]
  rotate_left
  · exact no (fun q => e (by cases q; rfl))
  subst e
  simp (disch := omega) only [go_sem, hs]
  refine Br.of (fun e => ?_) (fun e => ?_) <;> simp (disch := omega) only [go_sem, e]
  rotate_left
  · exact no (fun q => eqv_no.1 e (by cases q; rfl))
  have e := eqv_iff.1 e
  subst e
  simp (disch := omega) only [go_sem, hm]
  congr 3
  rw [Bool.eq_iff_iff, eqv_iff, eqv_iff]
  exact ⟨fun e => by rw [e], fun q => by cases q; rfl⟩
set_option maxHeartbeats 8000000 in
theorem r295 (x y : Typ) (hx : x.ok) (hy : y.ok) : res A PrA 295 [.agg x.c, .agg y.c] = some [.bool (eqv x y)] := by
  obtain ⟨_, ⟨lx1, lx2⟩, _, lx3⟩ := hx
  obtain ⟨_, ⟨ly1, ly2⟩, _, ly3⟩ := hy
  unfold lenOk at *
  obtain ⟨a1, a2, a3, a4, a5, a6, a7, a8, a9, a10⟩ := x
  obtain ⟨b1, b2, b3, b4, b5, b6, b7, b8, b9, b10⟩ := y
  unfold Typ.c
  dsimp only at *
  have no : ∀ {p q : Typ}, p ≠ q → (some [PV.bool false] : Option (List PV)) = some [PV.bool (eqv p q)] := fun h => by rw [eqv_ne h]
  refine res_of a295 rfl rfl ?_
  simp only [F295]
  simp (disch := omega) only [go_sem]
  refine Br.ofP (fun e => ?_) (fun e => ?_) <;> simp (disch := omega) only [go_sem, e]
  rotate_left
  · exact no (fun q => e (by cases q; rfl))
  subst e
  refine Br.ofP (fun e => ?_) (fun e => ?_) <;> simp (disch := omega) only [go_sem, e]
  rotate_left
  · exact no (fun q => e (by cases q; rfl))
  subst e
  refine Br.ofP (fun e => ?_) (fun e => ?_) <;> simp (disch := omega) only [go_sem, e]
  rotate_left
  · exact no (fun q => e (by cases q; rfl))
  subst e
  refine Br.ofP (fun e => ?_) (fun e => ?_) <;> simp (disch := omega) only [go_sem, e]
  rotate_left
  · exact no (fun q => e (by cases q; rfl))
  subst e
  refine Br.ofP (fun e => ?_) (fun e => ?_) <;> simp (disch := omega) only [go_sem, e]
  rotate_left
  · exact no (fun q => e (by cases q; rfl))
  subst e
  refine Br.ofP (fun e => ?_) (fun e => ?_) <;> simp (disch := omega) only [go_sem, e]
  rotate_left
  · exact no (fun q => e (by cases q; rfl))
  subst e
  refine Br.ofP (fun e => ?_) (fun e => ?_) <;> simp (disch := omega) only [go_sem, e]
  rotate_left
  · exact no (fun q => e (by cases q; rfl))
  subst e
  refine Br.ofP (fun e => ?_) (fun e => ?_) <;> simp (disch := omega) only [go_sem, e]
  rotate_left
  · exact no (fun q => e (by cases q; rfl))
  subst e
  refine Br.ofP (fun e => ?_) (fun e => ?_) <;> simp (disch := omega) only [go_sem, e]
  rotate_left
  · exact no (fun q => e (by cases q; rfl))
  refine Br.ofP (fun e2 => ?_) (fun e2 => ?_) <;> simp (disch := omega) only [go_sem, e2]
  rotate_left
  · exact no (fun q => e2 (by cases q; rfl))
  refine W.find (a6.zip b6) (fun q => !eqv q.1 q.2) (fun k => ⟨[(2, .ptr 2 0), (3, .ptr 3 0), (5, .pv (.int .i64 k))], ⟨[(2, [.pv (.int .i64 a1), .pv (.str a2), .pv (.int .i64 a3), .pv (.int .i64 a4), .pv (.int .i64 a5), .pv (.lst 0 (a6.map Sym.c)), .pv (.lst 0 (a7.map Mem.c)), .pv (.int .i64 a8), .pv (.int .i64 a9), .pv (.bool a10)]), (3, [.pv (.int .i64 a1), .pv (.str a2), .pv (.int .i64 a3), .pv (.int .i64 a4), .pv (.int .i64 a5), .pv (.lst 0 (b6.map Sym.c)), .pv (.lst 0 (b7.map Mem.c)), .pv (.int .i64 a8), .pv (.int .i64 a9), .pv (.bool a10)])], [], []⟩⟩) rfl (fun k q hq hk hfd => ?_) (fun hn => ?_)
  · obtain ⟨h1, h2⟩ := zip_get hq
    rw [zip_len (by omega)] at hk
    simp (disch := omega) only [go_sem]
    refine Br.ofP (fun c => ?_) (fun c => (c (by omega)).elim)
    simp (disch := omega) only [go_sem, h1, h2, Sym.c]
    rw [← eqv_sym]
    refine Br.of (fun g => ?_) (fun g => ?_) <;> simp (disch := omega) only [go_sem]
    · exact findK.of (by rw [g]; rfl) rfl
    · exact no (fun q => eqv_no.1 (hfd (by rw [g]; rfl)).ne (by cases q; rfl))
  · have hz : (a6.zip b6).length = a6.length := zip_len (by omega)
    rw [hz]
    have e := hn.eq (by omega)
    subst e
    simp (disch := omega) only [go_sem]
    refine W.find (a7.zip b7) (fun q => !eqv q.1 q.2) (fun k => ⟨[(2, .ptr 2 0), (3, .ptr 3 0), (6, .pv (.int .i64 k))], ⟨[(2, [.pv (.int .i64 a1), .pv (.str a2), .pv (.int .i64 a3), .pv (.int .i64 a4), .pv (.int .i64 a5), .pv (.lst 0 (a6.map Sym.c)), .pv (.lst 0 (a7.map Mem.c)), .pv (.int .i64 a8), .pv (.int .i64 a9), .pv (.bool a10)]), (3, [.pv (.int .i64 a1), .pv (.str a2), .pv (.int .i64 a3), .pv (.int .i64 a4), .pv (.int .i64 a5), .pv (.lst 0 (a6.map Sym.c)), .pv (.lst 0 (b7.map Mem.c)), .pv (.int .i64 a8), .pv (.int .i64 a9), .pv (.bool a10)])], [], []⟩⟩) rfl (fun k q hq hk hfd => ?_) (fun hn => ?_)
    · obtain ⟨h1, h2⟩ := zip_get hq
      rw [zip_len (by omega)] at hk
      have hc := r316 q.1 q.2 (lx3 q.1 (List.mem_of_getElem? h1)) (ly3 q.2 (List.mem_of_getElem? h2))
      unfold Mem.c at hc
      simp (disch := omega) only [go_sem]
      refine Br.ofP (fun c => ?_) (fun c => (c (by omega)).elim)
      simp (disch := omega) only [go_sem, h1, h2, Mem.c, hc]
      refine Br.of (fun g => ?_) (fun g => ?_) <;> simp (disch := omega) only [go_sem]
      · exact findK.of (by rw [g]; rfl) rfl
      · exact no (fun q => eqv_no.1 (hfd (by rw [g]; rfl)).ne (by cases q; rfl))
    · have hz : (a7.zip b7).length = a7.length := zip_len (by omega)
      rw [hz]
      have e := hn.eq (by omega)
      subst e
      simp (disch := omega) only [go_sem]
      rw [eqv_same]
end Go.Pv

/-
  Chapter 07: schemas, are they one? And the law of it.
-/
namespace Go.Pv
set_option maxHeartbeats 4000000 in
theorem r296 (t u : Nat) (l m : List Typ) (hl : l.length ≤ 2 ^ 63 - 1) (hm : m.length ≤ 2 ^ 63 - 1) (vl : ∀ r ∈ l, r.ok) (vm : ∀ r ∈ m, r.ok) : res A PrA 296 [.lst t (l.map Typ.c), .lst u (m.map Typ.c), .func 297 []] = some [.bool (eqv l m)] := by
  refine res_of a296 rfl rfl ?_
  simp only [F296]
  simp (disch := omega) only [go_sem]
  refine Br.ofP (fun h => ?_) (fun h => ?_) <;> simp (disch := omega) only [go_sem]
  · refine W.find (l.zip m) (fun q => !eqv q.1 q.2) (fun k => ⟨[(1, .pv (.lst u (m.map Typ.c))), (2, .pv (.func 297 [])), (15, .pv (.lst t (l.map Typ.c))), (16, .pv (.int .i64 l.length)), (17, .pv (.int .i64 k))], ⟨[], [], []⟩⟩) rfl (fun k q hq hk hfd => ?_) (fun hn => ?_)
    · obtain ⟨h1, h2⟩ := zip_get hq
      rw [zip_len (by omega)] at hk
      have hc := r297 q.1 q.2 (vl q.1 (List.mem_of_getElem? h1)) (vm q.2 (List.mem_of_getElem? h2))
      unfold Typ.c at hc
      simp (disch := omega) only [go_sem]
      refine Br.ofP (fun c => ?_) (fun c => (c (by omega)).elim)
      simp (disch := omega) only [go_sem, h1, h2, Typ.c, hc]
      refine Br.of (fun g => ?_) (fun g => ?_) <;> simp (disch := omega) only [go_sem]
      · exact findK.of (by rw [g]; rfl) rfl
      · rw [(hfd (by rw [g]; rfl)).ne]
    · have hz : (l.zip m).length = l.length := zip_len (by omega)
      rw [hz]
      simp (disch := omega) only [go_sem]
      rw [hn.eq (by omega), eqv_same]
  · rw [eqv_ne (fun e => h (by rw [e]))]
theorem r278 (t u : Nat) (l m : List Typ) (hl : l.length ≤ 2 ^ 63 - 1) (hm : m.length ≤ 2 ^ 63 - 1) (vl : ∀ r ∈ l, r.ok) (vm : ∀ r ∈ m, r.ok) : res A PrA 278 [.agg [.lst t (l.map Typ.c)], .agg [.lst u (m.map Typ.c)]] = some [.bool (eqv l m)] := by
  refine res_of a278 rfl rfl ?_
  simp only [F278]
  have hc := r296 t u l m hl hm vl vm
  simp (disch := omega) only [go_sem, hc]
set_option maxHeartbeats 4000000 in
theorem r277 (t u : Nat) (l m : List Typ) (hl : l.length ≤ 2 ^ 63 - 1) (hm : m.length ≤ 2 ^ 63 - 1) (vl : ∀ r ∈ l, r.ok) (vm : ∀ r ∈ m, r.ok) : res A PrA 277 [.agg [.lst t (l.map Typ.c)], .agg [.lst u (m.map Typ.c)]] = some [.bool (eqv l m)] := by
  refine res_of a277 rfl rfl ?_
  simp only [F277]
  simp (disch := omega) only [go_sem]
  refine Br.ofP (fun h => ?_) (fun h => ?_) <;> simp (disch := omega) only [go_sem]
  · refine W.find (l.zip m) (fun q => !eqv q.1 q.2) (fun k => ⟨[(2, .ptr 2 0), (3, .ptr 3 0), (5, .pv (.int .i64 k))], ⟨[(2, [.pv (.lst t (l.map Typ.c))]), (3, [.pv (.lst u (m.map Typ.c))])], [], []⟩⟩) rfl (fun k q hq hk hfd => ?_) (fun hn => ?_)
    · obtain ⟨h1, h2⟩ := zip_get hq
      rw [zip_len (by omega)] at hk
      have hc := r295 q.1 q.2 (vl q.1 (List.mem_of_getElem? h1)) (vm q.2 (List.mem_of_getElem? h2))
      unfold Typ.c at hc
      simp (disch := omega) only [go_sem]
      refine Br.ofP (fun c => ?_) (fun c => (c (by omega)).elim)
      simp (disch := omega) only [go_sem, h1, h2, Typ.c, hc]
      refine Br.of (fun g => ?_) (fun g => ?_) <;> simp (disch := omega) only [go_sem]
      · exact findK.of (by rw [g]; rfl) rfl
      · rw [(hfd (by rw [g]; rfl)).ne]
    · have hz : (l.zip m).length = l.length := zip_len (by omega)
      rw [hz]
      simp (disch := omega) only [go_sem]
      rw [hn.eq (by omega), eqv_same]
  · rw [eqv_ne (fun e => h (by rw [e]))]
set_option maxHeartbeats 1000000 in
/-- SchemaEqual, given that the chapter is awake. -/
theorem r263 (r265 : res A PrA 265 [] = some [.bool true]) (l m : List Typ) (hl : lenOk l) (hm : lenOk m) (ho : ∀ t ∈ l, t.ok) (hp : ∀ t ∈ m, t.ok) : res A PrA 263 [.agg [.lst 0 (l.map Typ.c)], .agg [.lst 0 (m.map Typ.c)]] = some [.bool true] := by
  refine res_of a263 rfl rfl ?_
  simp only [F263]
  unfold lenOk at hl hm
  have h266 := fun u => r266 u l ho
  have h266' := fun u => r266 u m hp
  have e1 := fun t u => r277 t u l m (by omega) (by omega) ho hp
  have e2 := fun t u => r278 t u l m (by omega) (by omega) ho hp
  have e4 := fun t u => r278 t u m l (by omega) (by omega) hp ho
  have e6 := fun t u => r278 t u l l (by omega) (by omega) ho ho
  rw [eqv_comm m l] at e4
  rw [eqv_same] at e6
  generalize few l = f at h266
  generalize few m = g at h266'
  generalize eqv l m = b at e1 e2 e4
  simp (disch := omega) only [go_sem, r265, h266]
  cases f with
  | false => simp (disch := omega) only [go_sem, r265]
  | true =>
    simp (disch := omega) only [go_sem, r265, h266']
    cases g with
    | false => simp (disch := omega) only [go_sem, r265]
    | true => simp (disch := omega) only [go_sem, r265, e1, e2, e4, e6]

end Go.Pv

/-
  Chapter 07: names.
-/
namespace Go.Pv

def letB (x : Int) : Bool := decide (x = 95) || (decide (97 ≤ x) && decide (x ≤ 122)) || (decide (65 ≤ x) && decide (x ≤ 90))
def digB (x : Int) : Bool := decide (48 ≤ x) && decide (x ≤ 57)
theorem res_true {p : Bool} (h : p = true) : (some [PV.bool true] : Option (List PV)) = some [PV.bool p] := by rw [h]
theorem res_false {p : Bool} (h : p = false) : (some [PV.bool false] : Option (List PV)) = some [PV.bool p] := by rw [h]
@[go_sem] theorem r323 (x : Int) : res A PrA 323 [.int .u8 x] = some [.bool (letB x)] := by
  refine res_of a323 rfl rfl ?_
  simp only [F323]
  simp (disch := omega) only [go_sem]
  unfold letB
  repeat' (refine Br.ofP (fun h => ?_) (fun h => ?_) <;> simp (disch := omega) only [go_sem, h])
  all_goals (congr 3; rw [Bool.eq_iff_iff]; simp; omega)
@[go_sem] theorem r324 (x : Int) : res A PrA 324 [.int .u8 x] = some [.bool (digB x)] := by
  refine res_of a324 rfl rfl ?_
  simp only [F324]
  simp (disch := omega) only [go_sem]
  unfold digB
  repeat' (refine Br.ofP (fun h => ?_) (fun h => ?_) <;> simp (disch := omega) only [go_sem, h])
  all_goals (congr 3; rw [Bool.eq_iff_iff]; simp; omega)
@[go_sem] theorem r327 (x : Int) : res A PrA 327 [.int .u8 x] = some [.bool (letB x)] := by
  refine res_of a327 rfl rfl ?_
  simp only [F327]
  simp (disch := omega) only [go_sem]
  unfold letB
  repeat' (refine Br.ofP (fun h => ?_) (fun h => ?_) <;> simp (disch := omega) only [go_sem, h])
  all_goals (congr 3; rw [Bool.eq_iff_iff]; simp; omega)
@[go_sem] theorem r328 (x : Int) : res A PrA 328 [.int .u8 x] = some [.bool (digB x)] := by
  refine res_of a328 rfl rfl ?_
  simp only [F328]
  simp (disch := omega) only [go_sem]
  unfold digB
  repeat' (refine Br.ofP (fun h => ?_) (fun h => ?_) <;> simp (disch := omega) only [go_sem, h])
  all_goals (congr 3; rw [Bool.eq_iff_iff]; simp; omega)
/-- The bytes of a string, as numbers. -/
def bytesI (s : ByteArray) : List Int := s.data.toList.map fun b => (b.toNat : Int)
theorem bytesI_len (s : ByteArray) : (bytesI s).length = s.size := by
  show (s.data.toList.map _).length = s.data.size
  rw [List.length_map, Array.length_toList]
theorem ixs_ok {s : ByteArray} {i : Int} {x : Int} (h0 : 0 ≤ i) (h : (bytesI s)[i.toNat]? = some x) : ixsV (some i) (.pv (.str s)) = some (.pv (.int .u8 x)) := by
  have hlt := (List.getElem?_eq_some_iff.1 h).1
  rw [bytesI_len] at hlt
  have h1 : s[i.toNat]? = some (s[i.toNat]'hlt) := getElem?_pos s i.toNat hlt
  simp only [ixsV, inRange_some h0 (show i < (s.size : Int) by omega), h1]
  simp only [bytesI, List.getElem?_map] at h
  have h2 : s.data.toList[i.toNat]? = some (s[i.toNat]'hlt) := by
    rw [Array.getElem?_toList]
    exact Array.getElem?_eq_getElem hlt
  rw [h2] at h
  simp only [Option.map_some, Option.some.injEq] at h
  rw [h]
def nameL : List Int → Bool
  | [] => false
  | x :: r => decide ((x :: r).length ≤ 24) && letB x && !(x :: r).any fun y => !letB y && !digB y
/-- Is it a name? -/
def isName (s : ByteArray) : Bool := nameL (bytesI s)
theorem r306 (s : ByteArray) (hs : strOk s) : res A PrA 306 [.str s] = some [.bool (isName s)] := by
  refine res_of a306 rfl rfl ?_
  simp only [F306]
  simp (disch := omega) only [go_sem]
  refine Br.ofP (fun e => ?_) (fun e => ?_) <;> simp (disch := omega) only [go_sem, e]
  · rfl
  have hb := bytesI_len s
  unfold strOk at hs
  unfold isName
  generalize hl : bytesI s = l at hb
  cases l with
  | nil => exact (e (by
      obtain ⟨⟨d⟩⟩ := s
      simp only [ByteArray.size, List.size_toArray, List.length_nil] at hb
      rw [List.eq_nil_of_length_eq_zero hb.symm])).elim
  | cons x r =>
    have hx : (bytesI s)[(0 : Int).toNat]? = some x := by rw [hl]; rfl
    have h0 := ixs_ok (Int.le_refl 0) hx
    refine Br.ofP (fun e2 => ?_) (fun e2 => ?_) <;> simp (disch := omega) only [go_sem, e2]
    · refine res_false ?_
      have : ¬ (x :: r).length ≤ 24 := by omega
      simp only [nameL, this, decide_false, Bool.false_and]
    simp (disch := omega) only [go_sem, h0]
    refine Br.of (fun e3 => ?_) (fun e3 => ?_) <;> simp (disch := omega) only [go_sem, e3]
    rotate_left
    · refine res_false ?_
      simp only [nameL, e3, Bool.and_false, Bool.false_and]
    · refine W.find (x :: r) (fun y => !letB y && !digB y) (fun k => ⟨[(0, .pv (.str s)), (18, .pv (.int .i64 s.size)), (19, .pv (.int .i64 k))], ⟨[], [], []⟩⟩) rfl (fun k y hy hk hfd => ?_) (fun hn => ?_)
      · have hy' : (bytesI s)[(k : Int).toNat]? = some y := by rw [hl, Int.toNat_natCast]; exact hy
        have hk' := ixs_ok (Int.natCast_nonneg k) hy'
        simp (disch := omega) only [go_sem]
        refine Br.ofP (fun c => ?_) (fun c => (c (by omega)).elim)
        simp (disch := omega) only [go_sem, hk']
        have done : (!letB y && !digB y) = true → (some [PV.bool false] : Option (List PV)) = some [.bool (nameL (x :: r))] := fun g => by
          refine res_false ?_
          simp only [nameL, (hfd g).any, Bool.not_true, Bool.and_false]
        refine Br.of (fun g => ?_) (fun g => ?_) <;> simp (disch := omega) only [go_sem, hk', g]
        · exact findK.of (by simp [g]) rfl
        · refine Br.of (fun g2 => ?_) (fun g2 => ?_) <;> simp (disch := omega) only [go_sem, g2]
          · exact findK.of (by simp [g2]) rfl
          · exact done (by simp [g, g2])
      · simp (disch := omega) only [go_sem, hb]
        refine res_true ?_
        have h24 : (x :: r).length ≤ 24 := by omega
        simp only [nameL, h24, e3, hn.any, decide_true, Bool.not_false, Bool.and_self]
theorem r310 (s : ByteArray) (hs : strOk s) : res A PrA 310 [.str s] = some [.bool (isName s)] := by
  refine res_of a310 rfl rfl ?_
  simp only [F310]
  simp (disch := omega) only [go_sem]
  refine Br.ofP (fun e => ?_) (fun e => ?_) <;> simp (disch := omega) only [go_sem, e]
  · rfl
  have hb := bytesI_len s
  unfold strOk at hs
  unfold isName
  generalize hl : bytesI s = l at hb
  cases l with
  | nil => exact (e (by
      obtain ⟨⟨d⟩⟩ := s
      simp only [ByteArray.size, List.size_toArray, List.length_nil] at hb
      rw [List.eq_nil_of_length_eq_zero hb.symm])).elim
  | cons x r =>
    have hx : (bytesI s)[(0 : Int).toNat]? = some x := by rw [hl]; rfl
    have h0 := ixs_ok (Int.le_refl 0) hx
    refine Br.ofP (fun e2 => ?_) (fun e2 => ?_) <;> simp (disch := omega) only [go_sem, e2]
    · refine res_false ?_
      have : ¬ (x :: r).length ≤ 24 := by omega
      simp only [nameL, this, decide_false, Bool.false_and]
    simp (disch := omega) only [go_sem, h0]
    refine Br.of (fun e3 => ?_) (fun e3 => ?_) <;> simp (disch := omega) only [go_sem, e3]
    rotate_left
    · refine res_false ?_
      simp only [nameL, e3, Bool.and_false, Bool.false_and]
    · refine W.find (x :: r) (fun y => !letB y && !digB y) (fun k => ⟨[(0, .pv (.str s)), (3, .pv (.int .i64 k))], ⟨[], [], []⟩⟩) rfl (fun k y hy hk hfd => ?_) (fun hn => ?_)
      · have hy' : (bytesI s)[(k : Int).toNat]? = some y := by rw [hl, Int.toNat_natCast]; exact hy
        have hk' := ixs_ok (Int.natCast_nonneg k) hy'
        simp (disch := omega) only [go_sem]
        refine Br.ofP (fun c => ?_) (fun c => (c (by omega)).elim)
        simp (disch := omega) only [go_sem, hk']
        have done : (!letB y && !digB y) = true → (some [PV.bool false] : Option (List PV)) = some [.bool (nameL (x :: r))] := fun g => by
          refine res_false ?_
          simp only [nameL, (hfd g).any, Bool.not_true, Bool.and_false]
        refine Br.of (fun g => ?_) (fun g => ?_) <;> simp (disch := omega) only [go_sem, hk', g]
        · exact findK.of (by simp [g]) rfl
        · refine Br.of (fun g2 => ?_) (fun g2 => ?_) <;> simp (disch := omega) only [go_sem, g2]
          · exact findK.of (by simp [g2]) rfl
          · exact done (by simp [g, g2])
      · simp (disch := omega) only [go_sem, hb]
        refine res_true ?_
        have h24 : (x :: r).length ≤ 24 := by omega
        simp only [nameL, h24, e3, hn.any, decide_true, Bool.not_false, Bool.and_self]
end Go.Pv

/-
  Chapter 07: ids and names of symbols and members.
-/
namespace Go.Pv

def strs (l : List ByteArray) : List (List PV) := l.map fun s => [.str s]
@[go_sem] theorem strs_length (l : List ByteArray) : (strs l).length = l.length := by simp [strs]
@[go_sem] theorem strs_get (l : List ByteArray) (i : Nat) : (strs l)[i]? = l[i]?.map fun s => [.str s] := by simp [strs]
theorem strs_snoc (l : List ByteArray) (x : ByteArray) : strs l ++ [[.str x]] = strs (l ++ [x]) := by simp [strs]
abbrev Nm := Int × ByteArray
def prevI (l : List Nm) (k : Nat) : Int := ((l[k - 1]?).map (·.1)).getD 0
def badNm (l : List Nm) (k : Nat) (p : Nm) : Bool := decide (p.1 < 1) || decide (1000 < p.1) || (decide (0 < k) && decide (p.1 ≤ prevI l k)) || hasS ((l.map (·.2)).take k) p.2 || !isName p.2
/-- What is wrong at a place. -/
def badAt (l : List Nm) (k : Nat) : Bool := match l[k]? with
  | some p => badNm l k p
  | none => false
def idsOk (l : List Nm) : Bool := !(List.range l.length).any (badAt l)
theorem range_get {n k x : Nat} (h : (List.range n)[k]? = some x) : x = k ∧ k < n := by
  obtain ⟨h1, h2⟩ := List.getElem?_eq_some_iff.1 h
  simp at h1 h2
  exact ⟨h2.symm, h1⟩
set_option maxHeartbeats 1000000 in
/-- ids. -/
theorem r325 (t u : Nat) (l : List Nm) (hl : l.length ≤ 2 ^ 63 - 1) (hs : ∀ p ∈ l, strOk p.2) : res A PrA 325 [.lst t (ints (l.map (·.1))), .lst u (strs (l.map (·.2)))] = some [.bool (idsOk l && decide (l.length ≤ 16))] := by
  refine res_of a325 rfl rfl ?_
  simp only [F325]
  simp (disch := omega) only [go_sem]
  refine W.find (List.range l.length) (badAt l) (fun k => ⟨[(0, .pv (.lst t (ints (l.map (·.1))))), (1, .pv (.lst u (strs (l.map (·.2))))), (5, .map 0), (9, .pv (.lst t (ints (l.map (·.1))))), (10, .pv (.int .i64 l.length)), (11, .pv (.int .i64 k))], ⟨[], [], [seenS ((l.map (·.2)).take k)]⟩⟩) ?_ (fun k x hx hk hfd => ?_) (fun hn => ?_)
  · simp [seenS]
  · obtain ⟨rfl, hk⟩ := range_get hx
    have hp := List.getElem?_eq_getElem hk
    generalize l[x] = p at hp
    have h1 : (l.map (·.1))[x]? = some p.1 := by rw [List.getElem?_map, hp]; rfl
    have h2 : (l.map (·.2))[x]? = some p.2 := by rw [List.getElem?_map, hp]; rfl
    have hnm := r306 p.2 (hs p (List.mem_of_getElem? hp))
    have hb : badAt l x = badNm l x p := by simp only [badAt, hp]
    have done : badNm l x p = true → (some [PV.bool false] : Option (List PV)) = some [PV.bool (idsOk l && decide (l.length ≤ 16))] := fun g => by
      refine res_false ?_
      rw [← hb] at g
      simp only [idsOk, (hfd g).any, Bool.not_true, Bool.false_and]
    rw [hb]
    have hins : hasS ((l.map (·.2)).take x) p.2 = false → insS ((l.map (·.2)).take x) p.2 = (l.map (·.2)).take (x + 1) := fun h => by
      rw [insS, h, List.take_add_one, List.getElem?_map, hp]
      rfl
    simp (disch := omega) only [go_sem]
    refine Br.ofP (fun c => ?_) (fun c => (c (by omega)).elim)
    simp (disch := omega) only [go_sem, h1]
    refine Br.ofP (fun c1 => ?_) (fun c1 => ?_) <;> simp (disch := omega) only [go_sem, c1]
    · exact done (by simp [badNm, c1])
    refine Br.ofP (fun c2 => ?_) (fun c2 => ?_) <;> simp (disch := omega) only [go_sem, c2]
    · exact done (by simp [badNm, c2])
    have fin : (decide (0 < x) && decide (p.1 ≤ prevI l x)) = false → badNm l x p = (hasS ((l.map (·.2)).take x) p.2 || !isName p.2) := fun g => by
      have d1 : decide (p.1 < 1) = false := by simp; omega
      have d2 : decide (1000 < p.1) = false := by simp; omega
      simp only [badNm, d1, d2, g, Bool.false_or]
    have hx1 : 0 < x → (l.map (·.1))[x - 1]? = some (prevI l x) := fun h => by
      have hq : l[x - 1]? = some (l[x - 1]'(by omega)) := List.getElem?_eq_getElem (by omega)
      rw [List.getElem?_map, prevI, hq]
      rfl
    have hcast : 0 < x → (x : Int) - 1 = ((x - 1 : Nat) : Int) := fun h => by omega
    refine Br.ofP (fun c3 => ?_) (fun c3 => ?_) <;> simp (disch := omega) only [go_sem, c3]
    · have hq : l[x - 1]? = some (l[x - 1]'(by omega)) := List.getElem?_eq_getElem (by omega)
      have hpv : (l[x - 1]'(by omega)).1 = prevI l x := by rw [prevI, hq]; rfl
      simp (disch := omega) only [go_sem, hcast (by omega), hq, hpv]
      refine Br.ofP (fun c4 => ?_) (fun c4 => ?_) <;> simp (disch := omega) only [go_sem, c4, hp]
      · exact done (by simp [badNm, c4, show 0 < x by omega])
      refine Br.of (fun c5 => ?_) (fun c5 => ?_) <;> simp (disch := omega) only [go_sem, c5, hnm, hp]
      · exact done (by simp [badNm, c5])
      refine Br.of (fun c6 => ?_) (fun c6 => ?_) <;> simp (disch := omega) only [go_sem, c6, hp]
      · refine findK.of ?_ ?_
        · rw [fin (by simp; omega), c5, c6]
          rfl
        · rw [hins c5]
          rfl
      · exact done (by simp [badNm, c6])
    · simp (disch := omega) only [go_sem, hp]
      refine Br.of (fun c5 => ?_) (fun c5 => ?_) <;> simp (disch := omega) only [go_sem, c5, hnm, hp]
      · exact done (by simp [badNm, c5])
      refine Br.of (fun c6 => ?_) (fun c6 => ?_) <;> simp (disch := omega) only [go_sem, c6, hp]
      · refine findK.of ?_ ?_
        · rw [fin (by simp; omega), c5, c6]
          rfl
        · rw [hins c5]
          rfl
      · exact done (by simp [badNm, c6])
  · rw [List.length_range]
    simp (disch := omega) only [go_sem]
    simp [idsOk, hn.any]
    omega
end Go.Pv

/-
  Chapter 07: symbols.
-/
namespace Go.Pv

@[go_sem] theorem app_tls (h : Heap) (x : ByteArray) : appendV h 1 (.tl []) (.tl [[.str x]]) = some (.own h.ar.length 0 0 1, { push := [⟨0, 1, .inl (strs [x])⟩], base := h.ar.length }) := app_tlr h 1 [] [.str x] rfl (by simp) (by simp)
@[go_sem] theorem app_owns (h : Heap) (id ver off len : Nat) (x : ByteArray) : appendV h 1 (.own id ver off len) (.tl [[.str x]]) = (ownArr h id ver).bind (apR id ver off len 1 [.str x]) := app_ownr h id ver off len 1 [.str x] rfl
@[go_sem] theorem apR_str {id ver len : Nat} {x : ByteArray} {l : List ByteArray} (h1 : len = l.length) (h2 : l.length + 1 ≤ 2147483648) : apR id ver 0 len 1 [.str x] ⟨ver, 1, .inl (strs l)⟩ = some (.own id (ver + 1) 0 (len + 1), { ar := some (id, ⟨ver + 1, 1, .inl (strs (l ++ [x]))⟩) }) := by
  rw [apR_ok (by rw [strs_length]; exact h1) (by rw [strs_length]; exact h2), strs_snoc]
/-- Two lists that grow side by side. -/
def twV (i k : Nat) : V := match k with
  | 0 => .tl []
  | j + 1 => .own i j 0 (j + 1)
def twA (A B : List (List PV)) : List Arr := match A.length with
  | 0 => []
  | j + 1 => [⟨j, 1, .inl A⟩, ⟨j, 1, .inl B⟩]
def Sym.nm (s : Sym) : Nm := (s.id, s.name)
def symsOk (l : List Sym) : Bool := decide (0 < l.length) && (idsOk (l.map Sym.nm) && decide (l.length ≤ 16))
set_option maxHeartbeats 1000000 in
/-- symbols. -/
theorem r307 (t : Nat) (l : List Sym) (hl : l.length ≤ 2147483648) (hs : ∀ p ∈ l, strOk p.name) : res A PrA 307 [.lst t (l.map Sym.c)] = some [.bool (symsOk l)] := by
  refine res_of a307 rfl rfl ?_
  simp only [F307]
  simp (disch := omega) only [go_sem]
  refine W.upto l.length (fun k => ⟨[(0, .pv (.lst t (l.map Sym.c))), (3, twV 0 k), (4, twV 1 k), (7, .pv (.lst t (l.map Sym.c))), (8, .pv (.int .i64 l.length)), (9, .pv (.int .i64 k))], ⟨[], twA (ints ((l.take k).map (·.id))) (strs ((l.take k).map (·.name))), []⟩⟩) (fun _ => True) rfl trivial (fun k hk _ => ?_)
  rcases Nat.lt_or_ge k l.length with hlt | hge
  · have hp := List.getElem?_eq_getElem hlt
    generalize l[k] = p at hp
    have t1 : (l.take (k + 1)).map (·.id) = (l.take k).map (·.id) ++ [p.id] := by rw [List.take_add_one, hp, List.map_append]; rfl
    have t2 : (l.take (k + 1)).map (·.name) = (l.take k).map (·.name) ++ [p.name] := by rw [List.take_add_one, hp, List.map_append]; rfl
    cases k with
    | zero =>
      simp only [twV, twA, List.take_zero, List.map_nil, ints_nil, List.length_nil]
      simp (disch := omega) only [go_sem]
      refine Br.ofP (fun c => ?_) (fun c => (c (by omega)).elim)
      simp (disch := omega) only [go_sem, hp, Sym.c]
      refine .of (by omega) ?_ trivial
      rw [t1, t2]
      rfl
    | succ j =>
      have l1 : ((l.take (j + 1)).map (·.id)).length = j + 1 := by simp; omega
      have l2 : ((l.take (j + 1)).map (·.name)).length = j + 1 := by simp; omega
      generalize (l.take (j + 1)).map (·.id) = A at t1 l1
      generalize (l.take (j + 1)).map (·.name) = B at t2 l2
      simp only [twV, twA, ints_length, l1]
      simp (disch := omega) only [go_sem]
      refine Br.ofP (fun c => ?_) (fun c => (c (by omega)).elim)
      simp (disch := omega) only [go_sem, hp, Sym.c]
      have l3 : ((l.take (j + 1 + 1)).map (·.id)).length = j + 1 + 1 := by rw [t1]; simp [l1]
      refine .of (by omega) ?_ trivial
      simp only [twV, twA, ints_length, l3]
      rw [t1, t2]
      rfl
  · obtain rfl : k = l.length := by omega
    rw [List.take_length]
    have nm1 : l.map (·.id) = (l.map Sym.nm).map (·.1) := by rw [List.map_map]; rfl
    have nm2 : l.map (·.name) = (l.map Sym.nm).map (·.2) := by rw [List.map_map]; rfl
    have h325 := fun t u => r325 t u (l.map Sym.nm) (by simp; omega) (fun p hp => by
      obtain ⟨q, hq, rfl⟩ := List.mem_map.1 hp
      exact hs q hq)
    rw [nm1, nm2]
    rw [List.length_map] at h325
    unfold symsOk
    cases hn : l.length with
    | zero =>
      have h0 : ¬ (0 : Int) < l.length := by omega
      simp only [twV, twA, hn, ints_length, List.length_map]
      simp (disch := omega) only [go_sem, h0]
    | succ j =>
      have l1 : ((l.map Sym.nm).map (·.1)).length = j + 1 := by simp [hn]
      have l2 : ((l.map Sym.nm).map (·.2)).length = j + 1 := by simp [hn]
      rw [hn] at h325
      generalize (l.map Sym.nm).map (·.1) = A at l1 h325
      generalize (l.map Sym.nm).map (·.2) = B at l2 h325
      simp only [twV, twA, ints_length, l1]
      simp (disch := omega) only [go_sem]
      have d1 : A.take (j + 1) = A := List.take_of_length_le (by omega)
      have d2 : (strs B).take (j + 1) = strs B := List.take_of_length_le (by rw [strs_length]; omega)
      refine Br.ofP (fun c => ?_) (fun c => (c (by omega)).elim)
      simp (disch := omega) only [go_sem, c, d1, d2, h325]
      have h0 : 0 < j + 1 := by omega
      simp [h0]
end Go.Pv

/-
  Chapter 07: members.
-/
namespace Go.Pv

def zeroVal : Val := ⟨0, false, 0, ⟨#[]⟩, 0, [], [], []⟩
theorem zero_ok : ∃ n, VOk n zeroVal.c := by
  refine ⟨1, zeroVal, rfl, ⟨?_, ?_, ?_, ?_⟩, ⟨?_, ?_, ?_⟩, fun r hr => (List.not_mem_nil hr).elim, fun r hr => (List.not_mem_nil hr).elim, fun r hr => (List.not_mem_nil hr).elim⟩ <;> simp [zeroVal, I64, strOk, lenOk]
  exact Nat.zero_le _
theorem r326 {v : Val} (h : ∃ n, VOk n v.c) : res A PrA 326 [.agg v.c] = some [.bool (eqv v zeroVal)] := by
  refine res_of a326 rfl rfl ?_
  simp only [F326]
  have hc := r320v h zero_ok
  rw [eqv_val] at hc
  unfold zeroVal Val.c at *
  simp only [List.map_nil] at hc
  simp (disch := omega) only [go_sem, hc]
/-- What is wrong with a member. -/
noncomputable def memBad (rec : Bool) (m : Mem) : Bool := (!rec && (m.crit || m.has)) || (m.crit && m.has) || (!m.has && !eqv m.dflt zeroVal)
def Mem.nm (s : Mem) : Nm := (s.id, s.name)
noncomputable def memsOk (rec : Bool) (l : List Mem) : Bool := !l.any (memBad rec) && ((rec || decide (0 < l.length)) && (idsOk (l.map Mem.nm) && decide (l.length ≤ 16)))
theorem fin_false {p : Bool} (h : p = false) : (some [PV.bool false] : Option (List PV)) = some [PV.bool p] := by rw [h]
set_option maxHeartbeats 4000000 in
/-- members. -/
theorem r308 (t : Typ) (ht : t.ok) (hl : t.mems.length ≤ 2147483648) (hk : t.kind = 5 ∨ t.kind = 6) : res A PrA 308 [.agg t.c] = some [.bool (memsOk (decide (t.kind = 5)) t.mems)] := by
  obtain ⟨_, ⟨_, _⟩, _, ho⟩ := ht
  obtain ⟨a1, a2, a3, a4, a5, a6, l, a8, a9, a10⟩ := t
  unfold Typ.c
  dsimp only at *
  refine res_of a308 rfl rfl ?_
  simp only [F308]
  simp (disch := omega) only [go_sem]
  refine W.find l (memBad (decide (a1 = 5))) (fun k => ⟨[(1, .ptr 1 0), (3, twV 0 k), (4, twV 1 k), (8, .pv (.lst 0 (l.map Mem.c))), (9, .pv (.int .i64 l.length)), (10, .pv (.int .i64 k))], ⟨[(1, [.pv (.int .i64 a1), .pv (.str a2), .pv (.int .i64 a3), .pv (.int .i64 a4), .pv (.int .i64 a5), .pv (.lst 0 (a6.map Sym.c)), .pv (.lst 0 (l.map Mem.c)), .pv (.int .i64 a8), .pv (.int .i64 a9), .pv (.bool a10)])], twA (ints ((l.take k).map (·.id))) (strs ((l.take k).map (·.name))), []⟩⟩) rfl (fun k p hp hlt hfd => ?_) (fun hn => ?_)
  · have t1 : (l.take (k + 1)).map (·.id) = (l.take k).map (·.id) ++ [p.id] := by rw [List.take_add_one, hp, List.map_append]; rfl
    have t2 : (l.take (k + 1)).map (·.name) = (l.take k).map (·.name) ++ [p.name] := by rw [List.take_add_one, hp, List.map_append]; rfl
    obtain ⟨_, _, _, hd⟩ := ho p (List.mem_of_getElem? hp)
    have hz := r326 hd
    have done : memBad (decide (a1 = 5)) p = true → (some [PV.bool false] : Option (List PV)) = some [PV.bool (memsOk (decide (a1 = 5)) l)] := fun g => by
      refine fin_false ?_
      simp only [memsOk, (hfd g).any, Bool.not_true, Bool.false_and]
    have hz0 : eqv p.dflt zeroVal = eqv p.dflt zeroVal := rfl
    generalize hzz : eqv p.dflt zeroVal = z at hz
    unfold Val.c at hz
    have hbad : memBad (decide (a1 = 5)) p = ((!decide (a1 = 5) && (p.crit || p.has)) || (p.crit && p.has) || (!p.has && !z)) := by rw [memBad, hzz]
    rw [hbad] at done ⊢
    cases k with
    | zero =>
      simp only [twV, twA, List.take_zero, List.map_nil, ints_nil, List.length_nil]
      simp (disch := omega) only [go_sem]
      refine Br.ofP (fun c => ?_) (fun c => (c (by omega)).elim)
      simp (disch := omega) only [go_sem, hp, Mem.c]
      repeat' (first
        | (refine Br.ofP (fun h => ?_) (fun h => ?_) <;> simp (disch := omega) only [go_sem, h, hz])
        | (refine Br.of (fun h => ?_) (fun h => ?_) <;> simp (disch := omega) only [go_sem, h, hz]))
      all_goals first
        | (refine done ?_; simp_all; done)
        | (refine findK.of (by simp_all; done) ?_
           rw [t1, t2]
           first
             | rfl
             | (rw [show a1 = 6 by omega]; rfl))
    | succ j =>
      have l1 : ((l.take (j + 1)).map (·.id)).length = j + 1 := by simp; omega
      have l2 : ((l.take (j + 1)).map (·.name)).length = j + 1 := by simp; omega
      have l3 : ((l.take (j + 1 + 1)).map (·.id)).length = j + 1 + 1 := by rw [t1]; simp; omega
      generalize (l.take (j + 1)).map (·.id) = A at t1 l1
      generalize (l.take (j + 1)).map (·.name) = B at t2 l2
      simp only [twV, twA, ints_length, l1]
      simp (disch := omega) only [go_sem]
      refine Br.ofP (fun c => ?_) (fun c => (c (by omega)).elim)
      simp (disch := omega) only [go_sem, hp, Mem.c]
      repeat' (first
        | (refine Br.ofP (fun h => ?_) (fun h => ?_) <;> simp (disch := omega) only [go_sem, h, hz])
        | (refine Br.of (fun h => ?_) (fun h => ?_) <;> simp (disch := omega) only [go_sem, h, hz]))
      all_goals first
        | (refine done ?_; simp_all; done)
        | (refine findK.of (by simp_all; done) ?_
           simp only [twV, twA, ints_length, l3]
           rw [t1, t2]
           first
             | rfl
             | (rw [show a1 = 6 by omega]; rfl))
  · rw [List.take_length]
    have nm1 : l.map (·.id) = (l.map Mem.nm).map (·.1) := by rw [List.map_map]; rfl
    have nm2 : l.map (·.name) = (l.map Mem.nm).map (·.2) := by rw [List.map_map]; rfl
    have h325 := fun t u => r325 t u (l.map Mem.nm) (by simp; omega) (fun p hp => by
      obtain ⟨q, hq, rfl⟩ := List.mem_map.1 hp
      exact (ho q hq).2.1)
    rw [nm1, nm2]
    rw [List.length_map] at h325
    unfold memsOk
    rw [hn.any]
    cases hn : l.length with
    | zero =>
      have hnil : l = [] := List.eq_nil_of_length_eq_zero hn
      subst hnil
      simp only [List.map_nil, ints, strs] at h325
      simp only [twV, twA, hn, ints_length, List.length_map]
      simp (disch := omega) only [go_sem]
      refine Br.ofP (fun c => ?_) (fun c => ?_) <;> simp (disch := omega) only [go_sem, c, h325]
      refine Br.ofP (fun c2 => absurd c2 (by omega)) (fun c2 => ?_)
      simp (disch := omega) only [go_sem, c2]
      simp [c]
    | succ j =>
      have l1 : ((l.map Mem.nm).map (·.1)).length = j + 1 := by simp [hn]
      have l2 : ((l.map Mem.nm).map (·.2)).length = j + 1 := by simp [hn]
      rw [hn] at h325
      generalize (l.map Mem.nm).map (·.1) = A at l1 h325
      generalize (l.map Mem.nm).map (·.2) = B at l2 h325
      simp only [twV, twA, ints_length, l1]
      simp (disch := omega) only [go_sem]
      have d1 : A.take (j + 1) = A := List.take_of_length_le (by omega)
      have d2 : (strs B).take (j + 1) = strs B := List.take_of_length_le (by rw [strs_length]; omega)
      refine Br.ofP (fun c => ?_) (fun c => ?_) <;> simp (disch := omega) only [go_sem, c, d1, d2, h325]
      refine Br.ofP (fun c2 => ?_) (fun c2 => absurd (show (0 : Int) < ((j + 1 : Nat) : Int) by omega) c2)
      simp (disch := omega) only [go_sem, c, c2, d1, d2, h325]
      simp
end Go.Pv

/-
  Chapter 07: the document's symbols and members.
-/
namespace Go.Pv

def okId (b n : Int) : Bool := decide (b < n) && (decide (1 ≤ n) && decide (n ≤ 1000))
theorem r329 (b n : Int) : res A PrA 329 [.int .i64 b, .int .i64 n] = some [.bool (okId b n)] := by
  refine res_of a329 rfl rfl ?_
  simp only [F329]
  simp (disch := omega) only [go_sem]
  unfold okId
  repeat' (refine Br.ofP (fun h => ?_) (fun h => ?_) <;> simp (disch := omega) only [go_sem, h])
  all_goals simp [*]
def befI (l : List Nm) (k : Nat) : Int := match k with
  | 0 => 0
  | _ + 1 => prevI l k
theorem bad_of (l : List Nm) (k : Nat) (p : Nm) : badNm l k p = (!okId (befI l k) p.1 || !isName p.2 || hasS ((l.map (·.2)).take k) p.2) := by
  have h : (decide (p.1 < 1) || decide (1000 < p.1) || (decide (0 < k) && decide (p.1 ≤ prevI l k))) = !okId (befI l k) p.1 := by
    unfold okId
    rw [Bool.eq_iff_iff]
    cases k with
    | zero =>
      rw [Bool.not_eq_true', Bool.and_eq_false_iff, Bool.and_eq_false_iff, decide_eq_false_iff_not, decide_eq_false_iff_not, decide_eq_false_iff_not]
      simp only [befI, Bool.or_eq_true, Bool.and_eq_true, decide_eq_true_eq]
      omega
    | succ j =>
      rw [Bool.not_eq_true', Bool.and_eq_false_iff, Bool.and_eq_false_iff, decide_eq_false_iff_not, decide_eq_false_iff_not, decide_eq_false_iff_not]
      simp only [befI, Bool.or_eq_true, Bool.and_eq_true, decide_eq_true_eq]
      omega
  unfold badNm
  rw [h]
  generalize (!okId (befI l k) p.1) = x
  generalize hasS _ _ = y
  generalize isName _ = z
  cases x <;> cases y <;> cases z <;> rfl
theorem idsOk_no {l : List Nm} {k : Nat} {p : Nm} (hp : l[k]? = some p) (h : badNm l k p = true) : idsOk l = false := by
  have hk := (List.getElem?_eq_some_iff.1 hp).1
  unfold idsOk
  rw [Bool.not_eq_false', List.any_eq_true]
  exact ⟨k, List.mem_range.2 hk, by simp only [badAt, hp]; exact h⟩
theorem has_any {α : Type} (nm : α → Nm) (l : List α) (k : Nat) (x : ByteArray) : hasS (((l.map nm).map (·.2)).take k) x = (l.take k).any fun q => decide ((nm q).2 = x) := by
  unfold hasS
  rw [← List.map_take, ← List.map_take, List.any_map, List.any_map]
  rfl
theorem bef_next {l : List Nm} {k : Nat} {p : Nm} (hp : l[k]? = some p) : befI l (k + 1) = p.1 := by
  show prevI l (k + 1) = p.1
  unfold prevI
  rw [Nat.add_sub_cancel, hp]
  rfl
set_option maxHeartbeats 1000000 in
/-- symbols. -/
theorem r311 (t : Nat) (l : List Sym) (hl : l.length ≤ 2147483648) (hs : ∀ p ∈ l, strOk p.name) : res A PrA 311 [.lst t (l.map Sym.c)] = some [.bool (symsOk l)] := by
  refine res_of a311 rfl rfl ?_
  simp only [F311]
  simp (disch := omega) only [go_sem]
  refine W.find (List.range l.length) (badAt (l.map Sym.nm)) (fun k => ⟨[(0, .pv (.lst t (l.map Sym.c))), (3, .pv (.int .i64 (befI (l.map Sym.nm) k))), (4, .pv (.int .i64 k))], ⟨[], [], []⟩⟩) rfl (fun k x hx hk hfd => ?_) (fun hn => ?_)
  · obtain ⟨rfl, hk⟩ := range_get hx
    have hp := List.getElem?_eq_getElem hk
    generalize l[x] = p at hp
    have hq : (l.map Sym.nm)[x]? = some p.nm := by rw [List.getElem?_map, hp]; rfl
    have hnm := r310 p.name (hs p (List.mem_of_getElem? hp))
    have hid := r329 (befI (l.map Sym.nm) x) p.id
    have hb : badAt (l.map Sym.nm) x = (!okId (befI (l.map Sym.nm) x) p.id || !isName p.name || (l.take x).any fun q => decide (q.name = p.name)) := by
      simp only [badAt, hq]
      rw [bad_of, has_any]
      rfl
    have done : badAt (l.map Sym.nm) x = true → (some [PV.bool false] : Option (List PV)) = some [PV.bool (symsOk l)] := fun g => by
      refine fin_false ?_
      simp only [badAt, hq] at g
      simp only [symsOk, idsOk_no hq g, Bool.false_and, Bool.and_false]
    rw [hb] at done ⊢
    simp (disch := omega) only [go_sem]
    refine Br.ofP (fun c => ?_) (fun c => (c (by omega)).elim)
    simp (disch := omega) only [go_sem, hp, Sym.c, hid]
    refine Br.of (fun c1 => ?_) (fun c1 => ?_) <;> simp (disch := omega) only [go_sem, c1, hp, Sym.c, hnm]
    rotate_left
    · exact done (by simp [c1])
    refine Br.of (fun c2 => ?_) (fun c2 => ?_) <;> simp (disch := omega) only [go_sem, c2]
    rotate_left
    · exact done (by simp [c2])
    refine W.find (l.take x) (fun q => decide (q.name = p.name)) (fun j => ⟨[(0, .pv (.lst t (l.map Sym.c))), (4, .pv (.int .i64 x)), (5, .pv (.int .i64 j))], ⟨[], [], []⟩⟩) rfl (fun j q hj hjl hfd2 => ?_) (fun hn => ?_)
    · have hjl' : j < x ∧ j < l.length := by rw [List.length_take] at hjl; omega
      have hj' : l[j]? = some q := by
        rw [List.getElem?_take, if_pos hjl'.1] at hj
        exact hj
      simp (disch := omega) only [go_sem]
      refine Br.ofP (fun c => ?_) (fun c => (c (by omega)).elim)
      simp (disch := omega) only [go_sem, hp, hj', Sym.c]
      refine Br.ofP (fun c3 => ?_) (fun c3 => ?_) <;> simp (disch := omega) only [go_sem, c3]
      · exact done (by rw [(hfd2 (by simp [c3])).any, Bool.or_true])
      · exact findK.of (by simp [c3]) rfl
    · have hlx : (l.take x).length = x := by rw [List.length_take]; omega
      rw [hlx]
      simp (disch := omega) only [go_sem, hp, Sym.c]
      refine findK.of ?_ ?_
      · rw [hn.any, c1, c2]
        rfl
      · rw [bef_next hq]
        rfl
  · rw [List.length_range]
    simp (disch := omega) only [go_sem]
    have hi : idsOk (l.map Sym.nm) = true := by
      unfold idsOk
      rw [List.length_map, hn.any]
      rfl
    refine Br.ofP (fun c3 => ?_) (fun c3 => ?_) <;> simp (disch := omega) only [go_sem, c3]
    · have h0 : 0 < l.length := by omega
      simp [symsOk, hi, h0]
      omega
    · have h0 : ¬ 0 < l.length := by omega
      simp [symsOk, h0]
noncomputable def badMem (rec : Bool) (l : List Mem) (k : Nat) : Bool := match l[k]? with
  | some m => memBad rec m
  | none => false
set_option maxHeartbeats 4000000 in
/-- members. -/
theorem r312 (t : Nat) (l : List Mem) (rec : Bool) (hl : l.length ≤ 2147483648) (ho : ∀ p ∈ l, p.ok) : res A PrA 312 [.lst t (l.map Mem.c), .bool rec] = some [.bool (memsOk rec l)] := by
  refine res_of a312 rfl rfl ?_
  simp only [F312]
  simp (disch := omega) only [go_sem]
  refine W.find (List.range l.length) (fun k => badAt (l.map Mem.nm) k || badMem rec l k) (fun k => ⟨[(0, .pv (.lst t (l.map Mem.c))), (1, .pv (.bool rec)), (5, .pv (.int .i64 (befI (l.map Mem.nm) k))), (6, .pv (.int .i64 k))], ⟨[], [], []⟩⟩) rfl (fun k x hx hk hfd => ?_) (fun hn => ?_)
  · obtain ⟨rfl, hk⟩ := range_get hx
    have hp := List.getElem?_eq_getElem hk
    generalize l[x] = p at hp
    clear hfd
    have hq : (l.map Mem.nm)[x]? = some p.nm := by rw [List.getElem?_map, hp]; rfl
    obtain ⟨_, hsn, _, hd⟩ := ho p (List.mem_of_getElem? hp)
    have hnm := r310 p.name hsn
    have hid := r329 (befI (l.map Mem.nm) x) p.id
    have hz := r330v hd zero_ok
    rw [eqv_val] at hz
    have hb : badAt (l.map Mem.nm) x = (!okId (befI (l.map Mem.nm) x) p.id || !isName p.name || (l.take x).any fun q => decide (q.name = p.name)) := by
      simp only [badAt, hq]
      rw [bad_of, has_any]
      rfl
    have done : (badAt (l.map Mem.nm) x || memBad rec p) = true → (some [PV.bool false] : Option (List PV)) = some [PV.bool (memsOk rec l)] := fun g => by
      refine fin_false ?_
      rcases Bool.or_eq_true _ _ |>.mp g with g | g
      · simp only [badAt, hq] at g
        simp only [memsOk, idsOk_no hq g, Bool.false_and, Bool.and_false]
      · have : l.any (memBad rec) = true := List.any_eq_true.2 ⟨p, List.mem_of_getElem? hp, g⟩
        simp only [memsOk, this, Bool.not_true, Bool.false_and]
    have hbm : badMem rec l x = memBad rec p := by simp only [badMem, hp]
    rw [hbm]
    rw [hb] at done ⊢
    unfold memBad at done ⊢
    generalize eqv p.dflt zeroVal = z at hz done ⊢
    unfold zeroVal Val.c at hz
    simp only [List.map_nil] at hz
    simp (disch := omega) only [go_sem]
    refine Br.ofP (fun c => ?_) (fun c => (c (by omega)).elim)
    simp (disch := omega) only [go_sem, hp, Mem.c, hid]
    refine Br.of (fun c1 => ?_) (fun c1 => ?_) <;> simp (disch := omega) only [go_sem, c1, hnm]
    rotate_left
    · exact done (by simp [c1])
    refine Br.of (fun c2 => ?_) (fun c2 => ?_) <;> simp (disch := omega) only [go_sem, c2]
    rotate_left
    · exact done (by simp [c2])
    repeat' (refine Br.of (fun h => ?_) (fun h => ?_) <;> simp (disch := omega) only [go_sem, h, hz])
    all_goals subst_vars
    all_goals first
      | (refine done ?_
         simp [*]
         done)
      | skip
    all_goals
      refine W.find (l.take x) (fun q => decide (q.name = p.name)) ((fun (b : V) (cs : List V) => fun j => ⟨[(0, .pv (.lst t (l.map Mem.c))), (1, b), (6, .pv (.int .i64 x)), (7, .ptr 7 0), (8, .pv (.int .i64 (j : Nat)))], ⟨[(7, cs)], [], []⟩⟩) _ _) rfl (fun j q hj hjl hfd2 => ?_) (fun hn => ?_)
      · have hjl' : j < x ∧ j < l.length := by rw [List.length_take] at hjl; omega
        have hj' : l[j]? = some q := by
          rw [List.getElem?_take, if_pos hjl'.1] at hj
          exact hj
        simp (disch := omega) only [go_sem]
        refine Br.ofP (fun c => ?_) (fun c => (c (by omega)).elim)
        simp (disch := omega) only [go_sem, hp, hj', Mem.c]
        refine Br.ofP (fun c3 => ?_) (fun c3 => ?_) <;> simp (disch := omega) only [go_sem, c3]
        · exact done (by rw [(hfd2 (by simp [c3])).any]; simp)
        · exact findK.of (by simp [c3]) rfl
      · have hlx : (l.take x).length = x := by rw [List.length_take]; omega
        rw [hlx]
        simp (disch := omega) only [go_sem]
        refine findK.of ?_ ?_
        · rw [hn.any, c1, c2]
          simp [*]
        · rw [bef_next hq]
          rfl
  · rw [List.length_range]
    simp (disch := omega) only [go_sem]
    have ha := hn.any
    rw [List.any_eq_false] at ha
    have hi : idsOk (l.map Mem.nm) = true := by
      unfold idsOk
      rw [Bool.not_eq_true', List.any_eq_false]
      intro k hk
      rw [List.length_map] at hk
      have := ha k hk
      simp only [Bool.or_eq_true, not_or] at this
      exact this.1
    have hb : l.any (memBad rec) = false := by
      rw [List.any_eq_false]
      intro m hm
      obtain ⟨k, hk⟩ := List.mem_iff_getElem?.1 hm
      have := ha k (List.mem_range.2 (List.getElem?_eq_some_iff.1 hk).1)
      simp only [Bool.or_eq_true, not_or, badMem, hk] at this
      simpa using this.2
    refine Br.ofP (fun c3 => ?_) (fun c3 => ?_) <;> simp (disch := omega) only [go_sem, c3]
    · refine Br.of (fun c4 => ?_) (fun c4 => ?_) <;> simp (disch := omega) only [go_sem, c4]
      · subst c4
        have n3 : l.length ≤ 16 := by omega
        simp only [memsOk, hi, hb, n3]
        simp
      · subst c4
        have n3 : l.length ≤ 16 := by omega
        simp only [memsOk, hi, hb, n3]
        congr 3
        rw [Bool.eq_iff_iff]
        simp
        omega
    · have n3 : ¬ l.length ≤ 16 := by omega
      simp only [memsOk, hi, hb, n3]
      simp
end Go.Pv

/-
  Chapter 07: the form of a type, in two ways.
-/
namespace Go.Pv

def zeroTyp : Typ := ⟨0, ⟨#[]⟩, 0, 0, 0, [], [], 0, 0, false⟩
/-- The fields that belong to a type's kind. -/
def plainTy (t : Typ) : Typ :=
  if t.kind = 1 then { zeroTyp with kind := 1 }
  else if t.kind = 2 then { zeroTyp with kind := 2, low := t.low, high := t.high }
  else if t.kind = 3 then { zeroTyp with kind := 3, max := t.max }
  else if t.kind = 4 then { zeroTyp with kind := 4, name := t.name, syms := t.syms, opn := t.opn }
  else if t.kind = 5 then { zeroTyp with kind := 5, name := t.name, mems := t.mems }
  else if t.kind = 6 then { zeroTyp with kind := 6, name := t.name, mems := t.mems, opn := t.opn }
  else if t.kind = 7 then { zeroTyp with kind := 7, max := t.max, elem := t.elem }
  else if t.kind = 8 then { zeroTyp with kind := 8, max := t.max, key := t.key, elem := t.elem }
  else { zeroTyp with kind := t.kind, elem := t.elem }
theorem kind_cases (k : Int) : k = 1 ∨ k = 2 ∨ k = 3 ∨ k = 4 ∨ k = 5 ∨ k = 6 ∨ k = 7 ∨ k = 8 ∨ (k ≠ 1 ∧ k ≠ 2 ∧ k ≠ 3 ∧ k ≠ 4 ∧ k ≠ 5 ∧ k ≠ 6 ∧ k ≠ 7 ∧ k ≠ 8) := by omega
theorem zeroTyp_ok : zeroTyp.ok := by
  refine ⟨?_, ?_, fun s hs => (List.not_mem_nil hs).elim, fun s hs => (List.not_mem_nil hs).elim⟩ <;> simp [zeroTyp, I64, strOk, lenOk]
  exact Nat.zero_le _
theorem plainT_ok {t : Typ} (h : t.ok) : (plainTy t).ok := by
  obtain ⟨⟨h0, h1, h2, h3, h4, h5, h6⟩, ⟨h7, h8⟩, h9, h10⟩ := h
  obtain ⟨⟨z0, z1, z2, z3, z4, z5, z6⟩, ⟨z7, z8⟩, z9, z10⟩ := zeroTyp_ok
  have kk : I64 1 ∧ I64 2 ∧ I64 3 ∧ I64 4 ∧ I64 5 ∧ I64 6 ∧ I64 7 ∧ I64 8 := by simp [I64]
  obtain ⟨k1, k2, k3, k4, k5, k6, k7, k8⟩ := kk
  unfold plainTy
  repeat' split
  all_goals exact ⟨⟨by assumption, by assumption, by assumption, by assumption, by assumption, by assumption, by assumption⟩, ⟨by assumption, by assumption⟩, by assumption, by assumption⟩
set_option maxHeartbeats 4000000 in
theorem r309 (t : Typ) : res A PrA 309 [.agg t.c] = some [.agg (plainTy t).c] := by
  obtain ⟨k, a2, a3, a4, a5, a6, a7, a8, a9, a10⟩ := t
  refine res_of a309 rfl rfl ?_
  simp only [F309]
  unfold plainTy Typ.c zeroTyp
  dsimp only
  rcases kind_cases k with rfl | rfl | rfl | rfl | rfl | rfl | rfl | rfl | ⟨n1, n2, n3, n4, n5, n6, n7, n8⟩
  all_goals simp (disch := omega) only [go_sem, *]
  all_goals simp
end Go.Pv

/-
  Chapter 07: is a type right, apart from the indices of types?
-/
namespace Go.Pv

noncomputable def kindOk (t : Typ) : Bool :=
  if t.kind = 2 then decide (t.low ≤ t.high)
  else if t.kind = 3 then decide (0 ≤ t.max) && decide (t.max ≤ 200)
  else if t.kind = 4 then symsOk t.syms
  else if t.kind = 5 then memsOk true t.mems
  else if t.kind = 6 then memsOk false t.mems
  else if t.kind = 7 then decide (0 ≤ t.max) && decide (t.max ≤ 50)
  else if t.kind = 8 then decide (0 ≤ t.max) && decide (t.max ≤ 50)
  else true
noncomputable def ownOk (t : Typ) : Bool := (decide (1 ≤ t.kind) && decide (t.kind ≤ 9)) && (eqv t (plainTy t) && ((!(decide (4 ≤ t.kind) && decide (t.kind ≤ 6)) || isName t.name) && kindOk t))
/-- Lists are not long. -/
structure Typ.short (t : Typ) : Prop where
  syms : t.syms.length ≤ 1048576
  mems : t.mems.length ≤ 1048576
set_option maxHeartbeats 4000000 in
/-- own. -/
theorem r285 (t : Typ) (ht : t.ok) (hs : t.short) : res A PrA 285 [.agg t.c] = some [.bool (ownOk t)] := by
  have h309 := r309 t
  have h295 := r295 t (plainTy t) ht (plainT_ok ht)
  obtain ⟨⟨o0, o1, _⟩, ⟨_, _⟩, oS, oM⟩ := ht
  have h310 := r310 t.name o1
  have h286 := r286 t.kind
  have h311 := fun u => r311 u t.syms (by have := hs.syms; omega) (fun p hp => (oS p hp).2)
  have h312 := fun u b => r312 u t.mems b (by have := hs.mems; omega) oM
  unfold ownOk
  generalize eqv t (plainTy t) = e at h295
  generalize plainTy t = p at h295 h309
  have hnm : ∀ b, e = false → (some [PV.bool false] : Option (List PV)) = some [PV.bool (b && (e && ((!(decide (4 ≤ t.kind) && decide (t.kind ≤ 6)) || isName t.name) && kindOk t)))] := fun b h => by
    rw [h, Bool.false_and, Bool.and_false]
  unfold Typ.c at *
  refine res_of a285 rfl rfl ?_
  simp only [F285]
  simp (disch := omega) only [go_sem]
  refine Br.ofP (fun c1 => ?_) (fun c1 => ?_) <;> simp (disch := omega) only [go_sem, c1]
  · have : ¬ 1 ≤ t.kind := by omega
    simp [this]
  refine Br.ofP (fun c2 => ?_) (fun c2 => ?_) <;> simp (disch := omega) only [go_sem, c2]
  · have : ¬ t.kind ≤ 9 := by omega
    simp [this]
  have k1 : decide (1 ≤ t.kind) = true := by simp; omega
  have k2 : decide (t.kind ≤ 9) = true := by simp; omega
  rw [k1, k2]
  simp (disch := omega) only [go_sem, h309, h295]
  refine Br.of (fun c3 => ?_) (fun c3 => ?_) <;> simp (disch := omega) only [go_sem, c3, h286]
  subst c3
  unfold kindOk
  by_cases hn : 4 ≤ t.kind ∧ t.kind ≤ 6
  · have c4 : (decide (4 ≤ t.kind) && decide (t.kind ≤ 6)) = true := by simp [hn]
    rw [c4]
    simp (disch := omega) only [go_sem, h310]
    refine Br.of (fun c5 => ?_) (fun c5 => ?_) <;> simp (disch := omega) only [go_sem, c5]
    have hk : t.kind = 4 ∨ t.kind = 5 ∨ t.kind = 6 := by omega
    rcases hk with hk | hk | hk
    all_goals simp (disch := omega) only [go_sem, hk, h311, h312]
    all_goals simp [c5]
  · have c4 : (decide (4 ≤ t.kind) && decide (t.kind ≤ 6)) = false := by
      rw [Bool.eq_false_iff]
      simp
      omega
    rw [c4]
    simp (disch := omega) only [go_sem]
    have hk : t.kind = 1 ∨ t.kind = 2 ∨ t.kind = 3 ∨ t.kind = 7 ∨ t.kind = 8 ∨ t.kind = 9 := by omega
    rcases hk with hk | hk | hk | hk | hk | hk
    all_goals simp (disch := omega) only [go_sem, hk]
    all_goals first
      | (simp [hk]
         done)
      | (refine Br.ofP (fun c6 => ?_) (fun c6 => ?_) <;> simp (disch := omega) only [go_sem, c6]
         all_goals simp [c6, hk])

theorem eqv_zero {t p : Typ} {k : Int} {z : Typ} (h : z = zeroTyp ↔ t = p) (_hk : k = k) : eqv z zeroTyp = eqv t p := by
  rw [Bool.eq_iff_iff, eqv_iff, eqv_iff]
  exact h
set_option maxHeartbeats 8000000 in
/-- form. -/
theorem r283 (t : Typ) (ht : t.ok) (hs : t.short) : res A PrA 283 [.agg t.c] = some [.bool (ownOk t)] := by
  have h297 := fun z hz => r297 z zeroTyp hz zeroTyp_ok
  have h308 := r308 t ht (by have := hs.mems; omega)
  have ht' := ht
  obtain ⟨⟨o0, o1, o2, o3, o4, o5, o6⟩, ⟨l1, l2⟩, oS, oM⟩ := ht
  have h306 := r306 t.name o1
  have h307 := fun u => r307 u t.syms (by have := hs.syms; omega) (fun p hp => (oS p hp).2)
  obtain ⟨k, a2, a3, a4, a5, a6, a7, a8, a9, a10⟩ := t
  unfold ownOk plainTy kindOk
  unfold zeroTyp Typ.c at *
  dsimp only at *
  refine res_of a283 rfl rfl ?_
  simp only [F283]
  simp (disch := omega) only [go_sem]
  have no : ∀ {z : Bool}, z = false → (some [PV.bool false] : Option (List PV)) = some [PV.bool z] := fun h => by rw [h]
  have ze : ∀ {x y z p : Typ}, (x = y ↔ z = p) → eqv x y = eqv z p := fun {x y z p} h => by
    rw [Bool.eq_iff_iff, eqv_iff, eqv_iff]
    exact h
  have okz : ∀ (k : Int) (a2 : ByteArray) (a3 a4 a5 : Int) (a6 : List Sym) (a7 : List Mem) (a8 a9 : Int) (a10 : Bool), I64 k → strOk a2 → I64 a3 → I64 a4 → I64 a5 → lenOk a6 → lenOk a7 → (∀ s ∈ a6, s.ok) → (∀ m ∈ a7, m.ok) → I64 a8 → I64 a9 → (⟨k, a2, a3, a4, a5, a6, a7, a8, a9, a10⟩ : Typ).ok :=
    fun k a2 a3 a4 a5 a6 a7 a8 a9 a10 h1 h2 h3 h4 h5 h6 h7 h8 h9 h10 h11 => ⟨⟨h1, h2, h3, h4, h5, h10, h11⟩, ⟨h6, h7⟩, h8, h9⟩
  have i0 : I64 0 := by simp [I64]
  have s0 : strOk ⟨#[]⟩ := by simp [strOk]; exact Nat.zero_le _
  have y0 : lenOk ([] : List Sym) := by simp [lenOk]
  have m0 : lenOk ([] : List Mem) := by simp [lenOk]
  have y1 : ∀ s ∈ ([] : List Sym), s.ok := fun s hs => (List.not_mem_nil hs).elim
  have m1 : ∀ s ∈ ([] : List Mem), s.ok := fun s hs => (List.not_mem_nil hs).elim
  rcases kind_cases k with rfl | rfl | rfl | rfl | rfl | rfl | rfl | rfl | ⟨n1, n2, n3, n4, n5, n6, n7, n8⟩
  · have hz := h297 ⟨0, a2, a3, a4, a5, a6, a7, a8, a9, a10⟩ (okz _ _ _ _ _ _ _ _ _ _ i0 o1 o2 o3 o4 l1 l2 oS oM o5 o6)
    simp only [List.map_nil] at hz
    simp (disch := omega) only [go_sem, hz]
    rw [ze (z := ⟨1, a2, a3, a4, a5, a6, a7, a8, a9, a10⟩) (p := ⟨1, ⟨#[]⟩, 0, 0, 0, [], [], 0, 0, false⟩) (by simp)]
  · have hz := h297 ⟨0, a2, 0, 0, a5, a6, a7, a8, a9, a10⟩ (okz _ _ _ _ _ _ _ _ _ _ i0 o1 i0 i0 o4 l1 l2 oS oM o5 o6)
    simp only [List.map_nil] at hz
    simp (disch := omega) only [go_sem]
    refine Br.ofP (fun c => ?_) (fun c => ?_) <;> simp (disch := omega) only [go_sem, c, hz]
    · rw [ze (z := ⟨2, a2, a3, a4, a5, a6, a7, a8, a9, a10⟩) (p := ⟨2, ⟨#[]⟩, a3, a4, 0, [], [], 0, 0, false⟩) (by simp)]
  · have hz := h297 ⟨0, a2, a3, a4, 0, a6, a7, a8, a9, a10⟩ (okz _ _ _ _ _ _ _ _ _ _ i0 o1 o2 o3 i0 l1 l2 oS oM o5 o6)
    simp only [List.map_nil] at hz
    simp (disch := omega) only [go_sem]
    refine Br.ofP (fun c => ?_) (fun c => ?_) <;> simp (disch := omega) only [go_sem, c]
    · refine Br.ofP (fun c2 => ?_) (fun c2 => ?_) <;> simp (disch := omega) only [go_sem, c2, hz]
      · rw [ze (z := ⟨3, a2, a3, a4, a5, a6, a7, a8, a9, a10⟩) (p := ⟨3, ⟨#[]⟩, 0, 0, a5, [], [], 0, 0, false⟩) (by simp)]
        simp [c, c2]
  · have hz := h297 ⟨0, ⟨#[]⟩, a3, a4, a5, [], a7, a8, a9, false⟩ (okz _ _ _ _ _ _ _ _ _ _ i0 s0 o2 o3 o4 y0 l2 y1 oM o5 o6)
    simp only [List.map_nil] at hz
    simp (disch := omega) only [go_sem, h306]
    refine Br.of (fun c => ?_) (fun c => ?_) <;> simp (disch := omega) only [go_sem, c, h307]
    · refine Br.of (fun c2 => ?_) (fun c2 => ?_) <;> simp (disch := omega) only [go_sem, c2, hz]
      · rw [ze (z := ⟨4, a2, a3, a4, a5, a6, a7, a8, a9, a10⟩) (p := ⟨4, a2, 0, 0, 0, a6, [], 0, 0, a10⟩) (by simp)]
        simp [c, c2]
  · have hz := h297 ⟨0, ⟨#[]⟩, a3, a4, a5, a6, [], a8, a9, a10⟩ (okz _ _ _ _ _ _ _ _ _ _ i0 s0 o2 o3 o4 l1 m0 oS m1 o5 o6)
    simp only [List.map_nil] at hz
    have h308 := h308 (by simp)
    simp (disch := omega) only [go_sem, h306]
    refine Br.of (fun c => ?_) (fun c => ?_) <;> simp (disch := omega) only [go_sem, c, h308]
    · cases a10 with
      | false =>
        simp (disch := omega) only [go_sem]
        refine Br.of (fun c2 => ?_) (fun c2 => ?_) <;> simp (disch := omega) only [go_sem, c2, hz]
        rw [ze (z := ⟨5, a2, a3, a4, a5, a6, a7, a8, a9, false⟩) (p := ⟨5, a2, 0, 0, 0, [], a7, 0, 0, false⟩) (by simp)]
        have c2' : memsOk true a7 = true := by simpa using c2
        simp [c, c2']
      | true =>
        simp (disch := omega) only [go_sem]
        refine Br.of (fun c2 => ?_) (fun c2 => ?_) <;> simp (disch := omega) only [go_sem, c2, hz]
        rw [ze (z := ⟨5, a2, a3, a4, a5, a6, a7, a8, a9, true⟩) (p := ⟨5, a2, 0, 0, 0, [], a7, 0, 0, false⟩) (by simp)]
        have c2' : memsOk true a7 = true := by simpa using c2
        simp [c, c2']
    · cases a10 <;> simp (disch := omega) only [go_sem] <;> exact no (by simp [c])
  · have hz := h297 ⟨0, ⟨#[]⟩, a3, a4, a5, a6, [], a8, a9, false⟩ (okz _ _ _ _ _ _ _ _ _ _ i0 s0 o2 o3 o4 l1 m0 oS m1 o5 o6)
    simp only [List.map_nil] at hz
    have h308 := h308 (by simp)
    simp (disch := omega) only [go_sem, h306]
    refine Br.of (fun c => ?_) (fun c => ?_) <;> simp (disch := omega) only [go_sem, c, h308]
    · cases a10 with
      | false =>
        simp (disch := omega) only [go_sem]
        refine Br.of (fun c2 => ?_) (fun c2 => ?_) <;> simp (disch := omega) only [go_sem, c2, hz]
        rw [ze (z := ⟨6, a2, a3, a4, a5, a6, a7, a8, a9, false⟩) (p := ⟨6, a2, 0, 0, 0, [], a7, 0, 0, false⟩) (by simp)]
        have c2' : memsOk false a7 = true := by simpa using c2
        simp [c, c2']
      | true =>
        simp (disch := omega) only [go_sem]
        refine Br.of (fun c2 => ?_) (fun c2 => ?_) <;> simp (disch := omega) only [go_sem, c2, hz]
        rw [ze (z := ⟨6, a2, a3, a4, a5, a6, a7, a8, a9, true⟩) (p := ⟨6, a2, 0, 0, 0, [], a7, 0, 0, true⟩) (by simp)]
        have c2' : memsOk false a7 = true := by simpa using c2
        simp [c, c2']
    · cases a10 <;> simp (disch := omega) only [go_sem] <;> exact no (by simp [c])
  · have hz := h297 ⟨0, a2, a3, a4, 0, a6, a7, a8, 0, a10⟩ (okz _ _ _ _ _ _ _ _ _ _ i0 o1 o2 o3 i0 l1 l2 oS oM o5 i0)
    simp only [List.map_nil] at hz
    simp (disch := omega) only [go_sem]
    refine Br.ofP (fun c => ?_) (fun c => ?_) <;> simp (disch := omega) only [go_sem, c]
    · refine Br.ofP (fun c2 => ?_) (fun c2 => ?_) <;> simp (disch := omega) only [go_sem, c2, hz]
      · rw [ze (z := ⟨7, a2, a3, a4, a5, a6, a7, a8, a9, a10⟩) (p := ⟨7, ⟨#[]⟩, 0, 0, a5, [], [], 0, a9, false⟩) (by simp)]
        simp [c, c2]
  · have hz := h297 ⟨0, a2, a3, a4, 0, a6, a7, 0, 0, a10⟩ (okz _ _ _ _ _ _ _ _ _ _ i0 o1 o2 o3 i0 l1 l2 oS oM i0 i0)
    simp only [List.map_nil] at hz
    simp (disch := omega) only [go_sem]
    refine Br.ofP (fun c => ?_) (fun c => ?_) <;> simp (disch := omega) only [go_sem, c]
    · refine Br.ofP (fun c2 => ?_) (fun c2 => ?_) <;> simp (disch := omega) only [go_sem, c2, hz]
      · rw [ze (z := ⟨8, a2, a3, a4, a5, a6, a7, a8, a9, a10⟩) (p := ⟨8, ⟨#[]⟩, 0, 0, a5, [], [], a8, a9, false⟩) (by simp)]
        simp [c, c2]
  · have hz := h297 ⟨0, a2, a3, a4, a5, a6, a7, a8, 0, a10⟩ (okz _ _ _ _ _ _ _ _ _ _ i0 o1 o2 o3 o4 l1 l2 oS oM o5 i0)
    simp only [List.map_nil] at hz
    simp (disch := omega) only [go_sem, n1, n2, n3, n4, n5, n6, n7, n8]
    refine Br.ofP (fun c => ?_) (fun c => ?_) <;> simp (disch := omega) only [go_sem, c, hz]
    · rw [ze (z := ⟨k, a2, a3, a4, a5, a6, a7, a8, a9, a10⟩) (p := ⟨k, ⟨#[]⟩, 0, 0, 0, [], [], 0, a9, false⟩) (by simp)]
      simp [c]
    · refine no ?_
      have : (decide (1 ≤ k) && decide (k ≤ 9)) = false := by
        rw [Bool.eq_false_iff]
        simp
        omega
      rw [this, Bool.false_and]
end Go.Pv

/-
  Schemas of a bulk.
-/
namespace Go.Pv

theorem lst_small {M t : Nat} {rows : List (List PV)} (h : Small M (.lst t rows)) : rows.length ≤ M ∧ ∀ r ∈ rows, ∀ c ∈ r, Small M c := by
  cases h with
  | lst _ _ h1 h2 => exact ⟨h1, h2⟩
theorem typ_short {t : Typ} (h : ∀ c ∈ t.c, Small 1048576 c) : t.short := by
  have h1 := (lst_small (h (.lst 0 (t.syms.map Sym.c)) (by simp [Typ.c]))).1
  have h2 := (lst_small (h (.lst 0 (t.mems.map Mem.c)) (by simp [Typ.c]))).1
  rw [List.length_map] at h1 h2
  exact ⟨h1, h2⟩
theorem sch_small {l : List Typ} (h : ∀ c ∈ [PV.lst 0 (l.map Typ.c)], Small 1048576 c) : l.length ≤ 1048576 ∧ ∀ t ∈ l, t.short := by
  obtain ⟨h1, h2⟩ := lst_small (h _ (List.mem_singleton.2 rfl))
  rw [List.length_map] at h1
  exact ⟨h1, fun t ht => typ_short (h2 _ (List.mem_map_of_mem ht))⟩
end Go.Pv

/-
  Chapter 07: the types that a type uses.
-/
namespace Go.Pv

def keysT (t : Typ) : List Int := if t.kind = 8 then [t.key] else []
def elemsT (t : Typ) : List Int := if 7 ≤ t.kind then [t.elem] else []
/-- The types that a type uses, with repetitions. -/
def usesT (t : Typ) : List Int := t.mems.map (·.type) ++ keysT t ++ elemsT t
set_option maxHeartbeats 2000000 in
/-- uses. -/
theorem r284 (t : Typ) (hs : t.short) : res A PrA 284 [.agg t.c] = some [.lst 0 (ints (usesT t))] := by
  have hl := hs.mems
  obtain ⟨k, a2, a3, a4, a5, a6, l, a8, a9, a10⟩ := t
  unfold usesT keysT elemsT Typ.c
  dsimp only at *
  refine res_of a284 rfl rfl ?_
  simp only [F284]
  simp (disch := omega) only [go_sem]
  refine W.upto l.length (fun j => ⟨[(1, .ptr 1 0), (3, grV 0 (ints ((l.take j).map (·.type)))), (7, .pv (.lst 0 (l.map Mem.c))), (8, .pv (.int .i64 l.length)), (9, .pv (.int .i64 j))], ⟨[(1, [.pv (.int .i64 k), .pv (.str a2), .pv (.int .i64 a3), .pv (.int .i64 a4), .pv (.int .i64 a5), .pv (.lst 0 (a6.map Sym.c)), .pv (.lst 0 (l.map Mem.c)), .pv (.int .i64 a8), .pv (.int .i64 a9), .pv (.bool a10)])], grA 1 (ints ((l.take j).map (·.type))), []⟩⟩) (fun _ => True) rfl trivial (fun j hj _ => ?_)
  rcases Nat.lt_or_ge j l.length with hlt | hge
  · have hp := List.getElem?_eq_getElem hlt
    generalize l[j] = p at hp
    have t1 : (l.take (j + 1)).map (·.type) = (l.take j).map (·.type) ++ [p.type] := by rw [List.take_add_one, hp, List.map_append]; rfl
    have l1 : ((l.take j).map (·.type)).length = j := by simp; omega
    generalize (l.take j).map (·.type) = u at t1 l1
    simp (disch := omega) only [go_sem]
    refine Br.ofP (fun c => ?_) (fun c => (c (by omega)).elim)
    simp (disch := omega) only [go_sem, hp, Mem.c]
    refine .of (by omega) ?_ trivial
    rw [t1]
    rfl
  · obtain rfl : j = l.length := by omega
    rw [List.take_length]
    have l1 : (l.map (·.type)).length = l.length := by simp
    generalize l.map (·.type) = u at l1
    simp (disch := omega) only [go_sem]
    refine Br.ofP (fun c => ?_) (fun c => ?_) <;> simp (disch := omega) only [go_sem, c]
    · have l2 : (u ++ [a8]).length = l.length + 1 := by simp [l1]
      have h7 : 7 ≤ k := by omega
      simp (disch := omega) only [go_sem]
      simp [c]
    · refine Br.ofP (fun c2 => ?_) (fun c2 => ?_) <;> simp (disch := omega) only [go_sem, c2]
      · simp [c]
      · simp [c]
set_option maxHeartbeats 2000000 in
/-- uses, of the document. -/
theorem r287 (t : Typ) (hs : t.short) (h9 : t.kind ≤ 9) : res A PrA 287 [.agg t.c] = some [.lst 0 (ints (usesT t))] := by
  have hl := hs.mems
  obtain ⟨k, a2, a3, a4, a5, a6, l, a8, a9, a10⟩ := t
  unfold usesT keysT elemsT Typ.c
  dsimp only at *
  refine res_of a287 rfl rfl ?_
  simp only [F287]
  simp (disch := omega) only [go_sem]
  refine W.upto l.length (fun j => ⟨[(1, .ptr 1 0), (3, grV 0 (ints ((l.take j).map (·.type)))), (4, .pv (.int .i64 j))], ⟨[(1, [.pv (.int .i64 k), .pv (.str a2), .pv (.int .i64 a3), .pv (.int .i64 a4), .pv (.int .i64 a5), .pv (.lst 0 (a6.map Sym.c)), .pv (.lst 0 (l.map Mem.c)), .pv (.int .i64 a8), .pv (.int .i64 a9), .pv (.bool a10)])], grA 1 (ints ((l.take j).map (·.type))), []⟩⟩) (fun _ => True) rfl trivial (fun j hj _ => ?_)
  rcases Nat.lt_or_ge j l.length with hlt | hge
  · have hp := List.getElem?_eq_getElem hlt
    generalize l[j] = p at hp
    have t1 : (l.take (j + 1)).map (·.type) = (l.take j).map (·.type) ++ [p.type] := by rw [List.take_add_one, hp, List.map_append]; rfl
    have l1 : ((l.take j).map (·.type)).length = j := by simp; omega
    generalize (l.take j).map (·.type) = u at t1 l1
    simp (disch := omega) only [go_sem]
    refine Br.ofP (fun c => ?_) (fun c => (c (by omega)).elim)
    simp (disch := omega) only [go_sem, hp, Mem.c]
    refine .of (by omega) ?_ trivial
    rw [t1]
    rfl
  · obtain rfl : j = l.length := by omega
    rw [List.take_length]
    have l1 : (l.map (·.type)).length = l.length := by simp
    generalize l.map (·.type) = u at l1
    have l2 : (u ++ [a8]).length = l.length + 1 := by simp [l1]
    simp (disch := omega) only [go_sem]
    refine Br.ofP (fun c => ?_) (fun c => ?_) <;> simp (disch := omega) only [go_sem, c]
    refine Br.ofP (fun c2 => ?_) (fun c2 => ?_) <;> simp (disch := omega) only [go_sem, c, c2]
    refine Br.ofP (fun c3 => ?_) (fun c3 => ?_) <;> simp (disch := omega) only [go_sem, c3]
    have h7 : ¬ 7 ≤ k := by omega
    simp [c, h7]
/-- KeyKind. -/
theorem r288 (k : Int) : res A PrA 288 [.int .i64 k] = some [.bool (decide (1 ≤ k) && decide (k ≤ 4))] := by
  refine res_of a288 rfl rfl ?_
  simp only [F288]
  simp (disch := omega) only [go_sem]
  refine Br.ofP (fun c => ?_) (fun c => ?_) <;> simp (disch := omega) only [go_sem, c]
end Go.Pv

/-
  Chapter 07: is a schema valid?
-/
namespace Go.Pv

def kindAt (l : List Typ) (i : Int) : Int := ((l[i.toNat]?).map (·.kind)).getD 0
def dupName (l : List Typ) (k : Nat) (t : Typ) : Bool := !decide (t.name = ⟨#[]⟩) && hasS ((l.take k).map (·.name)) t.name
def outR (n : Nat) (u : Int) : Bool := decide (u < 0) || decide ((n : Int) ≤ u)
def badKey (l : List Typ) (t : Typ) : Bool := decide (t.kind = 8) && !(decide (1 ≤ kindAt l t.key) && decide (kindAt l t.key ≤ 4))
noncomputable def errAt (l : List Typ) (k : Nat) (t : Typ) : Int := if (!ownOk t || dupName l k t) = true then 1 else if (usesT t).any (outR l.length) = true then 4 else if badKey l t = true then 1 else 0
noncomputable def errIdx (l : List Typ) (k : Nat) : Int := match l[k]? with
  | some t => errAt l k t
  | none => 0
noncomputable def errOf (l : List Typ) (o : Option Nat) : Int := match o with
  | some k => errIdx l k
  | none => 0
noncomputable def validR (l : List Typ) : Int := if 32 < l.length then 3 else errOf l ((List.range l.length).find? fun k => decide (errIdx l k ≠ 0))
/-- The names seen so far. -/
def seenN (l : List Typ) (k : Nat) : List ByteArray := ((l.take k).map (·.name)).foldl insS []
theorem mem_foldS : ∀ (m s : List ByteArray) (x : ByteArray), x ∈ m.foldl insS s ↔ x ∈ s ∨ x ∈ m
  | [], s, x => by simp
  | y :: m, s, x => by
    rw [List.foldl_cons, mem_foldS m (insS s y) x, mem_insS, List.mem_cons]
    constructor
    · rintro ((h | h) | h)
      · exact .inl h
      · exact .inr (.inl h)
      · exact .inr (.inr h)
    · rintro (h | h | h)
      · exact .inl (.inl h)
      · exact .inl (.inr h)
      · exact .inr h
theorem has_seenN (l : List Typ) (k : Nat) (x : ByteArray) : hasS (seenN l k) x = hasS ((l.take k).map (·.name)) x := by
  rw [Bool.eq_iff_iff, hasS_iff, hasS_iff, seenN, mem_foldS]
  simp
theorem seenN_next {l : List Typ} {k : Nat} {t : Typ} (h : l[k]? = some t) : insS (seenN l k) t.name = seenN l (k + 1) := by
  unfold seenN
  rw [List.take_add_one, h, List.map_append, List.foldl_append]
  rfl
theorem key_used {t : Typ} (h : t.kind = 8) : t.key ∈ usesT t := by simp [usesT, keysT, h]
set_option maxHeartbeats 4000000 in
/-- Valid. -/
theorem r267 (v : Nat) (l : List Typ) (hl : l.length ≤ 2147483648) (ho : ∀ t ∈ l, t.ok) (hs : ∀ t ∈ l, t.short) : res A PrA 267 [.agg [.lst v (l.map Typ.c)]] = some [.int .i64 (validR l)] := by
  refine res_of a267 rfl rfl ?_
  simp only [F267]
  simp (disch := omega) only [go_sem]
  refine Br.ofP (fun c0 => ?_) (fun c0 => ?_) <;> simp (disch := omega) only [go_sem, c0]
  · have : 32 < l.length := by omega
    simp [validR, this]
  have h32 : ¬ 32 < l.length := by omega
  unfold validR
  rw [if_neg h32]
  obtain ⟨G, hG⟩ : ∃ G, errOf l ((List.range l.length).find? fun k => decide (errIdx l k ≠ 0)) = G := ⟨_, rfl⟩
  rw [hG]
  refine W.find (List.range l.length) (fun k => decide (errIdx l k ≠ 0)) (fun k => ⟨[(1, .ptr 1 0), (3, .map 0), (14, .pv (.lst v (l.map Typ.c))), (15, .pv (.int .i64 l.length)), (16, .pv (.int .i64 k))], ⟨[(1, [.pv (.lst v (l.map Typ.c))])], [], [seenS (seenN l k)]⟩⟩) rfl (fun k x hx hk hfd => ?_) (fun hn => ?_)
  · obtain ⟨rfl, hk⟩ := range_get hx
    have hp := List.getElem?_eq_getElem hk
    generalize l[x] = p at hp
    have hm := List.mem_of_getElem? hp
    have h283 := r283 p (ho p hm) (hs p hm)
    have h284 := r284 p (hs p hm)
    have he : errIdx l x = errAt l x p := by simp only [errIdx, hp]
    have hnx := seenN_next hp
    have hsn := has_seenN l x p.name
    have done : ∀ e : Int, errAt l x p = e → e ≠ 0 → (some [PV.int .i64 e] : Option (List PV)) = some [.int .i64 G] := fun e h1 h2 => by
      rw [← hG, (hfd (by rw [he, h1]; simpa using h2)).find, errOf, he, h1]
    rw [he]
    have hul : (usesT p).length ≤ 1048578 := by
      have := (hs p hm).mems
      unfold usesT keysT elemsT
      rw [List.length_append, List.length_append, List.length_map]
      split <;> split <;> simp <;> omega
    unfold Typ.c at h283 h284
    simp (disch := omega) only [go_sem]
    refine Br.ofP (fun c => ?_) (fun c => (c (by omega)).elim)
    simp (disch := omega) only [go_sem, hp, Typ.c, h283]
    refine Br.of (fun c1 => ?_) (fun c1 => ?_) <;> simp (disch := omega) only [go_sem, c1]
    rotate_left
    · exact done 1 (by simp [errAt, c1]) (by decide)
    have nodup : dupName l x p = false → (!ownOk p || dupName l x p) = false := fun h => by rw [c1, h]; rfl
    have dup : dupName l x p = (!decide (p.name = ⟨#[]⟩) && hasS (seenN l x) p.name) := by rw [has_seenN]; rfl
    have hown : (ownOk p) = true := c1
    refine Br.ofP (fun c2 => ?_) (fun c2 => ?_)
    · have d2 : decide (p.name = ⟨#[]⟩) = true := by simp [c2]
      rw [d2] at dup
      have hd := nodup (by rw [dup]; rfl)
      clear c2
      simp (disch := omega) only [go_sem, d2, h284, hnx]
      refine W.find (usesT p) (outR l.length) (fun j => ⟨[(1, .ptr 1 0), (3, .map 0), (5, .ptr 5 0), (14, .pv (.lst v (l.map Typ.c))), (15, .pv (.int .i64 l.length)), (16, .pv (.int .i64 x)), (38, .pv (.lst 0 (ints (usesT p)))), (39, .pv (.int .i64 (usesT p).length)), (40, .pv (.int .i64 j))], ⟨[(1, [.pv (.lst v (l.map Typ.c))]), (5, [.pv (.int .i64 p.kind), .pv (.str p.name), .pv (.int .i64 p.low), .pv (.int .i64 p.high), .pv (.int .i64 p.max), .pv (.lst 0 (p.syms.map Sym.c)), .pv (.lst 0 (p.mems.map Mem.c)), .pv (.int .i64 p.key), .pv (.int .i64 p.elem), .pv (.bool p.opn)])], [], [seenS (seenN l (x + 1))]⟩⟩) rfl (fun j u hu hj hfd2 => ?_) (fun hn => ?_)
      · have d4 : outR l.length u = true → errAt l x p = 4 := fun g => by
          rw [errAt, hd, (hfd2 g).any]
          rfl
        simp (disch := omega) only [go_sem]
        refine Br.ofP (fun c => ?_) (fun c => (c (by omega)).elim)
        simp (disch := omega) only [go_sem, hu]
        refine Br.ofP (fun c4 => ?_) (fun c4 => ?_) <;> simp (disch := omega) only [go_sem, c4]
        · exact done 4 (d4 (by simp [outR, c4])) (by decide)
        refine Br.ofP (fun c5 => ?_) (fun c5 => ?_) <;> simp (disch := omega) only [go_sem, c5]
        · exact done 4 (d4 (by simp [outR, c5])) (by decide)
        · exact findK.of (by simp [outR, c4, c5]) rfl
      · have he2 : errAt l x p = if badKey l p = true then 1 else 0 := by
          rw [errAt, hd, hn.any]
          rfl
        simp (disch := omega) only [go_sem]
        refine Br.ofP (fun c4 => ?_) (fun c4 => ?_)
        · have hku := key_used c4
          have hout := List.any_eq_false.1 hn.any _ hku
          have hk0 : 0 ≤ p.key ∧ p.key < l.length := by
            simp [outR] at hout
            omega
          have hkk := List.getElem?_eq_getElem (l := l) (i := p.key.toNat) (by omega)
          have hka : kindAt l p.key = (l[p.key.toNat]'(by omega)).kind := by rw [kindAt, hkk]; rfl
          generalize l[p.key.toNat]'(by omega) = q at hkk hka
          have d8 : decide (p.kind = 8) = true := by simp [c4]
          have hb : badKey l p = !(decide (1 ≤ q.kind) && decide (q.kind ≤ 4)) := by rw [badKey, d8, hka]; rfl
          have hidx : idxR 10 v (l.map Typ.c) (some p.key) = some (V.pv (.ro v q.c)) := by
            rw [idxR_int _ _ _ hk0.1, List.getElem?_map, hkk]
            rfl
          unfold Typ.c at hidx
          unfold Typ.c
          simp (disch := omega) only [go_sem, d8, hidx]
          refine Br.ofP (fun c6 => ?_) (fun c6 => ?_) <;> simp (disch := omega) only [go_sem, c6]
          · refine done 1 ?_ (by decide)
            have : ¬ 1 ≤ q.kind := by omega
            rw [he2, hb]
            simp [this]
          simp (disch := omega) only [go_sem, hidx]
          refine Br.ofP (fun c7 => ?_) (fun c7 => ?_) <;> simp (disch := omega) only [go_sem, c7]
          · refine done 1 ?_ (by decide)
            have : ¬ q.kind ≤ 4 := by omega
            rw [he2, hb]
            simp [this]
          · refine findK.of ?_ rfl
            have h1 : 1 ≤ q.kind := by omega
            have h2 : q.kind ≤ 4 := by omega
            rw [he2, hb]
            simp [h1, h2]
        · have d8 : decide (p.kind = 8) = false := by simp [c4]
          have hb : badKey l p = false := by rw [badKey, d8]; rfl
          simp (disch := omega) only [go_sem, d8]
          refine findK.of ?_ rfl
          rw [he2, hb]
          rfl
    · have d2 : decide (p.name = ⟨#[]⟩) = false := by simp [c2]
      rw [d2] at dup
      simp (disch := omega) only [go_sem, d2]
      refine Br.of (fun c3 => ?_) (fun c3 => ?_) <;> simp (disch := omega) only [go_sem, c3, h284, hnx]
      · refine done 1 ?_ (by decide)
        rw [errAt, dup, c3]
        simp
      have hd := nodup (by rw [dup, c3]; rfl)
      refine W.find (usesT p) (outR l.length) (fun j => ⟨[(1, .ptr 1 0), (3, .map 0), (5, .ptr 5 0), (14, .pv (.lst v (l.map Typ.c))), (15, .pv (.int .i64 l.length)), (16, .pv (.int .i64 x)), (38, .pv (.lst 0 (ints (usesT p)))), (39, .pv (.int .i64 (usesT p).length)), (40, .pv (.int .i64 j))], ⟨[(1, [.pv (.lst v (l.map Typ.c))]), (5, [.pv (.int .i64 p.kind), .pv (.str p.name), .pv (.int .i64 p.low), .pv (.int .i64 p.high), .pv (.int .i64 p.max), .pv (.lst 0 (p.syms.map Sym.c)), .pv (.lst 0 (p.mems.map Mem.c)), .pv (.int .i64 p.key), .pv (.int .i64 p.elem), .pv (.bool p.opn)])], [], [seenS (seenN l (x + 1))]⟩⟩) rfl (fun j u hu hj hfd2 => ?_) (fun hn => ?_)
      · have d4 : outR l.length u = true → errAt l x p = 4 := fun g => by
          rw [errAt, hd, (hfd2 g).any]
          rfl
        simp (disch := omega) only [go_sem]
        refine Br.ofP (fun c => ?_) (fun c => (c (by omega)).elim)
        simp (disch := omega) only [go_sem, hu]
        refine Br.ofP (fun c4 => ?_) (fun c4 => ?_) <;> simp (disch := omega) only [go_sem, c4]
        · exact done 4 (d4 (by simp [outR, c4])) (by decide)
        refine Br.ofP (fun c5 => ?_) (fun c5 => ?_) <;> simp (disch := omega) only [go_sem, c5]
        · exact done 4 (d4 (by simp [outR, c5])) (by decide)
        · exact findK.of (by simp [outR, c4, c5]) rfl
      · have he2 : errAt l x p = if badKey l p = true then 1 else 0 := by
          rw [errAt, hd, hn.any]
          rfl
        simp (disch := omega) only [go_sem]
        refine Br.ofP (fun c4 => ?_) (fun c4 => ?_)
        · have hku := key_used c4
          have hout := List.any_eq_false.1 hn.any _ hku
          have hk0 : 0 ≤ p.key ∧ p.key < l.length := by
            simp [outR] at hout
            omega
          have hkk := List.getElem?_eq_getElem (l := l) (i := p.key.toNat) (by omega)
          have hka : kindAt l p.key = (l[p.key.toNat]'(by omega)).kind := by rw [kindAt, hkk]; rfl
          generalize l[p.key.toNat]'(by omega) = q at hkk hka
          have d8 : decide (p.kind = 8) = true := by simp [c4]
          have hb : badKey l p = !(decide (1 ≤ q.kind) && decide (q.kind ≤ 4)) := by rw [badKey, d8, hka]; rfl
          have hidx : idxR 10 v (l.map Typ.c) (some p.key) = some (V.pv (.ro v q.c)) := by
            rw [idxR_int _ _ _ hk0.1, List.getElem?_map, hkk]
            rfl
          unfold Typ.c at hidx
          unfold Typ.c
          simp (disch := omega) only [go_sem, d8, hidx]
          refine Br.ofP (fun c6 => ?_) (fun c6 => ?_) <;> simp (disch := omega) only [go_sem, c6]
          · refine done 1 ?_ (by decide)
            have : ¬ 1 ≤ q.kind := by omega
            rw [he2, hb]
            simp [this]
          simp (disch := omega) only [go_sem, hidx]
          refine Br.ofP (fun c7 => ?_) (fun c7 => ?_) <;> simp (disch := omega) only [go_sem, c7]
          · refine done 1 ?_ (by decide)
            have : ¬ q.kind ≤ 4 := by omega
            rw [he2, hb]
            simp [this]
          · refine findK.of ?_ rfl
            have h1 : 1 ≤ q.kind := by omega
            have h2 : q.kind ≤ 4 := by omega
            rw [he2, hb]
            simp [h1, h2]
        · have d8 : decide (p.kind = 8) = false := by simp [c4]
          have hb : badKey l p = false := by rw [badKey, d8]; rfl
          simp (disch := omega) only [go_sem, d8]
          refine findK.of ?_ rfl
          rw [he2, hb]
          rfl
  · rw [hn.find] at hG
    rw [List.length_range]
    simp (disch := omega) only [go_sem]
    rw [← hG]
    rfl
end Go.Pv

/-
  Chapter 07: is a schema valid, as the document says; and the law of it.
-/
namespace Go.Pv

theorem isName_ne {s : ByteArray} (h : isName s = true) : s ≠ ⟨#[]⟩ := by
  rintro rfl
  cases h
theorem plainTy_name {t : Typ} (hn : ¬ (4 ≤ t.kind ∧ t.kind ≤ 6)) : (plainTy t).name = ⟨#[]⟩ := by
  unfold plainTy
  repeat' split
  all_goals first
    | rfl
    | omega
theorem own_name {p : Typ} (h : ownOk p = true) : decide (p.name = ⟨#[]⟩) = !(decide (4 ≤ p.kind) && decide (p.kind ≤ 6)) := by
  unfold ownOk at h
  rw [Bool.and_eq_true, Bool.and_eq_true (eqv p (plainTy p)), Bool.and_eq_true (!(decide (4 ≤ p.kind) && decide (p.kind ≤ 6)) || isName p.name), eqv_iff] at h
  obtain ⟨h1, h2, h3, h4⟩ := h
  by_cases hn : 4 ≤ p.kind ∧ p.kind ≤ 6
  · have e : (decide (4 ≤ p.kind) && decide (p.kind ≤ 6)) = true := by simp [hn]
    rw [e] at h3 ⊢
    have h3 : isName p.name = true := by simpa using h3
    simp [isName_ne h3]
  · have e : (decide (4 ≤ p.kind) && decide (p.kind ≤ 6)) = false := by
      rw [Bool.eq_false_iff]
      simp
      omega
    rw [e]
    have : p.name = ⟨#[]⟩ := by
      rw [h2]
      exact plainTy_name hn
    simp [this]
theorem dup_own {l : List Typ} {k : Nat} {p : Typ} (h : ownOk p = true) : dupName l k p = (l.take k).any fun q => (decide (4 ≤ p.kind) && decide (p.kind ≤ 6)) && decide (q.name = p.name) := by
  unfold dupName
  rw [own_name h, Bool.not_not]
  cases (decide (4 ≤ p.kind) && decide (p.kind ≤ 6)) with
  | false => simp
  | true =>
    simp only [Bool.true_and]
    unfold hasS
    rw [List.any_map]
    rfl
theorem own_kind {p : Typ} (h : ownOk p = true) : p.kind ≤ 9 := by
  unfold ownOk at h
  simp only [Bool.and_eq_true, decide_eq_true_eq] at h
  exact h.1.2
set_option maxHeartbeats 4000000 in
/-- Valid. -/
theorem r268 (v : Nat) (l : List Typ) (hl : l.length ≤ 2147483648) (ho : ∀ t ∈ l, t.ok) (hs : ∀ t ∈ l, t.short) : res A PrA 268 [.agg [.lst v (l.map Typ.c)]] = some [.int .i64 (validR l)] := by
  refine res_of a268 rfl rfl ?_
  simp only [F268]
  simp (disch := omega) only [go_sem]
  refine Br.ofP (fun c0 => ?_) (fun c0 => ?_) <;> simp (disch := omega) only [go_sem, c0]
  · have : 32 < l.length := by omega
    simp [validR, this]
  have h32 : ¬ 32 < l.length := by omega
  unfold validR
  rw [if_neg h32]
  obtain ⟨G, hG⟩ : ∃ G, errOf l ((List.range l.length).find? fun k => decide (errIdx l k ≠ 0)) = G := ⟨_, rfl⟩
  rw [hG]
  refine W.find (List.range l.length) (fun k => decide (errIdx l k ≠ 0)) (fun k => ⟨[(1, .ptr 1 0), (3, .pv (.int .i64 k))], ⟨[(1, [.pv (.lst v (l.map Typ.c))])], [], []⟩⟩) rfl (fun k x hx hk hfd => ?_) (fun hn => ?_)
  · obtain ⟨rfl, hk⟩ := range_get hx
    have hp := List.getElem?_eq_getElem hk
    generalize l[x] = p at hp
    have hm := List.mem_of_getElem? hp
    have h285 := r285 p (ho p hm) (hs p hm)
    have h286 := r286 p.kind
    have he : errIdx l x = errAt l x p := by simp only [errIdx, hp]
    have done : ∀ e : Int, errAt l x p = e → e ≠ 0 → (some [PV.int .i64 e] : Option (List PV)) = some [.int .i64 G] := fun e h1 h2 => by
      rw [← hG, (hfd (by rw [he, h1]; simpa using h2)).find, errOf, he, h1]
    rw [he]
    have hul : (usesT p).length ≤ 1048578 := by
      have := (hs p hm).mems
      unfold usesT keysT elemsT
      rw [List.length_append, List.length_append, List.length_map]
      split <;> split <;> simp <;> omega
    have h287 := fun h9 => r287 p (hs p hm) h9
    unfold Typ.c at h285 h287
    simp (disch := omega) only [go_sem]
    refine Br.ofP (fun c => ?_) (fun c => (c (by omega)).elim)
    simp (disch := omega) only [go_sem, hp, Typ.c, h285]
    refine Br.of (fun c1 => ?_) (fun c1 => ?_) <;> simp (disch := omega) only [go_sem, c1]
    rotate_left
    · exact done 1 (by simp [errAt, c1]) (by decide)
    have h287 := h287 (own_kind c1)
    have hdup := dup_own (l := l) (k := x) c1
    have herr : (!ownOk p || dupName l x p) = dupName l x p := by rw [c1]; rfl
    generalize hnm : (decide (4 ≤ p.kind) && decide (p.kind ≤ 6)) = nm at h286 hdup
    refine W.find (l.take x) (fun q => nm && decide (q.name = p.name)) (fun j => ⟨[(1, .ptr 1 0), (3, .pv (.int .i64 x)), (4, .ptr 4 0), (5, .pv (.int .i64 j))], ⟨[(1, [.pv (.lst v (l.map Typ.c))]), (4, [.pv (.int .i64 p.kind), .pv (.str p.name), .pv (.int .i64 p.low), .pv (.int .i64 p.high), .pv (.int .i64 p.max), .pv (.lst 0 (p.syms.map Sym.c)), .pv (.lst 0 (p.mems.map Mem.c)), .pv (.int .i64 p.key), .pv (.int .i64 p.elem), .pv (.bool p.opn)])], [], []⟩⟩) rfl (fun j q hj hjl hfd2 => ?_) (fun hn => ?_)
    · have hjl' : j < x ∧ j < l.length := by rw [List.length_take] at hjl; omega
      have hj' : l[j]? = some q := by
        rw [List.getElem?_take, if_pos hjl'.1] at hj
        exact hj
      simp (disch := omega) only [go_sem]
      refine Br.ofP (fun c => ?_) (fun c => (c (by omega)).elim)
      simp (disch := omega) only [go_sem, h286]
      refine Br.of (fun c2 => ?_) (fun c2 => ?_)
      · simp (disch := omega) only [go_sem, c2, hj', Typ.c]
        refine Br.ofP (fun c3 => ?_) (fun c3 => ?_) <;> simp (disch := omega) only [go_sem, c3]
        · refine done 1 ?_ (by decide)
          rw [errAt, herr, hdup, (hfd2 (by simp [c2, c3])).any]
          rfl
        · exact findK.of (by simp [c3]) rfl
      · simp (disch := omega) only [go_sem, c2]
        exact findK.of (by simp [c2]) rfl
    · have hlx : (l.take x).length = x := by rw [List.length_take]; omega
      rw [hlx]
      have hd : (!ownOk p || dupName l x p) = false := by rw [herr, hdup, hn.any]
      simp (disch := omega) only [go_sem, h287]
      refine W.find (usesT p) (outR l.length) (fun j => ⟨[(1, .ptr 1 0), (3, .pv (.int .i64 x)), (4, .ptr 4 0), (6, .pv (.lst 0 (ints (usesT p)))), (7, .pv (.int .i64 j))], ⟨[(1, [.pv (.lst v (l.map Typ.c))]), (4, [.pv (.int .i64 p.kind), .pv (.str p.name), .pv (.int .i64 p.low), .pv (.int .i64 p.high), .pv (.int .i64 p.max), .pv (.lst 0 (p.syms.map Sym.c)), .pv (.lst 0 (p.mems.map Mem.c)), .pv (.int .i64 p.key), .pv (.int .i64 p.elem), .pv (.bool p.opn)])], [], []⟩⟩) rfl (fun j u hu hj hfd2 => ?_) (fun hn => ?_)
      · have d4 : outR l.length u = true → errAt l x p = 4 := fun g => by
          rw [errAt, hd, (hfd2 g).any]
          rfl
        simp (disch := omega) only [go_sem]
        refine Br.ofP (fun c => ?_) (fun c => (c (by omega)).elim)
        simp (disch := omega) only [go_sem, hu]
        refine Br.ofP (fun c4 => ?_) (fun c4 => ?_) <;> simp (disch := omega) only [go_sem, c4]
        · exact done 4 (d4 (by simp [outR, c4])) (by decide)
        simp (disch := omega) only [go_sem, hu]
        refine Br.ofP (fun c5 => ?_) (fun c5 => ?_) <;> simp (disch := omega) only [go_sem, c5]
        · exact done 4 (d4 (by simp [outR, c5])) (by decide)
        · exact findK.of (by simp [outR, c4, c5]) rfl
      · have he2 : errAt l x p = if badKey l p = true then 1 else 0 := by
          rw [errAt, hd, hn.any]
          rfl
        simp (disch := omega) only [go_sem]
        refine Br.ofP (fun c4 => ?_) (fun c4 => ?_)
        · have hku := key_used c4
          have hout := List.any_eq_false.1 hn.any _ hku
          have hk0 : 0 ≤ p.key ∧ p.key < l.length := by
            simp [outR] at hout
            omega
          have hkk := List.getElem?_eq_getElem (l := l) (i := p.key.toNat) (by omega)
          have hka : kindAt l p.key = (l[p.key.toNat]'(by omega)).kind := by rw [kindAt, hkk]; rfl
          generalize l[p.key.toNat]'(by omega) = q at hkk hka
          have d8 : decide (p.kind = 8) = true := by simp [c4]
          have hb : badKey l p = !(decide (1 ≤ q.kind) && decide (q.kind ≤ 4)) := by rw [badKey, d8, hka]; rfl
          have hidx : idxR 10 v (l.map Typ.c) (some p.key) = some (V.pv (.ro v q.c)) := by
            rw [idxR_int _ _ _ hk0.1, List.getElem?_map, hkk]
            rfl
          have h288 := r288 q.kind
          generalize (decide (1 ≤ q.kind) && decide (q.kind ≤ 4)) = kk at hb h288
          unfold Typ.c at hidx
          unfold Typ.c
          simp (disch := omega) only [go_sem, d8, hidx, h288]
          refine Br.of (fun c6 => ?_) (fun c6 => ?_) <;> simp (disch := omega) only [go_sem, c6]
          · refine findK.of ?_ rfl
            rw [he2, hb, c6]
            rfl
          · refine done 1 ?_ (by decide)
            rw [he2, hb, c6]
            rfl
        · have d8 : decide (p.kind = 8) = false := by simp [c4]
          have hb : badKey l p = false := by rw [badKey, d8]; rfl
          simp (disch := omega) only [go_sem, d8]
          refine findK.of ?_ rfl
          rw [he2, hb]
          rfl
  · rw [hn.find] at hG
    rw [List.length_range]
    simp (disch := omega) only [go_sem]
    rw [← hG]
    rfl
set_option maxHeartbeats 1000000 in
/-- SchemaValid, given that the chapter is awake. -/
theorem r259 (r265 : res A PrA 265 [] = some [.bool true]) (l : List Typ) (hl : l.length ≤ 1048576) (ho : ∀ t ∈ l, t.ok) (hs : ∀ t ∈ l, t.short) : res A PrA 259 [.agg [.lst 0 (l.map Typ.c)]] = some [.bool true] := by
  refine res_of a259 rfl rfl ?_
  simp only [F259]
  have h266 := fun u => r266 u l ho
  have e1 := fun t => r267 t l (by omega) ho hs
  have e2 := fun t => r268 t l (by omega) ho hs
  generalize few l = f at h266
  generalize validR l = b at e1 e2
  simp (disch := omega) only [go_sem, r265, h266]
  cases f with
  | false => simp (disch := omega) only [go_sem, r265]
  | true => simp (disch := omega) only [go_sem, r265, e1, e2]
end Go.Pv

/-
  Chapter 07: searches; the error of a schema with a type; the types that a type uses, each once.
-/
namespace Go.Pv

theorem s118 (t : Nat) (l : List Int) (x : Int) (hl : l.length ≤ 2 ^ 63 - 1) : res A PrA 118 [.lst t (ints l), .int .i64 x] = some [.int .i64 (firstI (fun y => decide (y = x)) l)] := by
  refine res_of a118 rfl rfl ?_
  simp only [F118]
  simp (disch := omega) only [go_sem]
  refine W.find l (fun y => decide (y = x)) (fun k => ⟨[(0, .pv (.lst t (ints l))), (1, .pv (.int .i64 x)), (7, .pv (.int .i64 l.length)), (8, .pv (.int .i64 k))], ⟨[], [], []⟩⟩) rfl (fun k y hy hk hfd => ?_) (fun hn => ?_)
  · simp (disch := omega) only [go_sem]
    refine Br.ofP (fun c => ?_) (fun c => (c (by omega)).elim)
    simp (disch := omega) only [go_sem, hy]
    refine Br.ofP (fun g => ?_) (fun g => ?_) <;> simp (disch := omega) only [go_sem]
    · rw [(hfd (by simp [g])).firstI]
    · exact findK.of (by simpa using fun e => g e.symm) rfl
  · simp (disch := omega) only [go_sem]
    rw [hn.firstI]
theorem firstI_pos {l : List Int} {x : Int} : 0 ≤ firstI (fun y => decide (y = x)) l ↔ x ∈ l := by
  unfold firstI
  cases h : l.findIdx? (fun y => decide (y = x)) with
  | none =>
    rw [List.findIdx?_eq_none_iff] at h
    constructor
    · intro hh
      exact absurd hh (by decide)
    · intro hx
      have := h x hx
      simp at this
  | some k =>
    rw [List.findIdx?_eq_some_iff_getElem] at h
    obtain ⟨hk, hp, _⟩ := h
    constructor
    · intro _
      have e : l[k] = x := by simpa using hp
      rw [← e]
      exact List.getElem_mem hk
    · intro _
      exact Int.natCast_nonneg k
theorem s110 (t : Nat) (l : List Int) (x : Int) (hl : l.length ≤ 2 ^ 63 - 1) : res A PrA 110 [.lst t (ints l), .int .i64 x] = some [.bool (decide (x ∈ l))] := by
  refine res_of a110 rfl rfl ?_
  simp only [F110]
  have h118 := fun t => s118 t l x hl
  simp (disch := omega) only [go_sem, h118]
  simp only [firstI_pos]
theorem s293 (t : Nat) (l : List Int) (x : Int) (hl : l.length ≤ 2 ^ 63 - 1) : res A PrA 293 [.lst t (ints l), .int .i64 x] = some [.bool (decide (x ∈ l))] := by
  refine res_of a293 rfl rfl ?_
  simp only [F293]
  simp (disch := omega) only [go_sem]
  refine W.find l (fun y => decide (y = x)) (fun k => ⟨[(0, .pv (.lst t (ints l))), (1, .pv (.int .i64 x)), (5, .pv (.int .i64 k))], ⟨[], [], []⟩⟩) rfl (fun k y hy hk hfd => ?_) (fun hn => ?_)
  · simp (disch := omega) only [go_sem]
    refine Br.ofP (fun c => ?_) (fun c => (c (by omega)).elim)
    simp (disch := omega) only [go_sem, hy]
    refine Br.ofP (fun g => ?_) (fun g => ?_) <;> simp (disch := omega) only [go_sem]
    · have : x ∈ l := g ▸ List.mem_of_getElem? hy
      simp [this]
    · exact findK.of (by simpa using g) rfl
  · simp (disch := omega) only [go_sem]
    have : ¬ x ∈ l := fun hx => by simpa using List.any_eq_false.1 hn.any x hx
    simp [this]
theorem eqv_int (a b : Int) : eqv a b = decide (a = b) := by
  rw [Bool.eq_iff_iff, eqv_iff]
  simp
theorem s94 (t u : Nat) (l m : List Int) (hl : l.length ≤ 2 ^ 63 - 1) (hm : m.length ≤ 2 ^ 63 - 1) : res A PrA 94 [.lst t (ints l), .lst u (ints m)] = some [.bool (eqv l m)] := by
  refine res_of a94 rfl rfl ?_
  simp only [F94]
  simp (disch := omega) only [go_sem]
  refine Br.ofP (fun h => ?_) (fun h => ?_) <;> simp (disch := omega) only [go_sem]
  · refine W.find (l.zip m) (fun q => !eqv q.1 q.2) (fun k => ⟨[(0, .pv (.lst t (ints l))), (1, .pv (.lst u (ints m))), (5, .pv (.int .i64 k))], ⟨[], [], []⟩⟩) rfl (fun k q hq hk hfd => ?_) (fun hn => ?_)
    · obtain ⟨h1, h2⟩ := zip_get hq
      rw [zip_len (by omega)] at hk
      simp (disch := omega) only [go_sem]
      refine Br.ofP (fun c => ?_) (fun c => (c (by omega)).elim)
      simp (disch := omega) only [go_sem, h1, h2]
      rw [← eqv_int]
      refine Br.of (fun g => ?_) (fun g => ?_) <;> simp (disch := omega) only [go_sem]
      · exact findK.of (by rw [g]; rfl) rfl
      · rw [(hfd (by rw [g]; rfl)).ne]
    · have hz : (l.zip m).length = l.length := zip_len (by omega)
      rw [hz]
      simp (disch := omega) only [go_sem]
      rw [hn.eq (by omega), eqv_same]
  · rw [eqv_ne (fun e => h (by rw [e]))]
noncomputable def knownR (l : List Typ) (i : Int) : Int := if validR l ≠ 0 then validR l else if outR l.length i = true then 4 else 0
theorem r291 (v : Nat) (l : List Typ) (i : Int) (hl : l.length ≤ 2147483648) (ho : ∀ t ∈ l, t.ok) (hs : ∀ t ∈ l, t.short) : res A PrA 291 [.agg [.lst v (l.map Typ.c)], .int .i64 i] = some [.int .i64 (knownR l i)] := by
  refine res_of a291 rfl rfl ?_
  simp only [F291]
  have h267 := fun v => r267 v l hl ho hs
  unfold knownR outR
  generalize validR l = e at h267
  simp (disch := omega) only [go_sem, h267]
  refine Br.ofP (fun c => ?_) (fun c => ?_) <;> simp (disch := omega) only [go_sem, c]
  · refine Br.ofP (fun c2 => ?_) (fun c2 => ?_) <;> simp (disch := omega) only [go_sem, c2]
    · simp [c]
    · refine Br.ofP (fun c3 => ?_) (fun c3 => ?_) <;> simp (disch := omega) only [go_sem, c3]
      · simp [c]
      · simp [c, c2]
  · simp [c]
theorem r292 (v : Nat) (l : List Typ) (i : Int) (hl : l.length ≤ 2147483648) (ho : ∀ t ∈ l, t.ok) (hs : ∀ t ∈ l, t.short) : res A PrA 292 [.agg [.lst v (l.map Typ.c)], .int .i64 i] = some [.int .i64 (knownR l i)] := by
  refine res_of a292 rfl rfl ?_
  simp only [F292]
  have h268 := fun v => r268 v l hl ho hs
  unfold knownR outR
  generalize validR l = e at h268
  simp (disch := omega) only [go_sem, h268]
  refine Br.ofP (fun c => ?_) (fun c => ?_) <;> simp (disch := omega) only [go_sem, c]
  · refine Br.ofP (fun c2 => ?_) (fun c2 => ?_) <;> simp (disch := omega) only [go_sem, c2]
    · simp [c]
    · refine Br.ofP (fun c3 => ?_) (fun c3 => ?_) <;> simp (disch := omega) only [go_sem, c3]
      · simp [c]
      · simp [c, c2]
  · simp [c]
end Go.Pv

/-
  Chapter 07: what a type uses, each once, and what is reached.
-/
namespace Go.Pv

def noTyp : Typ := ⟨0, ⟨#[]⟩, 0, 0, 0, [], [], 0, 0, false⟩
def typAt (l : List Typ) (i : Int) : Typ := (l[i.toNat]?).getD noTyp
/-- What is known of a schema that is known to be valid. -/
structure Sane (l : List Typ) : Prop where
  len : l.length ≤ 32
  own : ∀ t ∈ l, ownOk t = true
  uses : ∀ t ∈ l, ∀ u ∈ usesT t, 0 ≤ u ∧ u < l.length
theorem valid_sane {l : List Typ} (h : validR l = 0) : Sane l := by
  unfold validR at h
  split at h
  · cases h
  · rename_i hl
    have hz : ∀ k, k < l.length → errIdx l k = 0 := by
      cases hf : (List.range l.length).find? (fun k => decide (errIdx l k ≠ 0)) with
      | none =>
        intro k hk
        have := List.find?_eq_none.1 hf k (List.mem_range.2 hk)
        simpa using this
      | some k =>
        rw [hf] at h
        have := List.find?_some hf
        simp only [errOf] at h
        simp [h] at this
    have hone : ∀ t ∈ l, ownOk t = true ∧ (usesT t).any (outR l.length) = false := by
      intro t ht
      obtain ⟨k, hk⟩ := List.mem_iff_getElem?.1 ht
      have := hz k (List.getElem?_eq_some_iff.1 hk).1
      simp only [errIdx, hk, errAt] at this
      split at this
      · cases this
      · rename_i h1
        split at this
        · cases this
        · rename_i h2
          simp only [Bool.or_eq_true, Bool.not_eq_true', not_or, Bool.not_eq_false] at h1
          exact ⟨h1.1, by simpa using h2⟩
    refine ⟨by omega, fun t ht => (hone t ht).1, fun t ht u hu => ?_⟩
    have := List.any_eq_false.1 (hone t ht).2 u hu
    simp [outR] at this
    omega
theorem known_zero {l : List Typ} {i : Int} (h : knownR l i = 0) : validR l = 0 ∧ 0 ≤ i ∧ i < l.length := by
  unfold knownR at h
  split at h
  · rename_i h1
    exact absurd h h1
  · rename_i h1
    split at h
    · cases h
    · rename_i h2
      simp only [outR, Bool.or_eq_true, decide_eq_true_eq, not_or] at h2
      exact ⟨by omega, by omega, by omega⟩
theorem typAt_get {l : List Typ} {i : Int} (h0 : 0 ≤ i) (h : i < l.length) : l[i.toNat]? = some (typAt l i) := by
  have := List.getElem?_eq_getElem (l := l) (i := i.toNat) (by omega)
  rw [typAt, this]
  rfl
theorem uses_len {t : Typ} (h : t.short) : (usesT t).length ≤ 1048578 := by
  have := h.mems
  unfold usesT keysT elemsT
  rw [List.length_append, List.length_append, List.length_map]
  split <;> split <;> simp <;> omega
noncomputable def usesR (l : List Typ) (i : Int) : List Int × Int := if knownR l i ≠ 0 then ([], knownR l i) else (addL [] (usesT (typAt l i)), 0)
theorem addN_len (o : List Int) (x : Int) : (addN o x).length ≤ o.length + 1 := by
  unfold addN
  split
  · omega
  · simp
theorem idx_typ {v : Nat} {l : List Typ} {i : Int} (h0 : 0 ≤ i) (h : i < l.length) : idxR 10 v (l.map Typ.c) (some i) = some (V.pv (.ro v (typAt l i).c)) := by
  rw [idxR_int _ _ _ h0, List.getElem?_map, typAt_get h0 h]
  rfl
set_option maxHeartbeats 2000000 in
/-- Uses. -/
theorem r271 (v : Nat) (l : List Typ) (i : Int) (hl : l.length ≤ 2147483648) (ho : ∀ t ∈ l, t.ok) (hs : ∀ t ∈ l, t.short) : res A PrA 271 [.agg [.lst v (l.map Typ.c)], .int .i64 i] = some [.lst 0 (ints (usesR l i).1), .int .i64 (usesR l i).2] := by
  refine res_of a271 rfl rfl ?_
  simp only [F271]
  have h291 := fun v => r291 v l i hl ho hs
  unfold usesR
  simp (disch := omega) only [go_sem, h291]
  refine Br.ofP (fun c => ?_) (fun c => ?_) <;> simp (disch := omega) only [go_sem, c]
  rotate_left
  · simp [c, ints]
  obtain ⟨hv, hi0, hin⟩ := known_zero c
  rw [if_neg (by simp [c])]
  have hget := typAt_get hi0 hin
  have hidx := idx_typ (v := v) hi0 hin
  have h284 := r284 (typAt l i) (hs _ (List.mem_of_getElem? hget))
  have hul := uses_len (hs _ (List.mem_of_getElem? hget))
  generalize typAt l i = p at *
  unfold Typ.c at h284 hidx
  unfold Typ.c
  simp (disch := omega) only [go_sem, hidx, h284]
  refine W.fold (usesT p) addN [] (fun k o => ⟨[(7, grV 0 (ints o)), (21, .pv (.lst 0 (ints (usesT p)))), (22, .pv (.int .i64 (usesT p).length)), (23, .pv (.int .i64 k))], ⟨[], grA 1 (ints o), []⟩⟩) (fun k o => o.length ≤ k) rfl (Nat.le_refl 0) (fun k u o hu hk _ hI => ?_) (fun o hacc hI => ?_)
  · have h110 := fun t => s110 t o u (by omega)
    have hI2 : (addN o u).length ≤ k + 1 := Nat.le_trans (addN_len o u) (by omega)
    simp (disch := omega) only [go_sem]
    refine Br.ofP (fun c => ?_) (fun c => (c (by omega)).elim)
    simp (disch := omega) only [go_sem, hu, h110]
    refine Br.ofP (fun c2 => ?_) (fun c2 => ?_) <;> simp (disch := omega) only [go_sem, c2]
    · refine foldK.of ?_ hI2
      show _ = St.mk _ _
      rw [addN, if_pos c2]
      rfl
    · refine foldK.of ?_ hI2
      show _ = St.mk _ _
      rw [addN, if_neg c2]
      rfl
  · simp (disch := omega) only [go_sem]
    rw [hacc]
    rfl
set_option maxHeartbeats 2000000 in
/-- Uses, of the document. -/
theorem r272 (v : Nat) (l : List Typ) (i : Int) (hl : l.length ≤ 2147483648) (ho : ∀ t ∈ l, t.ok) (hs : ∀ t ∈ l, t.short) : res A PrA 272 [.agg [.lst v (l.map Typ.c)], .int .i64 i] = some [.lst 0 (ints (usesR l i).1), .int .i64 (usesR l i).2] := by
  refine res_of a272 rfl rfl ?_
  simp only [F272]
  have h292 := fun v => r292 v l i hl ho hs
  unfold usesR
  simp (disch := omega) only [go_sem, h292]
  refine Br.ofP (fun c => ?_) (fun c => ?_) <;> simp (disch := omega) only [go_sem, c]
  rotate_left
  · simp [c, ints]
  obtain ⟨hv, hi0, hin⟩ := known_zero c
  rw [if_neg (by simp [c])]
  have hget := typAt_get hi0 hin
  have hidx := idx_typ (v := v) hi0 hin
  have h287 := r287 (typAt l i) (hs _ (List.mem_of_getElem? hget)) (own_kind ((valid_sane hv).own _ (List.mem_of_getElem? hget)))
  have hul := uses_len (hs _ (List.mem_of_getElem? hget))
  generalize typAt l i = p at *
  unfold Typ.c at h287 hidx
  unfold Typ.c
  simp (disch := omega) only [go_sem, hidx, h287]
  refine W.fold (usesT p) addN [] (fun k o => ⟨[(7, .pv (.lst 0 (ints (usesT p)))), (8, grV 0 (ints o)), (9, .pv (.int .i64 k))], ⟨[], grA 1 (ints o), []⟩⟩) (fun k o => o.length ≤ k) rfl (Nat.le_refl 0) (fun k u o hu hk _ hI => ?_) (fun o hacc hI => ?_)
  · have h293 := fun t => s293 t o u (by omega)
    have hI2 : (addN o u).length ≤ k + 1 := Nat.le_trans (addN_len o u) (by omega)
    simp (disch := omega) only [go_sem]
    refine Br.ofP (fun c => ?_) (fun c => (c (by omega)).elim)
    simp (disch := omega) only [go_sem, hu, h293]
    refine Br.ofP (fun c2 => ?_) (fun c2 => ?_) <;> simp (disch := omega) only [go_sem, c2]
    · refine foldK.of ?_ hI2
      show _ = St.mk _ _
      rw [addN, if_pos c2]
      rfl
    · simp (disch := omega) only [go_sem, hu]
      refine foldK.of ?_ hI2
      show _ = St.mk _ _
      rw [addN, if_neg c2]
      rfl
  · simp (disch := omega) only [go_sem]
    rw [hacc]
    rfl
end Go.Pv

/-
  Chapter 07: what is reached from a type.
-/
namespace Go.Pv

def nxT (l : List Typ) (u : Int) : List Int := usesT (typAt l u)
def inT (l : List Typ) (u : Int) : Prop := 0 ≤ u ∧ u < l.length
def reachL (l : List Typ) (i : Int) : List Int := bfs (nxT l) l.length 0 [i]
noncomputable def reachR (l : List Typ) (i : Int) : List Int × Int := if knownR l i ≠ 0 then ([], knownR l i) else (isort ltI (reachL l i), 0)
theorem Sane.next {l : List Typ} (h : Sane l) : ∀ v, inT l v → ∀ x ∈ nxT l v, inT l x := fun v hv x hx =>
  h.uses _ (List.mem_of_getElem? (typAt_get hv.1 hv.2)) x hx
theorem inT_bound {l : List Typ} (o : List Int) (hd : o.Nodup) (h : ∀ v ∈ o, inT l v) : o.length ≤ l.length := nodup_bound hd h
set_option maxHeartbeats 4000000 in
/-- Reachable. -/
theorem r273 (v : Nat) (l : List Typ) (i : Int) (hl : l.length ≤ 2147483648) (ho : ∀ t ∈ l, t.ok) (hs : ∀ t ∈ l, t.short) : res A PrA 273 [.agg [.lst v (l.map Typ.c)], .int .i64 i] = some [.lst 0 (ints (reachR l i).1), .int .i64 (reachR l i).2] := by
  refine res_of a273 rfl rfl ?_
  simp only [F273]
  have h291 := fun v => r291 v l i hl ho hs
  unfold reachR
  simp (disch := omega) only [go_sem, h291]
  refine Br.ofP (fun c => ?_) (fun c => ?_) <;> simp (disch := omega) only [go_sem, c]
  rotate_left
  · simp [c, ints]
  obtain ⟨hv, hi0, hin⟩ := known_zero c
  rw [if_neg (by simp [c])]
  have hsane := valid_sane hv
  have h32 := hsane.len
  refine W.loop (α := Nat × List Int) (fun x => ⟨[(2, .ptr 2 0), (7, glV 0 1 (ints x.2)), (8, .pv (.int .i64 x.1))], ⟨[(2, [.pv (.lst v (l.map Typ.c))])], glA 1 1 (ints x.2), []⟩⟩)
    (fun x => x.2.Nodup ∧ (∀ v ∈ x.2, inT l v) ∧ 1 ≤ x.2.length ∧ x.1 ≤ x.2.length ∧ bfs (nxT l) (l.length - x.1) x.1 x.2 = reachL l i) (fun x => l.length - x.1) (0, [i]) rfl ⟨by simp, fun w hw => (List.mem_singleton.1 hw) ▸ ⟨hi0, hin⟩, by simp, by simp, rfl⟩ fun x hx => ?_
  obtain ⟨j, o⟩ := x
  obtain ⟨hd, hin', h1, h2, hb⟩ := hx
  dsimp only at hd hin' h1 h2 hb
  have hlen := inT_bound o hd hin'
  simp (disch := omega) only [go_sem]
  refine Br.ofP (fun h => ?_) (fun h => ?_)
  · have hw := List.getElem?_eq_getElem (l := o) (i := j) (by omega)
    generalize o[j]'(by omega) = w at hw
    obtain ⟨hw0, hw1⟩ := hin' w (List.mem_of_getElem? hw)
    have hget := typAt_get hw0 hw1
    have hidx := idx_typ (v := v) hw0 hw1
    have h284 := r284 (typAt l w) (hs _ (List.mem_of_getElem? hget))
    have hul := uses_len (hs _ (List.mem_of_getElem? hget))
    have hnx : nxT l w = usesT (typAt l w) := rfl
    have huses := hsane.uses _ (List.mem_of_getElem? hget)
    generalize typAt l w = p at *
    unfold Typ.c at h284 hidx
    unfold Typ.c at *
    have inner : ∀ (k : Nat) (o : List Int), (o.Nodup ∧ (∀ v ∈ o, inT l v) ∧ 1 ≤ o.length ∧ j < o.length) → ∀ u ∈ usesT p, (addN o u).Nodup ∧ (∀ v ∈ addN o u, inT l v) ∧ 1 ≤ (addN o u).length ∧ j < (addN o u).length := by
      rintro k o ⟨g1, g2, g3, g4⟩ u hu
      obtain ⟨r, hr⟩ := addN_pre o u
      refine ⟨addN_nodup g1, fun x hx => (addN_mem.1 hx).elim (g2 x) (fun q => q ▸ huses u hu), by rw [← hr, List.length_append]; omega, by rw [← hr, List.length_append]; omega⟩
    have hgl := gl_cases (b := 1) (rows := ints o)
    have hVA : ∃ V0 A0, glV 0 1 (ints o) = V0 ∧ glA 1 1 (ints o) = A0 ∧ ((V0 = .tl (ints o) ∧ A0 = []) ∨ ∃ m, (ints o).length = 1 + m + 1 ∧ V0 = .own 0 m 0 (1 + m + 1) ∧ A0 = [⟨m, 1, .inl (ints o)⟩]) := by
      rcases hgl with hc | ⟨m, hc⟩
      · exact ⟨_, _, glV_lit hc, glA_lit hc, .inl ⟨rfl, rfl⟩⟩
      · exact ⟨_, _, glV_own hc, glA_own hc, .inr ⟨m, hc, rfl, rfl⟩⟩
    obtain ⟨V0, A0, hV0, hA0, hcase⟩ := hVA
    rw [hV0, hA0]
    rcases hcase with ⟨e1, e2⟩ | ⟨m, hc, e1, e2⟩
    all_goals rw [e1] at hV0 ⊢
    all_goals rw [e2] at hA0 ⊢
    all_goals try rw [ints_length] at hc
    all_goals simp (disch := omega) only [go_sem, hw, hidx, h284]
    all_goals
      refine W.fold (usesT p) addN o (fun k o => ⟨[(2, .ptr 2 0), (7, glV 0 1 (ints o)), (8, .pv (.int .i64 j)), (33, .pv (.lst 0 (ints (usesT p)))), (34, .pv (.int .i64 (usesT p).length)), (35, .pv (.int .i64 k))], ⟨[(2, [.pv (.lst v (l.map Typ.c))])], glA 1 1 (ints o), []⟩⟩)
        (fun _ o => o.Nodup ∧ (∀ v ∈ o, inT l v) ∧ 1 ≤ o.length ∧ j < o.length) ?_ ⟨hd, hin', h1, by omega⟩ (fun k u o hu hk _ hI => ?_) (fun o hacc hI => ?_)
      · show _ = St.mk _ _
        rw [hV0, hA0]
        rfl
      · have hI2 := inner k o hI u (List.mem_of_getElem? hu)
        obtain ⟨g1, g2, g3, g4⟩ := hI
        have hlen := inT_bound o g1 g2
        have h110 := fun t => s110 t o u (by omega)
        simp (disch := omega) only [go_sem]
        refine Br.ofP (fun c => ?_) (fun c => (c (by omega)).elim)
        simp (disch := omega) only [go_sem, hu, h110]
        refine Br.ofP (fun c2 => ?_) (fun c2 => ?_) <;> simp (disch := omega) only [go_sem, c2]
        · refine foldK.of ?_ hI2
          show _ = St.mk _ _
          rw [addN, if_pos c2]
          rfl
        · rcases gl_cases (b := 1) (rows := ints o) with hc | ⟨m, hc⟩
          · rw [glV_lit hc, glA_lit hc]
            rw [ints_length] at hc
            simp (disch := omega) only [go_sem]
            refine foldK.of ?_ hI2
            show _ = St.mk _ _
            rw [addN, if_neg c2, glV_intsS g3, glA_intsS g3, show o.length - 1 = 0 by omega]
            rfl
          · rw [glV_own hc, glA_own hc]
            rw [ints_length] at hc
            simp (disch := omega) only [go_sem]
            refine foldK.of ?_ hI2
            show _ = St.mk _ _
            rw [addN, if_neg c2, glV_intsS g3, glA_intsS g3, show o.length - 1 = m + 1 by omega, hc]
            rfl
      · obtain ⟨g1, g2, g3, g4⟩ := hI
        simp (disch := omega) only [go_sem]
        refine ⟨(j + 1, o), ⟨g1, g2, g3, g4, ?_⟩, by dsimp only; omega, rfl⟩
        dsimp only
        rw [← hb, hacc]
        obtain ⟨q, hq⟩ : ∃ q, l.length - j = q + 1 := ⟨l.length - j - 1, by omega⟩
        rw [hq, bfs_step hw, hnx]
        congr 1
        omega
  · rw [bfs_end (by omega)] at hb
    rw [← hb]
    rcases gl_cases (b := 1) (rows := ints o) with hc | ⟨m, hc⟩
    · have hc1 : o.length = 1 := by rw [ints_length] at hc; omega
      rw [glV_lit hc, glA_lit hc]
      obtain ⟨y, rfl⟩ := List.length_eq_one_iff.1 hc1
      simp (disch := omega) only [go_sem, ints, List.map_cons, List.map_nil]
      rfl
    · rw [glV_own hc, glA_own hc]
      rw [ints_length] at hc
      simp (disch := omega) only [go_sem]
      rw [List.take_of_length_le (by rw [isort_lenS]; omega)]
end Go.Pv

/-
  Chapter 07: what is reached from a type, as the document says; the law of Uses and Reachable.
-/
namespace Go.Pv

/-- Of the numbers from 0 on those that a list has. -/
def pickI (o : List Int) (n : Nat) : List Int := ((List.range n).filter fun (k : Nat) => decide ((k : Int) ∈ o)).map fun (k : Nat) => (k : Int)
theorem pickI_len (o : List Int) (n : Nat) : (pickI o n).length ≤ n := by
  unfold pickI
  rw [List.length_map]
  exact Nat.le_trans (List.length_filter_le _ _) (by simp)
theorem pickI_succ (o : List Int) (n : Nat) : pickI o (n + 1) = if (n : Int) ∈ o then pickI o n ++ [(n : Int)] else pickI o n := by
  unfold pickI
  rw [List.range_succ, List.filter_append, List.map_append]
  by_cases h : (n : Int) ∈ o
  · simp [h]
  · simp [h]
theorem pickI_mem {o : List Int} {n : Nat} {x : Int} : x ∈ pickI o n ↔ x ∈ o ∧ 0 ≤ x ∧ x < n := by
  unfold pickI
  simp only [List.mem_map, List.mem_filter, List.mem_range, decide_eq_true_eq]
  constructor
  · rintro ⟨k, ⟨h1, h2⟩, rfl⟩
    exact ⟨h2, by omega, by omega⟩
  · rintro ⟨h1, h2, h3⟩
    exact ⟨x.toNat, ⟨by omega, by rw [Int.toNat_of_nonneg h2]; exact h1⟩, by omega⟩
theorem pickI_asc (o : List Int) (n : Nat) : (pickI o n).Pairwise (· < ·) := by
  unfold pickI
  rw [List.pairwise_map]
  have : (List.range n).Pairwise (· < ·) := List.pairwise_lt_range
  exact (this.filter _).imp (fun h => by omega)
theorem isort_asc {o : List Int} (hd : o.Nodup) : (isort ltI o).Pairwise (· < ·) := by
  have h1 := isort_sorted o
  have h2 : (isort ltI o).Nodup := (isort_perm ltI o).nodup_iff.2 hd
  exact List.Pairwise.imp₂ (fun a b h h' => by omega) h1 h2
theorem pickI_all {l : List Typ} {o : List Int} (hd : o.Nodup) (hin : ∀ v ∈ o, inT l v) : pickI o l.length = isort ltI o := by
  refine asc_ext (pickI_asc o _) (isort_asc hd) fun x => ?_
  rw [pickI_mem, (isort_perm ltI o).mem_iff]
  exact ⟨fun h => h.1, fun h => ⟨h, hin x h⟩⟩
set_option maxHeartbeats 4000000 in
/-- Reachable, of the document. -/
theorem r274 (v : Nat) (l : List Typ) (i : Int) (hl : l.length ≤ 2147483648) (ho : ∀ t ∈ l, t.ok) (hs : ∀ t ∈ l, t.short) : res A PrA 274 [.agg [.lst v (l.map Typ.c)], .int .i64 i] = some [.lst 0 (ints (reachR l i).1), .int .i64 (reachR l i).2] := by
  refine res_of a274 rfl rfl ?_
  simp only [F274]
  have h292 := fun v => r292 v l i hl ho hs
  unfold reachR
  simp (disch := omega) only [go_sem, h292]
  refine Br.ofP (fun c => ?_) (fun c => ?_) <;> simp (disch := omega) only [go_sem, c]
  rotate_left
  · simp [c, ints]
  obtain ⟨hv, hi0, hin⟩ := known_zero c
  rw [if_neg (by simp [c])]
  have hsane := valid_sane hv
  have h32 := hsane.len
  refine W.loop (α := Nat × List Int) (fun x => ⟨[(2, .ptr 2 0), (7, glV 0 1 (ints x.2)), (8, .pv (.int .i64 x.1))], ⟨[(2, [.pv (.lst v (l.map Typ.c))])], glA 1 1 (ints x.2), []⟩⟩)
    (fun x => x.2.Nodup ∧ (∀ v ∈ x.2, inT l v) ∧ 1 ≤ x.2.length ∧ x.1 ≤ x.2.length ∧ bfs (nxT l) (l.length - x.1) x.1 x.2 = reachL l i) (fun x => l.length - x.1) (0, [i]) rfl ⟨by simp, fun w hw => (List.mem_singleton.1 hw) ▸ ⟨hi0, hin⟩, by simp, by simp, rfl⟩ fun x hx => ?_
  obtain ⟨j, o⟩ := x
  obtain ⟨hd, hin', h1, h2, hb⟩ := hx
  dsimp only at hd hin' h1 h2 hb
  have hlen := inT_bound o hd hin'
  simp (disch := omega) only [go_sem]
  refine Br.ofP (fun h => ?_) (fun h => ?_)
  · have hw := List.getElem?_eq_getElem (l := o) (i := j) (by omega)
    generalize o[j]'(by omega) = w at hw
    obtain ⟨hw0, hw1⟩ := hin' w (List.mem_of_getElem? hw)
    have hget := typAt_get hw0 hw1
    have hidx := idx_typ (v := v) hw0 hw1
    have h287 := r287 (typAt l w) (hs _ (List.mem_of_getElem? hget)) (own_kind (hsane.own _ (List.mem_of_getElem? hget)))
    have hul := uses_len (hs _ (List.mem_of_getElem? hget))
    have hnx : nxT l w = usesT (typAt l w) := rfl
    have huses := hsane.uses _ (List.mem_of_getElem? hget)
    generalize typAt l w = p at *
    unfold Typ.c at h287 hidx
    unfold Typ.c at *
    have inner : ∀ (k : Nat) (o : List Int), (o.Nodup ∧ (∀ v ∈ o, inT l v) ∧ 1 ≤ o.length ∧ j < o.length) → ∀ u ∈ usesT p, (addN o u).Nodup ∧ (∀ v ∈ addN o u, inT l v) ∧ 1 ≤ (addN o u).length ∧ j < (addN o u).length := by
      rintro k o ⟨g1, g2, g3, g4⟩ u hu
      obtain ⟨r, hr⟩ := addN_pre o u
      refine ⟨addN_nodup g1, fun x hx => (addN_mem.1 hx).elim (g2 x) (fun q => q ▸ huses u hu), by rw [← hr, List.length_append]; omega, by rw [← hr, List.length_append]; omega⟩
    have hgl := gl_cases (b := 1) (rows := ints o)
    have hVA : ∃ V0 A0, glV 0 1 (ints o) = V0 ∧ glA 1 1 (ints o) = A0 ∧ ((V0 = .tl (ints o) ∧ A0 = []) ∨ ∃ m, (ints o).length = 1 + m + 1 ∧ V0 = .own 0 m 0 (1 + m + 1) ∧ A0 = [⟨m, 1, .inl (ints o)⟩]) := by
      rcases hgl with hc | ⟨m, hc⟩
      · exact ⟨_, _, glV_lit hc, glA_lit hc, .inl ⟨rfl, rfl⟩⟩
      · exact ⟨_, _, glV_own hc, glA_own hc, .inr ⟨m, hc, rfl, rfl⟩⟩
    obtain ⟨V0, A0, hV0, hA0, hcase⟩ := hVA
    rw [hV0, hA0]
    rcases hcase with ⟨e1, e2⟩ | ⟨m, hc, e1, e2⟩
    all_goals rw [e1] at hV0 ⊢
    all_goals rw [e2] at hA0 ⊢
    all_goals try rw [ints_length] at hc
    all_goals simp (disch := omega) only [go_sem, hw, hidx, h287]
    all_goals
      refine W.fold (usesT p) addN o (fun k o => ⟨[(2, .ptr 2 0), (7, glV 0 1 (ints o)), (8, .pv (.int .i64 j)), (9, .pv (.lst 0 (ints (usesT p)))), (10, .pv (.int .i64 k))], ⟨[(2, [.pv (.lst v (l.map Typ.c))])], glA 1 1 (ints o), []⟩⟩)
        (fun _ o => o.Nodup ∧ (∀ v ∈ o, inT l v) ∧ 1 ≤ o.length ∧ j < o.length) ?_ ⟨hd, hin', h1, by omega⟩ (fun k u o hu hk _ hI => ?_) (fun o hacc hI => ?_)
      · show _ = St.mk _ _
        rw [hV0, hA0]
        rfl
      · have hI2 := inner k o hI u (List.mem_of_getElem? hu)
        obtain ⟨g1, g2, g3, g4⟩ := hI
        have hlen := inT_bound o g1 g2
        have h293 := fun t => s293 t o u (by omega)
        simp (disch := omega) only [go_sem]
        refine Br.ofP (fun c => ?_) (fun c => (c (by omega)).elim)
        simp (disch := omega) only [go_sem, hu, h293]
        refine Br.ofP (fun c2 => ?_) (fun c2 => ?_) <;> simp (disch := omega) only [go_sem, c2]
        · refine foldK.of ?_ hI2
          show _ = St.mk _ _
          rw [addN, if_pos c2]
          rfl
        · rcases gl_cases (b := 1) (rows := ints o) with hc | ⟨m, hc⟩
          · rw [glV_lit hc, glA_lit hc]
            rw [ints_length] at hc
            simp (disch := omega) only [go_sem, hu]
            refine foldK.of ?_ hI2
            show _ = St.mk _ _
            rw [addN, if_neg c2, glV_intsS g3, glA_intsS g3, show o.length - 1 = 0 by omega]
            rfl
          · rw [glV_own hc, glA_own hc]
            rw [ints_length] at hc
            simp (disch := omega) only [go_sem, hu]
            refine foldK.of ?_ hI2
            show _ = St.mk _ _
            rw [addN, if_neg c2, glV_intsS g3, glA_intsS g3, show o.length - 1 = m + 1 by omega, hc]
            rfl
      · obtain ⟨g1, g2, g3, g4⟩ := hI
        simp (disch := omega) only [go_sem]
        refine ⟨(j + 1, o), ⟨g1, g2, g3, g4, ?_⟩, by dsimp only; omega, rfl⟩
        dsimp only
        rw [← hb, hacc]
        obtain ⟨q, hq⟩ : ∃ q, l.length - j = q + 1 := ⟨l.length - j - 1, by omega⟩
        rw [hq, bfs_step hw, hnx]
        congr 1
        omega
  · rw [bfs_end (by omega)] at hb
    rw [← hb]
    rcases gl_cases (b := 1) (rows := ints o) with hc | ⟨m, hc⟩
    · rw [glV_lit hc, glA_lit hc]
      rw [ints_length] at hc
      simp (disch := omega) only [go_sem]
      refine W.upto l.length (fun k => ⟨[(2, .ptr 2 0), (7, .tl (ints o)), (11, grV 0 (ints (pickI o k))), (12, .pv (.int .i64 k))], ⟨[(2, [.pv (.lst v (l.map Typ.c))])], grA 1 (ints (pickI o k)), []⟩⟩) (fun _ => True) rfl trivial (fun k hk _ => ?_)
      have hpl := pickI_len o k
      have hps := pickI_succ o k
      have h293 := fun t => s293 t o (k : Int) (by omega)
      simp (disch := omega) only [go_sem]
      refine Br.ofP (fun c => ?_) (fun c => ?_) <;> simp (disch := omega) only [go_sem, h293]
      · refine Br.ofP (fun c2 => ?_) (fun c2 => ?_) <;> simp (disch := omega) only [go_sem, c2]
        · refine .of (by omega) ?_ trivial
          rw [hps, if_pos c2]
          rfl
        · refine .of (by omega) ?_ trivial
          rw [hps, if_neg c2]
          rfl
      · obtain rfl : k = l.length := by omega
        rw [pickI_all hd hin']
    · rw [glV_own hc, glA_own hc]
      rw [ints_length] at hc
      simp (disch := omega) only [go_sem]
      refine W.upto l.length (fun k => ⟨[(2, .ptr 2 0), (7, .own 0 m 0 (1 + m + 1)), (11, grV 1 (ints (pickI o k))), (12, .pv (.int .i64 k))], ⟨[(2, [.pv (.lst v (l.map Typ.c))])], ⟨m, 1, .inl (ints o)⟩ :: grA 1 (ints (pickI o k)), []⟩⟩) (fun _ => True) rfl trivial (fun k hk _ => ?_)
      have hpl := pickI_len o k
      have hps := pickI_succ o k
      have h293 := fun t => s293 t o (k : Int) (by omega)
      have ht : o.take (1 + m + 1) = o := List.take_of_length_le (by omega)
      simp (disch := omega) only [go_sem]
      refine Br.ofP (fun c => ?_) (fun c => ?_) <;> simp (disch := omega) only [go_sem, h293, ht]
      · refine Br.ofP (fun c2 => ?_) (fun c2 => ?_) <;> simp (disch := omega) only [go_sem, c2]
        · refine .of (by omega) ?_ trivial
          rw [hps, if_pos c2]
          rfl
        · refine .of (by omega) ?_ trivial
          rw [hps, if_neg c2]
          rfl
      · obtain rfl : k = l.length := by omega
        rw [pickI_all hd hin']
theorem addL_len : ∀ (l o : List Int), (addL o l).length ≤ o.length + l.length
  | [], o => Nat.le_refl _
  | x :: l, o => by
    rw [addL_cons]
    have h1 := addL_len l (addN o x)
    have h2 := addN_len o x
    rw [List.length_cons]
    omega
theorem usesR_len {l : List Typ} {i : Int} (hs : ∀ t ∈ l, t.short) : (usesR l i).1.length ≤ 1048578 := by
  unfold usesR
  split
  · exact Nat.zero_le _
  · rename_i h
    obtain ⟨_, h0, h1⟩ := known_zero (l := l) (i := i) (by simpa using h)
    have := addL_len (usesT (typAt l i)) []
    have h2 := uses_len (hs _ (List.mem_of_getElem? (typAt_get h0 h1)))
    simp only [List.length_nil] at this
    show (addL [] (usesT (typAt l i))).length ≤ _
    omega
theorem reachR_in {l : List Typ} {i : Int} (h : knownR l i = 0) : (reachL l i).Nodup ∧ ∀ v ∈ reachL l i, inT l v := by
  obtain ⟨hv, h0, h1⟩ := known_zero h
  exact ⟨bfs_nodup _ _ (by simp), bfs_all (valid_sane hv).next _ _ (fun v hv => (List.mem_singleton.1 hv) ▸ ⟨h0, h1⟩)⟩
theorem reachR_len {l : List Typ} {i : Int} : (reachR l i).1.length ≤ l.length := by
  unfold reachR
  split
  · exact Nat.zero_le _
  · rename_i h
    obtain ⟨h1, h2⟩ := reachR_in (l := l) (i := i) (by simpa using h)
    show (isort ltI (reachL l i)).length ≤ _
    rw [isort_lenS]
    exact inT_bound _ h1 h2
set_option maxHeartbeats 1000000 in
/-- SchemaUses, given that the chapter is awake. -/
theorem r261 (r265 : res A PrA 265 [] = some [.bool true]) (l : List Typ) (i : Int) (hl : l.length ≤ 1048576) (ho : ∀ t ∈ l, t.ok) (hs : ∀ t ∈ l, t.short) : res A PrA 261 [.agg [.lst 0 (l.map Typ.c)], .int .i64 i] = some [.bool true] := by
  refine res_of a261 rfl rfl ?_
  simp only [F261]
  have h266 := fun u => r266 u l ho
  have e1 := fun t => r271 t l i (by omega) ho hs
  have e2 := fun t => r272 t l i (by omega) ho hs
  have e3 := fun t => r273 t l i (by omega) ho hs
  have e4 := fun t => r274 t l i (by omega) ho hs
  have l1 : (usesR l i).1.length ≤ 2 ^ 63 - 1 := Nat.le_trans (usesR_len hs) (by decide)
  have l2 : (reachR l i).1.length ≤ 2 ^ 63 - 1 := Nat.le_trans reachR_len (by omega)
  have h94 := fun t u => s94 t u (usesR l i).1 (usesR l i).1 l1 l1
  have h94' := fun t u => s94 t u (reachR l i).1 (reachR l i).1 l2 l2
  rw [eqv_same] at h94 h94'
  generalize few l = f at h266
  generalize usesR l i = u at e1 e2 h94
  generalize reachR l i = w at e3 e4 h94'
  simp (disch := omega) only [go_sem, r265, h266]
  cases f with
  | false => simp (disch := omega) only [go_sem, r265]
  | true =>
    simp (disch := omega) only [go_sem, r265, e1, e2, e3, e4, h94, h94']
end Go.Pv

/-
  Chapter 07 is awake: computed, over a table in which slices.Sort is read as code (in claims only).
-/
namespace Go.Pv
theorem r265 : res A PrA 265 [] = some [.bool true] := res_some.2 ⟨3000, by kernel_rfl⟩
end Go.Pv

