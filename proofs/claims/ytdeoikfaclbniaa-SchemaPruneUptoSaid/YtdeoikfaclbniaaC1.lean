/-
  What the functions of the law give.
-/
import Derived.Test.YtdeoikfaclbniaaTab
set_option linter.unusedSimpArgs false
set_option linter.unusedVariables false
/-
  Lists that grow by appending.
-/
namespace Go.Pv
variable {A : Nat → Option AFunc} {Pr : Prims}

/-- A list that a call has built by appending; its array, if there is one, is the n-th. -/
def grV (n : Nat) : List (List PV) → V
  | [] => .tl []
  | _ :: r => .own n r.length 0 (r.length + 1)
def grA (k : Nat) : List (List PV) → List Arr
  | [] => []
  | x :: r => [⟨r.length, k, .inl (x :: r)⟩]
def grT (n k : Nat) (rows : List (List PV)) (r : List PV) : Tn :=
  match rows with
  | [] => { push := [⟨0, k, .inl [r]⟩], base := n }
  | x :: q => { ar := some (n, ⟨q.length + 1, k, .inl (x :: q ++ [r])⟩) }

theorem grow (bx : List (Nat × List V)) (mp : List (List (PV × PV))) (pre : List Arr) (k : Nat) (rows : List (List PV)) (r : List PV) (hr : r.length = k) (hm : rows.length + 1 ≤ 2147483648) :
    appendV ⟨bx, pre ++ grA k rows, mp⟩ k (grV pre.length rows) (.tl [r]) = some (grV pre.length (rows ++ [r]), grT pre.length k rows r) := by
  cases rows with
  | nil => simp [appendV, grV, grA, grT, srcRows, rowsFit, rowsLen, hr, catRows, mostRows]
  | cons x q =>
    have h1 : ownArr ⟨bx, pre ++ grA k (x :: q), mp⟩ pre.length q.length = some ⟨q.length, k, .inl (x :: q)⟩ := by simp [ownArr, grA]
    have h2 : (⟨q.length, k, .inl (x :: q)⟩ : Arr).size = q.length + 1 := rfl
    have h3 : ((x :: q).drop 0).take (q.length + 1) = x :: q := by simp
    simp only [List.length_cons] at hm
    simp [appendV, grV, grT, srcRows, rowsFit, rowsLen, hr, h1, h2, catRows, cutRows, mostRows]
    omega

theorem grT_apply (bx : List (Nat × List V)) (mp : List (List (PV × PV))) (pre : List Arr) (k : Nat) (rows : List (List PV)) (r : List PV) :
    (grT pre.length k rows r).apply ⟨bx, pre ++ grA k rows, mp⟩ = ⟨bx, pre ++ grA k (rows ++ [r]), mp⟩ := by
  cases rows with
  | nil => simp [grT, Tn.apply, grA]
  | cons x q => simp [grT, Tn.apply, grA]

@[go_sem] theorem grow0 (bx : List (Nat × List V)) (mp : List (List (PV × PV))) (k : Nat) (rows : List (List PV)) (r : List PV) (hr : r.length = k) (hm : rows.length + 1 ≤ 2147483648) :
    appendV ⟨bx, grA k rows, mp⟩ k (grV 0 rows) (.tl [r]) = some (grV 0 (rows ++ [r]), grT 0 k rows r) := grow bx mp [] k rows r hr hm
@[go_sem] theorem grow1 (bx : List (Nat × List V)) (mp : List (List (PV × PV))) (a : Arr) (k : Nat) (rows : List (List PV)) (r : List PV) (hr : r.length = k) (hm : rows.length + 1 ≤ 2147483648) :
    appendV ⟨bx, a :: grA k rows, mp⟩ k (grV 1 rows) (.tl [r]) = some (grV 1 (rows ++ [r]), grT 1 k rows r) := grow bx mp [a] k rows r hr hm
@[go_sem] theorem grow2 (bx : List (Nat × List V)) (mp : List (List (PV × PV))) (a b : Arr) (k : Nat) (rows : List (List PV)) (r : List PV) (hr : r.length = k) (hm : rows.length + 1 ≤ 2147483648) :
    appendV ⟨bx, a :: b :: grA k rows, mp⟩ k (grV 2 rows) (.tl [r]) = some (grV 2 (rows ++ [r]), grT 2 k rows r) := grow bx mp [a, b] k rows r hr hm
@[go_sem] theorem grT_apply0 (bx : List (Nat × List V)) (mp : List (List (PV × PV))) (k : Nat) (rows : List (List PV)) (r : List PV) :
    (grT 0 k rows r).apply ⟨bx, grA k rows, mp⟩ = ⟨bx, grA k (rows ++ [r]), mp⟩ := grT_apply bx mp [] k rows r
@[go_sem] theorem grT_apply1 (bx : List (Nat × List V)) (mp : List (List (PV × PV))) (a : Arr) (k : Nat) (rows : List (List PV)) (r : List PV) :
    (grT 1 k rows r).apply ⟨bx, a :: grA k rows, mp⟩ = ⟨bx, a :: grA k (rows ++ [r]), mp⟩ := grT_apply bx mp [a] k rows r
@[go_sem] theorem grT_apply2 (bx : List (Nat × List V)) (mp : List (List (PV × PV))) (a b : Arr) (k : Nat) (rows : List (List PV)) (r : List PV) :
    (grT 2 k rows r).apply ⟨bx, a :: b :: grA k rows, mp⟩ = ⟨bx, a :: b :: grA k (rows ++ [r]), mp⟩ := grT_apply bx mp [a, b] k rows r

@[go_sem] theorem lenV_gr (h : Heap) (n : Nat) (rows : List (List PV)) : lenV h 0 (grV n rows) = some (rows.length, {}) := by cases rows <;> rfl
@[go_sem] theorem cells_gr (n : Nat) (rows : List (List PV)) : V.cells (grV n rows) = [grV n rows] := by cases rows <;> rfl
@[go_sem] theorem calm_gr (n : Nat) (rows : List (List PV)) : V.calm (grV n rows) = true := by cases rows <;> rfl
@[go_sem] theorem sized_gr (n : Nat) (rows : List (List PV)) : V.sized (grV n rows) = true := by cases rows <;> rfl
@[go_sem] theorem scrub_gr (kb : List Nat) (n : Nat) (rows : List (List PV)) : scrub kb (grV n rows) = grV n rows := by cases rows <;> rfl
@[go_sem] theorem okc_gr (kb : List Nat) (n : Nat) (rows : List (List PV)) : okc kb (grV n rows) = true := by cases rows <;> rfl
@[go_sem] theorem purec_gr (n : Nat) (rows : List (List PV)) : V.purec (grV n rows) = none := by cases rows <;> rfl

theorem own_gr (bx : List (Nat × List V)) (mp : List (List (PV × PV))) (pre post : List Arr) (k : Nat) (x : List PV) (q : List (List PV)) : ownArr ⟨bx, pre ++ (grA k (x :: q) ++ post), mp⟩ pre.length q.length = some ⟨q.length, k, .inl (x :: q)⟩ := by simp [ownArr, grA]
theorem keepc_gr (bx : List (Nat × List V)) (mp : List (List (PV × PV))) (pre : List Arr) (k d : Nat) (rows : List (List PV)) : keepc ⟨bx, pre ++ grA k rows, mp⟩ (d + 1) (grV pre.length rows) = some (.lst 0 rows) := by
  cases rows with
  | nil => rfl
  | cons x q =>
    have := own_gr bx mp pre [] k x q
    rw [List.append_nil] at this
    simp [grV, keepc_own, this, keepRows, cutRows]
@[go_sem] theorem keepc_gr0 (bx : List (Nat × List V)) (mp : List (List (PV × PV))) (k : Nat) (rows : List (List PV)) : keepc ⟨bx, grA k rows, mp⟩ 4 (grV 0 rows) = some (.lst 0 rows) := keepc_gr bx mp [] k 3 rows
@[go_sem] theorem keepc_gr1 (bx : List (Nat × List V)) (mp : List (List (PV × PV))) (a : Arr) (k : Nat) (rows : List (List PV)) : keepc ⟨bx, a :: grA k rows, mp⟩ 4 (grV 1 rows) = some (.lst 0 rows) := keepc_gr bx mp [a] k 3 rows
@[go_sem] theorem keepc_gr2 (bx : List (Nat × List V)) (mp : List (List (PV × PV))) (a b : Arr) (k : Nat) (rows : List (List PV)) : keepc ⟨bx, a :: b :: grA k rows, mp⟩ 4 (grV 2 rows) = some (.lst 0 rows) := keepc_gr bx mp [a, b] k 3 rows
@[go_sem] theorem keep_gr (h : Heap) (n : Nat) (rows : List (List PV)) : keep h false (grV n rows) = keepc h 4 (grV n rows) := by cases rows <;> rfl

/-- With which tag such a list is lent. -/
def grG : List (List PV) → Nat
  | [] => 0
  | _ => 1
theorem lendc_gr (bx : List (Nat × List V)) (mp : List (List (PV × PV))) (pre : List Arr) (k d : Nat) (rows : List (List PV)) : lendc ⟨bx, pre ++ grA k rows, mp⟩ (d + 1) (grV pre.length rows) = some (.lst (grG rows) rows) := by
  cases rows with
  | nil => rfl
  | cons x q =>
    have := own_gr bx mp pre [] k x q
    rw [List.append_nil] at this
    simp [grV, lendc, this, cutRows, grG]
@[go_sem] theorem lendc_gr0 (bx : List (Nat × List V)) (mp : List (List (PV × PV))) (k : Nat) (rows : List (List PV)) : lendc ⟨bx, grA k rows, mp⟩ 4 (grV 0 rows) = some (.lst (grG rows) rows) := lendc_gr bx mp [] k 3 rows
@[go_sem] theorem lendc_gr1 (bx : List (Nat × List V)) (mp : List (List (PV × PV))) (a : Arr) (k : Nat) (rows : List (List PV)) : lendc ⟨bx, a :: grA k rows, mp⟩ 4 (grV 1 rows) = some (.lst (grG rows) rows) := lendc_gr bx mp [a] k 3 rows
@[go_sem] theorem lendc_gr2 (bx : List (Nat × List V)) (mp : List (List (PV × PV))) (a b : Arr) (k : Nat) (rows : List (List PV)) : lendc ⟨bx, a :: b :: grA k rows, mp⟩ 4 (grV 2 rows) = some (.lst (grG rows) rows) := lendc_gr bx mp [a, b] k 3 rows
@[go_sem] theorem lend_gr (h : Heap) (n : Nat) (rows : List (List PV)) : lend h (grV n rows) = lendc h 4 (grV n rows) := by cases rows <;> rfl
/-- One that is not empty. -/
theorem grV_own {i n : Nat} {rows : List (List PV)} (h : rows.length = n + 1) : grV i rows = .own i n 0 (n + 1) := by
  match rows, h with
  | x :: q, h =>
    simp at h
    simp [grV, h]
theorem grA_own {k n : Nat} {rows : List (List PV)} (h : rows.length = n + 1) : grA k rows = [⟨n, k, .inl rows⟩] := by
  match rows, h with
  | x :: q, h =>
    simp at h
    simp [grA, h]

-- parts of an array of the call's own
def chkR {α : Type} (i : Int) (len : Nat) (v : α) : Option α := if 0 ≤ i ∧ i ≤ len then some v else none
@[go_sem] theorem chkR_ok {α : Type} {i : Int} {len : Nat} {v : α} (h0 : 0 ≤ i) (h1 : i ≤ (len : Int)) : chkR i len v = some v := if_pos ⟨h0, h1⟩
@[go_sem] theorem sl_from (g : Opd → V) (h : Heap) (k id ver off len : Nat) (lo : Opd) :
    sliceV g h k (.own id ver off len) (some lo) none none = (ownArr h id ver).bind fun a => (intOf (g lo)).bind fun i => if a.k = k then chkR i len (.own id ver (off + i.toNat) (len - i.toNat), { ra := some id }) else none := by
  cases ho : ownArr h id ver with
  | none => simp [sliceV, ho]
  | some a =>
    cases hi : intOf (g lo) with
    | none => simp [sliceV, ho, bounds, bound, hi]
    | some i => by_cases hk : a.k = k <;> by_cases h0 : 0 ≤ i ∧ i ≤ len <;> simp [sliceV, ho, bounds, bound, hi, hk, h0, chkR]
@[go_sem] theorem sl_to (g : Opd → V) (h : Heap) (k id ver off len : Nat) (hi : Opd) :
    sliceV g h k (.own id ver off len) none (some hi) none = (ownArr h id ver).bind fun a => (intOf (g hi)).bind fun i => if a.k = k then chkR i len (.own id ver off i.toNat, { ra := some id }) else none := by
  cases ho : ownArr h id ver with
  | none => simp [sliceV, ho]
  | some a =>
    cases hj : intOf (g hi) with
    | none => simp [sliceV, ho, bounds, bound, hj]
    | some i => by_cases hk : a.k = k <;> by_cases h0 : 0 ≤ i ∧ i ≤ len <;> simp [sliceV, ho, bounds, bound, hj, hk, h0, chkR]

end Go.Pv

/-
  Lists of numbers and of edges that grow by appending.
-/
namespace Go.Pv

@[go_sem] theorem ints_nil : ints [] = [] := rfl
@[go_sem] theorem ints_snoc (l : List Int) (x : Int) : ints l ++ [[.int .i64 x]] = ints (l ++ [x]) := by simp [ints]
/-- Edges, each a row. -/
def edgs (l : List Edge) : List (List PV) := l.map Edge.c
@[go_sem] theorem edgs_length (l : List Edge) : (edgs l).length = l.length := by simp [edgs]
@[go_sem] theorem edgs_nil : edgs [] = [] := rfl
theorem edgs_map (l : List Edge) : l.map Edge.c = edgs l := rfl
@[go_sem] theorem edgs_get (l : List Edge) (i : Nat) : (edgs l)[i]? = l[i]?.map Edge.c := by simp [edgs]
theorem edgs_snoc (l : List Edge) (e : Edge) : edgs l ++ [e.c] = edgs (l ++ [e]) := by simp [edgs]
@[go_sem] theorem grow0i (bx : List (Nat × List V)) (mp : List (List (PV × PV))) (l : List Int) (x : Int) (hm : l.length + 1 ≤ 2147483648) :
    appendV ⟨bx, grA 1 (ints l), mp⟩ 1 (grV 0 (ints l)) (.tl [[.int .i64 x]]) = some (grV 0 (ints (l ++ [x])), grT 0 1 (ints l) [.int .i64 x]) := by
  rw [grow0 bx mp  1 (ints l) [.int .i64 x] rfl (by rw [ints_length]; exact hm), ints_snoc]
@[go_sem] theorem grow0e (bx : List (Nat × List V)) (mp : List (List (PV × PV))) (l : List Edge) (f : Int) (s : Bool) (x t : Int) (hm : l.length + 1 ≤ 2147483648) :
    appendV ⟨bx, grA 4 (edgs l), mp⟩ 4 (grV 0 (edgs l)) (.tl [[.int .i64 f, .bool s, .int .i64 x, .int .i64 t]]) = some (grV 0 (edgs (l ++ [⟨f, s, x, t⟩])), grT 0 4 (edgs l) (Edge.c ⟨f, s, x, t⟩)) := by
  rw [← edgs_snoc]
  exact grow0 bx mp  4 (edgs l) (Edge.c ⟨f, s, x, t⟩) rfl (by rw [edgs_length]; exact hm)
@[go_sem] theorem grow1i (bx : List (Nat × List V)) (mp : List (List (PV × PV))) (a : Arr) (l : List Int) (x : Int) (hm : l.length + 1 ≤ 2147483648) :
    appendV ⟨bx, a :: grA 1 (ints l), mp⟩ 1 (grV 1 (ints l)) (.tl [[.int .i64 x]]) = some (grV 1 (ints (l ++ [x])), grT 1 1 (ints l) [.int .i64 x]) := by
  rw [grow1 bx mp a 1 (ints l) [.int .i64 x] rfl (by rw [ints_length]; exact hm), ints_snoc]
@[go_sem] theorem grow1e (bx : List (Nat × List V)) (mp : List (List (PV × PV))) (a : Arr) (l : List Edge) (f : Int) (s : Bool) (x t : Int) (hm : l.length + 1 ≤ 2147483648) :
    appendV ⟨bx, a :: grA 4 (edgs l), mp⟩ 4 (grV 1 (edgs l)) (.tl [[.int .i64 f, .bool s, .int .i64 x, .int .i64 t]]) = some (grV 1 (edgs (l ++ [⟨f, s, x, t⟩])), grT 1 4 (edgs l) (Edge.c ⟨f, s, x, t⟩)) := by
  rw [← edgs_snoc]
  exact grow1 bx mp a 4 (edgs l) (Edge.c ⟨f, s, x, t⟩) rfl (by rw [edgs_length]; exact hm)
@[go_sem] theorem grow2i (bx : List (Nat × List V)) (mp : List (List (PV × PV))) (a b : Arr) (l : List Int) (x : Int) (hm : l.length + 1 ≤ 2147483648) :
    appendV ⟨bx, a :: b :: grA 1 (ints l), mp⟩ 1 (grV 2 (ints l)) (.tl [[.int .i64 x]]) = some (grV 2 (ints (l ++ [x])), grT 2 1 (ints l) [.int .i64 x]) := by
  rw [grow2 bx mp a b 1 (ints l) [.int .i64 x] rfl (by rw [ints_length]; exact hm), ints_snoc]
@[go_sem] theorem grow2e (bx : List (Nat × List V)) (mp : List (List (PV × PV))) (a b : Arr) (l : List Edge) (f : Int) (s : Bool) (x t : Int) (hm : l.length + 1 ≤ 2147483648) :
    appendV ⟨bx, a :: b :: grA 4 (edgs l), mp⟩ 4 (grV 2 (edgs l)) (.tl [[.int .i64 f, .bool s, .int .i64 x, .int .i64 t]]) = some (grV 2 (edgs (l ++ [⟨f, s, x, t⟩])), grT 2 4 (edgs l) (Edge.c ⟨f, s, x, t⟩)) := by
  rw [← edgs_snoc]
  exact grow2 bx mp a b 4 (edgs l) (Edge.c ⟨f, s, x, t⟩) rfl (by rw [edgs_length]; exact hm)

/-- Truth values, each a row. -/
def bools (l : List Bool) : List (List PV) := l.map fun b => [.bool b]
@[go_sem] theorem bools_length (l : List Bool) : (bools l).length = l.length := by simp [bools]
@[go_sem] theorem bools_get (l : List Bool) (i : Nat) : (bools l)[i]? = l[i]?.map fun b => [.bool b] := by simp [bools]
theorem bools_set (l : List Bool) (i : Nat) (b : Bool) : (bools l).set i [.bool b] = bools (l.set i b) := by simp [bools, List.map_set]
@[go_sem] theorem bools_store {id row ver : Nat} {b : Bool} {l : List Bool} (h1 : row < l.length) : storeRow id row 0 [.pv (.bool b)] ⟨ver, 1, .inl (bools l)⟩ = some { ar := some (id, ⟨ver, 1, .inl (bools (l.set row b))⟩) } := by
  rw [storeRow_one (by rw [bools_length]; exact h1) rfl (.inr ⟨.bool l[row], by simp [bools, h1]⟩) rfl, bools_set]
@[go_sem] theorem bools_made (n : Nat) (b : Bool) : sameRows n [.pv (.bool b)] = .inl (bools (List.replicate n b)) := by
  simp [sameRows, mapO, V.purec, PV.perm, bools]

end Go.Pv

/-
  Appending to arrays that are given in full; two lists of numbers that grow side by side.
-/
namespace Go.Pv

def apI (id ver off len : Nat) (x : Int) (a : Arr) : Option (V × Tn) :=
  if off + len = a.size ∧ a.k = 1 ∧ len + 1 ≤ mostRows then some (.own id (ver + 1) 0 (len + 1), { ar := some (id, ⟨ver + 1, 1, catRows (cutRows off len a.body) (.inl [[.int .i64 x]])⟩) }) else none
@[go_sem] theorem app_own (h : Heap) (id ver off len : Nat) (x : Int) : appendV h 1 (.own id ver off len) (.tl [[.int .i64 x]]) = (ownArr h id ver).bind (apI id ver off len x) := by
  cases ho : ownArr h id ver with
  | none => simp [appendV, srcRows, rowsFit, ho]
  | some a =>
    simp only [appendV, srcRows, rowsFit, ho, rowsLen, apI, List.all_cons, List.all_nil, List.length_cons, List.length_nil, Option.bind_some]
    by_cases h1 : off + len = a.size <;> by_cases h2 : a.k = 1 <;> by_cases h3 : len + 1 ≤ mostRows <;> simp [h1, h2, h3]
@[go_sem] theorem apI_ok {id ver len : Nat} {x : Int} {l : List Int} (h1 : len = l.length) (h2 : l.length + 1 ≤ 2147483648) : apI id ver 0 len x ⟨ver, 1, .inl (ints l)⟩ = some (.own id (ver + 1) 0 (len + 1), { ar := some (id, ⟨ver + 1, 1, .inl (ints (l ++ [x]))⟩) }) := by
  subst h1
  unfold apI
  rw [if_pos ⟨by simp [Arr.size, ints], rfl, h2⟩]
  have : List.take l.length (List.map (fun x => [PV.int IntKind.i64 x]) l) = List.map (fun x => [PV.int IntKind.i64 x]) l := List.take_of_length_le (by simp)
  simp [catRows, cutRows, ints, this]
@[go_sem] theorem app_tl (h : Heap) (x : Int) : appendV h 1 (.tl []) (.tl [[.int .i64 x]]) = some (.own h.ar.length 0 0 1, { push := [⟨0, 1, .inl (ints [x])⟩], base := h.ar.length }) := by
  simp [appendV, srcRows, rowsFit, rowsLen, mostRows, catRows, ints]

end Go.Pv

/-
  Loops over lists: folds and searches.
-/
namespace Go.Pv
variable {A : Nat → Option AFunc} {Pr : Prims}

/-- What a round of a fold comes to. -/
def foldK {σ : Type} (S : Nat → σ → St) (I : Nat → σ → Prop) (k : Nat) (acc : σ) (Q : Ex → St → Prop) (_t : Tie (S, I, k, acc, Q) := .mk) : Ex → St → Prop
  | .normal, s => s = S k acc ∧ I k acc
  | .exit i, s => Q (.exit i) s
  | .ret, s => Q .ret s
@[congr] theorem foldK_congr {σ : Type} {S : Nat → σ → St} {I : Nat → σ → Prop} {k : Nat} {acc : σ} {Q : Ex → St → Prop} {e e' : Ex} {s s' : St} (he : e = e') (hs : s = s') : foldK S I k acc Q .mk e s = foldK S I k acc Q .mk e' s' := by rw [he, hs]
@[go_sem] theorem foldK_exit {σ : Type} (S : Nat → σ → St) (I : Nat → σ → Prop) (k : Nat) (acc : σ) (Q : Ex → St → Prop) (i : Nat) (s : St) : foldK S I k acc Q .mk (.exit i) s = Q (.exit i) s := rfl
@[go_sem] theorem foldK_ret {σ : Type} (S : Nat → σ → St) (I : Nat → σ → Prop) (k : Nat) (acc : σ) (Q : Ex → St → Prop) (s : St) : foldK S I k acc Q .mk .ret s = Q .ret s := rfl
theorem foldK.of {σ : Type} {S : Nat → σ → St} {I : Nat → σ → Prop} {k : Nat} {acc : σ} {Q : Ex → St → Prop} {s : St} (h : s = S k acc) (h2 : I k acc) : foldK S I k acc Q .mk .normal s := ⟨h, h2⟩

/-- The end of a loop: no more rounds. -/
def exitK (Q : Ex → St → Prop) (_t : Tie Q := .mk) : Ex → St → Prop
  | .normal, _ => False
  | .exit i, s => Q (.exit i) s
  | .ret, s => Q .ret s
@[congr] theorem exitK_congr {Q : Ex → St → Prop} {e e' : Ex} {s s' : St} (he : e = e') (hs : s = s') : exitK Q .mk e s = exitK Q .mk e' s' := by rw [he, hs]
@[go_sem] theorem exitK_exit (Q : Ex → St → Prop) (i : Nat) (s : St) : exitK Q .mk (.exit i) s = Q (.exit i) s := rfl
@[go_sem] theorem exitK_ret (Q : Ex → St → Prop) (s : St) : exitK Q .mk .ret s = Q .ret s := rfl

/-- A loop over a list that folds. -/
theorem W.fold {σ α : Type} {a : AC} {s : St} {Q : Ex → St → Prop} (l : List α) (f : σ → α → σ) (x0 : σ) (S : Nat → σ → St) (I : Nat → σ → Prop) (hs : s = S 0 x0) (h0 : I 0 x0)
    (hr : ∀ k x acc, l[k]? = some x → k < l.length → acc = (l.take k).foldl f x0 → I k acc → W A Pr a (S k acc) (foldK S I (k + 1) (f acc x) Q))
    (he : ∀ acc, acc = l.foldl f x0 → I l.length acc → W A Pr a (S l.length acc) (exitK Q)) : W A Pr (.loop a) s Q := by
  refine W.upto l.length (fun k => S k ((l.take k).foldl f x0)) (fun k => I k ((l.take k).foldl f x0)) (by simpa using hs) (by simpa using h0) fun k hk hi => ?_
  rcases Nat.lt_or_ge k l.length with h | h
  · obtain ⟨x, hx⟩ : ∃ x, l[k]? = some x := ⟨l[k], by simp [h]⟩
    obtain ⟨ex, s', h1, h2⟩ := hr k x _ hx h rfl hi
    have ht : (l.take (k + 1)).foldl f x0 = f ((l.take k).foldl f x0) x := by rw [List.take_add_one, hx]; simp [List.foldl_append]
    refine ⟨ex, s', h1, ?_⟩
    cases ex with
    | normal => exact .of h (by rw [ht]; exact h2.1) (by rw [ht]; exact h2.2)
    | exit i => exact h2
    | ret => exact h2
  · obtain rfl : k = l.length := by omega
    rw [List.take_length] at hi ⊢
    obtain ⟨ex, s', h1, h2⟩ := he _ rfl hi
    refine ⟨ex, s', h1, ?_⟩
    cases ex with
    | normal => exact h2.elim
    | exit i => exact h2
    | ret => exact h2

/-- A loop that counts, and folds. -/
theorem W.foldN {σ : Type} {a : AC} {s : St} {Q : Ex → St → Prop} (n : Nat) (f : σ → Nat → σ) (x0 : σ) (S : Nat → σ → St) (I : Nat → σ → Prop) (hs : s = S 0 x0) (h0 : I 0 x0)
    (hr : ∀ k acc, k < n → acc = (List.range k).foldl f x0 → I k acc → W A Pr a (S k acc) (foldK S I (k + 1) (f acc k) Q))
    (he : ∀ acc, acc = (List.range n).foldl f x0 → I n acc → W A Pr a (S n acc) (exitK Q)) : W A Pr (.loop a) s Q := by
  refine W.fold (List.range n) f x0 S I hs h0 (fun k x acc hx hk ha hi => ?_) (fun acc ha hi => ?_)
  · rw [List.length_range] at hk
    rw [List.getElem?_range hk] at hx
    cases hx
    refine hr k acc hk ?_ hi
    rw [ha, List.take_range, Nat.min_eq_left (by omega)]
  · rw [List.length_range] at hi ⊢
    exact he acc ha hi

/-- What a round of a search comes to. -/
def findK (S : Nat → St) (k : Nat) (p : Bool) (Q : Ex → St → Prop) (_t : Tie (S, k, p, Q) := .mk) : Ex → St → Prop
  | .normal, s => p = false ∧ s = S k
  | .exit i, s => Q (.exit i) s
  | .ret, s => Q .ret s
@[congr] theorem findK_congr {S : Nat → St} {k : Nat} {p : Bool} {Q : Ex → St → Prop} {e e' : Ex} {s s' : St} (he : e = e') (hs : s = s') : findK S k p Q .mk e s = findK S k p Q .mk e' s' := by rw [he, hs]
@[go_sem] theorem findK_exit (S : Nat → St) (k : Nat) (p : Bool) (Q : Ex → St → Prop) (i : Nat) (s : St) : findK S k p Q .mk (.exit i) s = Q (.exit i) s := rfl
@[go_sem] theorem findK_ret (S : Nat → St) (k : Nat) (p : Bool) (Q : Ex → St → Prop) (s : St) : findK S k p Q .mk .ret s = Q .ret s := rfl
theorem findK.of {S : Nat → St} {k : Nat} {p : Bool} {Q : Ex → St → Prop} {s : St} (h : p = false) (h2 : s = S k) : findK S k p Q .mk .normal s := ⟨h, h2⟩

/-- Where a search stands. -/
structure Found {α : Type} (l : List α) (p : α → Bool) (k : Nat) (x : α) : Prop where
  any : l.any p = true
  all : l.all (fun y => !p y) = false
  find : l.find? p = some x
  idx : l.findIdx? p = some k
structure Nowhere {α : Type} (l : List α) (p : α → Bool) : Prop where
  any : l.any p = false
  all : l.all (fun y => !p y) = true
  find : l.find? p = none
  idx : l.findIdx? p = none

theorem found_of {α : Type} {l : List α} {p : α → Bool} {k : Nat} {x : α} (hb : ∀ j, j < k → ∀ y, l[j]? = some y → p y = false) (hx : l[k]? = some x) (hp : p x = true) : Found l p k x := by
  obtain ⟨hk, rfl⟩ := List.getElem?_eq_some_iff.1 hx
  have hi : l.findIdx? p = some k := by
    rw [List.findIdx?_eq_some_iff_getElem]
    exact ⟨hk, hp, fun j hj => by simpa using hb j hj _ (by rw [List.getElem?_eq_getElem (by omega)])⟩
  refine ⟨List.any_eq_true.2 ⟨_, List.getElem_mem hk, hp⟩, ?_, ?_, hi⟩
  · rw [List.all_eq_false]
    exact ⟨_, List.getElem_mem hk, by simp [hp]⟩
  · rw [List.find?_eq_some_iff_getElem]
    exact ⟨hp, k, hk, rfl, fun j hj => by simpa using hb j hj _ (by rw [List.getElem?_eq_getElem (by omega)])⟩

theorem nowhere_of {α : Type} {l : List α} {p : α → Bool} (hb : ∀ j, j < l.length → ∀ y, l[j]? = some y → p y = false) : Nowhere l p := by
  have hm : ∀ x ∈ l, p x = false := fun x hx => by
    obtain ⟨j, hj, rfl⟩ := List.getElem_of_mem hx
    exact hb j hj _ (by rw [List.getElem?_eq_getElem])
  exact ⟨by rw [List.any_eq_false]; intro x hx; simp [hm x hx], by rw [List.all_eq_true]; intro x hx; simp [hm x hx], by rw [List.find?_eq_none]; intro x hx; simp [hm x hx], by rw [List.findIdx?_eq_none_iff]; exact hm⟩

/-- A loop over a list that searches. -/
theorem W.find {α : Type} {a : AC} {s : St} {Q : Ex → St → Prop} (l : List α) (p : α → Bool) (S : Nat → St) (hs : s = S 0)
    (hr : ∀ k x, l[k]? = some x → k < l.length → (p x = true → Found l p k x) → W A Pr a (S k) (findK S (k + 1) (p x) Q))
    (he : Nowhere l p → W A Pr a (S l.length) (exitK Q)) : W A Pr (.loop a) s Q := by
  refine W.upto l.length S (fun k => ∀ j, j < k → ∀ y, l[j]? = some y → p y = false) hs (fun j hj => absurd hj (Nat.not_lt_zero _)) fun k hk hi => ?_
  rcases Nat.lt_or_ge k l.length with h | h
  · obtain ⟨x, hx⟩ : ∃ x, l[k]? = some x := ⟨l[k], by simp [h]⟩
    obtain ⟨ex, s', h1, h2⟩ := hr k x hx h (fun hp => found_of hi hx hp)
    refine ⟨ex, s', h1, ?_⟩
    cases ex with
    | normal =>
      refine .of h h2.2 fun j hj y hy => ?_
      rcases Nat.lt_or_ge j k with g | g
      · exact hi j g y hy
      · obtain rfl : j = k := by omega
        rw [hx] at hy
        cases hy
        exact h2.1
    | exit i => exact h2
    | ret => exact h2
  · obtain rfl : k = l.length := by omega
    obtain ⟨ex, s', h1, h2⟩ := he (nowhere_of hi)
    refine ⟨ex, s', h1, ?_⟩
    cases ex with
    | normal => exact h2.elim
    | exit i => exact h2
    | ret => exact h2

/-- One round, and the loop again. -/
def againK (A : Nat → Option AFunc) (Pr : Prims) (a : AC) (Q : Ex → St → Prop) (_t : Tie (a, Q) := .mk) : Ex → St → Prop
  | .normal, s => W A Pr (.loop a) s Q
  | .exit i, s => Q (.exit i) s
  | .ret, s => Q .ret s
@[congr] theorem againK_congr {a : AC} {Q : Ex → St → Prop} {e e' : Ex} {s s' : St} (he : e = e') (hs : s = s') : againK A Pr a Q .mk e s = againK A Pr a Q .mk e' s' := by rw [he, hs]
@[go_sem] theorem againK_normal (a : AC) (Q : Ex → St → Prop) (s : St) : againK A Pr a Q .mk .normal s = W A Pr (.loop a) s Q := rfl
@[go_sem] theorem againK_exit (a : AC) (Q : Ex → St → Prop) (i : Nat) (s : St) : againK A Pr a Q .mk (.exit i) s = Q (.exit i) s := rfl
@[go_sem] theorem againK_ret (a : AC) (Q : Ex → St → Prop) (s : St) : againK A Pr a Q .mk .ret s = Q .ret s := rfl
theorem W.once {a : AC} {s : St} {Q : Ex → St → Prop} (h : W A Pr a s (againK A Pr a Q)) : W A Pr (.loop a) s Q := by
  obtain ⟨ex, s', h1, h2⟩ := h
  cases ex with
  | normal =>
    obtain ⟨e2, s2, h3, h4⟩ := h2
    exact ⟨e2, s2, Runs.loop_step h1 h3, h4⟩
  | exit i => exact ⟨_, _, Runs.loop_out h1 (by simp), h2⟩
  | ret => exact ⟨_, _, Runs.loop_out h1 (by simp), h2⟩

end Go.Pv

/-
  Lists that begin as a literal and grow by appending; rows of arrays of the call's own.
-/
namespace Go.Pv

/-- A list of which the first b rows were written out. Its array is the n-th. -/
def glV (n b : Nat) (rows : List (List PV)) : V := if rows.length ≤ b then .tl rows else .own n (rows.length - b - 1) 0 rows.length
def glA (k b : Nat) (rows : List (List PV)) : List Arr := if rows.length ≤ b then [] else [⟨rows.length - b - 1, k, .inl rows⟩]
theorem glV_lit {n b : Nat} {rows : List (List PV)} (h : rows.length ≤ b) : glV n b rows = .tl rows := if_pos h
theorem glA_lit {k b : Nat} {rows : List (List PV)} (h : rows.length ≤ b) : glA k b rows = [] := if_pos h
theorem glV_own {n b m : Nat} {rows : List (List PV)} (h : rows.length = b + m + 1) : glV n b rows = .own n m 0 (b + m + 1) := by
  unfold glV
  rw [if_neg (by omega), h, show b + m + 1 - b - 1 = m by omega]
theorem glA_own {k b m : Nat} {rows : List (List PV)} (h : rows.length = b + m + 1) : glA k b rows = [⟨m, k, .inl rows⟩] := by
  unfold glA
  rw [if_neg (by omega), h, show b + m + 1 - b - 1 = m by omega]
theorem gl_cases {b : Nat} {rows : List (List PV)} : rows.length ≤ b ∨ ∃ m, rows.length = b + m + 1 := by
  rcases Nat.lt_or_ge b rows.length with h | h
  · exact .inr ⟨rows.length - b - 1, by omega⟩
  · exact .inl h
theorem glV_snoc {n b : Nat} {rows : List (List PV)} {r : List PV} (h : b ≤ rows.length) : glV n b (rows ++ [r]) = .own n (rows.length - b) 0 (rows.length + 1) := by
  rw [glV_own (m := rows.length - b) (by simp; omega), show b + (rows.length - b) + 1 = rows.length + 1 by omega]
theorem glA_snoc {k b : Nat} {rows : List (List PV)} {r : List PV} (h : b ≤ rows.length) : glA k b (rows ++ [r]) = [⟨rows.length - b, k, .inl (rows ++ [r])⟩] := glA_own (by simp; omega)

/-- Rows appended to an array of the call's own. -/
def apR (id ver off len k : Nat) (r : List PV) (a : Arr) : Option (V × Tn) :=
  if off + len = a.size ∧ a.k = k ∧ len + 1 ≤ mostRows then some (.own id (ver + 1) 0 (len + 1), { ar := some (id, ⟨ver + 1, k, catRows (cutRows off len a.body) (.inl [r])⟩) }) else none
theorem app_ownr (h : Heap) (id ver off len k : Nat) (r : List PV) (hr : r.length = k) : appendV h k (.own id ver off len) (.tl [r]) = (ownArr h id ver).bind (apR id ver off len k r) := by
  cases ho : ownArr h id ver with
  | none => simp [appendV, srcRows, rowsFit, ho]
  | some a =>
    simp only [appendV, srcRows, rowsFit, ho, rowsLen, apR, List.all_cons, List.all_nil, List.length_cons, List.length_nil, Option.bind_some, hr, beq_self_eq_true, Bool.and_self, if_true]
    by_cases h1 : off + len = a.size <;> by_cases h2 : a.k = k <;> by_cases h3 : len + 1 ≤ mostRows <;> simp [h1, h2, h3]
theorem apR_ok {id ver len k : Nat} {r : List PV} {l : List (List PV)} (h1 : len = l.length) (h2 : l.length + 1 ≤ 2147483648) : apR id ver 0 len k r ⟨ver, k, .inl l⟩ = some (.own id (ver + 1) 0 (len + 1), { ar := some (id, ⟨ver + 1, k, .inl (l ++ [r])⟩) }) := by
  subst h1
  unfold apR
  rw [if_pos ⟨by simp [Arr.size], rfl, h2⟩]
  simp [catRows, cutRows]
theorem app_tlr (h : Heap) (k : Nat) (rows : List (List PV)) (r : List PV) (hr : r.length = k) (hk : ∀ x ∈ rows, x.length = k) (hm : rows.length + 1 ≤ 2147483648) : appendV h k (.tl rows) (.tl [r]) = some (.own h.ar.length 0 0 (rows.length + 1), { push := [⟨0, k, .inl (rows ++ [r])⟩], base := h.ar.length }) := by
  have : (rows.all fun x => x.length == k) = true := by simpa using hk
  simp [appendV, srcRows, rowsFit, rowsLen, mostRows, catRows, hr, this, hm]
@[go_sem] theorem app_tli (h : Heap) (l : List Int) (x : Int) (hm : l.length + 1 ≤ 2147483648) : appendV h 1 (.tl (ints l)) (.tl [[.int .i64 x]]) = some (.own h.ar.length 0 0 (l.length + 1), { push := [⟨0, 1, .inl (ints (l ++ [x]))⟩], base := h.ar.length }) := by
  rw [app_tlr h 1 (ints l) [.int .i64 x] rfl (by simp [ints]) (by rw [ints_length]; exact hm), ints_length, ints_snoc]

@[go_sem] theorem lenV_gl (h : Heap) (n b : Nat) (rows : List (List PV)) : lenV h 0 (glV n b rows) = some (rows.length, {}) := by unfold glV; split <;> rfl
@[go_sem] theorem cells_gl (n b : Nat) (rows : List (List PV)) : V.cells (glV n b rows) = [glV n b rows] := by unfold glV; split <;> rfl
@[go_sem] theorem calm_gl (n b : Nat) (rows : List (List PV)) : V.calm (glV n b rows) = true := by unfold glV; split <;> rfl
@[go_sem] theorem sized_gl (n b : Nat) (rows : List (List PV)) : V.sized (glV n b rows) = true := by unfold glV; split <;> rfl
@[go_sem] theorem scrub_gl (kb : List Nat) (n b : Nat) (rows : List (List PV)) : scrub kb (glV n b rows) = glV n b rows := by unfold glV; split <;> rfl
@[go_sem] theorem okc_gl (kb : List Nat) (n b : Nat) (rows : List (List PV)) : okc kb (glV n b rows) = true := by unfold glV; split <;> rfl
@[go_sem] theorem keep_gl (h : Heap) (n b : Nat) (rows : List (List PV)) : keep h false (glV n b rows) = keepc h 4 (glV n b rows) := by unfold glV; split <;> rfl
@[go_sem] theorem lend_gl (h : Heap) (n b : Nat) (rows : List (List PV)) : lend h (glV n b rows) = lendc h 4 (glV n b rows) := by unfold glV; split <;> rfl
def glG (b : Nat) (rows : List (List PV)) : Nat := if rows.length ≤ b then 0 else 1
theorem keepc_gl (bx : List (Nat × List V)) (mp : List (List (PV × PV))) (pre : List Arr) (k b d : Nat) (rows : List (List PV)) : keepc ⟨bx, pre ++ glA k b rows, mp⟩ (d + 1) (glV pre.length b rows) = some (.lst 0 rows) := by
  unfold glV glA
  split
  · rfl
  · simp [keepc_own, ownArr, keepRows, cutRows]
theorem lendc_gl (bx : List (Nat × List V)) (mp : List (List (PV × PV))) (pre : List Arr) (k b d : Nat) (rows : List (List PV)) : lendc ⟨bx, pre ++ glA k b rows, mp⟩ (d + 1) (glV pre.length b rows) = some (.lst (glG b rows) rows) := by
  unfold glV glA glG
  split
  · rfl
  · simp [lendc, ownArr, cutRows]
@[go_sem] theorem keepc_gl0 (bx : List (Nat × List V)) (mp : List (List (PV × PV))) (k b : Nat) (rows : List (List PV)) : keepc ⟨bx, glA k b rows, mp⟩ 4 (glV 0 b rows) = some (.lst 0 rows) := keepc_gl bx mp [] k b 3 rows
@[go_sem] theorem keepc_gl1 (bx : List (Nat × List V)) (mp : List (List (PV × PV))) (a : Arr) (k b : Nat) (rows : List (List PV)) : keepc ⟨bx, a :: glA k b rows, mp⟩ 4 (glV 1 b rows) = some (.lst 0 rows) := keepc_gl bx mp [a] k b 3 rows
@[go_sem] theorem lendc_gl0 (bx : List (Nat × List V)) (mp : List (List (PV × PV))) (k b : Nat) (rows : List (List PV)) : lendc ⟨bx, glA k b rows, mp⟩ 4 (glV 0 b rows) = some (.lst (glG b rows) rows) := lendc_gl bx mp [] k b 3 rows
@[go_sem] theorem lendc_gl1 (bx : List (Nat × List V)) (mp : List (List (PV × PV))) (a : Arr) (k b : Nat) (rows : List (List PV)) : lendc ⟨bx, a :: glA k b rows, mp⟩ 4 (glV 1 b rows) = some (.lst (glG b rows) rows) := lendc_gl bx mp [a] k b 3 rows

attribute [go_sem] Int.lt_irrefl

end Go.Pv

/-
  Sets of strings, kept as maps.
-/
namespace Go.Pv

def seenS (l : List ByteArray) : List (PV × PV) := l.map fun s => (.str s, .bool true)
def lookS (x : ByteArray) (l : List ByteArray) : Option (Nat × PV) := (l.findIdx? fun s => decide (s = x)).map fun i => (i, .bool true)
def hasS (l : List ByteArray) (x : ByteArray) : Bool := l.any fun s => decide (s = x)
theorem hasS_iff {l : List ByteArray} {x : ByteArray} : hasS l x = true ↔ x ∈ l := by simp [hasS]
/-- One more. -/
def insS (l : List ByteArray) (x : ByteArray) : List ByteArray := if hasS l x = true then l else l ++ [x]
theorem mem_insS {l : List ByteArray} {x y : ByteArray} : y ∈ insS l x ↔ y ∈ l ∨ y = x := by
  unfold insS
  split
  · rename_i h
    rw [hasS_iff] at h
    constructor
    · exact .inl
    · rintro (h1 | rfl)
      · exact h1
      · exact h
  · simp
theorem keyEq_str (a b : ByteArray) : keyEq false [2] (.str a) (.str b) = some (decide (a = b)) := by
  show eqsAll [2] [.str a] [.str b] = _
  rw [eqsAll_cons, eqs_str, eqsAll_nil]
  simp
theorem findKey_str (x : ByteArray) : ∀ (l : List ByteArray) (i : Nat), findKey false [2] (.str x) (seenS l) i = some ((lookS x l).map fun p => (p.1 + i, p.2))
  | [], i => by
    show (if (keyEq false [2] (.str x) (.str x)).isSome then some none else none) = _
    rw [keyEq_str]
    rfl
  | y :: l, i => by
    show (match keyEq false [2] (.str x) (.str y) with
      | some true => some (some (i, PV.bool true))
      | some false => findKey false [2] (.str x) (seenS l) (i + 1)
      | none => none) = _
    rw [keyEq_str]
    by_cases h : x = y
    · subst h
      simp [lookS, List.findIdx?_cons]
    · have h' : ¬ y = x := fun e => h e.symm
      simp only [h, decide_false]
      rw [findKey_str x l (i + 1)]
      simp only [lookS, List.findIdx?_cons, h', decide_false]
      cases l.findIdx? fun s => decide (s = x) with
      | none => rfl
      | some j => simp; omega
@[go_sem] theorem find_seenS (x : ByteArray) (l : List ByteArray) : findKey false [2] (.str x) (seenS l) 0 = some (lookS x l) := by
  rw [findKey_str]
  cases lookS x l <;> rfl
theorem lookS_some {x : ByteArray} {l : List ByteArray} : (lookS x l).isSome = true ↔ x ∈ l := by
  unfold lookS
  rw [Option.isSome_map, List.findIdx?_isSome, List.any_eq_true]
  simp
@[go_sem] theorem found_seenS (x : ByteArray) (l : List ByteArray) : foundV (.pv (.bool false)) false (lookS x l) = .pv (.bool (hasS l x)) := by
  have h := lookS_some (x := x) (l := l)
  rw [← hasS_iff] at h
  cases hl : lookS x l with
  | none =>
    rw [hl] at h
    have : hasS l x = false := by
      cases hx : hasS l x with
      | false => rfl
      | true => simpa using h.2 hx
    simp [foundV, this]
  | some p =>
    rw [hl] at h
    have hx : hasS l x = true := h.1 rfl
    have hp : p.2 = .bool true := by
      unfold lookS at hl
      obtain ⟨i, _, rfl⟩ := Option.map_eq_some_iff.1 hl
      rfl
    simp [foundV, hx, hp]
@[go_sem] theorem upd_seenS (x : ByteArray) (l : List ByteArray) (id : Nat) : updM false [2] (.str x) (.bool true) id (seenS l) = some { mp := some (id, seenS (insS l x)) } := by
  unfold updM
  rw [find_seenS]
  have h := lookS_some (x := x) (l := l)
  rw [← hasS_iff] at h
  cases hl : lookS x l with
  | none =>
    rw [hl] at h
    have : hasS l x = false := by
      cases hx : hasS l x with
      | false => rfl
      | true => simpa using h.2 hx
    simp [insS, this, seenS]
  | some p =>
    rw [hl] at h
    have hx : hasS l x = true := h.1 rfl
    unfold lookS at hl
    obtain ⟨i, hi, rfl⟩ := Option.map_eq_some_iff.1 hl
    obtain ⟨h1, h2, _⟩ := List.findIdx?_eq_some_iff_getElem.1 hi
    have h3 : l[i] = x := by simpa using h2
    simp only [insS, hx, if_true]
    congr 4
    apply List.ext_getElem?
    intro j
    rw [List.getElem?_set]
    split
    · rename_i hj
      subst hj
      simp [seenS, h1, h3]
    · rfl
end Go.Pv

/-
  Sorting of lists of numbers that were begun as a literal.
-/
namespace Go.Pv

def sortJ1 (id ver off len : Nat) (a : Arr) : Option (V × Tn) :=
  if len = 0 then some (.tup [], { ra := some id }) else (match a.body with
        | .inl rows => if a.k = 1 ∧ off + len ≤ rows.length ∧ len ≤ mostRows then (match mapO intDec ((rows.drop off).take len) with
          | some l => some (.tup [], { ar := some (id, ⟨ver, 1, .inl (rows.take off ++ (isort ltI l).map (fun x => [.int .i64 x]) ++ rows.drop (off + len))⟩) })
          | none => none) else none
        | .inr _ => none)
@[go_sem] theorem sortJP_tl (h : Heap) : sortIP [.tl []] h = some (.tup [], {}) := rfl
@[go_sem] theorem sortJP_own (h : Heap) (id ver off len : Nat) : sortIP [.own id ver off len] h = (ownArr h id ver).bind (sortJ1 id ver off len) := by
  simp only [sortIP]
  cases ownArr h id ver <;> rfl
theorem ints_dec (l : List Int) : mapO intDec (ints l) = some l := by
  induction l with
  | nil => rfl
  | cons x l ih =>
    show mapO intDec ([.int .i64 x] :: ints l) = _
    simp only [mapO, intDec, ih]
@[go_sem] theorem sortJ1_ints {id ver n : Nat} {l : List Int} (hn : n = l.length) (h0 : n ≠ 0) (hm : n ≤ 2147483648) : sortJ1 id ver 0 n ⟨ver, 1, .inl (ints l)⟩ = some (.tup [], { ar := some (id, ⟨ver, 1, .inl (ints (isort ltI l))⟩) }) := by
  subst hn
  have e1 : (ints l).length = l.length := ints_length l
  simp [sortJ1, h0, e1, mostRows, hm, ints_dec, List.take_of_length_le (Nat.le_of_eq e1), List.drop_eq_nil_of_le (Nat.le_of_eq e1)]
  rfl
@[go_sem] theorem lendAll_tl (h : Heap) : lendAll h true [.tl []] = some ([.lst 0 []], none) := rfl
@[go_sem] theorem sortJP_one (h : Heap) (x : Int) : sortIP [.tl [[.int .i64 x]]] h = some (.tup [], {}) := rfl
theorem glV_intsS {n b : Nat} {o : List Int} {x : Int} (h : b ≤ o.length) : glV n b (ints (o ++ [x])) = .own n (o.length - b) 0 (o.length + 1) := by
  rw [← ints_snoc, glV_snoc (by rw [ints_length]; exact h), ints_length]
theorem glA_intsS {b : Nat} {o : List Int} {x : Int} (h : b ≤ o.length) : glA 1 b (ints (o ++ [x])) = [⟨o.length - b, 1, .inl (ints (o ++ [x]))⟩] := by
  rw [← ints_snoc, glA_snoc (by rw [ints_length]; exact h), ints_length]
theorem isort_lenS (l : List Int) : (isort ltI l).length = l.length := (isort_perm ltI l).length_eq
end Go.Pv

/-
  Values, types and schemas that a law is given.
-/
namespace Go.Pv
variable {P : Program}

theorem VOk.up : ∀ {n : Nat} {cs : List PV}, VOk n cs → VOk (n + 1) cs
  | 0, _, h => h.elim
  | n + 1, _, h => by
    obtain ⟨v, h1, h2, h3, h4, h5, h6⟩ := h
    exact ⟨v, h1, h2, h3, fun r hr => VOk.up (h4 r hr), fun r hr => VOk.up (h5 r hr), h6⟩
theorem ty_int {n : Nat} {t : TypeId} {cs : List PV} (hu : P.underlying t = some (.int .i64)) (h : typed P n t cs) : ∃ x, cs = [.int .i64 x] ∧ I64 x := by
  cases n with
  | zero => exact h.elim
  | succ n =>
    obtain ⟨x, rfl, h1, h2⟩ := typed_int hu h
    exact ⟨x, rfl, h1, h2⟩
theorem ty_bool {n : Nat} {t : TypeId} {cs : List PV} (hu : P.underlying t = some .bool) (h : typed P n t cs) : ∃ x, cs = [.bool x] := by
  cases n with
  | zero => exact h.elim
  | succ n => exact typed_bool hu h
theorem ty_str {n : Nat} {t : TypeId} {cs : List PV} (hu : P.underlying t = some .string) (h : typed P n t cs) : ∃ s, cs = [.str s] ∧ strOk s := by
  cases n with
  | zero => exact h.elim
  | succ n =>
    simp only [typed, hu] at h
    exact h
theorem ty_slice {α : Type} {c : α → List PV} {ok : α → Prop} {n : Nat} {t el : TypeId} {cs : List PV} (hu : P.underlying t = some (.slice el)) (he : ∀ m cs, m + 1 = n → typed P m el cs → ∃ x, cs = c x ∧ ok x) (h : typed P n t cs) : ∃ l : List α, cs = [.lst 0 (l.map c)] ∧ lenOk l ∧ ∀ x ∈ l, ok x := by
  cases n with
  | zero => exact h.elim
  | succ n =>
    obtain ⟨rows, rfl, hl, hr⟩ := typed_slice hu h
    obtain ⟨l, rfl⟩ := rows_map (c := fun x : {x : α // ok x} => c x.1) (rows := rows) (fun r hr' => by
      obtain ⟨x, rfl, hx⟩ := he n r rfl (hr r hr')
      exact ⟨⟨x, hx⟩, rfl⟩)
    refine ⟨l.map (·.1), by simp, by simpa [lenOk, maxLen] using hl, fun x hx => ?_⟩
    obtain ⟨y, _, rfl⟩ := List.mem_map.1 hx
    exact y.2

/-- The types of values, types and schemas. -/
structure SchT (P : Program) (sch typ sym mem val raw ls lsym lmem lval lraw tx ti t64 tb : TypeId) : Prop where
  i : P.underlying ti = some (.int .i64)
  i64 : P.underlying t64 = some (.int .i64)
  b : P.underlying tb = some .bool
  x : P.underlying tx = some .string
  l : P.underlying ls = some (.slice typ)
  ly : P.underlying lsym = some (.slice sym)
  lm : P.underlying lmem = some (.slice mem)
  lv : P.underlying lval = some (.slice val)
  lr : P.underlying lraw = some (.slice raw)
  s : ∃ fs, P.underlying sch = some (.struct fs) ∧ fs.toList.map (·.type) = [ls]
  t : ∃ fs, P.underlying typ = some (.struct fs) ∧ fs.toList.map (·.type) = [ti, tx, t64, t64, ti, lsym, lmem, ti, ti, tb]
  y : ∃ fs, P.underlying sym = some (.struct fs) ∧ fs.toList.map (·.type) = [ti, tx]
  m : ∃ fs, P.underlying mem = some (.struct fs) ∧ fs.toList.map (·.type) = [ti, tx, ti, tb, tb, val]
  v : ∃ fs, P.underlying val = some (.struct fs) ∧ fs.toList.map (·.type) = [ti, tb, t64, tx, ti, lval, lval, lraw]
  r : ∃ fs, P.underlying raw = some (.struct fs) ∧ fs.toList.map (·.type) = [ti, tx]
section
variable {sch typ sym mem val raw ls lsym lmem lval lraw tx ti t64 tb : TypeId}
theorem raw_typed (T : SchT P sch typ sym mem val raw ls lsym lmem lval lraw tx ti t64 tb) {n : Nat} {cs : List PV} (h : typed P n raw cs) : ∃ r : Raw, cs = r.c ∧ r.ok := by
  cases n with
  | zero => exact h.elim
  | succ n =>
    obtain ⟨fs, hu, hts⟩ := T.r
    obtain ⟨r0, q0, rfl, h0, r1, q1, rfl, h1, rfl⟩ := typed_struct hu hts h
    obtain ⟨x, rfl, hx⟩ := ty_int T.i h0
    obtain ⟨s, rfl, hs⟩ := ty_str T.x h1
    exact ⟨⟨x, s⟩, rfl, hx, hs⟩
theorem sym_typed (T : SchT P sch typ sym mem val raw ls lsym lmem lval lraw tx ti t64 tb) {n : Nat} {cs : List PV} (h : typed P n sym cs) : ∃ r : Sym, cs = r.c ∧ r.ok := by
  cases n with
  | zero => exact h.elim
  | succ n =>
    obtain ⟨fs, hu, hts⟩ := T.y
    obtain ⟨r0, q0, rfl, h0, r1, q1, rfl, h1, rfl⟩ := typed_struct hu hts h
    obtain ⟨x, rfl, hx⟩ := ty_int T.i h0
    obtain ⟨s, rfl, hs⟩ := ty_str T.x h1
    exact ⟨⟨x, s⟩, rfl, hx, hs⟩
theorem val_typed (T : SchT P sch typ sym mem val raw ls lsym lmem lval lraw tx ti t64 tb) : ∀ (n : Nat) {cs : List PV}, typed P n val cs → VOk n cs
  | 0, _, h => h.elim
  | 1, cs, h => by
    obtain ⟨fs, hu, hts⟩ := T.v
    obtain ⟨r0, q0, rfl, h0, _⟩ := typed_struct hu hts h
    exact h0.elim
  | n + 2, cs, h => by
    obtain ⟨fs, hu, hts⟩ := T.v
    obtain ⟨r0, q0, rfl, h0, r1, q1, rfl, h1, r2, q2, rfl, h2, r3, q3, rfl, h3, r4, q4, rfl, h4, r5, q5, rfl, h5, r6, q6, rfl, h6, r7, q7, rfl, h7, rfl⟩ := typed_struct hu hts h
    obtain ⟨kind, rfl, k1⟩ := ty_int T.i h0
    obtain ⟨b, rfl⟩ := ty_bool T.b h1
    obtain ⟨i, rfl, k2⟩ := ty_int T.i64 h2
    obtain ⟨s, rfl, k3⟩ := ty_str T.x h3
    obtain ⟨id, rfl, k4⟩ := ty_int T.i h4
    obtain ⟨keys, rfl, l1, g1⟩ := typed_slice T.lv h5
    obtain ⟨items, rfl, l2, g2⟩ := typed_slice T.lv h6
    obtain ⟨rest, rfl, l3, g3⟩ := ty_slice T.lr (fun m cs _ hh => raw_typed T hh) h7
    exact ⟨⟨kind, b, i, s, id, keys, items, rest⟩, rfl, ⟨k1, k2, k3, k4⟩, ⟨by simpa [lenOk, maxLen] using l1, by simpa [lenOk, maxLen] using l2, l3⟩, fun r hr => (val_typed T n (g1 r hr)).up, fun r hr => (val_typed T n (g2 r hr)).up, g3⟩
theorem mem_typed (T : SchT P sch typ sym mem val raw ls lsym lmem lval lraw tx ti t64 tb) {n : Nat} {cs : List PV} (h : typed P n mem cs) : ∃ r : Mem, cs = r.c ∧ r.ok := by
  cases n with
  | zero => exact h.elim
  | succ n =>
    obtain ⟨fs, hu, hts⟩ := T.m
    obtain ⟨r0, q0, rfl, h0, r1, q1, rfl, h1, r2, q2, rfl, h2, r3, q3, rfl, h3, r4, q4, rfl, h4, r5, q5, rfl, h5, rfl⟩ := typed_struct hu hts h
    obtain ⟨id, rfl, k1⟩ := ty_int T.i h0
    obtain ⟨s, rfl, k2⟩ := ty_str T.x h1
    obtain ⟨t, rfl, k3⟩ := ty_int T.i h2
    obtain ⟨c, rfl⟩ := ty_bool T.b h3
    obtain ⟨hd, rfl⟩ := ty_bool T.b h4
    have hv := val_typed T n h5
    cases n with
    | zero => exact hv.elim
    | succ n =>
      have hv' := hv
      obtain ⟨v, rfl, _⟩ := hv'
      exact ⟨⟨id, s, t, c, hd, v⟩, by simp [Mem.c, Val.c], k1, k2, k3, _, hv⟩
theorem typ_typed (T : SchT P sch typ sym mem val raw ls lsym lmem lval lraw tx ti t64 tb) {n : Nat} {cs : List PV} (h : typed P n typ cs) : ∃ r : Typ, cs = r.c ∧ r.ok := by
  cases n with
  | zero => exact h.elim
  | succ n =>
    obtain ⟨fs, hu, hts⟩ := T.t
    obtain ⟨r0, q0, rfl, h0, r1, q1, rfl, h1, r2, q2, rfl, h2, r3, q3, rfl, h3, r4, q4, rfl, h4, r5, q5, rfl, h5, r6, q6, rfl, h6, r7, q7, rfl, h7, r8, q8, rfl, h8, r9, q9, rfl, h9, rfl⟩ := typed_struct hu hts h
    obtain ⟨kind, rfl, k0⟩ := ty_int T.i h0
    obtain ⟨s, rfl, k1⟩ := ty_str T.x h1
    obtain ⟨lo, rfl, k2⟩ := ty_int T.i64 h2
    obtain ⟨hi, rfl, k3⟩ := ty_int T.i64 h3
    obtain ⟨mx, rfl, k4⟩ := ty_int T.i h4
    obtain ⟨syms, rfl, k5, g5⟩ := ty_slice T.ly (fun m cs _ hh => sym_typed T hh) h5
    obtain ⟨mems, rfl, k6, g6⟩ := ty_slice T.lm (fun m cs _ hh => mem_typed T hh) h6
    obtain ⟨key, rfl, k7⟩ := ty_int T.i h7
    obtain ⟨el, rfl, k8⟩ := ty_int T.i h8
    obtain ⟨op, rfl⟩ := ty_bool T.b h9
    exact ⟨⟨kind, s, lo, hi, mx, syms, mems, key, el, op⟩, rfl, ⟨k0, k1, k2, k3, k4, k7, k8⟩, ⟨k5, k6⟩, g5, g6⟩
theorem sch_typed (T : SchT P sch typ sym mem val raw ls lsym lmem lval lraw tx ti t64 tb) {n : Nat} {cs : List PV} (h : typed P n sch cs) : ∃ l : List Typ, cs = [.lst 0 (l.map Typ.c)] ∧ lenOk l ∧ ∀ t ∈ l, t.ok := by
  cases n with
  | zero => exact h.elim
  | succ n =>
    obtain ⟨fs, hu, hts⟩ := T.s
    obtain ⟨r0, q0, rfl, h0, rfl⟩ := typed_struct hu hts h
    obtain ⟨l, rfl, k, g⟩ := ty_slice T.l (fun m cs _ hh => typ_typed T hh) h0
    exact ⟨l, by simp, k, g⟩
end
end Go.Pv

/-
  Plain laws: ascending lists; breadth-first searches.
-/
namespace Go.Pv

/-- Ascending lists with the same members are the same. -/
theorem pw_ext {α : Type} {r : α → α → Prop} (irr : ∀ x, ¬ r x x) (tr : ∀ x y z, r x y → r y z → r x z) : ∀ {l m : List α}, l.Pairwise r → m.Pairwise r → (∀ x, x ∈ l ↔ x ∈ m) → l = m
  | [], [], _, _, _ => rfl
  | [], y :: m, _, _, h => absurd ((h y).2 (by simp)) (by simp)
  | x :: l, [], _, _, h => absurd ((h x).1 (by simp)) (by simp)
  | x :: l, y :: m, hl, hm, h => by
    rw [List.pairwise_cons] at hl hm
    have e : x = y := by
      rcases List.mem_cons.1 ((h x).1 (by simp)) with e | hx
      · exact e
      · rcases List.mem_cons.1 ((h y).2 (by simp)) with e | hy
        · exact e.symm
        · exact (irr x (tr x y x (hl.1 y hy) (hm.1 x hx))).elim
    subst e
    congr 1
    refine pw_ext irr tr hl.2 hm.2 fun z => ⟨fun hz => ?_, fun hz => ?_⟩
    · rcases List.mem_cons.1 ((h z).1 (List.mem_cons_of_mem _ hz)) with rfl | hz'
      · exact (irr z (hl.1 z hz)).elim
      · exact hz'
    · rcases List.mem_cons.1 ((h z).2 (List.mem_cons_of_mem _ hz)) with rfl | hz'
      · exact (irr z (hm.1 z hz)).elim
      · exact hz'

theorem asc_ext {l m : List Int} (hl : l.Pairwise (· < ·)) (hm : m.Pairwise (· < ·)) (h : ∀ x, x ∈ l ↔ x ∈ m) : l = m :=
  pw_ext (r := (· < ·)) (fun x => Int.lt_irrefl x) (fun _ _ _ => Int.lt_trans) hl hm h

/-- Numbers from 0 on, each once: no more than there are. -/
theorem nodup_bound {l : List Int} {n : Nat} (hn : l.Nodup) (h : ∀ x ∈ l, 0 ≤ x ∧ x < n) : l.length ≤ n := by
  have := List.Nodup.length_le_of_subset (l₂ := (List.range n).map Int.ofNat) hn (fun x hx => by
    have := h x hx
    rw [List.mem_map]
    exact ⟨x.toNat, List.mem_range.2 (by omega), by simp; omega⟩)
  simpa using this

section
variable {α : Type} [DecidableEq α]

/-- One more, unless it is there. -/
def addN (o : List α) (x : α) : List α := if x ∈ o then o else o ++ [x]
theorem addN_mem {o : List α} {x y : α} : y ∈ addN o x ↔ y ∈ o ∨ y = x := by
  unfold addN
  split
  · rename_i h
    exact ⟨.inl, fun h' => h'.elim id (fun e => e ▸ h)⟩
  · simp
theorem addN_nodup {o : List α} {x : α} (h : o.Nodup) : (addN o x).Nodup := by
  unfold addN
  split
  · exact h
  · rename_i hx
    rw [List.nodup_append]
    exact ⟨h, by simp, fun a ha b hb => by
      rw [List.mem_singleton] at hb
      subst hb
      exact fun e => hx (e ▸ ha)⟩
theorem addN_pre (o : List α) (x : α) : o <+: addN o x := by
  unfold addN
  split
  · exact List.prefix_refl o
  · exact List.prefix_append o [x]
def addL (o : List α) (l : List α) : List α := l.foldl addN o
theorem addL_cons (o : List α) (x : α) (l : List α) : addL o (x :: l) = addL (addN o x) l := rfl
theorem addL_snoc (o : List α) (l : List α) (x : α) : addL o (l ++ [x]) = addN (addL o l) x := by simp [addL, List.foldl_append]
theorem addL_mem : ∀ {l o : List α} {y : α}, y ∈ addL o l ↔ y ∈ o ∨ y ∈ l
  | [], o, y => by simp [addL]
  | x :: l, o, y => by
    rw [addL_cons, addL_mem, addN_mem]
    simp [or_assoc]
theorem addL_nodup : ∀ {l o : List α}, o.Nodup → (addL o l).Nodup
  | [], _, h => h
  | x :: l, o, h => by
    rw [addL_cons]
    exact addL_nodup (addN_nodup h)
theorem addL_pre : ∀ (o l : List α), o <+: addL o l
  | o, [] => List.prefix_refl o
  | o, x :: l => by
    rw [addL_cons]
    exact (addN_pre o x).trans (addL_pre _ l)

/-- A breadth-first search, for so many rounds. -/
def bfs (nx : α → List α) : Nat → Nat → List α → List α
  | 0, _, o => o
  | n + 1, i, o => match o[i]? with
    | none => o
    | some v => bfs nx n (i + 1) (addL o (nx v))

theorem bfs_step {nx : α → List α} {n i : Nat} {o : List α} {v : α} (h : o[i]? = some v) : bfs nx (n + 1) i o = bfs nx n (i + 1) (addL o (nx v)) := by
  simp only [bfs, h]
theorem bfs_end {nx : α → List α} : ∀ {n i : Nat} {o : List α}, o.length ≤ i → bfs nx n i o = o
  | 0, _, _, _ => rfl
  | n + 1, i, o, h => by simp only [bfs, List.getElem?_eq_none h]

theorem bfs_pre {nx : α → List α} : ∀ (n i : Nat) (o : List α), o <+: bfs nx n i o
  | 0, _, o => List.prefix_refl o
  | n + 1, i, o => by
    unfold bfs
    split
    · exact List.prefix_refl o
    · exact (addL_pre o _).trans (bfs_pre n _ _)
theorem bfs_nodup {nx : α → List α} : ∀ (n i : Nat) {o : List α}, o.Nodup → (bfs nx n i o).Nodup
  | 0, _, _, h => h
  | n + 1, i, o, h => by
    unfold bfs
    split
    · exact h
    · exact bfs_nodup n _ (addL_nodup h)

/-- What is reached from something. -/
inductive Rch (nx : α → List α) (s : α) : α → Prop
  | refl : Rch nx s s
  | step {v x : α} : Rch nx s v → x ∈ nx v → Rch nx s x
omit [DecidableEq α] in
theorem Rch.trans {nx : α → List α} {s v x : α} (h : Rch nx s v) (h2 : Rch nx v x) : Rch nx s x := by
  induction h2 with
  | refl => exact h
  | step _ hx ih => exact .step ih hx
omit [DecidableEq α] in
theorem Rch.head {nx : α → List α} {s v x : α} (h : v ∈ nx s) (h2 : Rch nx v x) : Rch nx s x := Rch.trans (.step .refl h) h2

theorem bfs_all {nx : α → List α} {P : α → Prop} (hP : ∀ v, P v → ∀ x ∈ nx v, P x) : ∀ (n i : Nat) {o : List α}, (∀ v ∈ o, P v) → ∀ v ∈ bfs nx n i o, P v
  | 0, _, _, h => h
  | n + 1, i, o, h => by
    unfold bfs
    split
    · exact h
    · rename_i v hv
      refine bfs_all hP n _ fun x hx => ?_
      rcases addL_mem.1 hx with hx | hx
      · exact h x hx
      · exact hP v (h v (List.mem_of_getElem? hv)) x hx

/-- It ends closed, if there are rounds enough. -/
theorem bfs_done {nx : α → List α} {N : Nat} {P : α → Prop} (hP : ∀ v, P v → ∀ x ∈ nx v, P x) (hN : ∀ o : List α, o.Nodup → (∀ v ∈ o, P v) → o.length ≤ N) : ∀ (n i : Nat) {o : List α}, N ≤ n + i → o.Nodup → (∀ v ∈ o, P v) →
    (∀ j v, j < i → o[j]? = some v → ∀ x ∈ nx v, x ∈ o) → ∀ v ∈ bfs nx n i o, ∀ x ∈ nx v, x ∈ bfs nx n i o
  | 0, i, o, hn, hd, ho, hc => by
    intro v hv x hx
    obtain ⟨j, hj, rfl⟩ := List.getElem_of_mem hv
    have := hN o hd ho
    have hlt : j < o.length := hj
    exact hc j o[j] (by omega) (by simp) x hx
  | n + 1, i, o, hn, hd, ho, hc => by
    unfold bfs
    split
    · rename_i hnone
      intro v hv x hx
      obtain ⟨j, hj, rfl⟩ := List.getElem_of_mem hv
      have := List.getElem?_eq_none_iff.1 hnone
      exact hc j o[j] (by omega) (by simp) x hx
    · rename_i v hv
      refine bfs_done hP hN n (i + 1) (by omega) (addL_nodup hd) (fun x hx => ?_) (fun j w hj hw x hx => ?_)
      · rcases addL_mem.1 hx with hx | hx
        · exact ho x hx
        · exact hP v (ho v (List.mem_of_getElem? hv)) x hx
      · rw [addL_mem]
        have hi : i < o.length := (List.getElem?_eq_some_iff.1 hv).1
        obtain ⟨t, ht⟩ := addL_pre o (nx v)
        rw [← ht, List.getElem?_append_left (by omega)] at hw
        rcases Nat.lt_or_ge j i with h | h
        · exact .inl (hc j w h hw x hx)
        · obtain rfl : j = i := by omega
          rw [hv] at hw
          cases hw
          exact .inr hx

/-- Exactly what is reached is found. -/
theorem bfs_rch {nx : α → List α} {N : Nat} {P : α → Prop} {s : α} (hP : ∀ v, P v → ∀ x ∈ nx v, P x) (hN : ∀ o : List α, o.Nodup → (∀ v ∈ o, P v) → o.length ≤ N) (hs : P s) {v : α} : v ∈ bfs nx N 0 [s] ↔ Rch nx s v := by
  constructor
  · exact bfs_all (P := Rch nx s) (fun v hv x hx => .step hv hx) N 0 (by simp; exact .refl) v
  · have hc := bfs_done hP hN N 0 (o := [s]) (by omega) (by simp) (by simpa using hs) (fun j v hj => absurd hj (Nat.not_lt_zero _))
    have hp : s ∈ bfs nx N 0 [s] := (bfs_pre N 0 [s]).subset (by simp)
    intro h
    induction h with
    | refl => exact hp
    | step _ hx ih => exact hc _ ih _ hx

section
variable {β : Type} [DecidableEq β]
theorem addN_map {g : α → β} {o : List α} {x : α} (hg : ∀ y ∈ o, g y = g x → y = x) : addN (o.map g) (g x) = (addN o x).map g := by
  unfold addN
  by_cases h : x ∈ o
  · rw [if_pos h, if_pos (List.mem_map_of_mem h)]
  · rw [if_neg h, if_neg (fun hm => by
      obtain ⟨y, hy, e⟩ := List.mem_map.1 hm
      exact h (hg y hy e ▸ hy)), List.map_append]
    rfl
theorem addL_map {g : α → β} {P : α → Prop} (hg : ∀ x y, P x → P y → g x = g y → x = y) : ∀ (l : List α) {o : List α}, (∀ v ∈ o, P v) → (∀ v ∈ l, P v) → addL (o.map g) (l.map g) = (addL o l).map g
  | [], _, _, _ => rfl
  | x :: l, o, ho, hl => by
    rw [List.map_cons, addL_cons, addL_cons, addN_map (fun y hy e => hg y x (ho y hy) (hl x (by simp)) e)]
    refine addL_map hg l (fun v hv => ?_) (fun v hv => hl v (by simp [hv]))
    rcases addN_mem.1 hv with h | h
    · exact ho v h
    · exact h ▸ hl x (by simp)
/-- The same search under other names. -/
theorem bfs_map {g : α → β} {P : α → Prop} {nx : α → List α} {nx' : β → List β} (hg : ∀ x y, P x → P y → g x = g y → x = y) (hP : ∀ v, P v → ∀ x ∈ nx v, P x) (hx : ∀ v, P v → nx' (g v) = (nx v).map g) :
    ∀ (n i : Nat) {o : List α}, (∀ v ∈ o, P v) → bfs nx' n i (o.map g) = (bfs nx n i o).map g
  | 0, _, _, _ => rfl
  | n + 1, i, o, ho => by
    simp only [bfs, List.getElem?_map]
    cases h : o[i]? with
    | none => rfl
    | some v =>
      have hv := ho v (List.mem_of_getElem? h)
      simp only [Option.map_some]
      rw [hx v hv, addL_map hg (nx v) ho (hP v hv)]
      refine bfs_map hg hP hx n (i + 1) fun x hx' => ?_
      rcases addL_mem.1 hx' with h' | h'
      · exact ho x h'
      · exact hP v hv x h'
end
end

/-- More rounds than needed change nothing. -/
theorem bfs_more {α : Type} [DecidableEq α] {nx : α → List α} {N : Nat} {P : α → Prop} (hP : ∀ v, P v → ∀ x ∈ nx v, P x) (hN : ∀ o : List α, o.Nodup → (∀ v ∈ o, P v) → o.length ≤ N) : ∀ (n m i : Nat) {o : List α}, N ≤ n + i → N ≤ m + i → o.Nodup → (∀ v ∈ o, P v) → bfs nx n i o = bfs nx m i o
  | 0, m, i, o, h1, _, hd, ho => by
    have := hN o hd ho
    rw [bfs_end (by omega), bfs_end (by omega)]
  | n + 1, 0, i, o, _, h2, hd, ho => by
    have := hN o hd ho
    rw [bfs_end (by omega), bfs_end (by omega)]
  | n + 1, m + 1, i, o, h1, h2, hd, ho => by
    simp only [bfs]
    cases h : o[i]? with
    | none => rfl
    | some v =>
      have hv := ho v (List.mem_of_getElem? h)
      refine bfs_more hP hN n m (i + 1) (by omega) (by omega) (addL_nodup hd) fun x hx => ?_
      rcases addL_mem.1 hx with h' | h'
      · exact ho x h'
      · exact hP v hv x h'

end Go.Pv

/-
  Chapter 07: sizes of values.
-/
namespace Go.Pv

@[go_sem] theorem rawc_len (r : Raw) : r.c.length = 2 := rfl
def wr (x : Int) : Int := IntKind.wrap .i64 x
def szRest (acc : Int) (r : Raw) : Int := wr (wr (acc + 1) + r.data.size)
/-- The size of a value, so deep. -/
def szN : Nat → List PV → Int
  | 0, _ => 0
  | n + 1, cs => match cs with
    | [_, _, _, .str s, _, .lst _ keys, .lst _ items, .lst _ rest] => rest.foldl (fun acc r => match r with | [_, .str d] => wr (wr (acc + 1) + d.size) | _ => acc) (items.foldl (fun acc r => wr (acc + szN n r)) (keys.foldl (fun acc r => wr (acc + szN n r)) (wr (1 + s.size))))
    | _ => 0
theorem szN_val (n : Nat) (v : Val) : szN (n + 1) v.c = v.rest.foldl szRest (v.items.foldl (fun acc r => wr (acc + szN n r)) (v.keys.foldl (fun acc r => wr (acc + szN n r)) (wr (1 + v.str.size)))) := by
  unfold Val.c
  simp only [szN]
  rw [List.foldl_map]
  rfl
theorem VOk.len : ∀ {n : Nat} {cs : List PV}, VOk n cs → cs.length = 8
  | 0, _, h => h.elim
  | _ + 1, _, h => by
    obtain ⟨v, rfl, _⟩ := h
    rfl
theorem VOk.val {n : Nat} {cs : List PV} (h : VOk n cs) : ∃ w : Val, cs = w.c := by
  cases n with
  | zero => exact h.elim
  | succ n =>
    obtain ⟨v, hv, _⟩ := h
    exact ⟨v, hv⟩
set_option maxHeartbeats 2000000 in
/-- size. -/
theorem r282 : ∀ (n : Nat) (cs : List PV), VOk n cs → res A PrA 282 [.agg cs] = some [.int .i64 (szN n cs)]
  | 0, cs, h => h.elim
  | n + 1, cs, h => by
    obtain ⟨v, rfl, ⟨h1, h2, h3, h4⟩, ⟨h5, h6, h7⟩, h8, h9, h10⟩ := h
    have ih := r282 n
    rw [szN_val]
    unfold lenOk at h5 h6 h7
    unfold strOk at h3
    obtain ⟨kind, bool, int, str, id, keys, items, rest⟩ := v
    unfold Val.c
    dsimp only at *
    refine res_of a282 rfl rfl ?_
    simp only [F282]
    simp (disch := omega) only [go_sem]
    refine W.fold keys (fun acc r => wr (acc + szN n r)) (wr (1 + str.size)) (fun k acc => ⟨[(1, .ptr 1 0), (3, .pv (.int .i64 acc)), (4, .pv (.int .i64 k))], ⟨[(1, [.pv (.int .i64 kind), .pv (.bool bool), .pv (.int .i64 int), .pv (.str str), .pv (.int .i64 id), .pv (.lst 0 keys), .pv (.lst 0 items), .pv (.lst 0 (rest.map Raw.c))])], [], []⟩⟩) (fun _ _ => True) rfl trivial (fun k r acc hr hk _ _ => ?_) (fun acc hacc _ => ?_)
    · have hv := h8 r (List.mem_of_getElem? hr)
      obtain ⟨w, rfl⟩ := hv.val
      have hi := ih _ hv
      generalize szN n w.c = z at hi ⊢
      unfold Val.c at hi hr
      simp (disch := omega) only [go_sem]
      refine Br.ofP (fun h => ?_) (fun h => (h (by omega)).elim)
      simp (disch := omega) only [go_sem, hr, hi]
      exact foldK.of rfl trivial
    · simp (disch := omega) only [go_sem]
      refine W.fold items (fun acc r => wr (acc + szN n r)) acc (fun k acc => ⟨[(1, .ptr 1 0), (3, .pv (.int .i64 acc)), (5, .pv (.int .i64 k))], ⟨[(1, [.pv (.int .i64 kind), .pv (.bool bool), .pv (.int .i64 int), .pv (.str str), .pv (.int .i64 id), .pv (.lst 0 keys), .pv (.lst 0 items), .pv (.lst 0 (rest.map Raw.c))])], [], []⟩⟩) (fun _ _ => True) rfl trivial (fun k r acc hr hk _ _ => ?_) (fun acc2 hacc2 _ => ?_)
      · have hv := h9 r (List.mem_of_getElem? hr)
        obtain ⟨w, rfl⟩ := hv.val
        have hi := ih _ hv
        generalize szN n w.c = z at hi ⊢
        unfold Val.c at hi hr
        simp (disch := omega) only [go_sem]
        refine Br.ofP (fun h => ?_) (fun h => (h (by omega)).elim)
        simp (disch := omega) only [go_sem, hr, hi]
        exact foldK.of rfl trivial
      · simp (disch := omega) only [go_sem]
        refine W.fold rest szRest acc2 (fun k acc => ⟨[(1, .ptr 1 0), (3, .pv (.int .i64 acc)), (6, .pv (.int .i64 k))], ⟨[(1, [.pv (.int .i64 kind), .pv (.bool bool), .pv (.int .i64 int), .pv (.str str), .pv (.int .i64 id), .pv (.lst 0 keys), .pv (.lst 0 items), .pv (.lst 0 (rest.map Raw.c))])], [], []⟩⟩) (fun _ _ => True) rfl trivial (fun k r acc hr hk _ _ => ?_) (fun acc3 hacc3 _ => ?_)
        · have hrk := (h10 r (List.mem_of_getElem? hr)).2
          unfold strOk at hrk
          simp (disch := omega) only [go_sem]
          refine Br.ofP (fun h => ?_) (fun h => (h (by omega)).elim)
          simp (disch := omega) only [go_sem, hr, Raw.c]
          exact foldK.of rfl trivial
        · simp (disch := omega) only [go_sem]
          rw [hacc3, hacc2, hacc]

end Go.Pv

/-
  Chapter 07: Few.
-/
namespace Go.Pv

@[go_sem] theorem typc_len (t : Typ) : t.c.length = 10 := rfl
@[go_sem] theorem memc_len (t : Mem) : t.c.length = 13 := rfl
@[go_sem] theorem symc_len (t : Sym) : t.c.length = 2 := rfl
open Classical in
noncomputable def szV (cs : List PV) : Int := if h : ∃ n, VOk n cs then szN (Classical.choose h) cs else 0
theorem r282v {cs : List PV} (h : ∃ n, VOk n cs) : res A PrA 282 [.agg cs] = some [.int .i64 (szV cs)] := by
  unfold szV
  rw [dif_pos h]
  exact r282 _ cs (Classical.choose_spec h)
noncomputable def fewM (acc : Int) (m : Mem) : Int := wr (wr (acc + szV m.dflt.c) + m.name.size)
noncomputable def fewT (acc : Int) (t : Typ) : Int := (t.mems.take 100).foldl fewM (wr (wr (wr (acc + t.mems.length) + t.syms.length) + t.name.size))
noncomputable def few (l : List Typ) : Bool := decide ((l.length : Int) ≤ 40) && decide (l.foldl fewT 0 ≤ 400)
set_option maxHeartbeats 4000000 in
/-- Few. -/
theorem r266 (u : Nat) (l : List Typ) (ho : ∀ t ∈ l, t.ok) : res A PrA 266 [.agg [.lst u (l.map Typ.c)]] = some [.bool (few l)] := by
  refine res_of a266 rfl rfl ?_
  simp only [F266]
  simp (disch := omega) only [go_sem]
  refine Br.ofP (fun h40 => ?_) (fun h40 => ?_) <;> simp (disch := omega) only [go_sem, h40]
  · have : ¬ (l.length : Int) ≤ 40 := by omega
    simp [few, this]
  refine W.fold l fewT 0 (fun k acc => ⟨[(1, .ptr 1 0), (3, .pv (.int .i64 acc)), (4, .pv (.int .i64 k))], ⟨[(1, [.pv (.lst u (l.map Typ.c))])], [], []⟩⟩) (fun _ _ => True) rfl trivial (fun k t acc ht hk _ _ => ?_) (fun acc hacc _ => ?_)
  · obtain ⟨⟨_, t2, _⟩, ⟨t3, t4⟩, _, t5⟩ := ho t (List.mem_of_getElem? ht)
    unfold strOk at t2
    unfold lenOk at t3 t4
    simp (disch := omega) only [go_sem]
    refine Br.ofP (fun h => ?_) (fun h => (h (by omega)).elim)
    simp (disch := omega) only [go_sem, ht, Typ.c]
    refine W.fold (t.mems.take 100) fewM (wr (wr (wr (acc + t.mems.length) + t.syms.length) + t.name.size)) (fun j n => ⟨[(1, .ptr 1 0), (3, .pv (.int .i64 n)), (4, .pv (.int .i64 k)), (5, .ptr 5 0), (6, .pv (.int .i64 j))], ⟨[(1, [.pv (.lst u (l.map Typ.c))]), (5, t.c.map .pv)], [], []⟩⟩) (fun _ _ => True) rfl trivial (fun j m n hm hj _ _ => ?_) (fun n hn _ => ?_)
    · have hj' : j < 100 ∧ j < t.mems.length := by rw [List.length_take] at hj; omega
      have hm : t.mems[j]? = some m := by
        rw [List.getElem?_take, if_pos hj'.1] at hm
        exact hm
      obtain ⟨_, m2, _, m3⟩ := t5 m (List.mem_of_getElem? hm)
      unfold strOk at m2
      have hsz := r282v m3
      generalize hz : szV m.dflt.c = z at hsz
      unfold Val.c at hsz
      unfold Typ.c
      simp (disch := omega) only [go_sem, List.map_cons, List.map_nil]
      refine Br.ofP (fun c => ?_) (fun c => (c (by omega)).elim)
      simp (disch := omega) only [go_sem, c]
      refine Br.ofP (fun c2 => ?_) (fun c2 => (c2 (by omega)).elim)
      simp (disch := omega) only [go_sem, hm, Mem.c, hsz]
      refine foldK.of ?_ trivial
      show _ = St.mk _ _
      unfold fewM
      rw [hz]
      rfl
    · have hlen : ¬ ((t.mems.take 100).length < 100 ∧ (t.mems.take 100).length < t.mems.length) := by rw [List.length_take]; omega
      have hle : (t.mems.take 100).length ≤ t.mems.length := by rw [List.length_take]; omega
      have hl1 : (t.mems.take 100).length ≤ 100 := by rw [List.length_take]; omega
      generalize (t.mems.take 100).length = j at hlen hle hl1
      unfold Typ.c
      simp (disch := omega) only [go_sem, List.map_cons, List.map_nil]
      have fin : (⟨[(1, .ptr 1 0), (3, .pv (.int .i64 n)), (4, .pv (.int .i64 (k + 1)))], ⟨[(1, [.pv (.lst u (l.map Typ.c))])], [], []⟩⟩ : St) = ⟨[(1, .ptr 1 0), (3, .pv (.int .i64 (fewT acc t))), (4, .pv (.int .i64 ((k + 1 : Nat) : Int)))], ⟨[(1, [.pv (.lst u (l.map Typ.c))])], [], []⟩⟩ := by
        rw [hn]
        rfl
      refine Br.ofP (fun c => ?_) (fun c => ?_) <;> simp (disch := omega) only [go_sem, c]
      · refine Br.ofP (fun c2 => (hlen (by omega)).elim) (fun c2 => ?_)
        simp (disch := omega) only [go_sem, c2]
        exact foldK.of fin trivial
      · exact foldK.of fin trivial
  · simp (disch := omega) only [go_sem]
    have h4 : (l.length : Int) ≤ 40 := by omega
    simp [few, h4, hacc]

end Go.Pv

/-
  Chapter 07: members and symbols of a type.
-/
namespace Go.Pv

/-- The first place where something holds; -1: nowhere. -/
def firstI {α : Type} (p : α → Bool) (l : List α) : Int := match l.findIdx? p with
  | some k => (k : Int)
  | none => -1
theorem Found.firstI {α : Type} {l : List α} {p : α → Bool} {k : Nat} {x : α} (h : Found l p k x) : Pv.firstI p l = k := by
  unfold Pv.firstI
  rw [h.idx]
theorem Nowhere.firstI {α : Type} {l : List α} {p : α → Bool} (h : Nowhere l p) : Pv.firstI p l = -1 := by
  unfold Pv.firstI
  rw [h.idx]
def memP (i : Int) (m : Mem) : Bool := decide (m.id = i)
def symP (i : Int) (m : Sym) : Bool := decide (m.id = i)
@[go_sem] theorem r305 (m : Mem) (u : Nat) (i : Int) (cs : List PV) : res A PrA 305 [.agg m.c, .ro u (.int .i64 i :: cs)] = some [.bool (memP i m)] := by
  refine res_of a305 rfl rfl ?_
  simp only [F305]
  simp (disch := omega) only [go_sem, Mem.c]
  rfl
@[go_sem] theorem r395 (m : Sym) (u : Nat) (i : Int) (cs : List PV) : res A PrA 395 [.agg m.c, .ro u (.int .i64 i :: cs)] = some [.bool (symP i m)] := by
  refine res_of a395 rfl rfl ?_
  simp only [F395]
  simp (disch := omega) only [go_sem, Sym.c]
  rfl
theorem r304 (t u : Nat) (i : Int) (cs : List PV) (l : List Mem) (hl : l.length ≤ 2 ^ 63 - 1) : res A PrA 304 [.lst t (l.map Mem.c), .func 305 [.ro u (.int .i64 i :: cs)]] = some [.int .i64 (firstI (memP i) l)] := by
  refine res_of a304 rfl rfl ?_
  simp only [F304]
  simp (disch := omega) only [go_sem]
  refine W.find l (memP i) (fun k => ⟨[(0, .pv (.lst t (l.map Mem.c))), (1, .pv (.func 305 [.ro u (.int .i64 i :: cs)])), (7, .pv (.int .i64 l.length)), (8, .pv (.int .i64 k))], ⟨[], [], []⟩⟩) rfl (fun k x hx hk hfd => ?_) (fun hn => ?_)
  · have hfx := r305 x u i cs
    have hl13 : x.c.length = 13 := rfl
    have hmap : (x.c.map V.pv).take 13 = x.c.map .pv := rfl
    simp (disch := omega) only [go_sem]
    refine Br.ofP (fun h => ?_) (fun h => (h (by omega)).elim)
    unfold Mem.c at hfx
    simp (disch := omega) only [go_sem, hx, Mem.c, hfx]
    refine Br.of (fun h2 => ?_) (fun h2 => ?_) <;> simp (disch := omega) only [go_sem]
    · rw [(hfd h2).firstI]
    · exact findK.of h2 rfl
  · simp (disch := omega) only [go_sem]
    rw [hn.firstI]
theorem r394 (t u : Nat) (i : Int) (cs : List PV) (l : List Sym) (hl : l.length ≤ 2 ^ 63 - 1) : res A PrA 394 [.lst t (l.map Sym.c), .func 395 [.ro u (.int .i64 i :: cs)]] = some [.int .i64 (firstI (symP i) l)] := by
  refine res_of a394 rfl rfl ?_
  simp only [F394]
  simp (disch := omega) only [go_sem]
  refine W.find l (symP i) (fun k => ⟨[(0, .pv (.lst t (l.map Sym.c))), (1, .pv (.func 395 [.ro u (.int .i64 i :: cs)])), (7, .pv (.int .i64 l.length)), (8, .pv (.int .i64 k))], ⟨[], [], []⟩⟩) rfl (fun k x hx hk hfd => ?_) (fun hn => ?_)
  · have hfx := r395 x u i cs
    simp (disch := omega) only [go_sem]
    refine Br.ofP (fun h => ?_) (fun h => (h (by omega)).elim)
    unfold Sym.c at hfx
    simp (disch := omega) only [go_sem, hx, Sym.c, hfx]
    refine Br.of (fun h2 => ?_) (fun h2 => ?_) <;> simp (disch := omega) only [go_sem]
    · rw [(hfd h2).firstI]
    · exact findK.of h2 rfl
  · simp (disch := omega) only [go_sem]
    rw [hn.firstI]

end Go.Pv

/-
  Chapter 07: Member and Symbol, and the law of them.
-/
namespace Go.Pv

theorem firstI_ge {α : Type} (p : α → Bool) (l : List α) : -1 ≤ firstI p l ∧ firstI p l < l.length := by
  unfold firstI
  cases h : l.findIdx? p with
  | none =>
    dsimp only
    omega
  | some k =>
    have := List.findIdx?_eq_some_iff_getElem.1 h
    obtain ⟨hk, _⟩ := this
    dsimp only
    omega
theorem r281 (t : Typ) (i : Int) (h : t.mems.length ≤ 2 ^ 63 - 1) : res A PrA 281 [.agg t.c, .int .i64 i] = some [.int .i64 (max (firstI (memP i) t.mems) 0), .bool (decide (0 ≤ firstI (memP i) t.mems))] := by
  refine res_of a281 rfl rfl ?_
  simp only [F281]
  unfold Typ.c
  have h304 := fun u => r304 0 u i [] t.mems h
  simp (disch := omega) only [go_sem, h304]
theorem r392 (t : Typ) (i : Int) (h : t.syms.length ≤ 2 ^ 63 - 1) : res A PrA 392 [.agg t.c, .int .i64 i] = some [.int .i64 (max (firstI (symP i) t.syms) 0), .bool (decide (0 ≤ firstI (symP i) t.syms))] := by
  refine res_of a392 rfl rfl ?_
  simp only [F392]
  unfold Typ.c
  have h394 := fun u => r394 0 u i [] t.syms h
  simp (disch := omega) only [go_sem, h394]
theorem r391 (t : Typ) (i : Int) (h : t.mems.length ≤ 2 ^ 63 - 1) : res A PrA 391 [.agg t.c, .int .i64 i] = some [.int .i64 (max (firstI (memP i) t.mems) 0), .bool (decide (0 ≤ firstI (memP i) t.mems))] := by
  refine res_of a391 rfl rfl ?_
  simp only [F391]
  unfold Typ.c
  simp (disch := omega) only [go_sem]
  refine W.find t.mems (memP i) (fun k => ⟨[(1, .pv (.int .i64 i)), (2, .ptr 2 0), (6, .pv (.int .i64 k))], ⟨[(2, t.c.map .pv)], [], []⟩⟩) rfl (fun k x hx hk hfd => ?_) (fun hn => ?_)
  · unfold Typ.c
    simp (disch := omega) only [go_sem, List.map_cons, List.map_nil]
    refine Br.ofP (fun h => ?_) (fun h => (h (by omega)).elim)
    simp (disch := omega) only [go_sem, hx, Mem.c]
    have hpx : decide (x.id = i) = memP i x := rfl
    rw [hpx]
    refine Br.of (fun g => ?_) (fun g => ?_) <;> simp (disch := omega) only [go_sem]
    · rw [(hfd g).firstI]
      have h1 : max (k : Int) 0 = k := by omega
      have h2 : (0 : Int) ≤ k := by omega
      simp [h1, h2]
    · exact findK.of g rfl
  · unfold Typ.c
    simp (disch := omega) only [go_sem, List.map_cons, List.map_nil]
    rw [hn.firstI]
    rfl

theorem r393 (t : Typ) (i : Int) (h : t.syms.length ≤ 2 ^ 63 - 1) : res A PrA 393 [.agg t.c, .int .i64 i] = some [.int .i64 (max (firstI (symP i) t.syms) 0), .bool (decide (0 ≤ firstI (symP i) t.syms))] := by
  refine res_of a393 rfl rfl ?_
  simp only [F393]
  unfold Typ.c
  simp (disch := omega) only [go_sem]
  refine W.find t.syms (symP i) (fun k => ⟨[(1, .pv (.int .i64 i)), (2, .ptr 2 0), (6, .pv (.int .i64 k))], ⟨[(2, t.c.map .pv)], [], []⟩⟩) rfl (fun k x hx hk hfd => ?_) (fun hn => ?_)
  · unfold Typ.c
    simp (disch := omega) only [go_sem, List.map_cons, List.map_nil]
    refine Br.ofP (fun h => ?_) (fun h => (h (by omega)).elim)
    simp (disch := omega) only [go_sem, hx, Sym.c]
    have hpx : decide (x.id = i) = symP i x := rfl
    rw [hpx]
    refine Br.of (fun g => ?_) (fun g => ?_) <;> simp (disch := omega) only [go_sem]
    · rw [(hfd g).firstI]
      have h1 : max (k : Int) 0 = k := by omega
      have h2 : (0 : Int) ≤ k := by omega
      simp [h1, h2]
    · exact findK.of g rfl
  · unfold Typ.c
    simp (disch := omega) only [go_sem, List.map_cons, List.map_nil]
    rw [hn.firstI]
    rfl


end Go.Pv

/-
  The law of members and symbols.
-/
namespace Go.Pv

set_option maxHeartbeats 1000000 in
/-- SchemaParts, given that the chapter is awake (r265; see NOTES). -/
theorem r390 (r265 : res A PrA 265 [] = some [.bool true]) (t : Typ) (i : Int) (ho : t.ok) : res A PrA 390 [.agg t.c, .int .i64 i] = some [.bool true] := by
  refine res_of a390 rfl rfl ?_
  simp only [F390]
  obtain ⟨_, ⟨o1, o2⟩, _⟩ := id ho
  unfold lenOk at o1 o2
  have h266 := fun u => r266 u [t] (fun x hx => by rw [List.mem_singleton] at hx; subst hx; exact ho)
  simp only [List.map_cons, List.map_nil] at h266
  have h281 := r281 t i (by omega)
  have h391 := r391 t i (by omega)
  have h392 := r392 t i (by omega)
  have h393 := r393 t i (by omega)
  generalize few [t] = f at h266
  unfold Typ.c at *
  simp (disch := omega) only [go_sem, r265, h266]
  refine Br.of (fun hf => ?_) (fun hf => ?_) <;> simp (disch := omega) only [go_sem, r265, h281, h391, h392, h393]

end Go.Pv

/-
  Chapter 07: Find, and the law of it.
-/
namespace Go.Pv

def findP (s : ByteArray) (t : Typ) : Bool := decide (t.name = s) && (decide (4 ≤ t.kind) && decide (t.kind ≤ 6))
theorem r290 (t : Typ) (u : Nat) (s : ByteArray) (cs : List PV) : res A PrA 290 [.agg t.c, .ro u (.str s :: cs)] = some [.bool (findP s t)] := by
  refine res_of a290 rfl rfl ?_
  simp only [F290]
  simp (disch := omega) only [go_sem, Typ.c]
  refine Br.ofP (fun h1 => ?_) (fun h1 => ?_) <;> simp (disch := omega) only [go_sem, h1]
  · refine Br.ofP (fun h2 => ?_) (fun h2 => ?_) <;> simp (disch := omega) only [go_sem, h2]
    · simp [findP, h1, h2]
    · simp [findP, h2]
  · simp [findP, h1]
theorem r286 (k : Int) : res A PrA 286 [.int .i64 k] = some [.bool (decide (4 ≤ k) && decide (k ≤ 6))] := by
  refine res_of a286 rfl rfl ?_
  simp only [F286]
  simp (disch := omega) only [go_sem]
  have hk : (decide (4 ≤ k) && decide (k ≤ 6)) = decide (k = 4 ∨ k = 5 ∨ k = 6) := by
    rw [Bool.eq_iff_iff]
    simp only [Bool.and_eq_true, decide_eq_true_eq]
    omega
  rw [hk]
  refine Br.ofP (fun h1 => ?_) (fun h1 => ?_)
  · have : decide (k = 4 ∨ k = 5 ∨ k = 6) = true := by simp [h1]
    rw [this]
    simp (disch := omega) only [go_sem, h1]
  · by_cases h2 : k = 5
    · have : decide (k = 4 ∨ k = 5 ∨ k = 6) = true := by simp [h2]
      rw [this]
      simp (disch := omega) only [go_sem, h2]
    · have : decide (k = 4 ∨ k = 5 ∨ k = 6) = decide (k = 6) := by simp [h1, h2]
      rw [this]
      simp (disch := omega) only [go_sem, h1]
      refine Br.ofP (fun h3 => (h2 h3).elim) (fun h3 => ?_)
      simp (disch := omega) only [go_sem, h3]
theorem r289 (t u : Nat) (s : ByteArray) (cs : List PV) (l : List Typ) (hl : l.length ≤ 2 ^ 63 - 1) : res A PrA 289 [.lst t (l.map Typ.c), .func 290 [.ro u (.str s :: cs)]] = some [.int .i64 (firstI (findP s) l)] := by
  refine res_of a289 rfl rfl ?_
  simp only [F289]
  simp (disch := omega) only [go_sem]
  refine W.find l (findP s) (fun k => ⟨[(0, .pv (.lst t (l.map Typ.c))), (1, .pv (.func 290 [.ro u (.str s :: cs)])), (7, .pv (.int .i64 l.length)), (8, .pv (.int .i64 k))], ⟨[], [], []⟩⟩) rfl (fun k x hx hk hfd => ?_) (fun hn => ?_)
  · have hfx := r290 x u s cs
    simp (disch := omega) only [go_sem]
    refine Br.ofP (fun h => ?_) (fun h => (h (by omega)).elim)
    unfold Typ.c at hfx
    simp (disch := omega) only [go_sem, hx, Typ.c, hfx]
    refine Br.of (fun h2 => ?_) (fun h2 => ?_) <;> simp (disch := omega) only [go_sem]
    · rw [(hfd h2).firstI]
    · exact findK.of h2 rfl
  · simp (disch := omega) only [go_sem]
    rw [hn.firstI]
/-- Where a type is found, or the error. -/
def findR (s : ByteArray) (l : List Typ) : List PV := if firstI (findP s) l < 0 then [.int .i64 0, .int .i64 4] else [.int .i64 (firstI (findP s) l), .int .i64 0]
theorem r269 (t : Nat) (s : ByteArray) (l : List Typ) (hl : l.length ≤ 2 ^ 63 - 1) : res A PrA 269 [.agg [.lst t (l.map Typ.c)], .str s] = some (findR s l) := by
  refine res_of a269 rfl rfl ?_
  simp only [F269]
  have h289 := fun u => r289 t u s [] l hl
  simp (disch := omega) only [go_sem, h289]
  unfold findR
  refine Br.ofP (fun h1 => ?_) (fun h1 => ?_) <;> simp (disch := omega) only [go_sem, h1]
theorem r270 (t : Nat) (s : ByteArray) (l : List Typ) (hl : l.length ≤ 2 ^ 63 - 1) : res A PrA 270 [.agg [.lst t (l.map Typ.c)], .str s] = some (findR s l) := by
  refine res_of a270 rfl rfl ?_
  simp only [F270]
  simp (disch := omega) only [go_sem]
  refine W.find l (findP s) (fun k => ⟨[(1, .pv (.str s)), (2, .ptr 2 0), (6, .pv (.int .i64 k))], ⟨[(2, [.pv (.lst t (l.map Typ.c))])], [], []⟩⟩) rfl (fun k x hx hk hfd => ?_) (fun hn => ?_)
  · have h286 := r286 x.kind
    simp (disch := omega) only [go_sem]
    refine Br.ofP (fun h => ?_) (fun h => (h (by omega)).elim)
    simp (disch := omega) only [go_sem, hx, Typ.c, h286]
    refine Br.of (fun g1 => ?_) (fun g1 => ?_) <;> simp (disch := omega) only [go_sem, hx, Typ.c, g1]
    · refine Br.ofP (fun g2 => ?_) (fun g2 => ?_) <;> simp (disch := omega) only [go_sem, g2]
      · have hp : findP s x = true := by simp [findP, g2, g1]
        have h0 : ¬ (k : Int) < 0 := by omega
        simp [findR, (hfd hp).firstI, h0]
      · exact findK.of (by simp [findP, g2]) rfl
    · exact findK.of (by simp [findP, g1]) rfl
  · simp (disch := omega) only [go_sem]
    simp [findR, hn.firstI]

end Go.Pv

/-
  The law of Find.
-/
namespace Go.Pv

set_option maxHeartbeats 1000000 in
/-- SchemaFind, given that the chapter is awake. -/
theorem r260 (r265 : res A PrA 265 [] = some [.bool true]) (l : List Typ) (s : ByteArray) (hl : lenOk l) (ho : ∀ t ∈ l, t.ok) (_hs : strOk s) : res A PrA 260 [.agg [.lst 0 (l.map Typ.c)], .str s] = some [.bool true] := by
  refine res_of a260 rfl rfl ?_
  simp only [F260]
  unfold lenOk at hl
  have h266 := r266 0 l ho
  have h269 := r269 0 s l (by omega)
  have h270 := r270 0 s l (by omega)
  generalize few l = f at h266
  obtain ⟨i, e, he⟩ : ∃ i e : Int, findR s l = [.int .i64 i, .int .i64 e] := by
    unfold findR
    split
    · exact ⟨_, _, rfl⟩
    · exact ⟨_, _, rfl⟩
  rw [he] at h269 h270
  simp (disch := omega) only [go_sem, r265, h266]
  cases f with
  | false =>
    simp (disch := omega) only [go_sem, r265]
  | true =>
    simp (disch := omega) only [go_sem]
    refine Br.ofP (fun hn => ?_) (fun hn => ?_) <;> simp (disch := omega) only [go_sem, r265, h269, h270]

end Go.Pv

/-
  Chapter 07 is awake: computed, over a table in which slices.Sort is read as code (in claims only).
-/
namespace Go.Pv
theorem r265 : res A PrA 265 [] = some [.bool true] := res_some.2 ⟨3000, by kernel_rfl⟩
end Go.Pv

/-
  Chapter 07: equality of values, types and schemas, in two ways.
-/
namespace Go.Pv

open Classical in
/-- Are they one? -/
noncomputable def eqv {α : Type} (a b : α) : Bool := decide (a = b)
theorem eqv_same {α : Type} (a : α) : eqv a a = true := by simp [eqv]
theorem eqv_ne {α : Type} {a b : α} (h : a ≠ b) : eqv a b = false := by simp [eqv, h]
theorem eqv_iff {α : Type} {a b : α} : eqv a b = true ↔ a = b := by simp [eqv]
theorem eqv_no {α : Type} {a b : α} : eqv a b = false ↔ a ≠ b := by simp [eqv]
theorem eqv_comm {α : Type} (a b : α) : eqv a b = eqv b a := by
  rw [Bool.eq_iff_iff, eqv_iff, eqv_iff]
  exact ⟨Eq.symm, Eq.symm⟩
theorem Nowhere.eq {α : Type} {l m : List α} (hl : l.length = m.length) (h : Nowhere (l.zip m) fun q => !eqv q.1 q.2) : l = m := by
  have ha := h.any
  rw [List.any_eq_false] at ha
  apply List.ext_getElem hl
  intro i h1 h2
  have hm : (l[i], m[i]) ∈ l.zip m := List.mem_of_getElem? (List.getElem?_zip_eq_some.2 ⟨List.getElem?_eq_getElem h1, List.getElem?_eq_getElem h2⟩)
  have := ha _ hm
  simpa [eqv_iff] using this
theorem Found.ne {α : Type} {l m : List α} {k : Nat} {x : α × α} (h : Found (l.zip m) (fun q => !eqv q.1 q.2) k x) : eqv l m = false := by
  rw [eqv_no]
  rintro rfl
  have ha := h.any
  rw [List.any_eq_true] at ha
  obtain ⟨q, hq, hn⟩ := ha
  obtain ⟨i, hi⟩ := List.mem_iff_getElem?.1 hq
  obtain ⟨h1, h2⟩ := List.getElem?_zip_eq_some.1 hi
  have : q.1 = q.2 := Option.some.inj (h1.symm.trans h2)
  rw [this, eqv_same] at hn
  cases hn
theorem zip_get {α : Type} {l m : List α} {k : Nat} {q : α × α} (h : (l.zip m)[k]? = some q) : l[k]? = some q.1 ∧ m[k]? = some q.2 := List.getElem?_zip_eq_some.1 h

theorem eqv_map {α β : Type} {f : α → β} (hf : ∀ x y, f x = f y → x = y) (l m : List α) : eqv (l.map f) (m.map f) = eqv l m := by
  rw [Bool.eq_iff_iff, eqv_iff, eqv_iff]
  refine ⟨fun h => ?_, fun h => by rw [h]⟩
  induction l generalizing m with
  | nil => cases m with
    | nil => rfl
    | cons y m => simp at h
  | cons x l ih => cases m with
    | nil => simp at h
    | cons y m =>
      simp only [List.map_cons, List.cons.injEq] at h
      rw [hf _ _ h.1, ih _ h.2]
theorem Sym.c_inj (x y : Sym) (h : x.c = y.c) : x = y := by
  obtain ⟨a, b⟩ := x
  obtain ⟨c, d⟩ := y
  simp only [Sym.c, List.cons.injEq, PV.int.injEq, PV.str.injEq, true_and, and_true] at h
  rw [h.1, h.2]
theorem Raw.c_inj (x y : Raw) (h : x.c = y.c) : x = y := by
  obtain ⟨a, b⟩ := x
  obtain ⟨c, d⟩ := y
  simp only [Raw.c, List.cons.injEq, PV.int.injEq, PV.str.injEq, true_and, and_true] at h
  rw [h.1, h.2]
theorem eqv_sym (x y : Sym) : eqv x y = (decide (x.id = y.id) && decide (x.name = y.name)) := by
  obtain ⟨a, b⟩ := x
  obtain ⟨c, d⟩ := y
  simp [eqv]
theorem eqv_raw (x y : Raw) : eqv x y = (decide (x.id = y.id) && decide (x.data = y.data)) := by
  obtain ⟨a, b⟩ := x
  obtain ⟨c, d⟩ := y
  simp [eqv]
theorem zip_len {α : Type} {l m : List α} (h : l.length = m.length) : (l.zip m).length = l.length := by simp [h]
theorem r317 (t u : Nat) (l m : List Sym) (hl : l.length ≤ 2 ^ 63 - 1) (_hm : m.length ≤ 2 ^ 63 - 1) : res A PrA 317 [.lst t (l.map Sym.c), .lst u (m.map Sym.c)] = some [.bool (eqv l m)] := by
  refine res_of a317 rfl rfl ?_
  simp only [F317]
  simp (disch := omega) only [go_sem]
  refine Br.ofP (fun h => ?_) (fun h => ?_) <;> simp (disch := omega) only [go_sem]
  · refine W.find (l.zip m) (fun q => !eqv q.1 q.2) (fun k => ⟨[(0, .pv (.lst t (l.map Sym.c))), (1, .pv (.lst u (m.map Sym.c))), (12, .pv (.int .i64 l.length)), (13, .pv (.int .i64 k))], ⟨[], [], []⟩⟩) rfl (fun k q hq hk hfd => ?_) (fun hn => ?_)
    · obtain ⟨h1, h2⟩ := zip_get hq
      rw [zip_len (by omega)] at hk
      simp (disch := omega) only [go_sem]
      refine Br.ofP (fun c => ?_) (fun c => (c (by omega)).elim)
      simp (disch := omega) only [go_sem, h1, h2, Sym.c]
      rw [← eqv_sym]
      refine Br.of (fun g => ?_) (fun g => ?_) <;> simp (disch := omega) only [go_sem]
      · exact findK.of (by rw [g]; rfl) rfl
      · rw [(hfd (by rw [g]; rfl)).ne]
    · have hz : (l.zip m).length = l.length := zip_len (by omega)
      rw [hz]
      simp (disch := omega) only [go_sem]
      rw [hn.eq (by omega), eqv_same]
  · rw [eqv_ne (fun e => h (by rw [e]))]
theorem r333 (t u : Nat) (l m : List Raw) (hl : l.length ≤ 2 ^ 63 - 1) (_hm : m.length ≤ 2 ^ 63 - 1) : res A PrA 333 [.lst t (l.map Raw.c), .lst u (m.map Raw.c)] = some [.bool (eqv l m)] := by
  refine res_of a333 rfl rfl ?_
  simp only [F333]
  simp (disch := omega) only [go_sem]
  refine Br.ofP (fun h => ?_) (fun h => ?_) <;> simp (disch := omega) only [go_sem]
  · refine W.find (l.zip m) (fun q => !eqv q.1 q.2) (fun k => ⟨[(0, .pv (.lst t (l.map Raw.c))), (1, .pv (.lst u (m.map Raw.c))), (12, .pv (.int .i64 l.length)), (13, .pv (.int .i64 k))], ⟨[], [], []⟩⟩) rfl (fun k q hq hk hfd => ?_) (fun hn => ?_)
    · obtain ⟨h1, h2⟩ := zip_get hq
      rw [zip_len (by omega)] at hk
      simp (disch := omega) only [go_sem]
      refine Br.ofP (fun c => ?_) (fun c => (c (by omega)).elim)
      simp (disch := omega) only [go_sem, h1, h2, Raw.c]
      rw [← eqv_raw]
      refine Br.of (fun g => ?_) (fun g => ?_) <;> simp (disch := omega) only [go_sem]
      · exact findK.of (by rw [g]; rfl) rfl
      · rw [(hfd (by rw [g]; rfl)).ne]
    · have hz : (l.zip m).length = l.length := zip_len (by omega)
      rw [hz]
      simp (disch := omega) only [go_sem]
      rw [hn.eq (by omega), eqv_same]
  · rw [eqv_ne (fun e => h (by rw [e]))]
@[go_sem] theorem valc_len (v : Val) : v.c.length = 8 := rfl
/-- Lists of values. -/
theorem r334 (t u : Nat) (l m : List (List PV)) (hl : l.length ≤ 2 ^ 63 - 1) (_hm : m.length ≤ 2 ^ 63 - 1) (vl : ∀ r ∈ l, ∃ v : Val, r = v.c) (vm : ∀ r ∈ m, ∃ v : Val, r = v.c)
    (hr : ∀ r ∈ l, ∀ q ∈ m, res A PrA 320 [.agg r, .agg q] = some [.bool (eqv r q)]) : res A PrA 334 [.lst t l, .lst u m, .func 320 []] = some [.bool (eqv l m)] := by
  refine res_of a334 rfl rfl ?_
  simp only [F334]
  simp (disch := omega) only [go_sem]
  refine Br.ofP (fun h => ?_) (fun h => ?_) <;> simp (disch := omega) only [go_sem]
  · refine W.find (l.zip m) (fun q => !eqv q.1 q.2) (fun k => ⟨[(1, .pv (.lst u m)), (2, .pv (.func 320 [])), (15, .pv (.lst t l)), (16, .pv (.int .i64 l.length)), (17, .pv (.int .i64 k))], ⟨[], [], []⟩⟩) rfl (fun k q hq hk hfd => ?_) (fun hn => ?_)
    · obtain ⟨h1, h2⟩ := zip_get hq
      rw [zip_len (by omega)] at hk
      have hc := hr q.1 (List.mem_of_getElem? h1) q.2 (List.mem_of_getElem? h2)
      obtain ⟨v, hv⟩ := vl q.1 (List.mem_of_getElem? h1)
      obtain ⟨w, hw⟩ := vm q.2 (List.mem_of_getElem? h2)
      generalize eqv q.1 q.2 = e at hc hfd ⊢
      rw [hv, hw] at hc
      rw [hv] at h1
      rw [hw] at h2
      unfold Val.c at hc h1 h2
      simp (disch := omega) only [go_sem]
      refine Br.ofP (fun c => ?_) (fun c => (c (by omega)).elim)
      simp (disch := omega) only [go_sem, h1, h2, hc]
      refine Br.of (fun g => ?_) (fun g => ?_) <;> simp (disch := omega) only [go_sem]
      · exact findK.of (by rw [g]; rfl) rfl
      · rw [(hfd (by rw [g]; rfl)).ne]
    · have hz : (l.zip m).length = l.length := zip_len (by omega)
      rw [hz]
      simp (disch := omega) only [go_sem]
      rw [hn.eq (by omega), eqv_same]
  · rw [eqv_ne (fun e => h (by rw [e]))]
end Go.Pv

