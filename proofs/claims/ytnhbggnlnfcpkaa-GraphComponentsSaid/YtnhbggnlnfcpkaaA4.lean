/-
  The interpreter over plain values, and that it is sound.
-/
import Derived.Test.YtnhbggnlnfcpkaaA3
set_option linter.unusedSimpArgs false
set_option linter.unusedVariables false
/-
  The program's data as structures, and their cells.
-/
namespace Go.Pv

structure Edge where
  fr : Int
  send : Bool
  label : Int
  to : Int
  deriving DecidableEq, Inhabited
structure Auto where
  states : Int
  start : Int
  edges : List Edge
  deriving DecidableEq, Inhabited

def Edge.c (e : Edge) : List PV := [.int .i64 e.fr, .bool e.send, .int .i64 e.label, .int .i64 e.to]
@[go_sem] theorem Edge.c_eq (e : Edge) : e.c = [.int .i64 e.fr, .bool e.send, .int .i64 e.label, .int .i64 e.to] := rfl
def Edge.dec : List PV → Option Edge
  | [.int .i64 a, .bool b, .int .i64 c, .int .i64 d] => some ⟨a, b, c, d⟩
  | _ => none
theorem Edge.dec_enc (r : List PV) (x : Edge) (h : Edge.dec r = some x) : x.c = r := by
  unfold Edge.dec at h
  split at h
  · cases h
    rfl
  · cases h
def Auto.p (t : Nat) (a : Auto) : PV := .agg [.int .i64 a.states, .int .i64 a.start, .lst t (a.edges.map Edge.c)]
@[go_sem] theorem Auto.p_eq (t : Nat) (a : Auto) : a.p t = .agg [.int .i64 a.states, .int .i64 a.start, .lst t (a.edges.map Edge.c)] := rfl

def ints (l : List Int) : List (List PV) := l.map fun x => [.int .i64 x]
@[go_sem] theorem ints_length (l : List Int) : (ints l).length = l.length := by simp [ints]
@[go_sem] theorem ints_get (l : List Int) (i : Nat) : (ints l)[i]? = l[i]?.map fun x => [.int .i64 x] := by simp [ints]
@[go_sem] theorem ints_append (l r : List Int) : ints l ++ ints r = ints (l ++ r) := by simp [ints]
@[go_sem] theorem ints_set (l : List Int) (i : Nat) (x : Int) : (ints l).set i [.int .i64 x] = ints (l.set i x) := by simp [ints, List.map_set]

theorem ints_store {id row ver : Nat} {k : IntKind} {x : Int} {l : List Int} (h1 : row < l.length) (hk : k = .i64) : storeRow id row 0 [.pv (.int k x)] ⟨ver, 1, .inl (ints l)⟩ = some { ar := some (id, ⟨ver, 1, .inl (ints (l.set row x))⟩) } := by
  subst hk
  rw [storeRow_one (by rw [ints_length]; exact h1) rfl (.inr ⟨.int .i64 l[row], by simp [ints, h1]⟩) rfl, ints_set]
@[go_sem] theorem ints_store64 {id row ver : Nat} {x : Int} {l : List Int} (h1 : row < l.length) : storeRow id row 0 [.pv (.int .i64 x)] ⟨ver, 1, .inl (ints l)⟩ = some { ar := some (id, ⟨ver, 1, .inl (ints (l.set row x))⟩) } := ints_store h1 rfl
@[go_sem] theorem ints_made (n : Nat) (x : Int) : sameRows n [.pv (.int .i64 x)] = .inl (ints (List.replicate n x)) := by
  simp [sameRows, mapO, V.purec, PV.perm, ints]
@[go_sem] theorem ints_take (l : List Int) (n : Nat) : (ints l).take n = ints (l.take n) := by simp [ints]
@[go_sem] theorem ints_drop (l : List Int) (n : Nat) : (ints l).drop n = ints (l.drop n) := by simp [ints]

def Edge.side (e : Edge) : Int := if e.send = true then 1 else 0
def cmpI (x y : Int) : Int := if x < y then -1 else if y < x then 1 else 0
def Edge.cmp (a b : Edge) : Int := if cmpI a.fr b.fr ≠ 0 then cmpI a.fr b.fr else if cmpI a.side b.side ≠ 0 then cmpI a.side b.side else cmpI a.label b.label
def Edge.lt (a b : Edge) : Bool := if a.fr ≠ b.fr then decide (a.fr < b.fr) else if a.send ≠ b.send then b.send else decide (a.label < b.label)

theorem Edge.cmp_lt (a b : Edge) : decide (Edge.cmp a b < 0) = Edge.lt a b := by
  unfold Edge.cmp Edge.lt cmpI Edge.side
  by_cases h1 : a.fr = b.fr
  · simp only [h1, Int.lt_irrefl, if_false, ne_eq, not_true_eq_false]
    cases ha : a.send <;> cases hb : b.send <;> simp <;> (repeat' split) <;> simp <;> omega
  · rcases Int.lt_or_gt_of_ne h1 with h | h
    · simp [h, h1]
    · have : ¬ a.fr < b.fr := by omega
      simp [h, h1, this]
theorem Edge.swo : Go.Sort.SWO Edge.lt where
  irrefl x := by simp [Edge.lt]
  trans x y z h1 h2 := by
    unfold Edge.lt at *
    by_cases a1 : x.fr = y.fr <;> by_cases a2 : y.fr = z.fr <;> by_cases b1 : x.send = y.send <;> by_cases b2 : y.send = z.send <;> simp_all <;> (try omega)
    all_goals (try (have : ¬ x.fr = z.fr := by omega); simp_all; omega)
  ntrans x y z h1 h2 := by
    unfold Edge.lt at *
    by_cases a1 : x.fr = y.fr <;> by_cases a2 : y.fr = z.fr <;> by_cases b1 : x.send = y.send <;> by_cases b2 : y.send = z.send <;> simp_all <;> (try omega)
    all_goals (try (have : ¬ x.fr = z.fr := by omega); simp_all; omega)

end Go.Pv

/-
  Automata: plain laws.
-/
namespace Go.Pv

def Edge.fits (e : Edge) (n : Int) : Bool := decide (0 ≤ e.fr) && decide (e.fr < n) && decide (0 ≤ e.to) && decide (e.to < n) && decide (1 ≤ e.label) && decide (e.label ≤ 1000)
def chk (n : Int) : Option Edge → List Edge → Bool
  | _, [] => true
  | p, e :: r => e.fits n && (match p with | none => true | some q => Edge.lt q e) && chk n (some e) r
def Auto.err (a : Auto) : Int := if 12 < a.states ∨ 100 < a.edges.length then 3 else if 0 ≤ a.start ∧ a.start < a.states then (if chk a.states none a.edges = true then 0 else 1) else 1
def ahead1 (l : List Edge) (k : Nat) : Option Edge := if k = 0 then none else l[k - 1]?
end Go.Pv

/-
  Numbers of lists of actions: plain laws.
-/
namespace Go.Pv

theorem fits_iff {e : Edge} {n : Int} : e.fits n = true ↔ 0 ≤ e.fr ∧ e.fr < n ∧ 0 ≤ e.to ∧ e.to < n ∧ 1 ≤ e.label ∧ e.label ≤ 1000 := by
  simp [Edge.fits, and_assoc]
def cntE (l nx : List Int) (e : Edge) : List Int := nx.set e.fr.toNat (min (nx.getD e.fr.toNat 0 + l.getD e.to.toNat 0) 1000000000000001)
def cntS (n : Nat) (es : List Edge) (l : List Int) : List Int := es.foldl (cntE l) (List.replicate n 0)
def cntN (n : Nat) (es : List Edge) : Nat → List Int
  | 0 => List.replicate n 1
  | k + 1 => cntS n es (cntN n es k)

def small (l : List Int) : Prop := ∀ i, 0 ≤ l.getD i 0 ∧ l.getD i 0 ≤ 1000000000000001
def cntP (n : Nat) (es : List Edge) (l : List Int) (j : Nat) : List Int := (es.take j).foldl (cntE l) (List.replicate n 0)
theorem getD_some {l : List Int} {i : Nat} (h : i < l.length) : l[i]? = some (l.getD i 0) := by simp [h]

def Auto.count (a : Auto) (n : Int) : Int × Int :=
  if a.err ≠ 0 then (0, a.err) else if n < 0 ∨ 1000 < n then (0, 7) else
    let v := (cntN a.states.toNat a.edges n.toNat).getD a.start.toNat 0
    if 1000000000000000 < v then (0, 3) else (v, 0)

def onesTo (n k : Nat) : List Int := List.replicate k 1 ++ List.replicate (n - k) 0
@[go_sem] theorem onesTo_len {n k : Nat} (h : k ≤ n) : (onesTo n k).length = n := by simp [onesTo]; omega
def cntA (n : Nat) (es : List Edge) (k : Nat) : List Arr := (List.range (k + 1)).map fun i => ⟨0, 1, .inl (ints (cntN n es i))⟩
@[go_sem] theorem cntA_len (n : Nat) (es : List Edge) (k : Nat) : (cntA n es k).length = k + 1 := by simp [cntA]
end Go.Pv

/-
  Plain data that a law is given, as structures.
-/
namespace Go.Pv
variable {P : Program}

theorem typed_int {n : Nat} {t : TypeId} {k : IntKind} {cs : List PV} (hu : P.underlying t = some (.int k)) (h : typed P (n + 1) t cs) : ∃ x, cs = [.int k x] ∧ k.min ≤ x ∧ x ≤ k.max := by
  simpa only [typed, hu] using h
theorem typed_bool {n : Nat} {t : TypeId} {cs : List PV} (hu : P.underlying t = some .bool) (h : typed P (n + 1) t cs) : ∃ b, cs = [.bool b] := by
  simpa only [typed, hu] using h
theorem typed_slice {n : Nat} {t el : TypeId} {cs : List PV} (hu : P.underlying t = some (.slice el)) (h : typed P (n + 1) t cs) : ∃ rows, cs = [.lst 0 rows] ∧ rows.length ≤ maxLen ∧ ∀ r ∈ rows, typed P n el r := by
  simpa only [typed, hu] using h

def typesOk (P : Program) (n : Nat) : List TypeId → List PV → Prop
  | [], cs => cs = []
  | t :: ts, cs => ∃ r q, cs = r ++ q ∧ typed P n t r ∧ typesOk P n ts q

theorem typed_struct {n : Nat} {t : TypeId} {fs : Array Field} {ts : List TypeId} {cs : List PV} (hu : P.underlying t = some (.struct fs)) (hts : fs.toList.map (·.type) = ts) (h : typed P (n + 1) t cs) : typesOk P n ts cs := by
  simp only [typed, hu] at h
  obtain ⟨parts, h1, rfl, h3⟩ := h
  subst hts
  have key : ∀ (l : List Field) (parts : List (List PV)), parts.length = l.length → (∀ (i : Nat) (f : Field) (r : List PV), l[i]? = some f → parts[i]? = some r → typed P n f.type r) → typesOk P n (l.map (·.type)) parts.flatten := by
    intro l
    induction l with
    | nil => intro parts hl _; simp [List.eq_nil_of_length_eq_zero hl, typesOk]
    | cons f l ih =>
      intro parts hl hp
      match parts, hl with
      | r :: parts, hl => exact ⟨r, parts.flatten, rfl, hp 0 f r rfl rfl, ih parts (by simpa using hl) (fun i g q hg hq => hp (i + 1) g q (by simpa using hg) (by simpa using hq))⟩
  exact key fs.toList parts (by simpa using h1) (fun i f r hf hr => h3 i f r (by simpa using hf) hr)

theorem typed_array {n m : Nat} {t el : TypeId} {cs : List PV} (hu : P.underlying t = some (.array m el)) (h : typed P (n + 1) t cs) : typesOk P n (List.replicate m el) cs := by
  simp only [typed, hu] at h
  obtain ⟨parts, h1, rfl, h3⟩ := h
  subst h1
  clear hu
  induction parts with
  | nil => rfl
  | cons r parts ih => exact ⟨r, parts.flatten, rfl, h3 r (by simp), ih (fun q hq => h3 q (by simp [hq]))⟩

theorem rows_map {α : Type} {c : α → List PV} : ∀ {rows : List (List PV)}, (∀ r ∈ rows, ∃ x, r = c x) → ∃ l : List α, rows = l.map c
  | [], _ => ⟨[], rfl⟩
  | r :: rows, h => by
    obtain ⟨x, rfl⟩ := h r (by simp)
    obtain ⟨l, rfl⟩ := rows_map (rows := rows) (fun q hq => h q (by simp [hq]))
    exact ⟨x :: l, rfl⟩

theorem i64_min : IntKind.min .i64 = -9223372036854775808 := by decide
theorem i64_max : IntKind.max .i64 = 9223372036854775807 := by decide

structure AutoT (P : Program) (ta tl te ti tb : TypeId) : Prop where
  fa : ∃ fs, P.underlying ta = some (.struct fs) ∧ fs.toList.map (·.type) = [ti, ti, tl]
  fe : ∃ fs, P.underlying te = some (.struct fs) ∧ fs.toList.map (·.type) = [ti, tb, ti, ti]
  l : P.underlying tl = some (.slice te)
  i : P.underlying ti = some (.int .i64)
  b : P.underlying tb = some .bool

def Edge.r64 (e : Edge) : Prop := (-9223372036854775808 ≤ e.fr ∧ e.fr ≤ 9223372036854775807) ∧ (-9223372036854775808 ≤ e.label ∧ e.label ≤ 9223372036854775807) ∧ (-9223372036854775808 ≤ e.to ∧ e.to ≤ 9223372036854775807)
def Auto.r64 (a : Auto) : Prop := (-9223372036854775808 ≤ a.states ∧ a.states ≤ 9223372036854775807) ∧ (-9223372036854775808 ≤ a.start ∧ a.start ≤ 9223372036854775807) ∧ a.edges.length ≤ 2 ^ 63 - 1 ∧ ∀ e ∈ a.edges, e.r64

theorem edge_typed {ta tl te ti tb : TypeId} (T : AutoT P ta tl te ti tb) {n : Nat} {cs : List PV} (h : typed P (n + 2) te cs) : ∃ e : Edge, cs = e.c ∧ e.r64 := by
  obtain ⟨fs, hu, hts⟩ := T.fe
  obtain ⟨r0, q0, rfl, h0, r1, q1, rfl, h1, r2, q2, rfl, h2, r3, q3, rfl, h3, rfl⟩ := typed_struct hu hts h
  obtain ⟨x, rfl, hx⟩ := typed_int T.i h0
  obtain ⟨b, rfl⟩ := typed_bool T.b h1
  obtain ⟨y, rfl, hy⟩ := typed_int T.i h2
  obtain ⟨z, rfl, hz⟩ := typed_int T.i h3
  rw [i64_min, i64_max] at hx hy hz
  exact ⟨⟨x, b, y, z⟩, rfl, hx, hy, hz⟩

theorem auto_typed {ta tl te ti tb : TypeId} (T : AutoT P ta tl te ti tb) {n : Nat} {cs : List PV} (h : typed P (n + 4) ta cs) : ∃ a : Auto, cs = [.int .i64 a.states, .int .i64 a.start, .lst 0 (a.edges.map Edge.c)] ∧ a.r64 := by
  obtain ⟨fs, hu, hts⟩ := T.fa
  obtain ⟨r0, q0, rfl, h0, r1, q1, rfl, h1, r2, q2, rfl, h2, rfl⟩ := typed_struct hu hts h
  obtain ⟨x, rfl, hx⟩ := typed_int T.i h0
  obtain ⟨y, rfl, hy⟩ := typed_int T.i h1
  obtain ⟨rows, rfl, hl, hr⟩ := typed_slice T.l h2
  rw [i64_min, i64_max] at hx hy
  obtain ⟨l, rfl⟩ := rows_map (c := fun e : {e : Edge // e.r64} => e.1.c) (rows := rows) (fun r hr' => by
    obtain ⟨e, rfl, he⟩ := edge_typed T (hr r hr')
    exact ⟨⟨e, he⟩, rfl⟩)
  refine ⟨⟨x, y, l.map (·.1)⟩, by simp [], hx, hy, by simpa [maxLen] using hl, ?_⟩
  intro e he
  obtain ⟨e', _, rfl⟩ := List.mem_map.1 he
  exact e'.2

structure Arg (P : Program) (t : TypeId) (α : Type) where
  pv : α → PV
  ok : α → Prop
  dec : ∀ cs, typed P 12 t cs → ∃ x : α, ok x ∧ argPV P t cs = pv x

theorem isAgg_struct {t : TypeId} {fs : Array Field} (hu : P.underlying t = some (.struct fs)) : isAggT P t = some true := by simp [isAggT, hu]

def autoArg {ta tl te ti tb : TypeId} (T : AutoT P ta tl te ti tb) : Arg P ta Auto where
  pv a := .agg [.int .i64 a.states, .int .i64 a.start, .lst 0 (a.edges.map Edge.c)]
  ok := Auto.r64
  dec cs h := by
    obtain ⟨a, rfl, ha⟩ := auto_typed (n := 8) T h
    obtain ⟨fs, hu, _⟩ := T.fa
    exact ⟨a, ha, by simp only [argPV, isAgg_struct hu, if_true]⟩
def edgeArg {ta tl te ti tb : TypeId} (T : AutoT P ta tl te ti tb) : Arg P te Edge where
  pv e := .agg [.int .i64 e.fr, .bool e.send, .int .i64 e.label, .int .i64 e.to]
  ok := Edge.r64
  dec cs h := by
    obtain ⟨e, rfl, he⟩ := edge_typed (n := 10) T h
    obtain ⟨fs, hu, _⟩ := T.fe
    exact ⟨e, he, by simp only [argPV, isAgg_struct hu, if_true]; rfl⟩
def intArg {t : TypeId} {k : IntKind} (hu : P.underlying t = some (.int k)) : Arg P t Int where
  pv n := .int k n
  ok n := k.min ≤ n ∧ n ≤ k.max
  dec cs h := by
    obtain ⟨x, rfl, hx⟩ := typed_int (n := 11) hu h
    have : isAggT P t = some false := by simp [isAggT, hu]
    exact ⟨x, hx, by simp [argPV, this]⟩
def boolArg {t : TypeId} (hu : P.underlying t = some .bool) : Arg P t Bool where
  pv n := .bool n
  ok _ := True
  dec cs h := by
    obtain ⟨x, rfl⟩ := typed_bool (n := 11) hu h
    have : isAggT P t = some false := by simp [isAggT, hu]
    exact ⟨x, trivial, by simp [argPV, this]⟩

theorem law1 {N : Nat → Nat} {f : Nat} {t1 : TypeId} {α : Type} (A1 : Arg P t1 α) (hF : ∀ x, A1.ok x → FnR P N f [A1.pv x] [.bool true]) (css : List (List PV)) (hl : css.length = [t1].length)
    (ht : ∀ (j : Nat) (t : TypeId) (cs : List PV), [t1][j]? = some t → css[j]? = some cs → typed P 12 t cs) : FnR P N f (List.zipWith (argPV P) [t1] css) [.bool true] := by
  match css, hl with
  | [c1], _ =>
    obtain ⟨x, hx, e1⟩ := A1.dec c1 (ht 0 t1 c1 rfl rfl)
    simp only [List.zipWith, e1]
    exact hF x hx
theorem law2 {N : Nat → Nat} {f : Nat} {t1 t2 : TypeId} {α β : Type} (A1 : Arg P t1 α) (A2 : Arg P t2 β) (hF : ∀ x y, A1.ok x → A2.ok y → FnR P N f [A1.pv x, A2.pv y] [.bool true]) (css : List (List PV)) (hl : css.length = [t1, t2].length)
    (ht : ∀ (j : Nat) (t : TypeId) (cs : List PV), [t1, t2][j]? = some t → css[j]? = some cs → typed P 12 t cs) : FnR P N f (List.zipWith (argPV P) [t1, t2] css) [.bool true] := by
  match css, hl with
  | [c1, c2], _ =>
    obtain ⟨x, hx, e1⟩ := A1.dec c1 (ht 0 t1 c1 rfl rfl)
    obtain ⟨y, hy, e2⟩ := A2.dec c2 (ht 1 t2 c2 rfl rfl)
    simp only [List.zipWith, e1, e2]
    exact hF x y hx hy
end Go.Pv

