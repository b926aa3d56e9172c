/-
 What the functions of the law give.
-/
import Derived.Test.YtppmbamefnacaaaGreatDoorTab
namespace Go.Pv
section
variable {α : Type} [DecidableEq α]
def addN (o : List α) (x : α) : List α := if x ∈ o then o else o ++ [x]
def addL (o : List α) (l : List α) : List α := l.foldl addN o
def bfs (nx : α → List α) : Nat → Nat → List α → List α
 | 0,_,o => o
 | n + 1,i,o => match o[i]? with
  | none => o
  | some v => bfs nx n (i + 1) (addL o (nx v))
section
variable {β : Type} [DecidableEq β]
end
end
end Go.Pv
namespace Go.Pv
section
variable {α : Type} [Inhabited α]
def apt (lt : α → α → Bool) (x y : α) : Prop := lt x y = true ∨ lt y x = true
def bub (lt : α → α → Bool) (x : α) (l : List α) : Nat → Nat
 | 0 => 0
 | p + 1 => if lt x (l.getD p default) = true then bub lt x l p else p + 1
def putA (x : α) (l : List α) (p : Nat) : List α := l.take p ++ x :: l.drop p
def insB (lt : α → α → Bool) (x : α) (l : List α) : List α := putA x l (bub lt x l l.length)
def sortB (lt : α → α → Bool) (l : List α) : List α := l.foldl (fun o x => insB lt x o) []
omit [Inhabited α] in
theorem rising_of {lt : α → α → Bool} : ∀ {l : List α},l.Pairwise (fun a b => lt a b = true) → rising lt l = true
 | [],_ => rfl
 | [_],_ => rfl
 | x :: y :: r,h => by
  obtain ⟨h1,h2⟩ := List.pairwise_cons.1 h
  simp only [rising,Bool.and_eq_true]
  exact ⟨h1 y (by simp),rising_of h2⟩
end
end Go.Pv
namespace Go.Pv
theorem r66 {Pr : Prims} (x : Int) : res A Pr 66 [.int .i64 x] = some [.bool false] := by
 refine res_of a66 rfl rfl ?_
 simp only [F66]; try delta sS tT zZ nN gG bB pZ
 simp (disch := omega) only [go_sem]
theorem r60 {Pr : Prims} (hp : Pr 66 = none) (x y : Int) : res A Pr 60 [.int .i64 x,.int .i64 y] = some [.int .i64 (cmpI x y)] := by
 refine res_of a60 rfl rfl ?_
 simp only [F60]; try delta sS tT zZ nN gG bB pZ
 simp (disch := omega) only [go_sem,CW_CN (by kernel_rfl) hp tk66,r66]
 unfold cmpI
 refine Br.ofP (fun h => ?_) (fun h => ?_) <;> simp (disch := omega) only [go_sem,h]
 refine Br.ofP (fun h2 => ?_) (fun h2 => ?_) <;> simp (disch := omega) only [go_sem,h,h2]
theorem r58 {Pr : Prims} (a : Edge) : res A Pr 58 [.agg a.c] = some [.int .i64 a.side] := by
 refine res_of a58 rfl rfl ?_
 simp only [F58]; try delta sS tT zZ nN gG bB pZ
 simp (disch := omega) only [go_sem]
 unfold Edge.side
 refine Br.of (fun h => ?_) (fun h => ?_) <;> simp (disch := omega) only [go_sem,h]
def orI : List Int → Int
 | [] => 0
 | x :: r => if x ≠ 0 then x else orI r
theorem drop_at {α : Type} {l : List α} {k : Nat} {x : α} (h : l[k]? = some x) : l.drop k = x :: l.drop (k + 1) := by
 obtain ⟨h1,h2⟩ := List.getElem?_eq_some_iff.1 h
 rw [List.drop_eq_getElem_cons h1,h2]
theorem get_at {α : Type} {l : List α} {k : Nat} (h : k < l.length) : ∃ x,l[k]? = some x := ⟨_,List.getElem?_eq_getElem h⟩
theorem drop_end {α : Type} {l : List α} {k : Nat} (h : ¬ (k : Int) < l.length) : l.drop k = [] := List.drop_eq_nil_of_le (by omega)
theorem r59 {Pr : Prims} (t : Nat) (l : List Int) (hl : l.length < 1000) : res A Pr 59 [.lst t (ints l)] = some [.int .i64 (orI l)] := by
 refine res_of a59 rfl rfl ?_
 simp only [F59]; try delta sS tT zZ nN gG bB pZ
 simp (disch := omega) only [go_sem]
 refine W.upto l.length (fun k => ⟨[(3,.pv (.int .i64 0)),(6,.pv (.lst t (ints l))),(7,.pv (.int .i64 l.length)),(8,.pv (.int .i64 k))],⟨[],[],[]⟩⟩) (fun k => orI l = orI (l.drop k)) rfl rfl fun k hk hi => ?_
 simp (disch := omega) only [go_sem]
 refine Br.ofP (fun h => ?_) (fun h => ?_)
 ·obtain ⟨x,hx⟩ := get_at (l := l) (k := k) (by omega)
  rw [drop_at hx,orI] at hi
  simp (disch := omega) only [go_sem,hx]
  refine Br.ofP (fun h1 => ?_) (fun h1 => ?_) <;> simp (disch := omega) only [go_sem]
  ·exact .of (by omega) rfl (by simpa [h1] using hi)
  ·simp [hi,h1]
 ·simp (disch := omega) only [go_sem]
  simp [hi,drop_end h,orI]
theorem r47 {Pr : Prims} (h66 : Pr 66 = none) (h60 : Pr 60 = none) (h59 : Pr 59 = none) (h58 : Pr 58 = none) (a b : Edge) : res A Pr 47 [.agg a.c,.agg b.c] = some [.int .i64 (Edge.cmp a b)] := by
 refine res_of a47 rfl rfl ?_
 simp only [F47]; try delta sS tT zZ nN gG bB pZ
 have e59 := fun x y z => r59 (Pr := Pr) 0 [x,y,z] (by simp)
 simp only [ints,List.map_cons,List.map_nil] at e59
 have e58 := fun x => r58 (Pr := Pr) x
 simp only [Edge.c] at e58
 simp (disch := omega) only [go_sem,CW_CN (by kernel_rfl) h60 tk60,CW_CN (by kernel_rfl) h59 tk59,CW_CN (by kernel_rfl) h58 tk58,r60 h66,e58 a,e58 b,e59]
 by_cases h : cmpI a.label b.label = 0 <;> simp [orI,Edge.cmp,h]
end Go.Pv
namespace Go.Pv
@[go_sem] theorem r44 (a b : Edge) : res A PrA 44 [.agg [.int .i64 a.fr,.bool a.send,.int .i64 a.label,.int .i64 a.to],.agg [.int .i64 b.fr,.bool b.send,.int .i64 b.label,.int .i64 b.to]] = some [.bool (Edge.lt a b)] := by
 refine res_of a44 rfl rfl ?_
 simp only [F44]; try delta sS tT zZ nN gG bB pZ
 simp (disch := omega) only [go_sem]
 unfold Edge.lt
 by_cases h : a.fr = b.fr <;> by_cases h2 : a.send = b.send <;> simp (disch := omega) only [go_sem,h,h2,ne_eq,not_true_eq_false,not_false_eq_true]
theorem Auto.err_ok {a : Auto} (h1 : a.states ≤ 12) (h2 : a.edges.length ≤ 100) (h3 : 0 ≤ a.start ∧ a.start < a.states) : a.err = if chk a.states none a.edges = true then 0 else 1 := by
 unfold Auto.err
 rw [if_neg (by omega),if_pos h3]
theorem Auto.err_start {a : Auto} (h1 : a.states ≤ 12) (h2 : a.edges.length ≤ 100) (h3 : ¬ (0 ≤ a.start ∧ a.start < a.states)) : a.err = 1 := by
 unfold Auto.err
 rw [if_neg (by omega),if_neg h3]
theorem Auto.err_large {a : Auto} (h : 12 < a.states ∨ 100 < a.edges.length) : a.err = 3 := by
 unfold Auto.err
 rw [if_pos h]
theorem chk_no {n : Int} {p : Option Edge} {e : Edge} {r : List Edge} (h : e.fits n = false) : chk n p (e :: r) = false := by simp [chk,h]
set_option maxHeartbeats 1000000 in
@[go_sem] theorem r26 (t : Nat) (a : Auto) (hl : a.edges.length ≤ 2 ^ 63 - 1) : res A PrA 26 [.agg [.int .i64 a.states,.int .i64 a.start,.lst t (a.edges.map Edge.c)]] = some [.int .i64 a.err] := by
 refine res_of a26 rfl rfl ?_
 simp only [F26]; try delta sS tT zZ nN gG bB pZ
 simp (disch := omega) only [go_sem]
 refine Br.ofP (fun h1 => ?_) (fun h1 => ?_) <;> simp (disch := omega) only [go_sem,h1]
 ·rw [Auto.err_large (.inl h1)]
 refine Br.ofP (fun h2 => ?_) (fun h2 => ?_) <;> simp (disch := omega) only [go_sem,h2]
 ·rw [Auto.err_large (.inr (by omega))]
 refine Br.ofP (fun h3 => ?_) (fun h3 => ?_) <;> simp (disch := omega) only [go_sem,h3]
 ·rw [Auto.err_start (by omega) (by omega) (by omega)]
 refine Br.ofP (fun h4 => ?_) (fun h4 => ?_) <;> simp (disch := omega) only [go_sem,h4]
 ·rw [Auto.err_start (by omega) (by omega) (by omega)]
 refine Br.ofP (fun h5 => ?_) (fun h5 => ?_) <;> simp (disch := omega) only [go_sem,h5]
 ·rw [Auto.err_start (by omega) (by omega) (by omega)]
 rw [Auto.err_ok (by omega) (by omega) (by omega)]
 refine W.upto a.edges.length (fun k => ⟨[(1,.ptr 1 0),(3,.pv (.int .i64 k))],⟨[(1,[.pv (.int .i64 a.states),.pv (.int .i64 a.start),.pv (.lst t (a.edges.map Edge.c))])],[],[]⟩⟩) (fun k => chk a.states none a.edges = chk a.states (ahead1 a.edges k) (a.edges.drop k)) rfl rfl fun k hk hi => ?_
 simp (disch := omega) only [go_sem]
 refine Br.ofP (fun h => ?_) (fun h => ?_)
 ·obtain ⟨e,he⟩ := get_at (l := a.edges) (k := k) (by omega)
  rw [drop_at he] at hi
  have bad : e.fits a.states = false → chk a.states none a.edges = false := fun hb => hi.trans (chk_no hb)
  simp (disch := omega) only [go_sem,he]
  refine Br.ofP (fun g1 => ?_) (fun g1 => ?_) <;> simp (disch := omega) only [go_sem,g1]
  ·rw [bad (by simp [Edge.fits]; omega)]; rfl
  refine Br.ofP (fun g2 => ?_) (fun g2 => ?_) <;> simp (disch := omega) only [go_sem,g2]
  ·rw [bad (by simp [Edge.fits]; omega)]; rfl
  refine Br.ofP (fun g3 => ?_) (fun g3 => ?_) <;> simp (disch := omega) only [go_sem,g3]
  ·rw [bad (by simp [Edge.fits]; omega)]; rfl
  refine Br.ofP (fun g4 => ?_) (fun g4 => ?_) <;> simp (disch := omega) only [go_sem,g4]
  ·rw [bad (by simp [Edge.fits]; omega)]; rfl
  refine Br.ofP (fun g5 => ?_) (fun g5 => ?_) <;> simp (disch := omega) only [go_sem,g5]
  ·rw [bad (by simp [Edge.fits]; omega)]; rfl
  refine Br.ofP (fun g6 => ?_) (fun g6 => ?_) <;> simp (disch := omega) only [go_sem,g6]
  ·rw [bad (by simp [Edge.fits]; omega)]; rfl
  have fit : e.fits a.states = true := by simp [Edge.fits]; omega
  refine Br.ofP (fun g7 => ?_) (fun g7 => ?_) <;> simp (disch := omega) only [go_sem,g7]
  ·obtain ⟨j,rfl⟩ : ∃ j,k = j + 1 := ⟨k - 1,by omega⟩
   obtain ⟨d,hd⟩ := get_at (l := a.edges) (k := j) (by omega)
   have hj : ((j + 1 : Nat) : Int) - 1 = (j : Int) := by omega
   rw [ahead1_succ,hd] at hi
   simp (disch := omega) only [go_sem,hj,hd]
   refine Br.of (fun g8 => ?_) (fun g8 => ?_) <;> simp (disch := omega) only [go_sem]
   ·exact .of (by omega) rfl (by rw [hi,ahead1_succ,he]; simp [chk,fit,g8])
   ·rw [hi]; simp [chk,g8]
  ·obtain rfl : k = 0 := by omega
   exact .of (by omega) rfl (by rw [hi,ahead1_succ,he]; simp [chk,fit,ahead1])
 ·simp (disch := omega) only [go_sem]
  rw [hi,drop_end h]
  rfl
@[go_sem] theorem r47a (a b : Edge) : res A PrA 47 [.agg [.int .i64 a.fr,.bool a.send,.int .i64 a.label,.int .i64 a.to],.agg [.int .i64 b.fr,.bool b.send,.int .i64 b.label,.int .i64 b.to]] = some [.int .i64 (Edge.cmp a b)] :=
 r47 (by kernel_rfl) (by kernel_rfl) (by kernel_rfl) (by kernel_rfl) a b
@[go_sem] theorem r46 (n s : Int) (t : Nat) (cs : List PV) : res A PrA 46 [.int .i64 n,.ro t (.int .i64 s :: cs)] = some [.bool (decide (0 ≤ n) && decide (n < s))] := by
 refine res_of a46 rfl rfl ?_
 simp only [F46]; try delta sS tT zZ nN gG bB pZ
 simp (disch := omega) only [go_sem]
 refine Br.ofP (fun h1 => ?_) (fun h1 => ?_) <;> simp (disch := omega) only [go_sem,h1]
theorem fits_of {e : Edge} {n : Int} : e.fits n = (((decide (0 ≤ e.fr) && decide (e.fr < n)) && (decide (0 ≤ e.to) && decide (e.to < n))) && (decide (1 ≤ e.label) && decide (e.label ≤ 1000))) := by
 simp [Edge.fits,Bool.and_assoc]
set_option maxHeartbeats 2000000 in
@[go_sem] theorem r29 (t : Nat) (a : Auto) (hl : a.edges.length ≤ 2 ^ 63 - 1) : res A PrA 29 [.agg [.int .i64 a.states,.int .i64 a.start,.lst t (a.edges.map Edge.c)]] = some [.int .i64 a.err] := by
 refine res_of a29 rfl rfl ?_
 simp only [F29]; try delta sS tT zZ nN gG bB pZ
 simp (disch := omega) only [go_sem]
 refine Br.ofP (fun h1 => ?_) (fun h1 => ?_) <;> simp (disch := omega) only [go_sem,h1]
 ·rw [Auto.err_large (.inl h1)]
 refine Br.ofP (fun h2 => ?_) (fun h2 => ?_) <;> simp (disch := omega) only [go_sem,h2]
 ·rw [Auto.err_large (.inr (by omega))]
 refine Br.of (fun h3 => ?_) (fun h3 => ?_) <;> simp at h3 <;> simp (disch := omega) only [go_sem]
 case refine_2 => rw [Auto.err_start (by omega) (by omega) (by omega)]
 rw [Auto.err_ok (by omega) (by omega) (by omega)]
 refine W.upto a.edges.length (fun k => ⟨[(1,.ptr 1 0),(3,.func 46 [.ptr 1 0]),(22,.pv (.lst t (a.edges.map Edge.c))),(23,.pv (.int .i64 a.edges.length)),(24,.pv (.int .i64 k))],⟨[(1,[.pv (.int .i64 a.states),.pv (.int .i64 a.start),.pv (.lst t (a.edges.map Edge.c))])],[],[]⟩⟩) (fun k => chk a.states none a.edges = chk a.states (ahead1 a.edges k) (a.edges.drop k)) rfl rfl fun k hk hi => ?_
 simp (disch := omega) only [go_sem]
 refine Br.ofP (fun h => ?_) (fun h => ?_)
 ·obtain ⟨e,he⟩ := get_at (l := a.edges) (k := k) (by omega)
  rw [drop_at he] at hi
  have bad : e.fits a.states = false → chk a.states none a.edges = false := fun hb => hi.trans (chk_no hb)
  rw [fits_of] at bad
  simp (disch := omega) only [go_sem,he]
  refine Br.of (fun g1 => ?_) (fun g1 => ?_) <;> simp (disch := omega) only [go_sem,g1]
  case refine_2 => rw [bad (by rw [g1]; rfl)]; rfl
  refine Br.of (fun g2 => ?_) (fun g2 => ?_) <;> simp (disch := omega) only [go_sem,g2]
  case refine_2 => rw [bad (by rw [g1,g2]; rfl)]; rfl
  refine Br.ofP (fun g3 => ?_) (fun g3 => ?_) <;> simp (disch := omega) only [go_sem,g3]
  ·rw [bad (by simp; omega)]; rfl
  refine Br.ofP (fun g4 => ?_) (fun g4 => ?_) <;> simp (disch := omega) only [go_sem,g4]
  ·rw [bad (by simp; omega)]; rfl
  have fit : e.fits a.states = true := by rw [fits_of,g1,g2]; simp; omega
  refine Br.ofP (fun g7 => ?_) (fun g7 => ?_) <;> simp (disch := omega) only [go_sem,g7]
  ·obtain ⟨j,rfl⟩ : ∃ j,k = j + 1 := ⟨k - 1,by omega⟩
   obtain ⟨d,hd⟩ := get_at (l := a.edges) (k := j) (by omega)
   have hj : ((j + 1 : Nat) : Int) - 1 = (j : Int) := by omega
   rw [ahead1_succ,hd] at hi
   simp (disch := omega) only [go_sem,hj,hd,Edge.cmp_ge]
   refine Br.of (fun g8 => ?_) (fun g8 => ?_) <;> simp (disch := omega) only [go_sem]
   ·exact .of (by omega) rfl (by rw [hi,ahead1_succ,he]; simp [chk,fit,g8])
   ·rw [hi]; simp [chk,g8]
  ·obtain rfl : k = 0 := by omega
   exact .of (by omega) rfl (by rw [hi,ahead1_succ,he]; simp [chk,fit,ahead1])
 ·simp (disch := omega) only [go_sem]
  rw [hi,drop_end h]
  rfl
end Go.Pv
namespace Go.Pv
def nextE (s : Int) (d : Bool) (x : Int) : List Edge → Option Int
 | [] => none
 | e :: r => if e.fr = s ∧ e.send = d ∧ e.label = x then some e.to else nextE s d x r
@[go_sem] theorem r45 (t : Nat) (a : Auto) (s : Int) (d : Bool) (x : Int) (hl : a.edges.length ≤ 2 ^ 63 - 1) :
  res A PrA 45 [.agg [.int .i64 a.states,.int .i64 a.start,.lst t (a.edges.map Edge.c)],.int .i64 s,.bool d,.int .i64 x] = some [.int .i64 ((nextE s d x a.edges).getD 0),.bool (nextE s d x a.edges).isSome] := by
 refine res_of a45 rfl rfl ?_
 simp only [F45]; try delta sS tT zZ nN gG bB pZ
 simp (disch := omega) only [go_sem]
 refine W.upto a.edges.length (fun k => ⟨[(1,.pv (.int .i64 s)),(2,.pv (.bool d)),(3,.pv (.int .i64 x)),(13,.pv (.lst t (a.edges.map Edge.c))),(14,.pv (.int .i64 a.edges.length)),(15,.pv (.int .i64 k))],⟨[],[],[]⟩⟩) (fun k => nextE s d x a.edges = nextE s d x (a.edges.drop k)) rfl rfl fun k hk hi => ?_
 simp (disch := omega) only [go_sem]
 refine Br.ofP (fun h => ?_) (fun h => ?_)
 ·obtain ⟨e,he⟩ := get_at (l := a.edges) (k := k) (by omega)
  rw [drop_at he] at hi
  have no : ¬ (e.fr = s ∧ e.send = d ∧ e.label = x) → nextE s d x a.edges = nextE s d x (a.edges.drop (k + 1)) := fun hn => hi.trans (by simp only [nextE,if_neg hn])
  have yes : (e.fr = s ∧ e.send = d ∧ e.label = x) → nextE s d x a.edges = some e.to := fun hn => hi.trans (by simp only [nextE,if_pos hn])
  simp (disch := omega) only [go_sem,he]
  refine Br.ofP (fun g1 => ?_) (fun g1 => ?_) <;> simp (disch := omega) only [go_sem,g1]
  ·refine Br.ofP (fun g2 => ?_) (fun g2 => ?_) <;> simp (disch := omega) only [go_sem,g2]
   ·refine Br.ofP (fun g3 => ?_) (fun g3 => ?_) <;> simp (disch := omega) only [go_sem,g3]
    ·rw [yes ⟨g1,g2,g3⟩]
     rfl
    ·exact .of (by omega) rfl (no (fun hn => g3 hn.2.2))
   ·exact .of (by omega) rfl (no (fun hn => g2 hn.2.1))
  ·exact .of (by omega) rfl (no (fun hn => g1 hn.1))
 ·simp (disch := omega) only [go_sem]
  rw [hi,drop_end h]
  rfl
@[go_sem] theorem r39 (t : Nat) (a : Auto) (s : Int) (d : Bool) (x : Int) (hl : a.edges.length ≤ 2 ^ 63 - 1) :
  res A PrA 39 [.agg [.int .i64 a.states,.int .i64 a.start,.lst t (a.edges.map Edge.c)],.int .i64 s,.bool d,.int .i64 x] = some [.int .i64 ((nextE s d x a.edges).getD 0),.bool (nextE s d x a.edges).isSome] := by
 refine res_of a39 rfl rfl ?_
 simp only [F39]; try delta sS tT zZ nN gG bB pZ
 simp (disch := omega) only [go_sem]
 refine W.upto a.edges.length (fun k => ⟨[(1,.pv (.int .i64 s)),(2,.pv (.bool d)),(3,.pv (.int .i64 x)),(4,.ptr 4 0),(10,.pv (.int .i64 k))],⟨[(4,[.pv (.int .i64 a.states),.pv (.int .i64 a.start),.pv (.lst t (a.edges.map Edge.c))])],[],[]⟩⟩) (fun k => nextE s d x a.edges = nextE s d x (a.edges.drop k)) rfl rfl fun k hk hi => ?_
 simp (disch := omega) only [go_sem]
 refine Br.ofP (fun h => ?_) (fun h => ?_)
 ·obtain ⟨e,he⟩ := get_at (l := a.edges) (k := k) (by omega)
  rw [drop_at he] at hi
  have no : ¬ (e.fr = s ∧ e.send = d ∧ e.label = x) → nextE s d x a.edges = nextE s d x (a.edges.drop (k + 1)) := fun hn => hi.trans (by simp only [nextE,if_neg hn])
  have yes : (e.fr = s ∧ e.send = d ∧ e.label = x) → nextE s d x a.edges = some e.to := fun hn => hi.trans (by simp only [nextE,if_pos hn])
  simp (disch := omega) only [go_sem,he]
  refine Br.ofP (fun g1 => ?_) (fun g1 => ?_) <;> simp (disch := omega) only [go_sem,g1]
  ·refine Br.ofP (fun g2 => ?_) (fun g2 => ?_) <;> simp (disch := omega) only [go_sem,g2]
   ·refine Br.ofP (fun g3 => ?_) (fun g3 => ?_) <;> simp (disch := omega) only [go_sem,g3]
    ·rw [yes ⟨g1,g2,g3⟩]
     rfl
    ·exact .of (by omega) rfl (no (fun hn => g3 hn.2.2))
   ·exact .of (by omega) rfl (no (fun hn => g2 hn.2.1))
  ·exact .of (by omega) rfl (no (fun hn => g1 hn.1))
 ·simp (disch := omega) only [go_sem]
  rw [hi,drop_end h]
  rfl
end Go.Pv
namespace Go.Pv
variable {A : Nat → Option AFunc} {Pr : Prims}
def grV (n : Nat) : List (List PV) → V
 | [] => .tl []
 | _ :: r => .own n r.length 0 (r.length + 1)
def grA (k : Nat) : List (List PV) → List Arr
 | [] => []
 | x :: r => [⟨r.length,k,.inl (x :: r)⟩]
def grT (n k : Nat) (rows : List (List PV)) (r : List PV) : Tn :=
 match rows with
 | [] => { push := [⟨0,k,.inl [r]⟩],base := n }
 | x :: q => { ar := some (n,⟨q.length + 1,k,.inl (x :: q ++ [r])⟩) }
theorem grow (bx : List (Nat × List V)) (mp : List (List (PV × PV))) (pre : List Arr) (k : Nat) (rows : List (List PV)) (r : List PV) (hr : r.length = k) (hm : rows.length + 1 ≤ 2147483648) :
  appendV ⟨bx,pre ++ grA k rows,mp⟩ k (grV pre.length rows) (.tl [r]) = some (grV pre.length (rows ++ [r]),grT pre.length k rows r) := by
 cases rows with
 | nil => simp [appendV,grV,grA,grT,srcRows,rowsFit,rowsLen,hr,catRows,mostRows]
 | cons x q =>
  have h1 : ownArr ⟨bx,pre ++ grA k (x :: q),mp⟩ pre.length q.length = some ⟨q.length,k,.inl (x :: q)⟩ := by simp [ownArr,grA]
  have h2 : (⟨q.length,k,.inl (x :: q)⟩ : Arr).size = q.length + 1 := rfl
  have h3 : ((x :: q).drop 0).take (q.length + 1) = x :: q := by simp
  simp only [List.length_cons] at hm
  simp [appendV,grV,grT,srcRows,rowsFit,rowsLen,hr,h1,h2,catRows,cutRows,mostRows]
  omega
theorem grT_apply (bx : List (Nat × List V)) (mp : List (List (PV × PV))) (pre : List Arr) (k : Nat) (rows : List (List PV)) (r : List PV) :
  (grT pre.length k rows r).apply ⟨bx,pre ++ grA k rows,mp⟩ = ⟨bx,pre ++ grA k (rows ++ [r]),mp⟩ := by
 cases rows with
 | nil => simp [grT,Tn.apply,grA]
 | cons x q => simp [grT,Tn.apply,grA]
@[go_sem] theorem grow0 (bx : List (Nat × List V)) (mp : List (List (PV × PV))) (k : Nat) (rows : List (List PV)) (r : List PV) (hr : r.length = k) (hm : rows.length + 1 ≤ 2147483648) :
  appendV ⟨bx,grA k rows,mp⟩ k (grV 0 rows) (.tl [r]) = some (grV 0 (rows ++ [r]),grT 0 k rows r) := grow bx mp [] k rows r hr hm
@[go_sem] theorem grT_apply0 (bx : List (Nat × List V)) (mp : List (List (PV × PV))) (k : Nat) (rows : List (List PV)) (r : List PV) :
  (grT 0 k rows r).apply ⟨bx,grA k rows,mp⟩ = ⟨bx,grA k (rows ++ [r]),mp⟩ := grT_apply bx mp [] k rows r
@[go_sem] theorem lenV_gr (h : Heap) (n : Nat) (rows : List (List PV)) : lenV h 0 (grV n rows) = some (rows.length,{}) := by cases rows <;> rfl
@[go_sem] theorem cells_gr (n : Nat) (rows : List (List PV)) : V.cells (grV n rows) = [grV n rows] := by cases rows <;> rfl
@[go_sem] theorem calm_gr (n : Nat) (rows : List (List PV)) : V.calm (grV n rows) = true := by cases rows <;> rfl
@[go_sem] theorem sized_gr (n : Nat) (rows : List (List PV)) : V.sized (grV n rows) = true := by cases rows <;> rfl
@[go_sem] theorem scrub_gr (kb : List Nat) (n : Nat) (rows : List (List PV)) : scrub kb (grV n rows) = grV n rows := by cases rows <;> rfl
@[go_sem] theorem okc_gr (kb : List Nat) (n : Nat) (rows : List (List PV)) : okc kb (grV n rows) = true := by cases rows <;> rfl
@[go_sem] theorem purec_gr (n : Nat) (rows : List (List PV)) : V.purec (grV n rows) = none := by cases rows <;> rfl
theorem own_gr (bx : List (Nat × List V)) (mp : List (List (PV × PV))) (pre post : List Arr) (k : Nat) (x : List PV) (q : List (List PV)) : ownArr ⟨bx,pre ++ (grA k (x :: q) ++ post),mp⟩ pre.length q.length = some ⟨q.length,k,.inl (x :: q)⟩ := by simp [ownArr,grA]
theorem keepc_gr (bx : List (Nat × List V)) (mp : List (List (PV × PV))) (pre : List Arr) (k d : Nat) (rows : List (List PV)) : keepc ⟨bx,pre ++ grA k rows,mp⟩ (d + 1) (grV pre.length rows) = some (.lst 0 rows) := by
 cases rows with
 | nil => rfl
 | cons x q =>
  have := own_gr bx mp pre [] k x q
  rw [List.append_nil] at this
  simp [grV,keepc_own,this,keepRows,cutRows]
@[go_sem] theorem keepc_gr0 (bx : List (Nat × List V)) (mp : List (List (PV × PV))) (k : Nat) (rows : List (List PV)) : keepc ⟨bx,grA k rows,mp⟩ 4 (grV 0 rows) = some (.lst 0 rows) := keepc_gr bx mp [] k 3 rows
@[go_sem] theorem keep_gr (h : Heap) (n : Nat) (rows : List (List PV)) : keep h false (grV n rows) = keepc h 4 (grV n rows) := by cases rows <;> rfl
@[go_sem] theorem lend_gr (h : Heap) (n : Nat) (rows : List (List PV)) : lend h (grV n rows) = lendc h 4 (grV n rows) := by cases rows <;> rfl
theorem grV_own {i n : Nat} {rows : List (List PV)} (h : rows.length = n + 1) : grV i rows = .own i n 0 (n + 1) := by
 match rows,h with
 | x :: q,h =>
  simp at h
  simp [grV,h]
theorem grA_own {k n : Nat} {rows : List (List PV)} (h : rows.length = n + 1) : grA k rows = [⟨n,k,.inl rows⟩] := by
 match rows,h with
 | x :: q,h =>
  simp at h
  simp [grA,h]
def chkR {α : Type} (i : Int) (len : Nat) (v : α) : Option α := if 0 ≤ i ∧ i ≤ len then some v else none
@[go_sem] theorem chkR_ok {α : Type} {i : Int} {len : Nat} {v : α} (h0 : 0 ≤ i) (h1 : i ≤ (len : Int)) : chkR i len v = some v := if_pos ⟨h0,h1⟩
@[go_sem] theorem sl_from (g : Opd → V) (h : Heap) (k id ver off len : Nat) (lo : Opd) :
  sliceV g h k (.own id ver off len) (some lo) none none = (ownArr h id ver).bind fun a => (intOf (g lo)).bind fun i => if a.k = k then chkR i len (.own id ver (off + i.toNat) (len - i.toNat),{ ra := some id }) else none := by
 cases ho : ownArr h id ver with
 | none => simp [sliceV,ho]
 | some a =>
  cases hi : intOf (g lo) with
  | none => simp [sliceV,ho,bounds,bound,hi]
  | some i => by_cases hk : a.k = k <;> by_cases h0 : 0 ≤ i ∧ i ≤ len <;> simp [sliceV,ho,bounds,bound,hi,hk,h0,chkR]
end Go.Pv
namespace Go.Pv
@[go_sem] theorem ints_nil : ints [] = [] := rfl
def edgs (l : List Edge) : List (List PV) := l.map Edge.c
@[go_sem] theorem edgs_length (l : List Edge) : (edgs l).length = l.length := by simp [edgs]
@[go_sem] theorem edgs_nil : edgs [] = [] := rfl
@[go_sem] theorem edgs_get (l : List Edge) (i : Nat) : (edgs l)[i]? = l[i]?.map Edge.c := by simp [edgs]
end Go.Pv
namespace Go.Pv
def isEnd (s : Int) : List Edge → Bool
 | [] => true
 | e :: r => if e.fr = s then false else isEnd s r
@[go_sem] theorem r106 (t : Nat) (a : Auto) (s : Int) (hl : a.edges.length ≤ 2 ^ 63 - 1) :
  res A PrA 106 [.agg [.int .i64 a.states,.int .i64 a.start,.lst t (a.edges.map Edge.c)],.int .i64 s] = some [.bool (isEnd s a.edges)] := by
 refine res_of a106 rfl rfl ?_
 simp only [F106]; try delta sS tT zZ nN gG bB pZ
 simp (disch := omega) only [go_sem]
 refine W.upto a.edges.length (fun k => ⟨[(1,.pv (.int .i64 s)),(2,.ptr 2 0),(5,.pv (.int .i64 k))],⟨[(2,[.pv (.int .i64 a.states),.pv (.int .i64 a.start),.pv (.lst t (a.edges.map Edge.c))])],[],[]⟩⟩) (fun k => isEnd s a.edges = isEnd s (a.edges.drop k)) rfl rfl fun k hk hi => ?_
 simp (disch := omega) only [go_sem]
 refine Br.ofP (fun h => ?_) (fun h => ?_)
 ·obtain ⟨e,he⟩ := get_at (l := a.edges) (k := k) (by omega)
  rw [drop_at he] at hi
  simp (disch := omega) only [go_sem,he]
  refine Br.ofP (fun g1 => ?_) (fun g1 => ?_) <;> simp (disch := omega) only [go_sem,g1]
  ·rw [hi]
   simp only [isEnd,if_pos g1]
  ·exact .of (by omega) rfl (hi.trans (by simp only [isEnd,if_neg g1]))
 ·simp (disch := omega) only [go_sem]
  rw [hi,drop_end h]
  rfl
def endsTo (es : List Edge) : Nat → List Int
 | 0 => []
 | k + 1 => if isEnd k es then endsTo es k ++ [(k : Int)] else endsTo es k
def Auto.ends (a : Auto) : List Int := if a.states ≤ 12 then endsTo a.edges a.states.toNat else []
end Go.Pv
namespace Go.Pv
def atFrom (x : Int) : Nat → List Int → Int
 | _,[] => -1
 | k,y :: r => if y = x then k else atFrom x (k + 1) r
def atL (x : Int) (l : List Int) : Int := atFrom x 0 l
end Go.Pv
namespace Go.Pv
end Go.Pv
namespace Go.Pv
@[go_sem] theorem ownIds_one (a b c d : Nat) : distinct (ownIds [.own a b c d]) = true := rfl
end Go.Pv
namespace Go.Pv
def apI (id ver off len : Nat) (x : Int) (a : Arr) : Option (V × Tn) :=
 if off + len ≤ a.size ∧ a.k = 1 ∧ len + 1 ≤ mostRows then some (.own id (ver + 1) 0 (len + 1),{ ar := some (id,⟨ver + 1,1,catRows (cutRows off len a.body) (.inl [[.int .i64 x]])⟩) }) else none
@[go_sem] theorem app_own (h : Heap) (id ver off len : Nat) (x : Int) : appendV h 1 (.own id ver off len) (.tl [[.int .i64 x]]) = (ownArr h id ver).bind (apI id ver off len x) := by
 cases ho : ownArr h id ver with
 | none => simp [appendV,srcRows,rowsFit,ho]
 | some a =>
  simp only [appendV,srcRows,rowsFit,ho,rowsLen,apI,List.all_cons,List.all_nil,List.length_cons,List.length_nil,Option.bind_some]
  by_cases h1 : off + len ≤ a.size <;> by_cases h2 : a.k = 1 <;> by_cases h3 : len + 1 ≤ mostRows <;> simp [h1,h2,h3]
@[go_sem] theorem apI_ok {id ver len : Nat} {x : Int} {l : List Int} (h1 : len = l.length) (h2 : l.length + 1 ≤ 2147483648) : apI id ver 0 len x ⟨ver,1,.inl (ints l)⟩ = some (.own id (ver + 1) 0 (len + 1),{ ar := some (id,⟨ver + 1,1,.inl (ints (l ++ [x]))⟩) }) := by
 subst h1
 unfold apI
 rw [if_pos ⟨by simp [Arr.size,ints],rfl,h2⟩]
 have : List.take l.length (List.map (fun x => [PV.int IntKind.i64 x]) l) = List.map (fun x => [PV.int IntKind.i64 x]) l := List.take_of_length_le (by simp)
 simp [catRows,cutRows,ints,this]
@[go_sem] theorem app_tl (h : Heap) (x : Int) : appendV h 1 (.tl []) (.tl [[.int .i64 x]]) = some (.own h.ar.length 0 0 1,{ push := [⟨0,1,.inl (ints [x])⟩],base := h.ar.length }) := by
 simp [appendV,srcRows,rowsFit,rowsLen,mostRows,catRows,ints]
end Go.Pv
namespace Go.Pv
variable {A : Nat → Option AFunc} {Pr : Prims}
def foldK {σ : Type} (S : Nat → σ → St) (I : Nat → σ → Prop) (k : Nat) (acc : σ) (Q : Ex → St → Prop) (_t : Tie (S,I,k,acc,Q) := .mk) : Ex → St → Prop
 | .normal,s => s = S k acc ∧ I k acc
 | .exit i,s => Q (.exit i) s
 | .ret,s => Q .ret s
@[go_sem] theorem foldK_exit {σ : Type} (S : Nat → σ → St) (I : Nat → σ → Prop) (k : Nat) (acc : σ) (Q : Ex → St → Prop) (i : Nat) (s : St) : foldK S I k acc Q .mk (.exit i) s = Q (.exit i) s := rfl
@[go_sem] theorem foldK_ret {σ : Type} (S : Nat → σ → St) (I : Nat → σ → Prop) (k : Nat) (acc : σ) (Q : Ex → St → Prop) (s : St) : foldK S I k acc Q .mk .ret s = Q .ret s := rfl
def exitK (Q : Ex → St → Prop) (_t : Tie Q := .mk) : Ex → St → Prop
 | .normal,_ => False
 | .exit i,s => Q (.exit i) s
 | .ret,s => Q .ret s
@[go_sem] theorem exitK_exit (Q : Ex → St → Prop) (i : Nat) (s : St) : exitK Q .mk (.exit i) s = Q (.exit i) s := rfl
@[go_sem] theorem exitK_ret (Q : Ex → St → Prop) (s : St) : exitK Q .mk .ret s = Q .ret s := rfl
def findK (S : Nat → St) (k : Nat) (p : Bool) (Q : Ex → St → Prop) (_t : Tie (S,k,p,Q) := .mk) : Ex → St → Prop
 | .normal,s => p = false ∧ s = S k
 | .exit i,s => Q (.exit i) s
 | .ret,s => Q .ret s
@[go_sem] theorem findK_exit (S : Nat → St) (k : Nat) (p : Bool) (Q : Ex → St → Prop) (i : Nat) (s : St) : findK S k p Q .mk (.exit i) s = Q (.exit i) s := rfl
@[go_sem] theorem findK_ret (S : Nat → St) (k : Nat) (p : Bool) (Q : Ex → St → Prop) (s : St) : findK S k p Q .mk .ret s = Q .ret s := rfl
theorem findK.of {S : Nat → St} {k : Nat} {p : Bool} {Q : Ex → St → Prop} {s : St} (h : p = false) (h2 : s = S k) : findK S k p Q .mk .normal s := ⟨h,h2⟩
structure Found {α : Type} (l : List α) (p : α → Bool) (k : Nat) (x : α) : Prop where
 any : l.any p = true
 all : l.all (fun y => !p y) = false
 find : l.find? p = some x
 idx : l.findIdx? p = some k
structure Nowhere {α : Type} (l : List α) (p : α → Bool) : Prop where
 any : l.any p = false
 all : l.all (fun y => !p y) = true
 find : l.find? p = none
 idx : l.findIdx? p = none
theorem found_of {α : Type} {l : List α} {p : α → Bool} {k : Nat} {x : α} (hb : ∀ j,j < k → ∀ y,l[j]? = some y → p y = false) (hx : l[k]? = some x) (hp : p x = true) : Found l p k x := by
 obtain ⟨hk,rfl⟩ := List.getElem?_eq_some_iff.1 hx
 have hi : l.findIdx? p = some k := by
  rw [List.findIdx?_eq_some_iff_getElem]
  exact ⟨hk,hp,fun j hj => by simpa using hb j hj _ (by rw [List.getElem?_eq_getElem (by omega)])⟩
 refine ⟨List.any_eq_true.2 ⟨_,List.getElem_mem hk,hp⟩,?_,?_,hi⟩
 ·rw [List.all_eq_false]
  exact ⟨_,List.getElem_mem hk,by simp [hp]⟩
 ·rw [List.find?_eq_some_iff_getElem]
  exact ⟨hp,k,hk,rfl,fun j hj => by simpa using hb j hj _ (by rw [List.getElem?_eq_getElem (by omega)])⟩
theorem nowhere_of {α : Type} {l : List α} {p : α → Bool} (hb : ∀ j,j < l.length → ∀ y,l[j]? = some y → p y = false) : Nowhere l p := by
 have hm : ∀ x ∈ l,p x = false := fun x hx => by
  obtain ⟨j,hj,rfl⟩ := List.getElem_of_mem hx
  exact hb j hj _ (by rw [List.getElem?_eq_getElem])
 exact ⟨by rw [List.any_eq_false]; intro x hx; simp [hm x hx],by rw [List.all_eq_true]; intro x hx; simp [hm x hx],by rw [List.find?_eq_none]; intro x hx; simp [hm x hx],by rw [List.findIdx?_eq_none_iff]; exact hm⟩
theorem W.find {α : Type} {a : AC} {s : St} {Q : Ex → St → Prop} (l : List α) (p : α → Bool) (S : Nat → St) (hs : s = S 0)
  (hr : ∀ k x,l[k]? = some x → k < l.length → (p x = true → Found l p k x) → W A Pr a (S k) (findK S (k + 1) (p x) Q))
  (he : Nowhere l p → W A Pr a (S l.length) (exitK Q)) : W A Pr (.loop a) s Q := by
 refine W.upto l.length S (fun k => ∀ j,j < k → ∀ y,l[j]? = some y → p y = false) hs (fun j hj => absurd hj (Nat.not_lt_zero _)) fun k hk hi => ?_
 rcases Nat.lt_or_ge k l.length with h | h
 ·obtain ⟨x,hx⟩ : ∃ x,l[k]? = some x := ⟨l[k],by simp [h]⟩
  obtain ⟨ex,s',h1,h2⟩ := hr k x hx h (fun hp => found_of hi hx hp)
  refine ⟨ex,s',h1,?_⟩
  cases ex with
  | normal =>
   refine .of h h2.2 fun j hj y hy => ?_
   rcases Nat.lt_or_ge j k with g | g
   ·exact hi j g y hy
   ·obtain rfl : j = k := by omega
    rw [hx] at hy
    cases hy
    exact h2.1
  | exit i => exact h2
  | ret => exact h2
 ·obtain rfl : k = l.length := by omega
  obtain ⟨ex,s',h1,h2⟩ := he (nowhere_of hi)
  refine ⟨ex,s',h1,?_⟩
  cases ex with
  | normal => exact h2.elim
  | exit i => exact h2
  | ret => exact h2
def againK (A : Nat → Option AFunc) (Pr : Prims) (a : AC) (Q : Ex → St → Prop) (_t : Tie (a,Q) := .mk) : Ex → St → Prop
 | .normal,s => W A Pr (.loop a) s Q
 | .exit i,s => Q (.exit i) s
 | .ret,s => Q .ret s
@[go_sem] theorem againK_normal (a : AC) (Q : Ex → St → Prop) (s : St) : againK A Pr a Q .mk .normal s = W A Pr (.loop a) s Q := rfl
@[go_sem] theorem againK_exit (a : AC) (Q : Ex → St → Prop) (i : Nat) (s : St) : againK A Pr a Q .mk (.exit i) s = Q (.exit i) s := rfl
@[go_sem] theorem againK_ret (a : AC) (Q : Ex → St → Prop) (s : St) : againK A Pr a Q .mk .ret s = Q .ret s := rfl
end Go.Pv
namespace Go.Pv
inductive Two where
 | e
 | a (x : Int) (l : List Int)
 | b (x : Int) (l : List Int)
 | ab (x : Int) (l : List Int) (y : Int) (r : List Int)
 | ba (x : Int) (l : List Int) (y : Int) (r : List Int)
def ao (x : Int) (l : List Int) : Arr := ⟨l.length,1,.inl (ints (x :: l))⟩
def Two.ar : Two → List Arr
 | .e => []
 | .a x l | .b x l => [ao x l]
 | .ab x l y r => [ao x l,ao y r]
 | .ba x l y r => [ao y r,ao x l]
def Two.l0 : Two → List Int
 | .e | .b _ _ => []
 | .a x l | .ab x l _ _ | .ba x l _ _ => x :: l
def Two.l1 : Two → List Int
 | .e | .a _ _ => []
 | .b x l | .ab _ _ x l | .ba _ _ x l => x :: l
def Two.put (s : Bool) (z : Int) : Two → Two
 | .e => if s then .b z [] else .a z []
 | .a x l => if s then .ab x l z [] else .a x (l ++ [z])
 | .b x l => if s then .b x (l ++ [z]) else .ba z [] x l
 | .ab x l y r => if s then .ab x l y (r ++ [z]) else .ab x (l ++ [z]) y r
 | .ba x l y r => if s then .ba x l y (r ++ [z]) else .ba x (l ++ [z]) y r
def Two.len (t : Two) : Nat := t.l0.length + t.l1.length
def sortI1 (id ver off len : Nat) (a : Arr) : Option (V × Tn) :=
 if len = 0 then some (.tup [],{ ra := some id }) else (match a.body with
    | .inl rows => if a.k = 1 ∧ off + len ≤ rows.length ∧ len ≤ mostRows then (match mapO intDec ((rows.drop off).take len) with
     | some l => some (.tup [],{ ar := some (id,⟨ver,1,.inl (rows.take off ++ (isort ltI l).map (fun x => [.int .i64 x]) ++ rows.drop (off + len))⟩) })
     | none => none) else none
    | .inr _ => none)
@[go_sem] theorem sortIP_tl (h : Heap) : sortIP [.tl []] h = some (.tup [],{}) := rfl
@[go_sem] theorem sortIP_own (h : Heap) (id ver off len : Nat) : sortIP [.own id ver off len] h = (ownArr h id ver).bind (sortI1 id ver off len) := by
 simp only [sortIP]
 cases ownArr h id ver <;> rfl
theorem ints_dec (l : List Int) : mapO intDec (ints l) = some l := by
 induction l with
 | nil => rfl
 | cons x l ih =>
  show mapO intDec ([.int .i64 x] :: ints l) = _
  simp only [mapO,intDec,ih]
@[go_sem] theorem sortI1_ints {id ver n : Nat} {l : List Int} (hn : n = l.length) (h0 : n ≠ 0) (hm : n ≤ 2147483648) : sortI1 id ver 0 n ⟨ver,1,.inl (ints l)⟩ = some (.tup [],{ ar := some (id,⟨ver,1,.inl (ints (isort ltI l))⟩) }) := by
 subst hn
 have e1 : (ints l).length = l.length := ints_length l
 simp [sortI1,h0,e1,mostRows,hm,ints_dec,List.take_of_length_le (Nat.le_of_eq e1),List.drop_eq_nil_of_le (Nat.le_of_eq e1)]
 rfl
@[go_sem] theorem lendAll_tl (h : Heap) : lendAll h true [.tl []] = some ([.lst 0 []],none) := rfl
end Go.Pv
namespace Go.Pv
end Go.Pv
namespace Go.Pv
structure Auto.Good (a : Auto) : Prop where
 st : 0 ≤ a.start ∧ a.start < a.states
 mx : a.states ≤ 12
 len : a.edges.length ≤ 100
 fit : ∀ e ∈ a.edges,e.fits a.states = true
 asc : a.edges.Pairwise (fun x y => Edge.lt x y = true)
theorem Edge.lt_tr (x y z : Edge) (h1 : Edge.lt x y = true) (h2 : Edge.lt y z = true) : Edge.lt x z = true := by
 unfold Edge.lt at *
 by_cases a1 : x.fr = y.fr <;> by_cases a2 : y.fr = z.fr <;> by_cases b1 : x.send = y.send <;> by_cases b2 : y.send = z.send <;> simp_all <;> (try omega)
 all_goals (try (have : ¬ x.fr = z.fr := by omega); simp_all; omega)
theorem Edge.apt_iff {x y : Edge} : apt Edge.lt x y ↔ ¬ (x.fr = y.fr ∧ x.send = y.send ∧ x.label = y.label) := by
 unfold apt Edge.lt
 by_cases a1 : x.fr = y.fr
 ·cases h1 : x.send <;> cases h2 : y.send <;> simp [a1] <;> omega
 ·have : ¬ y.fr = x.fr := fun h => a1 h.symm
  simp [a1,this]
  omega
theorem chk_asc {n : Int} : ∀ {p : Option Edge} {l : List Edge},chk n p l = true → l.Pairwise (fun x y => Edge.lt x y = true) ∧ ∀ q,p = some q → ∀ e ∈ l,Edge.lt q e = true
 | _,[],_ => ⟨List.Pairwise.nil,fun _ _ e he => absurd he (by simp)⟩
 | p,x :: r,h => by
  simp only [chk,Bool.and_eq_true] at h
  obtain ⟨h1,h2⟩ := chk_asc h.2
  refine ⟨List.pairwise_cons.2 ⟨h2 x rfl,h1⟩,fun q hq e he => ?_⟩
  subst hq
  have hx : Edge.lt q x = true := h.1.2
  rcases List.mem_cons.1 he with rfl | he
  ·exact hx
  ·exact Edge.lt_tr _ _ _ hx (h2 x rfl e he)
theorem chk_of {n : Int} : ∀ {p : Option Edge} {l : List Edge},l.Pairwise (fun x y => Edge.lt x y = true) → (∀ e ∈ l,e.fits n = true) → (∀ q,p = some q → ∀ e ∈ l,Edge.lt q e = true) → chk n p l = true
 | _,[],_,_,_ => rfl
 | p,x :: r,h1,h2,h3 => by
  obtain ⟨g1,g2⟩ := List.pairwise_cons.1 h1
  simp only [chk,Bool.and_eq_true]
  refine ⟨⟨h2 x (by simp),?_⟩,chk_of g2 (fun e he => h2 e (by simp [he])) fun q hq e he => ?_⟩
  ·cases p with
   | none => rfl
   | some q => exact h3 q rfl x (by simp)
  ·cases hq
   exact g1 e he
theorem Auto.good_iff {a : Auto} : a.err = 0 ↔ a.Good := by
 unfold Auto.err
 constructor
 ·intro h
  split at h
  ·cases h
  ·split at h
   ·split at h
    ·rename_i h1 h2 h3
     exact ⟨h2,by omega,by omega,chk_fits h3,(chk_asc h3).1⟩
    ·cases h
   ·cases h
 ·intro h
  have := h.mx; have := h.len
  rw [if_neg (by omega),if_pos h.st,if_pos (chk_of h.asc h.fit (fun q hq => by cases hq))]
theorem nextE_some {s : Int} {d : Bool} {x t : Int} : ∀ {es : List Edge},es.Pairwise (apt Edge.lt) → (nextE s d x es = some t ↔ ⟨s,d,x,t⟩ ∈ es)
 | [],_ => by simp [nextE]
 | e :: r,h => by
  obtain ⟨h1,h2⟩ := List.pairwise_cons.1 h
  unfold nextE
  split
  ·rename_i hc
   constructor
   ·intro h
    cases h
    obtain ⟨rfl,rfl,rfl⟩ := hc
    exact List.mem_cons_self ..
   ·intro hm
    rcases List.mem_cons.1 hm with hm | hm
    ·rw [← hm]
    ·exact (Edge.apt_iff.1 (h1 _ hm) hc).elim
  ·rename_i hc
   rw [nextE_some h2,List.mem_cons]
   refine ⟨.inr,fun h => h.elim (fun h => ?_) id⟩
   rw [← h] at hc
   exact (hc ⟨rfl,rfl,rfl⟩).elim
def outs (es : List Edge) (v : Int) : List Int := (es.filter fun e => e.fr == v).map (·.to)
def Auto.from (a : Auto) (s : Int) : List Int := bfs (outs a.edges) a.states.toNat 0 [s]
def Auto.order (a : Auto) : List Int := a.from a.start
def Auto.inr (a : Auto) (v : Int) : Prop := 0 ≤ v ∧ v < a.states
def Edge.ren (o : List Int) (e : Edge) : Edge := ⟨atL e.fr o,e.send,e.label,atL e.to o⟩
def kept (o : List Int) (es : List Edge) : List Edge := (es.filter fun e => decide (e.fr ∈ o)).map (Edge.ren o)
def Auto.proper (a : Auto) : Bool := a.order.all fun v => (a.from v).any fun w => isEnd w a.edges
end Go.Pv
namespace Go.Pv
def lvIn (d : Int) (s : List Int × List Int) (x : Int) : List Int × List Int := if s.1.getD x.toNat (-1) < 0 then (s.1.set x.toNat d,s.2 ++ [x]) else s
def lvRun (nx : Int → List Int) : Nat → Nat → List Int × List Int → List Int × List Int
 | 0,_,s => s
 | n + 1,i,s => match s.2[i]? with
  | none => s
  | some v => lvRun nx n (i + 1) ((nx v).foldl (lvIn (s.1.getD v.toNat (-1) + 1)) s)
def levels (nx : Int → List Int) (n : Nat) (fr : List Int) : List Int := (lvRun nx n 0 (fr.foldl (lvIn 0) (List.replicate n (-1),[]))).1
end Go.Pv
namespace Go.Pv
end Go.Pv
namespace Go.Pv
end Go.Pv
namespace Go.Pv
end Go.Pv
namespace Go.Pv
def glV (n b : Nat) (rows : List (List PV)) : V := if rows.length ≤ b then .tl rows else .own n (rows.length - b - 1) 0 rows.length
@[go_sem] theorem lenV_gl (h : Heap) (n b : Nat) (rows : List (List PV)) : lenV h 0 (glV n b rows) = some (rows.length,{}) := by unfold glV; split <;> rfl
@[go_sem] theorem cells_gl (n b : Nat) (rows : List (List PV)) : V.cells (glV n b rows) = [glV n b rows] := by unfold glV; split <;> rfl
@[go_sem] theorem calm_gl (n b : Nat) (rows : List (List PV)) : V.calm (glV n b rows) = true := by unfold glV; split <;> rfl
@[go_sem] theorem sized_gl (n b : Nat) (rows : List (List PV)) : V.sized (glV n b rows) = true := by unfold glV; split <;> rfl
@[go_sem] theorem scrub_gl (kb : List Nat) (n b : Nat) (rows : List (List PV)) : scrub kb (glV n b rows) = glV n b rows := by unfold glV; split <;> rfl
@[go_sem] theorem okc_gl (kb : List Nat) (n b : Nat) (rows : List (List PV)) : okc kb (glV n b rows) = true := by unfold glV; split <;> rfl
@[go_sem] theorem keep_gl (h : Heap) (n b : Nat) (rows : List (List PV)) : keep h false (glV n b rows) = keepc h 4 (glV n b rows) := by unfold glV; split <;> rfl
@[go_sem] theorem lend_gl (h : Heap) (n b : Nat) (rows : List (List PV)) : lend h (glV n b rows) = lendc h 4 (glV n b rows) := by unfold glV; split <;> rfl
attribute [go_sem] Int.lt_irrefl
end Go.Pv
namespace Go.Pv
theorem take_step {α : Type} {a b : List α} {k : Nat} {x y : α} (hx : a[k]? = some x) (hy : b[k]? = some y) (h : a.take k = b.take k) (e : x = y) : a.take (k + 1) = b.take (k + 1) := by
 rw [List.take_add_one,List.take_add_one,hx,hy,h,e]
theorem takes_all {α : Type} {a b : List α} {k : Nat} (ha : a.length ≤ k) (hb : b.length ≤ k) (h : a.take k = b.take k) : a = b := by
 rwa [List.take_of_length_le ha,List.take_of_length_le hb] at h
end Go.Pv
namespace Go.Pv
end Go.Pv
namespace Go.Pv
end Go.Pv
namespace Go.Pv
end Go.Pv
namespace Go.Pv
structure Arc where
 fr : Int
 act : Int
 to : Int
 deriving DecidableEq,Inhabited
structure Draft where
 n : Int
 arcs : List Arc
 deriving DecidableEq,Inhabited
def Arc.c (x : Arc) : List PV := [.int .u8 x.fr,.int .u8 x.act,.int .u8 x.to]
def Arc.ok (x : Arc) : Prop := (0 ≤ x.fr ∧ x.fr ≤ 255) ∧ (0 ≤ x.act ∧ x.act ≤ 255) ∧ (0 ≤ x.to ∧ x.to ≤ 255)
def Draft.ok (d : Draft) : Prop := (0 ≤ d.n ∧ d.n ≤ 255) ∧ d.arcs.length ≤ 2 ^ 63 - 1 ∧ ∀ x ∈ d.arcs,x.ok
def Arc.edge (st : Int) (x : Arc) : Edge := ⟨x.fr % st,decide (x.act % 2 = 1),1 + x.act / 2 % 3,x.to % st⟩
def addE (es : List Edge) (e : Edge) : List Edge := if (nextE e.fr e.send e.label es).isSome = true then es else es ++ [e]
def Draft.raw (d : Draft) : List Edge := (d.arcs.take 12).foldl (fun es x => addE es (x.edge (1 + d.n % 4))) []
def Draft.auto (d : Draft) : Auto := ⟨1 + d.n % 4,0,sortB Edge.lt d.raw⟩
end Go.Pv
namespace Go.Pv
attribute [go_sem] wrap_u8
end Go.Pv
namespace Go.Pv
end Go.Pv
namespace Go.Pv
def places (n : Nat) (o : List Int) : List Int := (List.range n).map fun (v : Nat) => atL (v : Int) o
end Go.Pv
namespace Go.Pv
end Go.Pv
namespace Go.Pv
def actC (x : Bool × Int) : List PV := [.bool x.1,.int .i64 x.2]
@[go_sem] theorem actC_eq (x : Bool × Int) : actC x = [.bool x.1,.int .i64 x.2] := rfl
end Go.Pv
namespace Go.Pv
@[go_sem] theorem r118 (t : Nat) (l : List Int) (x : Int) (hl : l.length ≤ 2 ^ 63 - 1) : res A PrA 118 [.lst t (ints l),.int .i64 x] = some [.int .i64 (atL x l)] := by
 refine res_of a118 rfl rfl ?_
 simp only [F118]; try delta sS tT zZ nN gG bB pZ
 simp (disch := omega) only [go_sem]
 refine W.upto l.length (fun k => ⟨[(0,.pv (.lst t (ints l))),(1,.pv (.int .i64 x)),(7,.pv (.int .i64 l.length)),(8,.pv (.int .i64 k))],⟨[],[],[]⟩⟩) (fun k => atL x l = atFrom x k (l.drop k)) rfl rfl fun k hk hi => ?_
 simp (disch := omega) only [go_sem]
 refine Br.ofP (fun h => ?_) (fun h => ?_)
 ·obtain ⟨y,hy⟩ := get_at (l := l) (k := k) (by omega)
  rw [drop_at hy] at hi
  simp (disch := omega) only [go_sem,hy]
  refine Br.ofP (fun g1 => ?_) (fun g1 => ?_) <;> simp (disch := omega) only [go_sem,g1]
  ·have hi' := hi
   rw [show atL y l = atL x l by rw [g1],hi']
   simp only [atFrom,if_pos g1.symm]
  ·exact .of (by omega) rfl (hi.trans (by simp only [atFrom,if_neg (fun e => g1 (Eq.symm e))]))
 ·simp (disch := omega) only [go_sem]
  rw [hi,drop_end h]
  rfl
def idxP {α : Type} (p : α → Bool) (l : List α) : Int := match l.findIdx? p with
 | some k => k
 | none => -1
theorem idxP_pos {α : Type} {p : α → Bool} {l : List α} : decide (0 ≤ idxP p l) = l.any p := by
 unfold idxP
 cases h : l.findIdx? p with
 | none =>
  rw [List.findIdx?_eq_none_iff] at h
  have : l.any p = false := by rw [List.any_eq_false]; intro x hx; simp [h x hx]
  simp [this]
 | some k =>
  rw [List.findIdx?_eq_some_iff_getElem] at h
  obtain ⟨hk,hp,_⟩ := h
  have : l.any p = true := List.any_eq_true.2 ⟨_,List.getElem_mem hk,hp⟩
  simp [this]
theorem Found.idxP {α : Type} {l : List α} {p : α → Bool} {k : Nat} {x : α} (h : Found l p k x) : idxP p l = k := by
 unfold Pv.idxP
 rw [h.idx]
theorem Nowhere.idxP {α : Type} {l : List α} {p : α → Bool} (h : Nowhere l p) : idxP p l = -1 := by
 unfold Pv.idxP
 rw [h.idx]
def prs (l : List (Int × Int)) : List (List PV) := l.map fun x => [.int .i64 x.1,.int .i64 x.2]
@[go_sem] theorem prs_nil : prs [] = [] := rfl
end Go.Pv
namespace Go.Pv
def partTo {α β : Type} (f : α → β) (y : β) (l : List α) (k : Nat) : List β := (l.take k).map f ++ List.replicate (l.length - k) y
end Go.Pv
namespace Go.Pv
def OwnL (ars : List Arr) (x : V) (l : List Int) : Prop :=
 ((x = .tl [] ∨ x = .pv (.lst 0 [])) ∧ l = []) ∨ ∃ id ver,x = .own (id + 1) ver 0 l.length ∧ l ≠ [] ∧ ars[id]? = some ⟨ver,1,.inl (ints l)⟩
structure Lists (n : Nat) (s : List (List Int)) (xs : List V) (ars : List Arr) : Prop where
 xl : xs.length = n
 sl : s.length = n
 own : ∀ (v : Nat) (x : V) (l : List Int),xs[v]? = some x → s[v]? = some l → OwnL ars x l
 dis : ∀ (v w : Nat) (x y : V) (i : Nat),xs[v]? = some x → xs[w]? = some y → ownId x = some i → ownId y = some i → v = w
def rowsV (xs : List V) : List (List V) := xs.map fun x => [x]
theorem rowsV_set (xs : List V) (i : Nat) (x : V) : (rowsV xs).set i [x] = rowsV (xs.set i x) := by simp [rowsV,List.map_set]
theorem rowsV_store {id row ver : Nat} {xs : List V} {y : V} (h1 : row < xs.length) (hc : y.calm = true) : storeRow id row 0 [y] ⟨ver,1,.inr (rowsV xs)⟩ = some { ar := some (id,⟨ver,1,.inr (rowsV (xs.set row y))⟩) } := by
 have h2 : row < (⟨ver,1,.inr (rowsV xs)⟩ : Arr).size := by simp [Arr.size,rowsV,h1]
 obtain ⟨z,hz⟩ : ∃ z,xs[row]? = some z := ⟨xs[row],by simp [h1]⟩
 have h3 : (rowsV xs).getD row [] = [z] := by simp [rowsV,hz]
 simp [storeRow,h2,hc,setBody,← rowsV_set]
 simp [rowsV,hz]
theorem rowsV_made (n : Nat) : sameRows n [.tl []] = .inr (rowsV (List.replicate n (.tl []))) := by
 simp [sameRows,mapO,V.purec,rowsV]
attribute [go_sem] rowsV_made
end Go.Pv
namespace Go.Pv
@[go_sem] theorem rowsV_store_own {id row ver a b c d : Nat} {xs : List V} (h1 : row < xs.length) : storeRow id row 0 [.own a b c d] ⟨ver,1,.inr (rowsV xs)⟩ = some { ar := some (id,⟨ver,1,.inr (rowsV (xs.set row (.own a b c d)))⟩) } := rowsV_store h1 rfl
@[go_sem] theorem rowsV_store_pv {id row ver : Nat} {xs : List V} (h1 : row < xs.length) : storeRow id row 0 [.pv (.lst 0 [])] ⟨ver,1,.inr (rowsV xs)⟩ = some { ar := some (id,⟨ver,1,.inr (rowsV (xs.set row (.pv (.lst 0 []))))⟩) } := rowsV_store h1 rfl
end Go.Pv
namespace Go.Pv
end Go.Pv
namespace Go.Pv
end Go.Pv
namespace Go.Pv
end Go.Pv
namespace Go.Pv
end Go.Pv
namespace Go.Pv
end Go.Pv
namespace Go.Pv
open Go.Lib (itoa)
def spN (n : Int) : List UInt8 := 32 :: itoa n
def keyB (a b : Int) (l m : List Int) : List UInt8 := itoa a ++ (spN b ++ (l.flatMap spN ++ (59 :: m.flatMap spN)))
def keyBS (a b : Int) (l m : List Int) : ByteArray := ⟨(keyB a b l m).toArray⟩
def Cfg.keyB (c : Cfg) : ByteArray := keyBS c.a c.b c.toA c.toB
def stops : List UInt8 → Prop
 | [] => True
 | x :: _ => x = 32 ∨ x = 59
theorem stops32 (t : List UInt8) : stops (32 :: t) := Or.inl rfl
theorem stops59 (t : List UInt8) : stops (59 :: t) := Or.inr rfl
theorem chars_stop : ∀ {x y p q : List UInt8},(∀ c ∈ x,45 ≤ c.toNat ∧ c.toNat ≤ 57) → (∀ c ∈ y,45 ≤ c.toNat ∧ c.toNat ≤ 57) → stops p → stops q → x ++ p = y ++ q → x = y ∧ p = q
 | [],[],_,_,_,_,_,_,h => ⟨rfl,h⟩
 | [],c :: y,p,q,_,hy,hp,_,h => by
  have h : p = c :: (y ++ q) := h
  subst h
  have := hy c (List.mem_cons_self ..)
  rcases hp with rfl | rfl
  ·exact absurd this.1 (by decide)
  ·exact absurd this.2 (by decide)
 | c :: x,[],p,q,hx,_,_,hq,h => by
  have h : c :: (x ++ p) = q := h
  subst h
  have := hx c (List.mem_cons_self ..)
  rcases hq with rfl | rfl
  ·exact absurd this.1 (by decide)
  ·exact absurd this.2 (by decide)
 | c :: x,d :: y,p,q,hx,hy,hp,hq,h => by
  simp only [List.cons_append,List.cons.injEq] at h
  obtain ⟨e1,e2⟩ := chars_stop (fun c hc => hx c (List.mem_cons_of_mem _ hc)) (fun c hc => hy c (List.mem_cons_of_mem _ hc)) hp hq h.2
  exact ⟨by rw [h.1,e1],e2⟩
theorem itoa_stop {x y : Int} {p q : List UInt8} (hp : stops p) (hq : stops q) (h : itoa x ++ p = itoa y ++ q) : x = y ∧ p = q := by
 obtain ⟨e1,e2⟩ := chars_stop (itoa_chars x) (itoa_chars y) hp hq h
 exact ⟨itoa_inj e1,e2⟩
theorem stops_sp {l : List Int} {r : List UInt8} (hr : stops r) : stops (l.flatMap spN ++ r) := by
 cases l with
 | nil => exact hr
 | cons x l => exact .inl rfl
theorem flat_inj : ∀ {l l' : List Int} {p q : List UInt8},(p = [] ∨ ∃ t,p = 59 :: t) → (q = [] ∨ ∃ t,q = 59 :: t) → l.flatMap spN ++ p = l'.flatMap spN ++ q → l = l' ∧ p = q
 | [],[],p,q,_,_,h => ⟨rfl,h⟩
 | [],y :: l',p,q,hp,_,h => by
  rcases hp with rfl | ⟨t,rfl⟩
  ·simp [spN] at h
  ·simp [spN] at h
 | x :: l,[],p,q,_,hq,h => by
  rcases hq with rfl | ⟨t,rfl⟩
  ·simp [spN] at h
  ·simp [spN] at h
 | x :: l,y :: l',p,q,hp,hq,h => by
  have sp : stops p := hp.elim (fun h => by rw [h]; trivial) fun ⟨t,h⟩ => by rw [h]; exact .inr rfl
  have sq : stops q := hq.elim (fun h => by rw [h]; trivial) fun ⟨t,h⟩ => by rw [h]; exact .inr rfl
  simp only [List.flatMap_cons,spN,List.cons_append,List.append_assoc,List.cons.injEq,true_and] at h
  obtain ⟨e1,e2⟩ := itoa_stop (stops_sp sp) (stops_sp sq) h
  obtain ⟨e3,e4⟩ := flat_inj hp hq e2
  exact ⟨by rw [e1,e3],e4⟩
theorem keyB_inj {c d : Cfg} (h : c.keyB = d.keyB) : c = d := by
 have h : Go.Pv.keyB c.a c.b c.toA c.toB = Go.Pv.keyB d.a d.b d.toA d.toB := by
  have := congrArg (fun b : ByteArray => b.data.toList) h
  simpa [Cfg.keyB,keyBS] using this
 unfold Go.Pv.keyB at h
 obtain ⟨e1,h⟩ := itoa_stop (stops32 _) (stops32 _) h
 have h := (List.cons.inj h).2
 obtain ⟨e2,h⟩ := itoa_stop (stops_sp (stops59 _)) (stops_sp (stops59 _)) h
 obtain ⟨e3,h⟩ := flat_inj (.inr ⟨_,rfl⟩) (.inr ⟨_,rfl⟩) h
 simp only [List.cons.injEq,true_and] at h
 obtain ⟨e4,_⟩ := flat_inj (p := []) (q := []) (.inl rfl) (.inl rfl) (by simpa using h)
 cases c; cases d
 simp only at e1 e2 e3 e4
 subst e1; subst e2; subst e3; subst e4
 rfl
end Go.Pv
namespace Go.Pv
section
variable {α : Type} [DecidableEq α]
end
end Go.Pv
namespace Go.Pv
def seenS (l : List ByteArray) : List (PV × PV) := l.map fun s => (.str s,.bool true)
def lookS (x : ByteArray) (l : List ByteArray) : Option (Nat × PV) := (l.findIdx? fun s => decide (s = x)).map fun i => (i,.bool true)
def hasS (l : List ByteArray) (x : ByteArray) : Bool := l.any fun s => decide (s = x)
theorem hasS_iff {l : List ByteArray} {x : ByteArray} : hasS l x = true ↔ x ∈ l := by simp [hasS]
def insS (l : List ByteArray) (x : ByteArray) : List ByteArray := if hasS l x = true then l else l ++ [x]
theorem keyEq_str (a b : ByteArray) : keyEq false [2] (.str a) (.str b) = some (decide (a = b)) := by
 show eqsAll [2] [.str a] [.str b] = _
 rw [eqsAll_cons,eqs_str,eqsAll_nil]
 simp
theorem findKey_str (x : ByteArray) : ∀ (l : List ByteArray) (i : Nat),findKey false [2] (.str x) (seenS l) i = some ((lookS x l).map fun p => (p.1 + i,p.2))
 | [],i => by
  show (if (keyEq false [2] (.str x) (.str x)).isSome then some none else none) = _
  rw [keyEq_str]
  rfl
 | y :: l,i => by
  show (match keyEq false [2] (.str x) (.str y) with
   | some true => some (some (i,PV.bool true))
   | some false => findKey false [2] (.str x) (seenS l) (i + 1)
   | none => none) = _
  rw [keyEq_str]
  by_cases h : x = y
  ·subst h
   simp [lookS,List.findIdx?_cons]
  ·have h' : ¬ y = x := fun e => h e.symm
   simp only [h,decide_false]
   rw [findKey_str x l (i + 1)]
   simp only [lookS,List.findIdx?_cons,h',decide_false]
   cases l.findIdx? fun s => decide (s = x) with
   | none => rfl
   | some j => simp; omega
@[go_sem] theorem find_seenS (x : ByteArray) (l : List ByteArray) : findKey false [2] (.str x) (seenS l) 0 = some (lookS x l) := by
 rw [findKey_str]
 cases lookS x l <;> rfl
theorem lookS_some {x : ByteArray} {l : List ByteArray} : (lookS x l).isSome = true ↔ x ∈ l := by
 unfold lookS
 rw [Option.isSome_map,List.findIdx?_isSome,List.any_eq_true]
 simp
@[go_sem] theorem upd_seenS (x : ByteArray) (l : List ByteArray) (id : Nat) : updM false [2] (.str x) (.bool true) id (seenS l) = some { mp := some (id,seenS (insS l x)) } := by
 unfold updM
 rw [find_seenS]
 have h := lookS_some (x := x) (l := l)
 rw [← hasS_iff] at h
 cases hl : lookS x l with
 | none =>
  rw [hl] at h
  have : hasS l x = false := by
   cases hx : hasS l x with
   | false => rfl
   | true => simpa using h.2 hx
  simp [insS,this,seenS]
 | some p =>
  rw [hl] at h
  have hx : hasS l x = true := h.1 rfl
  unfold lookS at hl
  obtain ⟨i,hi,rfl⟩ := Option.map_eq_some_iff.1 hl
  obtain ⟨h1,h2,_⟩ := List.findIdx?_eq_some_iff_getElem.1 hi
  have h3 : l[i] = x := by simpa using h2
  simp only [insS,hx,if_true]
  congr 4
  apply List.ext_getElem?
  intro j
  rw [List.getElem?_set]
  split
  ·rename_i hj
   subst hj
   simp [seenS,h1,h3]
  ·rfl
end Go.Pv
namespace Go.Pv
end Go.Pv
namespace Go.Pv
def Draft.from (d : Draft) (s : Int) : Auto := ⟨1 + d.n % 4,s % (1 + d.n % 4),d.auto.edges⟩
end Go.Pv
namespace Go.Pv
end Go.Pv
namespace Go.Pv
end Go.Pv
namespace Go.Pv
structure Mv where
 send : Bool
 label : Int
 cls : Int
 deriving DecidableEq,Inhabited
def Mv.c (m : Mv) : List PV := [.bool m.send,.int .i64 m.label,.int .i64 m.cls]
def mvs (l : List Mv) : List (List PV) := l.map Mv.c
@[go_sem] theorem mvs_nil : mvs [] = [] := rfl
@[go_sem] theorem Mv.c_eq (m : Mv) : m.c = [.bool m.send,.int .i64 m.label,.int .i64 m.cls] := rfl
def movesL (es : List Edge) (s : Int) (c : List Int) : List Mv := (es.filter fun e => e.fr == s).map fun e => ⟨e.send,e.label,c.getD e.to.toNat 0⟩
def simB (es : List Edge) (c : List Int) (k i : Nat) : Bool := decide (c.getD k 0 = c.getD i 0) && decide (movesL es (k : Int) c = movesL es (i : Int) c)
def leastC (es : List Edge) (c : List Int) (i : Nat) : Nat := ((List.range i).find? fun k => simB es c k i).getD i
def stepC (n : Nat) (es : List Edge) (c : List Int) : List Int := (List.range n).map fun i => (leastC es c i : Int)
def cls (n : Nat) (es : List Edge) : Nat → List Int
 | 0 => List.replicate n 0
 | j + 1 => stepC n es (cls n es j)
end Go.Pv
namespace Go.Pv
end Go.Pv
namespace Go.Pv
def edgesOf (es : List Edge) (s : Int) : List Edge := es.filter fun e => e.fr == s
def lackE (a b : List Edge) (p q : Int) : Option Edge := (edgesOf a p).find? fun e => !(nextE q e.send e.label b).isSome
def ent (M : List (List Int)) (p q : Int) : Int := (M.getD p.toNat []).getD q.toNat 0
def nearP (b : List Edge) (M : List (List Int)) (q k : Int) (e : Edge) : Bool := match nextE q e.send e.label b with
 | some n => decide (ent M e.to n = k)
 | none => false
def nearE (a b : List Edge) (M : List (List Int)) (p q k : Int) : Option Edge := (edgesOf a p).find? (nearP b M q k)
end Go.Pv
namespace Go.Pv
def rowArr (r : List Int) : Arr := ⟨0,1,.inl (ints r)⟩
def mAr (M : List (List Int)) : List Arr := M.map rowArr
@[go_sem] theorem mAr_get (M : List (List Int)) (i : Nat) : (mAr M)[i]? = M[i]?.map fun r => ⟨0,1,.inl (ints r)⟩ := by
 unfold mAr
 rw [List.getElem?_map]
 rfl
end Go.Pv
namespace Go.Pv
def lkB (a b : List Edge) (p q : Int) : Bool := (lackE a b p q).isSome || (lackE b a q p).isSome
def b01 (c : Bool) : Int := if c = true then 1 else 0
def bTo (a b : List Edge) (nb p q : Nat) : List Int := partTo (fun (q : Nat) => b01 (lkB a b p q)) 0 (List.range nb) q
def baseM (a b : List Edge) (nb m : Nat) : List (List Int) := (List.range m).map fun p => bTo a b nb p nb
def setM (M : List (List Int)) (p q : Nat) (v : Int) : List (List Int) := M.set p ((M.getD p []).set q v)
def stepM (a b : List Edge) (k : Int) (p : Nat) (M : List (List Int)) (q : Nat) : List (List Int) := if (nearE a b M p q k).isSome = true ∧ ent M p q = 0 then setM M p q (k + 1) else M
def rowM (a b : List Edge) (nb : Nat) (k : Int) (M : List (List Int)) (p : Nat) : List (List Int) := (List.range nb).foldl (stepM a b k p) M
def roundM (a b : List Edge) (na nb : Nat) (k : Int) (M : List (List Int)) : List (List Int) := (List.range na).foldl (rowM a b nb k) M
def difM (a b : List Edge) (na nb : Nat) : Nat → List (List Int)
 | 0 => baseM a b nb na
 | j + 1 => roundM a b na nb ((j + 1 : Nat) : Int) (difM a b na nb j)
def differ (a b : Auto) : List (List Int) := difM a.edges b.edges a.states.toNat b.states.toNat (a.states.toNat * b.states.toNat)
end Go.Pv
namespace Go.Pv
def OptR (R : Int → Int → Prop) : Option Int → Option Int → Prop
 | none,none => True
 | some x,some y => R x y
 | _,_ => False
def Ev (a b : List Edge) : Nat → Int → Int → Prop
 | 0,_,_ => True
 | j + 1,p,q => ∀ d x,OptR (Ev a b j) (nextE p d x a) (nextE q d x b)
open Classical in
noncomputable def lst (a b : List Edge) : Nat → Int → Int → Nat
 | 0,_,_ => 0
 | k + 1,p,q => if lst a b k p q ≠ 0 then lst a b k p q else if Ev a b (k + 1) p q then 0 else k + 1
end Go.Pv
namespace Go.Pv
end Go.Pv
namespace Go.Pv
def Mv.lt (a b : Mv) : Bool := if a.send ≠ b.send then b.send else decide (a.label < b.label)
def leastR (D : List (List Int)) (n : Nat) (p : Nat) : Nat := ((List.range n).find? fun (q : Nat) => decide (ent D p q = 0)).getD 0
def Auto.classes (a : Auto) : List Int := (List.range a.states.toNat).map fun p => (leastR (differ a a) a.states.toNat p : Int)
end Go.Pv
namespace Go.Pv
end Go.Pv
namespace Go.Pv
end Go.Pv
namespace Go.Pv
theorem r77 (g t u : Nat) (cs : List PV) (l : List Edge) (p : Edge → Bool) (hl : l.length ≤ 2 ^ 63 - 1) (hi : inls A g = false) (hp : PrA g = none) (ht : takes A g = false) (hf : ∀ x ∈ l,res A PrA g [.agg [.int .i64 x.fr,.bool x.send,.int .i64 x.label,.int .i64 x.to],.ro u cs] = some [.bool (p x)]) : res A PrA 77 [.lst t (edgs l),.func g [.ro u cs]] = some [.int .i64 (idxP p l)] := by
 refine res_of a77 rfl rfl ?_
 simp only [F77]; try delta sS tT zZ nN gG bB pZ
 simp (disch := omega) only [go_sem]
 refine W.find l p (fun k => ⟨[(0,.pv (.lst t (edgs l))),(1,.pv (.func g [.ro u cs])),(7,.pv (.int .i64 l.length)),(8,.pv (.int .i64 k))],⟨[],[],[]⟩⟩) rfl (fun k x hx hk hfd => ?_) (fun hn => ?_)
 ·have hfx := hf x (List.mem_of_getElem? hx)
  simp (disch := omega) only [go_sem]
  refine Br.ofP (fun h => ?_) (fun h => (h (by omega)).elim)
  simp (disch := omega) only [go_sem,hx,CW_none hi hp ht,hfx]
  refine Br.of (fun h2 => ?_) (fun h2 => ?_) <;> simp (disch := omega) only [go_sem]
  ·rw [(hfd h2).idxP]
  ·exact findK.of h2 rfl
 ·simp (disch := omega) only [go_sem]
  rw [hn.idxP]
end Go.Pv
namespace Go.Pv
theorem rowsFit_rows {k : Nat} {rows : List (List PV)} (h : ∀ r ∈ rows,r.length = k) : rowsFit k (.inl rows) = true := by
 simp only [rowsFit,List.all_eq_true,beq_iff_eq]
 exact h
@[go_sem] theorem rowsFit_ints (l : List Int) : rowsFit 1 (.inl (ints l)) = true := rowsFit_rows fun r hr => by
 obtain ⟨x,_,rfl⟩ := List.mem_map.1 hr
 rfl
@[go_sem] theorem sl_lst_from (g : Opd → V) (h : Heap) (k t : Nat) (rows : List (List PV)) (lo : Opd) :
  sliceV g h k (.pv (.lst t rows)) (some lo) none none = if rowsFit k (.inl rows) = true then (intOf (g lo)).bind fun i => chkR i rows.length (.pv (.lst t (rows.drop i.toNat)),{}) else none := by
 cases hf : rowsFit k (.inl rows) with
 | false => simp [sliceV,hf]
 | true =>
  cases hj : intOf (g lo) with
  | none => simp [sliceV,hf,bounds,bound,hj]
  | some i => by_cases h0 : 0 ≤ i ∧ i ≤ rows.length <;> simp [sliceV,hf,bounds,bound,hj,h0,chkR]
end Go.Pv
namespace Go.Pv
theorem r198 {Pr : Prims} (b : Bool) : res A Pr 198 [.bool b] = some [.int .i64 (if b = true then 1 else 0)] := by
 refine res_of a198 rfl rfl ?_
 simp only [F198]; try delta sS tT zZ nN gG bB pZ
 cases b <;> simp (disch := omega) only [go_sem]
theorem r197 {Pr : Prims} (h66 : Pr 66 = none) (h60 : Pr 60 = none) (h59 : Pr 59 = none) (h198 : Pr 198 = none) (a b : Mov) : res A Pr 197 [.agg a.c,.agg b.c] = some [.int .i64 (Mov.cmp a b)] := by
 refine res_of a197 rfl rfl ?_
 simp only [F197]; try delta sS tT zZ nN gG bB pZ
 have e59 := fun x y z => r59 (Pr := Pr) 0 [x,y,z] (by simp)
 simp only [ints,List.map_cons,List.map_nil] at e59
 simp (disch := omega) only [go_sem,CW_CN (by kernel_rfl) h60 tk60,CW_CN (by kernel_rfl) h59 tk59,CW_CN (by kernel_rfl) h198 tk198,r60 h66,r198,e59]
 unfold Mov.cmp Edge.cmp Edge.side Mov.e
 by_cases h : cmpI a.label b.label = 0 <;> simp [orI,h]
def sysErr (a b : Auto) (cap : Int) : Int := if a.err ≠ 0 then a.err else if b.err ≠ 0 then b.err else if cap < 1 ∨ 3 < cap then 7 else 0
set_option maxHeartbeats 1000000 in
@[go_sem] theorem r152 (t1 t2 : Nat) (a b : Auto) (cap : Int) (ha : a.edges.length ≤ 2 ^ 63 - 1) (hb : b.edges.length ≤ 2 ^ 63 - 1) : res A PrA 152 [.agg [.int .i64 a.states,.int .i64 a.start,.lst t1 (a.edges.map Edge.c),.int .i64 b.states,.int .i64 b.start,.lst t2 (b.edges.map Edge.c),.int .i64 cap]] = some [.int .i64 (sysErr a b cap)] := by
 refine res_of a152 rfl rfl ?_
 simp only [F152]; try delta sS tT zZ nN gG bB pZ
 unfold sysErr
 simp (disch := omega) only [go_sem]
 by_cases h1 : a.err = 0
 ·by_cases h2 : b.err = 0
  ·by_cases h3 : cap < 1
   ·simp (disch := omega) only [go_sem,h1,h2,h3]
    simp
   ·by_cases h4 : 3 < cap
    ·simp (disch := omega) only [go_sem,h1,h2,h3,h4]
     simp
    ·simp (disch := omega) only [go_sem,h1,h2,h3,h4]
     simp
  ·simp (disch := omega) only [go_sem,h1,h2]
   simp [h2]
 ·simp (disch := omega) only [go_sem,h1]
  simp [h1]
set_option maxHeartbeats 1000000 in
@[go_sem] theorem r153 (t1 t2 : Nat) (a b : Auto) (cap : Int) (ha : a.edges.length ≤ 2 ^ 63 - 1) (hb : b.edges.length ≤ 2 ^ 63 - 1) : res A PrA 153 [.agg [.int .i64 a.states,.int .i64 a.start,.lst t1 (a.edges.map Edge.c),.int .i64 b.states,.int .i64 b.start,.lst t2 (b.edges.map Edge.c),.int .i64 cap]] = some [.int .i64 (sysErr a b cap)] := by
 refine res_of a153 rfl rfl ?_
 simp only [F153]; try delta sS tT zZ nN gG bB pZ
 unfold sysErr
 simp (disch := omega) only [go_sem]
 by_cases h1 : a.err = 0
 ·by_cases h2 : b.err = 0
  ·by_cases h3 : cap < 1
   ·simp (disch := omega) only [go_sem,h1,h2,h3]
    simp
   ·by_cases h4 : 3 < cap
    ·simp (disch := omega) only [go_sem,h1,h2,h3,h4]
     simp
    ·simp (disch := omega) only [go_sem,h1,h2,h3,h4]
     simp
  ·simp (disch := omega) only [go_sem,h1,h2]
   simp [h2]
 ·simp (disch := omega) only [go_sem,h1]
  simp [h1]
@[go_sem] theorem r155 (t1 t2 : Nat) (a b : Auto) (cap : Int) : res A PrA 155 [.agg [.int .i64 a.states,.int .i64 a.start,.lst t1 (a.edges.map Edge.c),.int .i64 b.states,.int .i64 b.start,.lst t2 (b.edges.map Edge.c),.int .i64 cap]] = some [.agg [.int .i64 a.start,.int .i64 b.start,.lst 0 [],.lst 0 []]] := by
 refine res_of a155 rfl rfl ?_
 simp only [F155]; try delta sS tT zZ nN gG bB pZ
 simp (disch := omega) only [go_sem]
@[go_sem] theorem r156 (t1 t2 : Nat) (a b : Auto) (cap : Int) : res A PrA 156 [.agg [.int .i64 a.states,.int .i64 a.start,.lst t1 (a.edges.map Edge.c),.int .i64 b.states,.int .i64 b.start,.lst t2 (b.edges.map Edge.c),.int .i64 cap]] = some [.agg [.int .i64 a.start,.int .i64 b.start,.lst 0 [],.lst 0 []]] := by
 refine res_of a156 rfl rfl ?_
 simp only [F156]; try delta sS tT zZ nN gG bB pZ
 simp (disch := omega) only [go_sem]
@[go_sem] theorem r176 (t u : Nat) (a b : List Int) (ha : a.length ≤ 2 ^ 63 - 1) (_hb : b.length ≤ 2 ^ 63 - 1) : res A PrA 176 [.lst t (ints a),.lst u (ints b)] = some [.bool (decide (a = b))] := by
 refine res_of a176 rfl rfl ?_
 simp only [F176]; try delta sS tT zZ nN gG bB pZ
 simp (disch := omega) only [go_sem]
 refine Br.ofP (fun h => ?_) (fun h => ?_) <;> simp (disch := omega) only [go_sem,h]
 case refine_2 =>
  have : ¬ a = b := fun e => h (by rw [e])
  simp [this]
 refine W.upto a.length (fun k => ⟨[(0,.pv (.lst t (ints a))),(1,.pv (.lst u (ints b))),(5,.pv (.int .i64 k))],⟨[],[],[]⟩⟩) (fun k => a.take k = b.take k) rfl rfl fun k hk hi => ?_
 simp (disch := omega) only [go_sem]
 refine Br.ofP (fun g => ?_) (fun g => ?_)
 ·obtain ⟨x,hx⟩ := get_at (l := a) (k := k) (by omega)
  obtain ⟨y,hy⟩ := get_at (l := b) (k := k) (by omega)
  simp (disch := omega) only [go_sem,hx,hy]
  refine Br.ofP (fun f => ?_) (fun f => ?_) <;> simp (disch := omega) only [go_sem,f]
  ·exact .of (by omega) rfl (take_step hx hy hi f)
  ·have : ¬ a = b := fun e => f (by rw [e,hy] at hx; exact (Option.some.inj hx).symm)
   simp [this]
 ·simp (disch := omega) only [go_sem]
  have := takes_all (k := k) (by omega) (by omega) hi
  simp [this]
@[go_sem] theorem r154 (u1 u2 w1 w2 : Nat) (x y x' y' : Int) (l m l' m' : List Int) (hl : l.length ≤ 2 ^ 63 - 1) (hm : m.length ≤ 2 ^ 63 - 1) (hl' : l'.length ≤ 2 ^ 63 - 1) (hm' : m'.length ≤ 2 ^ 63 - 1) : res A PrA 154 [.agg [.int .i64 x,.int .i64 y,.lst u1 (ints l),.lst u2 (ints m)],.agg [.int .i64 x',.int .i64 y',.lst w1 (ints l'),.lst w2 (ints m')]] = some [.bool (decide ((⟨x,y,l,m⟩ : Cfg) = ⟨x',y',l',m'⟩))] := by
 refine res_of a154 rfl rfl ?_
 simp only [F154]; try delta sS tT zZ nN gG bB pZ
 simp (disch := omega) only [go_sem]
 by_cases h1 : x = x'
 ·by_cases h2 : y = y'
  ·by_cases h3 : l = l'
   ·simp (disch := omega) only [go_sem,h1,h2,h3]
    simp
   ·simp (disch := omega) only [go_sem,h1,h2,h3]
    simp [h3]
  ·simp (disch := omega) only [go_sem,h1,h2]
   simp [h2]
 ·simp (disch := omega) only [go_sem,h1]
  simp [h1]
@[go_sem] theorem r169 (x y : Int) (l m : List Int) : res A PrA 169 [.agg [.int .i64 x,.int .i64 y,.lst 0 (ints l),.lst 0 (ints m)]] = some [.agg [.int .i64 y,.int .i64 x,.lst 0 (ints m),.lst 0 (ints l)]] := by
 refine res_of a169 rfl rfl ?_
 simp only [F169]; try delta sS tT zZ nN gG bB pZ
 simp (disch := omega) only [go_sem]
def badL (x : Int) : Bool := decide (x < 1) || decide (1000 < x)
def chanB (l : List Int) (cap : Int) : Bool := decide ((l.length : Int) ≤ cap) && !l.any badL
@[go_sem] theorem r178 (t : Nat) (l : List Int) (cap : Int) (hl : l.length ≤ 2000000000) : res A PrA 178 [.lst t (ints l),.int .i64 cap] = some [.bool (chanB l cap)] := by
 refine res_of a178 rfl rfl ?_
 simp only [F178]; try delta sS tT zZ nN gG bB pZ
 simp (disch := omega) only [go_sem]
 unfold chanB
 refine W.find l badL (fun k => ⟨[(0,.pv (.lst t (ints l))),(1,.pv (.int .i64 cap)),(5,.pv (.int .i64 k))],⟨[],[],[]⟩⟩) rfl (fun k x hx hk hfd => ?_) (fun hn => ?_)
 ·simp (disch := omega) only [go_sem]
  refine Br.ofP (fun h => ?_) (fun h => (h (by omega)).elim)
  simp (disch := omega) only [go_sem,hx]
  by_cases c1 : x < 1
  ·simp (disch := omega) only [go_sem,c1]
   rw [(hfd (by simp [badL,c1])).any,Bool.not_true,Bool.and_false]
  ·by_cases c2 : 1000 < x
   ·simp (disch := omega) only [go_sem,c1,hx,c2]
    rw [(hfd (by simp [badL,c2])).any,Bool.not_true,Bool.and_false]
   ·simp (disch := omega) only [go_sem,c1,hx,c2]
    exact findK.of (by simp [badL,c1,c2]) rfl
 ·simp (disch := omega) only [go_sem]
  rw [hn.any,Bool.not_false,Bool.and_true]
theorem r188 (x : Int) : res A PrA 188 [.int .i64 x] = some [.bool (badL x)] := by
 refine res_of a188 rfl rfl ?_
 simp only [F188]; try delta sS tT zZ nN gG bB pZ
 simp (disch := omega) only [go_sem]
 unfold badL
 by_cases c1 : x < 1
 ·simp (disch := omega) only [go_sem,c1]
 ·simp (disch := omega) only [go_sem,c1]
theorem r117c (g t : Nat) (l : List Int) (p : Int → Bool) (hl : l.length ≤ 2 ^ 63 - 1) (hi : inls A g = false) (hp : PrA g = none) (ht : takes A g = false) (hf : ∀ x ∈ l,res A PrA g [.int .i64 x] = some [.bool (p x)]) : res A PrA 117 [.lst t (ints l),.func g []] = some [.int .i64 (idxP p l)] := by
 refine res_of a117 rfl rfl ?_
 simp only [F117]; try delta sS tT zZ nN gG bB pZ
 simp (disch := omega) only [go_sem]
 refine W.find l p (fun k => ⟨[(0,.pv (.lst t (ints l))),(1,.pv (.func g [])),(7,.pv (.int .i64 l.length)),(8,.pv (.int .i64 k))],⟨[],[],[]⟩⟩) rfl (fun k x hx hk hfd => ?_) (fun hn => ?_)
 ·have hfx := hf x (List.mem_of_getElem? hx)
  simp (disch := omega) only [go_sem]
  refine Br.ofP (fun h => ?_) (fun h => (h (by omega)).elim)
  simp (disch := omega) only [go_sem,hx,CW_none hi hp ht,hfx]
  refine Br.of (fun h2 => ?_) (fun h2 => ?_) <;> simp (disch := omega) only [go_sem]
  ·rw [(hfd h2).idxP]
  ·exact findK.of h2 rfl
 ·simp (disch := omega) only [go_sem]
  rw [hn.idxP]
theorem r108c (t : Nat) (l : List Int) (hl : l.length ≤ 2 ^ 63 - 1) : res A PrA 108 [.lst t (ints l),.func 188 []] = some [.bool (l.any badL)] := by
 refine res_of a108 rfl rfl ?_
 simp only [F108]; try delta sS tT zZ nN gG bB pZ
 have := r117c 188 t l badL hl (by kernel_rfl) (by kernel_rfl) (by kernel_rfl) (fun x _ => r188 x)
 simp (disch := omega) only [go_sem,this]
 rw [idxP_pos]
@[go_sem] theorem r177 (t : Nat) (l : List Int) (cap : Int) (hl : l.length ≤ 2000000000) : res A PrA 177 [.lst t (ints l),.int .i64 cap] = some [.bool (chanB l cap)] := by
 refine res_of a177 rfl rfl ?_
 simp only [F177]; try delta sS tT zZ nN gG bB pZ
 have h108 := r108c t l (by omega)
 unfold chanB
 by_cases c : (l.length : Int) ≤ cap
 ·simp (disch := omega) only [go_sem,c,h108]
 ·simp (disch := omega) only [go_sem,c]
def fitsB (a b : Auto) (cap : Int) (x y : Int) (l m : List Int) : Bool := decide (sysErr a b cap = 0) && decide (0 ≤ x) && decide (x < a.states) && decide (0 ≤ y) && decide (y < b.states) && chanB l cap && chanB m cap
end Go.Pv
namespace Go.Pv
theorem bool_le {a b : Int} : decide (0 ≤ min a b) = (decide (0 ≤ a) && decide (0 ≤ b)) := by
 by_cases h1 : 0 ≤ a <;> by_cases h2 : 0 ≤ b <;> simp [h1,h2] <;> omega
set_option maxHeartbeats 2000000 in
@[go_sem] theorem r157 (t1 t2 : Nat) (a b : Auto) (cap : Int) (u1 u2 : Nat) (x y : Int) (l m : List Int) (ha : a.edges.length ≤ 2 ^ 63 - 1) (hb : b.edges.length ≤ 2 ^ 63 - 1) (hl : l.length ≤ 2000000000) (hm : m.length ≤ 2000000000) : res A PrA 157 [.agg [.int .i64 a.states,.int .i64 a.start,.lst t1 (a.edges.map Edge.c),.int .i64 b.states,.int .i64 b.start,.lst t2 (b.edges.map Edge.c),.int .i64 cap],.agg [.int .i64 x,.int .i64 y,.lst u1 (ints l),.lst u2 (ints m)]] = some [.bool (fitsB a b cap x y l m)] := by
 refine res_of a157 rfl rfl ?_
 simp only [F157]; try delta sS tT zZ nN gG bB pZ
 simp (disch := omega) only [go_sem]
 unfold fitsB
 rw [bool_le]
 cases hb2 : decide (0 ≤ x)
 ·cases hb1 : decide (sysErr a b cap = 0) <;> simp (disch := omega) only [go_sem,hb1]
 ·cases hb4 : decide (0 ≤ y)
  ·cases hb1 : decide (sysErr a b cap = 0) <;> simp (disch := omega) only [go_sem,hb1]
  ·cases hb3 : decide (x < a.states)
   ·cases hb1 : decide (sysErr a b cap = 0) <;> simp (disch := omega) only [go_sem,hb1,hb3]
   ·cases hb5 : decide (y < b.states)
    ·cases hb1 : decide (sysErr a b cap = 0) <;> simp (disch := omega) only [go_sem,hb1,hb3,hb5]
    ·cases hb1 : decide (sysErr a b cap = 0)
     ·simp (disch := omega) only [go_sem,hb1,hb3,hb5]
     ·cases hb6 : chanB l cap
      ·simp (disch := omega) only [go_sem,hb1,hb3,hb5,hb6]
      ·simp (disch := omega) only [go_sem,hb1,hb3,hb5,hb6]
set_option maxHeartbeats 2000000 in
@[go_sem] theorem r158 (t1 t2 : Nat) (a b : Auto) (cap : Int) (u1 u2 : Nat) (x y : Int) (l m : List Int) (ha : a.edges.length ≤ 2 ^ 63 - 1) (hb : b.edges.length ≤ 2 ^ 63 - 1) (hl : l.length ≤ 2000000000) (hm : m.length ≤ 2000000000) : res A PrA 158 [.agg [.int .i64 a.states,.int .i64 a.start,.lst t1 (a.edges.map Edge.c),.int .i64 b.states,.int .i64 b.start,.lst t2 (b.edges.map Edge.c),.int .i64 cap],.agg [.int .i64 x,.int .i64 y,.lst u1 (ints l),.lst u2 (ints m)]] = some [.bool (fitsB a b cap x y l m)] := by
 refine res_of a158 rfl rfl ?_
 simp only [F158]; try delta sS tT zZ nN gG bB pZ
 unfold fitsB
 simp (disch := omega) only [go_sem]
 cases hb1 : decide (sysErr a b cap = 0)
 ·simp (disch := omega) only [go_sem]
 ·cases hb2 : decide (0 ≤ x)
  ·simp (disch := omega) only [go_sem,hb2]
  ·cases hb3 : decide (x < a.states)
   ·simp (disch := omega) only [go_sem,hb2,hb3]
   ·cases hb4 : decide (0 ≤ y)
    ·simp (disch := omega) only [go_sem,hb2,hb3,hb4]
    ·cases hb5 : decide (y < b.states)
     ·simp (disch := omega) only [go_sem,hb2,hb3,hb4,hb5]
     ·cases hb6 : chanB l cap
      ·simp (disch := omega) only [go_sem,hb2,hb3,hb4,hb5,hb6]
      ·simp (disch := omega) only [go_sem,hb2,hb3,hb4,hb5,hb6]
theorem r181 (t : Nat) (e : Edge) (s : Int) : res A PrA 181 [.agg [.int .i64 e.fr,.bool e.send,.int .i64 e.label,.int .i64 e.to],.ro t [.int .i64 s]] = some [.bool (decide (e.fr = s))] := by
 refine res_of a181 rfl rfl ?_
 simp only [F181]; try delta sS tT zZ nN gG bB pZ
 simp (disch := omega) only [go_sem]
theorem isEnd_any (s : Int) : ∀ l : List Edge,isEnd s l = !(l.any fun e => decide (e.fr = s))
 | [] => rfl
 | e :: r => by
  unfold isEnd
  rw [List.any_cons,isEnd_any s r]
  by_cases h : e.fr = s <;> simp [h]
theorem r180 (t u : Nat) (l : List Edge) (s : Int) (hl : l.length ≤ 2 ^ 63 - 1) : res A PrA 180 [.lst t (l.map Edge.c),.func 181 [.ro u [.int .i64 s]]] = some [.bool (!isEnd s l)] := by
 refine res_of a180 rfl rfl ?_
 simp only [F180]; try delta sS tT zZ nN gG bB pZ
 have h77 := r77 181 t u [.int .i64 s] l (fun e => decide (e.fr = s)) hl (by kernel_rfl) (by kernel_rfl) (by kernel_rfl) (fun e _ => r181 u e s)
 have e1 : edgs l = l.map Edge.c := rfl
 rw [e1] at h77
 simp (disch := omega) only [go_sem,h77]
 rw [idxP_pos,isEnd_any,Bool.not_not]
@[go_sem] theorem r179 (t : Nat) (a : Auto) (s : Int) (hl : a.edges.length ≤ 2 ^ 63 - 1) : res A PrA 179 [.agg [.int .i64 a.states,.int .i64 a.start,.lst t (a.edges.map Edge.c)],.int .i64 s] = some [.bool (!isEnd s a.edges)] := by
 refine res_of a179 rfl rfl ?_
 simp only [F179]; try delta sS tT zZ nN gG bB pZ
 have h180 := fun t u => r180 t u a.edges s hl
 simp (disch := omega) only [go_sem,h180]
def doneB (a b : Auto) (cap : Int) (x y : Int) (l m : List Int) : Bool := fitsB a b cap x y l m && decide (l.length + m.length = 0) && isEnd x a.edges && isEnd y b.edges
set_option maxHeartbeats 2000000 in
@[go_sem] theorem r159 (t1 t2 : Nat) (a b : Auto) (cap : Int) (u1 u2 : Nat) (x y : Int) (l m : List Int) (ha : a.edges.length ≤ 2 ^ 63 - 1) (hb : b.edges.length ≤ 2 ^ 63 - 1) (hl : l.length ≤ 2000000000) (hm : m.length ≤ 2000000000) : res A PrA 159 [.agg [.int .i64 a.states,.int .i64 a.start,.lst t1 (a.edges.map Edge.c),.int .i64 b.states,.int .i64 b.start,.lst t2 (b.edges.map Edge.c),.int .i64 cap],.agg [.int .i64 x,.int .i64 y,.lst u1 (ints l),.lst u2 (ints m)]] = some [.bool (doneB a b cap x y l m)] := by
 refine res_of a159 rfl rfl ?_
 simp only [F159]; try delta sS tT zZ nN gG bB pZ
 simp (disch := omega) only [go_sem]
 unfold doneB
 cases hb1 : fitsB a b cap x y l m
 ·simp (disch := omega) only [go_sem]
 ·by_cases hc : l.length + m.length = 0
  ·have q1 : ¬ (0 < (l.length : Int) + m.length) := by omega
   simp (disch := omega) only [go_sem,q1]
   cases hb2 : isEnd x a.edges
   ·simp (disch := omega) only [go_sem]
   ·simp (disch := omega) only [go_sem]
    simp [hc]
  ·have q1 : (0 < (l.length : Int) + m.length) := by omega
   simp (disch := omega) only [go_sem,q1]
   rw [decide_eq_false hc]
   rfl
set_option maxHeartbeats 2000000 in
@[go_sem] theorem r160 (t1 t2 : Nat) (a b : Auto) (cap : Int) (u1 u2 : Nat) (x y : Int) (l m : List Int) (ha : a.edges.length ≤ 2 ^ 63 - 1) (hb : b.edges.length ≤ 2 ^ 63 - 1) (hl : l.length ≤ 2000000000) (hm : m.length ≤ 2000000000) : res A PrA 160 [.agg [.int .i64 a.states,.int .i64 a.start,.lst t1 (a.edges.map Edge.c),.int .i64 b.states,.int .i64 b.start,.lst t2 (b.edges.map Edge.c),.int .i64 cap],.agg [.int .i64 x,.int .i64 y,.lst u1 (ints l),.lst u2 (ints m)]] = some [.bool (doneB a b cap x y l m)] := by
 refine res_of a160 rfl rfl ?_
 simp only [F160]; try delta sS tT zZ nN gG bB pZ
 simp (disch := omega) only [go_sem]
 unfold doneB
 cases hb1 : fitsB a b cap x y l m
 ·simp (disch := omega) only [go_sem]
 ·by_cases hc : l.length + m.length = 0
  ·have q1 : ((l.length : Int) + m.length = 0) := by omega
   simp (disch := omega) only [go_sem,q1]
   cases hb2 : isEnd x a.edges
   ·simp (disch := omega) only [go_sem]
   ·simp (disch := omega) only [go_sem]
    simp [hc]
  ·have q1 : ¬ ((l.length : Int) + m.length = 0) := by omega
   simp (disch := omega) only [go_sem,q1]
   rw [decide_eq_false hc]
   rfl
def chkE (a b : Auto) (cap : Int) (x y : Int) (l m : List Int) : Int := if sysErr a b cap ≠ 0 then sysErr a b cap else if fitsB a b cap x y l m = true then 0 else 1
@[go_sem] theorem r187 (t1 t2 : Nat) (a b : Auto) (cap : Int) (u1 u2 : Nat) (x y : Int) (l m : List Int) (ha : a.edges.length ≤ 2 ^ 63 - 1) (hb : b.edges.length ≤ 2 ^ 63 - 1) (hl : l.length ≤ 2000000000) (hm : m.length ≤ 2000000000) : res A PrA 187 [.agg [.int .i64 a.states,.int .i64 a.start,.lst t1 (a.edges.map Edge.c),.int .i64 b.states,.int .i64 b.start,.lst t2 (b.edges.map Edge.c),.int .i64 cap],.agg [.int .i64 x,.int .i64 y,.lst u1 (ints l),.lst u2 (ints m)]] = some [.int .i64 (chkE a b cap x y l m)] := by
 refine res_of a187 rfl rfl ?_
 simp only [F187]; try delta sS tT zZ nN gG bB pZ
 simp (disch := omega) only [go_sem]
 unfold chkE
 by_cases h1 : sysErr a b cap = 0
 ·simp (disch := omega) only [go_sem,h1]
  cases hb1 : fitsB a b cap x y l m
  ·simp (disch := omega) only [go_sem]
   rw [if_neg (by simp [h1])]
  ·simp (disch := omega) only [go_sem]
   rw [if_neg (by simp [h1])]
 ·simp (disch := omega) only [go_sem,h1]
  simp [h1]
end Go.Pv
namespace Go.Pv
end Go.Pv
namespace Go.Pv
variable {A : Nat → Option AFunc} {Pr : Prims}
def rndM {α : Type} (kt kb : List Nat) (S : α → St) (P : α → Prop) (m : α → Nat) (x : α) (Q : Ex → St → Prop) (_t : Tie (kt,kb,S,P,m,x,Q) := .mk) : Ex → St → Prop
 | .normal,s => ∃ y,P y ∧ m y < m x ∧ s.mask kt kb = S y
 | .exit i,s => Q (.exit i) s
 | .ret,s => Q .ret s
@[go_sem] theorem rndM_exit {α : Type} (kt kb : List Nat) (S : α → St) (P : α → Prop) (m : α → Nat) (x : α) (Q : Ex → St → Prop) (i : Nat) (s : St) : rndM kt kb S P m x Q .mk (.exit i) s = Q (.exit i) s := rfl
@[go_sem] theorem rndM_ret {α : Type} (kt kb : List Nat) (S : α → St) (P : α → Prop) (m : α → Nat) (x : α) (Q : Ex → St → Prop) (s : St) : rndM kt kb S P m x Q .mk .ret s = Q .ret s := rfl
end Go.Pv
namespace Go.Pv
end Go.Pv
namespace Go.Pv
end Go.Pv
