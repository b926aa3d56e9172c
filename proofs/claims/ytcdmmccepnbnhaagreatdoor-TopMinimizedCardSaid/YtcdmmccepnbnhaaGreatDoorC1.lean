/-
 What the functions of the law give.
-/
import Derived.Test.YtcdmmccepnbnhaaGreatDoorTab
set_option linter.unusedSimpArgs false
set_option linter.unusedVariables false
namespace Go.Pv
theorem pw_ext {α : Type} {r : α → α → Prop} (irr : ∀ x,¬ r x x) (tr : ∀ x y z,r x y → r y z → r x z) : ∀ {l m : List α},l.Pairwise r → m.Pairwise r → (∀ x,x ∈ l ↔ x ∈ m) → l = m
 | [],[],_,_,_ => rfl
 | [],y :: m,_,_,h => absurd ((h y).2 (by simp)) (by simp)
 | x :: l,[],_,_,h => absurd ((h x).1 (by simp)) (by simp)
 | x :: l,y :: m,hl,hm,h => by
  rw [List.pairwise_cons] at hl hm
  have e : x = y := by
   rcases List.mem_cons.1 ((h x).1 (by simp)) with e | hx
   ·exact e
   ·rcases List.mem_cons.1 ((h y).2 (by simp)) with e | hy
    ·exact e.symm
    ·exact (irr x (tr x y x (hl.1 y hy) (hm.1 x hx))).elim
  subst e
  congr 1
  refine pw_ext irr tr hl.2 hm.2 fun z => ⟨fun hz => ?_,fun hz => ?_⟩
  ·rcases List.mem_cons.1 ((h z).1 (List.mem_cons_of_mem _ hz)) with rfl | hz'
   ·exact (irr z (hl.1 z hz)).elim
   ·exact hz'
  ·rcases List.mem_cons.1 ((h z).2 (List.mem_cons_of_mem _ hz)) with rfl | hz'
   ·exact (irr z (hm.1 z hz)).elim
   ·exact hz'
theorem nodup_bound {l : List Int} {n : Nat} (hn : l.Nodup) (h : ∀ x ∈ l,0 ≤ x ∧ x < n) : l.length ≤ n := by
 have := List.Nodup.length_le_of_subset (l₂ := (List.range n).map Int.ofNat) hn (fun x hx => by
  have := h x hx
  rw [List.mem_map]
  exact ⟨x.toNat,List.mem_range.2 (by omega),by simp; omega⟩)
 simpa using this
section
variable {α : Type} [DecidableEq α]
def addN (o : List α) (x : α) : List α := if x ∈ o then o else o ++ [x]
theorem addN_mem {o : List α} {x y : α} : y ∈ addN o x ↔ y ∈ o ∨ y = x := by
 unfold addN
 split
 ·rename_i h
  exact ⟨.inl,fun h' => h'.elim id (fun e => e ▸ h)⟩
 ·simp
theorem addN_nodup {o : List α} {x : α} (h : o.Nodup) : (addN o x).Nodup := by
 unfold addN
 split
 ·exact h
 ·rename_i hx
  rw [List.nodup_append]
  exact ⟨h,by simp,fun a ha b hb => by
   rw [List.mem_singleton] at hb
   subst hb
   exact fun e => hx (e ▸ ha)⟩
theorem addN_pre (o : List α) (x : α) : o <+: addN o x := by
 unfold addN
 split
 ·exact List.prefix_refl o
 ·exact List.prefix_append o [x]
def addL (o : List α) (l : List α) : List α := l.foldl addN o
theorem addL_cons (o : List α) (x : α) (l : List α) : addL o (x :: l) = addL (addN o x) l := rfl
theorem addL_mem : ∀ {l o : List α} {y : α},y ∈ addL o l ↔ y ∈ o ∨ y ∈ l
 | [],o,y => by simp [addL]
 | x :: l,o,y => by
  rw [addL_cons,addL_mem,addN_mem]
  simp [or_assoc]
theorem addL_nodup : ∀ {l o : List α},o.Nodup → (addL o l).Nodup
 | [],_,h => h
 | x :: l,o,h => by
  rw [addL_cons]
  exact addL_nodup (addN_nodup h)
theorem addL_pre : ∀ (o l : List α),o <+: addL o l
 | o,[] => List.prefix_refl o
 | o,x :: l => by
  rw [addL_cons]
  exact (addN_pre o x).trans (addL_pre _ l)
def bfs (nx : α → List α) : Nat → Nat → List α → List α
 | 0,_,o => o
 | n + 1,i,o => match o[i]? with
  | none => o
  | some v => bfs nx n (i + 1) (addL o (nx v))
theorem bfs_step {nx : α → List α} {n i : Nat} {o : List α} {v : α} (h : o[i]? = some v) : bfs nx (n + 1) i o = bfs nx n (i + 1) (addL o (nx v)) := by
 simp only [bfs,h]
theorem bfs_end {nx : α → List α} : ∀ {n i : Nat} {o : List α},o.length ≤ i → bfs nx n i o = o
 | 0,_,_,_ => rfl
 | n + 1,i,o,h => by simp only [bfs,List.getElem?_eq_none h]
theorem bfs_pre {nx : α → List α} : ∀ (n i : Nat) (o : List α),o <+: bfs nx n i o
 | 0,_,o => List.prefix_refl o
 | n + 1,i,o => by
  unfold bfs
  split
  ·exact List.prefix_refl o
  ·exact (addL_pre o _).trans (bfs_pre n _ _)
theorem bfs_nodup {nx : α → List α} : ∀ (n i : Nat) {o : List α},o.Nodup → (bfs nx n i o).Nodup
 | 0,_,_,h => h
 | n + 1,i,o,h => by
  unfold bfs
  split
  ·exact h
  ·exact bfs_nodup n _ (addL_nodup h)
inductive Rch (nx : α → List α) (s : α) : α → Prop
 | refl : Rch nx s s
 | step {v x : α} : Rch nx s v → x ∈ nx v → Rch nx s x
theorem bfs_all {nx : α → List α} {P : α → Prop} (hP : ∀ v,P v → ∀ x ∈ nx v,P x) : ∀ (n i : Nat) {o : List α},(∀ v ∈ o,P v) → ∀ v ∈ bfs nx n i o,P v
 | 0,_,_,h => h
 | n + 1,i,o,h => by
  unfold bfs
  split
  ·exact h
  ·rename_i v hv
   refine bfs_all hP n _ fun x hx => ?_
   rcases addL_mem.1 hx with hx | hx
   ·exact h x hx
   ·exact hP v (h v (List.mem_of_getElem? hv)) x hx
theorem bfs_done {nx : α → List α} {N : Nat} {P : α → Prop} (hP : ∀ v,P v → ∀ x ∈ nx v,P x) (hN : ∀ o : List α,o.Nodup → (∀ v ∈ o,P v) → o.length ≤ N) : ∀ (n i : Nat) {o : List α},N ≤ n + i → o.Nodup → (∀ v ∈ o,P v) →
  (∀ j v,j < i → o[j]? = some v → ∀ x ∈ nx v,x ∈ o) → ∀ v ∈ bfs nx n i o,∀ x ∈ nx v,x ∈ bfs nx n i o
 | 0,i,o,hn,hd,ho,hc => by
  intro v hv x hx
  obtain ⟨j,hj,rfl⟩ := List.getElem_of_mem hv
  have := hN o hd ho
  have hlt : j < o.length := hj
  exact hc j o[j] (by omega) (by simp) x hx
 | n + 1,i,o,hn,hd,ho,hc => by
  unfold bfs
  split
  ·rename_i hnone
   intro v hv x hx
   obtain ⟨j,hj,rfl⟩ := List.getElem_of_mem hv
   have := List.getElem?_eq_none_iff.1 hnone
   exact hc j o[j] (by omega) (by simp) x hx
  ·rename_i v hv
   refine bfs_done hP hN n (i + 1) (by omega) (addL_nodup hd) (fun x hx => ?_) (fun j w hj hw x hx => ?_)
   ·rcases addL_mem.1 hx with hx | hx
    ·exact ho x hx
    ·exact hP v (ho v (List.mem_of_getElem? hv)) x hx
   ·rw [addL_mem]
    have hi : i < o.length := (List.getElem?_eq_some_iff.1 hv).1
    obtain ⟨t,ht⟩ := addL_pre o (nx v)
    rw [← ht,List.getElem?_append_left (by omega)] at hw
    rcases Nat.lt_or_ge j i with h | h
    ·exact .inl (hc j w h hw x hx)
    ·obtain rfl : j = i := by omega
     rw [hv] at hw
     cases hw
     exact .inr hx
theorem bfs_rch {nx : α → List α} {N : Nat} {P : α → Prop} {s : α} (hP : ∀ v,P v → ∀ x ∈ nx v,P x) (hN : ∀ o : List α,o.Nodup → (∀ v ∈ o,P v) → o.length ≤ N) (hs : P s) {v : α} : v ∈ bfs nx N 0 [s] ↔ Rch nx s v := by
 constructor
 ·exact bfs_all (P := Rch nx s) (fun v hv x hx => .step hv hx) N 0 (by simp; exact .refl) v
 ·have hc := bfs_done hP hN N 0 (o := [s]) (by omega) (by simp) (by simpa using hs) (fun j v hj => absurd hj (Nat.not_lt_zero _))
  have hp : s ∈ bfs nx N 0 [s] := (bfs_pre N 0 [s]).subset (by simp)
  intro h
  induction h with
  | refl => exact hp
  | step _ hx ih => exact hc _ ih _ hx
section
variable {β : Type} [DecidableEq β]
end
end
end Go.Pv
namespace Go.Pv
section
variable {α : Type} [Inhabited α]
def apt (lt : α → α → Bool) (x y : α) : Prop := lt x y = true ∨ lt y x = true
omit [Inhabited α] in
theorem apt.symm {lt : α → α → Bool} {x y : α} (h : apt lt x y) : apt lt y x := h.elim .inr .inl
def bub (lt : α → α → Bool) (x : α) (l : List α) : Nat → Nat
 | 0 => 0
 | p + 1 => if lt x (l.getD p default) = true then bub lt x l p else p + 1
def putA (x : α) (l : List α) (p : Nat) : List α := l.take p ++ x :: l.drop p
def insB (lt : α → α → Bool) (x : α) (l : List α) : List α := putA x l (bub lt x l l.length)
theorem bub_le (lt : α → α → Bool) (x : α) (l : List α) : ∀ q,bub lt x l q ≤ q
 | 0 => Nat.le_refl _
 | q + 1 => by
  have := bub_le lt x l q
  unfold bub
  split <;> omega
omit [Inhabited α] in
theorem putA_len (x : α) (l : List α) (p : Nat) (h : p ≤ l.length) : (putA x l p).length = l.length + 1 := by simp [putA]; omega
theorem insB_len (lt : α → α → Bool) (x : α) (l : List α) : (insB lt x l).length = l.length + 1 := putA_len x l _ (bub_le lt x l _)
omit [Inhabited α] in
theorem putA_at (x : α) (l : List α) (p : Nat) (h : p ≤ l.length) : (putA x l p)[p]? = some x := by
 unfold putA
 rw [List.getElem?_append_right (by simp; omega)]
 simp [Nat.min_eq_left h]
theorem putA_below (x : α) (l : List α) (p : Nat) (h : p < l.length) : (putA x l (p + 1))[p]? = some (l.getD p default) := by
 unfold putA
 rw [List.getElem?_append_left (by simp; omega),List.getElem?_take,if_pos (by omega)]
 simp [h]
theorem putA_down (x : α) (l : List α) (p : Nat) (h : p < l.length) : ((putA x l (p + 1)).set (p + 1) (l.getD p default)).set p x = putA x l p := by
 apply List.ext_getElem?
 intro i
 have h1 := putA_len x l (p + 1) (by omega)
 by_cases ip : i = p
 ·subst ip
  rw [putA_at x l i (by omega),List.getElem?_set_self (by simp [h1]; omega)]
 ·rw [List.getElem?_set_ne (Ne.symm ip)]
  by_cases iq : i = p + 1
  ·subst iq
   rw [List.getElem?_set_self (by rw [h1]; omega)]
   unfold putA
   rw [List.getElem?_append_right (by simp; omega)]
   simp [Nat.min_eq_left (Nat.le_of_lt h),h]
  ·rw [List.getElem?_set_ne (Ne.symm iq)]
   unfold putA
   rcases Nat.lt_or_ge i p with hi | hi
   ·rw [List.getElem?_append_left (by simp; omega),List.getElem?_append_left (by simp; omega),List.getElem?_take,List.getElem?_take,if_pos (by omega),if_pos hi]
   ·rw [List.getElem?_append_right (by simp; omega),List.getElem?_append_right (by simp; omega)]
    obtain ⟨q,rfl⟩ : ∃ q,i = p + 2 + q := ⟨i - (p + 2),by omega⟩
    simp only [List.length_take,Nat.min_eq_left (Nat.le_of_lt h),Nat.min_eq_left (Nat.succ_le_of_lt h)]
    rw [show p + 2 + q - (p + 1) = q + 1 by omega,show p + 2 + q - p = q + 2 by omega]
    simp only [List.getElem?_cons_succ,List.getElem?_drop]
    congr 1
    omega
omit [Inhabited α] in
theorem putA_perm (x : α) (l : List α) (p : Nat) : (putA x l p).Perm (x :: l) := by
 unfold putA
 refine (List.perm_middle).trans ?_
 rw [List.take_append_drop]
theorem insB_perm (lt : α → α → Bool) (x : α) (l : List α) : (insB lt x l).Perm (x :: l) := putA_perm x l _
theorem bub_above (lt : α → α → Bool) (x : α) (l : List α) : ∀ q j,bub lt x l q ≤ j → j < q → lt x (l.getD j default) = true
 | 0,j,_,h => absurd h (Nat.not_lt_zero _)
 | q + 1,j,h1,h2 => by
  unfold bub at h1
  split at h1
  ·rename_i h
   rcases Nat.lt_or_ge j q with h3 | h3
   ·exact bub_above lt x l q j h1 h3
   ·obtain rfl : j = q := by omega
    exact h
  ·omega
theorem bub_stop (lt : α → α → Bool) (x : α) (l : List α) : ∀ q p,bub lt x l q = p + 1 → lt x (l.getD p default) = false
 | 0,p,h => by simp [bub] at h
 | q + 1,p,h => by
  unfold bub at h
  split at h
  ·exact bub_stop lt x l q p h
  ·rename_i hn
   obtain rfl : p = q := by omega
   simpa using hn
theorem insB_sorted {lt : α → α → Bool} (tr : ∀ x y z,lt x y = true → lt y z = true → lt x z = true) {x : α} {l : List α} (hl : l.Pairwise (fun a b => lt a b = true)) (hx : ∀ y ∈ l,apt lt x y) : (insB lt x l).Pairwise (fun a b => lt a b = true) := by
 have hle := bub_le lt x l l.length
 have hup : ∀ y ∈ l.drop (bub lt x l l.length),lt x y = true := fun y hy => by
  obtain ⟨j,hj,rfl⟩ := List.getElem_of_mem hy
  rw [List.length_drop] at hj
  have := bub_above lt x l l.length (bub lt x l l.length + j) (by omega) (by omega)
  rw [List.getElem_drop]
  simpa [show bub lt x l l.length + j < l.length by omega] using this
 have hlo : ∀ y ∈ l.take (bub lt x l l.length),lt y x = true := fun y hy => by
  obtain ⟨j,hj,rfl⟩ := List.getElem_of_mem hy
  rw [List.length_take] at hj
  obtain ⟨p,hp⟩ : ∃ p,bub lt x l l.length = p + 1 := ⟨bub lt x l l.length - 1,by omega⟩
  have hst := bub_stop lt x l _ _ hp
  have hpl : p < l.length := by omega
  have e1 : l.getD p default = l[p] := by simp [hpl]
  rw [e1] at hst
  have h1 : lt l[p] x = true := (hx l[p] (List.getElem_mem _)).resolve_left (by simp [hst])
  rw [List.getElem_take]
  rcases Nat.lt_or_ge j p with h | h
  ·exact tr _ _ _ (List.pairwise_iff_getElem.1 hl j p (by omega) hpl h) h1
  ·obtain rfl : j = p := by omega
   exact h1
 unfold insB putA
 rw [List.pairwise_append,List.pairwise_cons]
 refine ⟨hl.sublist (List.take_sublist _ _),⟨hup,hl.sublist (List.drop_sublist _ _)⟩,fun a ha b hb => ?_⟩
 rcases List.mem_cons.1 hb with rfl | hb
 ·exact hlo a ha
 ·exact tr _ _ _ (hlo a ha) (hup b hb)
def sortB (lt : α → α → Bool) (l : List α) : List α := l.foldl (fun o x => insB lt x o) []
theorem foldB_perm (lt : α → α → Bool) : ∀ (l o : List α),(l.foldl (fun o x => insB lt x o) o).Perm (o ++ l)
 | [],o => by simp
 | x :: l,o => by
  rw [List.foldl_cons]
  refine (foldB_perm lt l _).trans ?_
  refine ((insB_perm lt x o).append_right l).trans ?_
  exact (List.perm_middle (a := x) (l₁ := o) (l₂ := l)).symm
theorem sortB_perm (lt : α → α → Bool) (l : List α) : (sortB lt l).Perm l := foldB_perm lt l []
theorem foldB_sorted {lt : α → α → Bool} (tr : ∀ x y z,lt x y = true → lt y z = true → lt x z = true) : ∀ {l o : List α},o.Pairwise (fun a b => lt a b = true) → l.Pairwise (apt lt) → (∀ x ∈ l,∀ y ∈ o,apt lt x y) → (l.foldl (fun o x => insB lt x o) o).Pairwise (fun a b => lt a b = true)
 | [],_,h,_,_ => h
 | x :: l,o,h,hl,hx => by
  rw [List.pairwise_cons] at hl
  rw [List.foldl_cons]
  refine foldB_sorted tr (insB_sorted tr h (hx x (by simp))) hl.2 fun z hz y hy => ?_
  rcases List.mem_cons.1 ((insB_perm lt x o).subset hy) with rfl | hy
  ·exact (hl.1 z hz).symm
  ·exact hx z (by simp [hz]) y hy
theorem sortB_sorted {lt : α → α → Bool} (tr : ∀ x y z,lt x y = true → lt y z = true → lt x z = true) {l : List α} (hl : l.Pairwise (apt lt)) : (sortB lt l).Pairwise (fun a b => lt a b = true) := foldB_sorted tr List.Pairwise.nil hl (fun _ _ _ h => absurd h (by simp))
omit [Inhabited α] in
theorem ins_pw {lt : α → α → Bool} (tr : ∀ x y z,lt x y = true → lt y z = true → lt x z = true) {x : α} : ∀ {l : List α},l.Pairwise (fun a b => lt a b = true) → (∀ y ∈ l,apt lt x y) → (ins lt x l).Pairwise (fun a b => lt a b = true)
 | [],_,_ => List.pairwise_singleton _ _
 | y :: r,h,hx => by
  obtain ⟨h1,h2⟩ := List.pairwise_cons.1 h
  unfold ins
  split
  ·rename_i hc
   refine List.pairwise_cons.2 ⟨fun z hz => ?_,ins_pw tr h2 (fun z hz => hx z (by simp [hz]))⟩
   rcases List.mem_cons.1 ((ins_perm lt x r).subset hz) with rfl | hz
   ·exact hc
   ·exact h1 z hz
  ·rename_i hc
   have hxy : lt x y = true := (hx y (by simp)).resolve_right (by simpa using hc)
   refine List.pairwise_cons.2 ⟨fun z hz => ?_,h⟩
   rcases List.mem_cons.1 hz with rfl | hz
   ·exact hxy
   ·exact tr _ _ _ hxy (h1 z hz)
omit [Inhabited α] in
theorem isort_pw {lt : α → α → Bool} (tr : ∀ x y z,lt x y = true → lt y z = true → lt x z = true) : ∀ {l : List α},l.Pairwise (apt lt) → (isort lt l).Pairwise (fun a b => lt a b = true)
 | [],_ => List.Pairwise.nil
 | x :: l,h => by
  obtain ⟨h1,h2⟩ := List.pairwise_cons.1 h
  exact ins_pw tr (isort_pw tr h2) fun y hy => h1 y ((isort_perm lt l).subset hy)
omit [Inhabited α] in
theorem rising_of {lt : α → α → Bool} : ∀ {l : List α},l.Pairwise (fun a b => lt a b = true) → rising lt l = true
 | [],_ => rfl
 | [_],_ => rfl
 | x :: y :: r,h => by
  obtain ⟨h1,h2⟩ := List.pairwise_cons.1 h
  simp only [rising,Bool.and_eq_true]
  exact ⟨h1 y (by simp),rising_of h2⟩
end
end Go.Pv
namespace Go.Pv
theorem r66 {Pr : Prims} (x : Int) : res A Pr 66 [.int .i64 x] = some [.bool false] := by
 refine res_of a66 rfl rfl ?_
 simp only [F66]; try delta sS tT zZ nN gG bB pZ
 simp (disch := omega) only [go_sem]
theorem r60 {Pr : Prims} (hp : Pr 66 = none) (x y : Int) : res A Pr 60 [.int .i64 x,.int .i64 y] = some [.int .i64 (cmpI x y)] := by
 refine res_of a60 rfl rfl ?_
 simp only [F60]; try delta sS tT zZ nN gG bB pZ
 simp (disch := omega) only [go_sem,CW_CN (by kernel_rfl) hp tk66,r66]
 unfold cmpI
 refine Br.ofP (fun h => ?_) (fun h => ?_) <;> simp (disch := omega) only [go_sem,h]
 refine Br.ofP (fun h2 => ?_) (fun h2 => ?_) <;> simp (disch := omega) only [go_sem,h,h2]
theorem r58 {Pr : Prims} (a : Edge) : res A Pr 58 [.agg a.c] = some [.int .i64 a.side] := by
 refine res_of a58 rfl rfl ?_
 simp only [F58]; try delta sS tT zZ nN gG bB pZ
 simp (disch := omega) only [go_sem]
 unfold Edge.side
 refine Br.of (fun h => ?_) (fun h => ?_) <;> simp (disch := omega) only [go_sem,h]
def orI : List Int → Int
 | [] => 0
 | x :: r => if x ≠ 0 then x else orI r
theorem drop_at {α : Type} {l : List α} {k : Nat} {x : α} (h : l[k]? = some x) : l.drop k = x :: l.drop (k + 1) := by
 obtain ⟨h1,h2⟩ := List.getElem?_eq_some_iff.1 h
 rw [List.drop_eq_getElem_cons h1,h2]
theorem get_at {α : Type} {l : List α} {k : Nat} (h : k < l.length) : ∃ x,l[k]? = some x := ⟨_,List.getElem?_eq_getElem h⟩
theorem drop_end {α : Type} {l : List α} {k : Nat} (h : ¬ (k : Int) < l.length) : l.drop k = [] := List.drop_eq_nil_of_le (by omega)
theorem r59 {Pr : Prims} (t : Nat) (l : List Int) (hl : l.length < 1000) : res A Pr 59 [.lst t (ints l)] = some [.int .i64 (orI l)] := by
 refine res_of a59 rfl rfl ?_
 simp only [F59]; try delta sS tT zZ nN gG bB pZ
 simp (disch := omega) only [go_sem]
 refine W.upto l.length (fun k => ⟨[(3,.pv (.int .i64 0)),(6,.pv (.lst t (ints l))),(7,.pv (.int .i64 l.length)),(8,.pv (.int .i64 k))],⟨[],[],[]⟩⟩) (fun k => orI l = orI (l.drop k)) rfl rfl fun k hk hi => ?_
 simp (disch := omega) only [go_sem]
 refine Br.ofP (fun h => ?_) (fun h => ?_)
 ·obtain ⟨x,hx⟩ := get_at (l := l) (k := k) (by omega)
  rw [drop_at hx,orI] at hi
  simp (disch := omega) only [go_sem,hx]
  refine Br.ofP (fun h1 => ?_) (fun h1 => ?_) <;> simp (disch := omega) only [go_sem]
  ·exact .of (by omega) rfl (by simpa [h1] using hi)
  ·simp [hi,h1]
 ·simp (disch := omega) only [go_sem]
  simp [hi,drop_end h,orI]
theorem r47 {Pr : Prims} (h66 : Pr 66 = none) (h60 : Pr 60 = none) (h59 : Pr 59 = none) (h58 : Pr 58 = none) (a b : Edge) : res A Pr 47 [.agg a.c,.agg b.c] = some [.int .i64 (Edge.cmp a b)] := by
 refine res_of a47 rfl rfl ?_
 simp only [F47]; try delta sS tT zZ nN gG bB pZ
 have e59 := fun x y z => r59 (Pr := Pr) 0 [x,y,z] (by simp)
 simp only [ints,List.map_cons,List.map_nil] at e59
 have e58 := fun x => r58 (Pr := Pr) x
 simp only [Edge.c] at e58
 simp (disch := omega) only [go_sem,CW_CN (by kernel_rfl) h60 tk60,CW_CN (by kernel_rfl) h59 tk59,CW_CN (by kernel_rfl) h58 tk58,r60 h66,e58 a,e58 b,e59]
 by_cases h : cmpI a.label b.label = 0 <;> simp [orI,Edge.cmp,h]
end Go.Pv
namespace Go.Pv
@[go_sem] theorem r44 (a b : Edge) : res A PrA 44 [.agg [.int .i64 a.fr,.bool a.send,.int .i64 a.label,.int .i64 a.to],.agg [.int .i64 b.fr,.bool b.send,.int .i64 b.label,.int .i64 b.to]] = some [.bool (Edge.lt a b)] := by
 refine res_of a44 rfl rfl ?_
 simp only [F44]; try delta sS tT zZ nN gG bB pZ
 simp (disch := omega) only [go_sem]
 unfold Edge.lt
 by_cases h : a.fr = b.fr <;> by_cases h2 : a.send = b.send <;> simp (disch := omega) only [go_sem,h,h2,ne_eq,not_true_eq_false,not_false_eq_true]
theorem Auto.err_ok {a : Auto} (h1 : a.states ≤ 12) (h2 : a.edges.length ≤ 100) (h3 : 0 ≤ a.start ∧ a.start < a.states) : a.err = if chk a.states none a.edges = true then 0 else 1 := by
 unfold Auto.err
 rw [if_neg (by omega),if_pos h3]
theorem Auto.err_start {a : Auto} (h1 : a.states ≤ 12) (h2 : a.edges.length ≤ 100) (h3 : ¬ (0 ≤ a.start ∧ a.start < a.states)) : a.err = 1 := by
 unfold Auto.err
 rw [if_neg (by omega),if_neg h3]
theorem Auto.err_large {a : Auto} (h : 12 < a.states ∨ 100 < a.edges.length) : a.err = 3 := by
 unfold Auto.err
 rw [if_pos h]
theorem chk_no {n : Int} {p : Option Edge} {e : Edge} {r : List Edge} (h : e.fits n = false) : chk n p (e :: r) = false := by simp [chk,h]
@[go_sem] theorem r47a (a b : Edge) : res A PrA 47 [.agg [.int .i64 a.fr,.bool a.send,.int .i64 a.label,.int .i64 a.to],.agg [.int .i64 b.fr,.bool b.send,.int .i64 b.label,.int .i64 b.to]] = some [.int .i64 (Edge.cmp a b)] :=
 r47 (by kernel_rfl) (by kernel_rfl) (by kernel_rfl) (by kernel_rfl) a b
@[go_sem] theorem r46 (n s : Int) (t : Nat) (cs : List PV) : res A PrA 46 [.int .i64 n,.ro t (.int .i64 s :: cs)] = some [.bool (decide (0 ≤ n) && decide (n < s))] := by
 refine res_of a46 rfl rfl ?_
 simp only [F46]; try delta sS tT zZ nN gG bB pZ
 simp (disch := omega) only [go_sem]
 refine Br.ofP (fun h1 => ?_) (fun h1 => ?_) <;> simp (disch := omega) only [go_sem,h1]
theorem fits_of {e : Edge} {n : Int} : e.fits n = (((decide (0 ≤ e.fr) && decide (e.fr < n)) && (decide (0 ≤ e.to) && decide (e.to < n))) && (decide (1 ≤ e.label) && decide (e.label ≤ 1000))) := by
 simp [Edge.fits,Bool.and_assoc]
set_option maxHeartbeats 2000000 in
@[go_sem] theorem r29 (t : Nat) (a : Auto) (hl : a.edges.length ≤ 2 ^ 63 - 1) : res A PrA 29 [.agg [.int .i64 a.states,.int .i64 a.start,.lst t (a.edges.map Edge.c)]] = some [.int .i64 a.err] := by
 refine res_of a29 rfl rfl ?_
 simp only [F29]; try delta sS tT zZ nN gG bB pZ
 simp (disch := omega) only [go_sem]
 refine Br.ofP (fun h1 => ?_) (fun h1 => ?_) <;> simp (disch := omega) only [go_sem,h1]
 ·rw [Auto.err_large (.inl h1)]
 refine Br.ofP (fun h2 => ?_) (fun h2 => ?_) <;> simp (disch := omega) only [go_sem,h2]
 ·rw [Auto.err_large (.inr (by omega))]
 refine Br.of (fun h3 => ?_) (fun h3 => ?_) <;> simp at h3 <;> simp (disch := omega) only [go_sem]
 case refine_2 => rw [Auto.err_start (by omega) (by omega) (by omega)]
 rw [Auto.err_ok (by omega) (by omega) (by omega)]
 refine W.upto a.edges.length (fun k => ⟨[(1,.ptr 1 0),(3,.func 46 [.ptr 1 0]),(22,.pv (.lst t (a.edges.map Edge.c))),(23,.pv (.int .i64 a.edges.length)),(24,.pv (.int .i64 k))],⟨[(1,[.pv (.int .i64 a.states),.pv (.int .i64 a.start),.pv (.lst t (a.edges.map Edge.c))])],[],[]⟩⟩) (fun k => chk a.states none a.edges = chk a.states (ahead1 a.edges k) (a.edges.drop k)) rfl rfl fun k hk hi => ?_
 simp (disch := omega) only [go_sem]
 refine Br.ofP (fun h => ?_) (fun h => ?_)
 ·obtain ⟨e,he⟩ := get_at (l := a.edges) (k := k) (by omega)
  rw [drop_at he] at hi
  have bad : e.fits a.states = false → chk a.states none a.edges = false := fun hb => hi.trans (chk_no hb)
  rw [fits_of] at bad
  simp (disch := omega) only [go_sem,he]
  refine Br.of (fun g1 => ?_) (fun g1 => ?_) <;> simp (disch := omega) only [go_sem,g1]
  case refine_2 => rw [bad (by rw [g1]; rfl)]; rfl
  refine Br.of (fun g2 => ?_) (fun g2 => ?_) <;> simp (disch := omega) only [go_sem,g2]
  case refine_2 => rw [bad (by rw [g1,g2]; rfl)]; rfl
  refine Br.ofP (fun g3 => ?_) (fun g3 => ?_) <;> simp (disch := omega) only [go_sem,g3]
  ·rw [bad (by simp; omega)]; rfl
  refine Br.ofP (fun g4 => ?_) (fun g4 => ?_) <;> simp (disch := omega) only [go_sem,g4]
  ·rw [bad (by simp; omega)]; rfl
  have fit : e.fits a.states = true := by rw [fits_of,g1,g2]; simp; omega
  refine Br.ofP (fun g7 => ?_) (fun g7 => ?_) <;> simp (disch := omega) only [go_sem,g7]
  ·obtain ⟨j,rfl⟩ : ∃ j,k = j + 1 := ⟨k - 1,by omega⟩
   obtain ⟨d,hd⟩ := get_at (l := a.edges) (k := j) (by omega)
   have hj : ((j + 1 : Nat) : Int) - 1 = (j : Int) := by omega
   rw [ahead1_succ,hd] at hi
   simp (disch := omega) only [go_sem,hj,hd,Edge.cmp_ge]
   refine Br.of (fun g8 => ?_) (fun g8 => ?_) <;> simp (disch := omega) only [go_sem]
   ·exact .of (by omega) rfl (by rw [hi,ahead1_succ,he]; simp [chk,fit,g8])
   ·rw [hi]; simp [chk,g8]
  ·obtain rfl : k = 0 := by omega
   exact .of (by omega) rfl (by rw [hi,ahead1_succ,he]; simp [chk,fit,ahead1])
 ·simp (disch := omega) only [go_sem]
  rw [hi,drop_end h]
  rfl
end Go.Pv
namespace Go.Pv
def nextE (s : Int) (d : Bool) (x : Int) : List Edge → Option Int
 | [] => none
 | e :: r => if e.fr = s ∧ e.send = d ∧ e.label = x then some e.to else nextE s d x r
@[go_sem] theorem r45 (t : Nat) (a : Auto) (s : Int) (d : Bool) (x : Int) (hl : a.edges.length ≤ 2 ^ 63 - 1) :
  res A PrA 45 [.agg [.int .i64 a.states,.int .i64 a.start,.lst t (a.edges.map Edge.c)],.int .i64 s,.bool d,.int .i64 x] = some [.int .i64 ((nextE s d x a.edges).getD 0),.bool (nextE s d x a.edges).isSome] := by
 refine res_of a45 rfl rfl ?_
 simp only [F45]; try delta sS tT zZ nN gG bB pZ
 simp (disch := omega) only [go_sem]
 refine W.upto a.edges.length (fun k => ⟨[(1,.pv (.int .i64 s)),(2,.pv (.bool d)),(3,.pv (.int .i64 x)),(13,.pv (.lst t (a.edges.map Edge.c))),(14,.pv (.int .i64 a.edges.length)),(15,.pv (.int .i64 k))],⟨[],[],[]⟩⟩) (fun k => nextE s d x a.edges = nextE s d x (a.edges.drop k)) rfl rfl fun k hk hi => ?_
 simp (disch := omega) only [go_sem]
 refine Br.ofP (fun h => ?_) (fun h => ?_)
 ·obtain ⟨e,he⟩ := get_at (l := a.edges) (k := k) (by omega)
  rw [drop_at he] at hi
  have no : ¬ (e.fr = s ∧ e.send = d ∧ e.label = x) → nextE s d x a.edges = nextE s d x (a.edges.drop (k + 1)) := fun hn => hi.trans (by simp only [nextE,if_neg hn])
  have yes : (e.fr = s ∧ e.send = d ∧ e.label = x) → nextE s d x a.edges = some e.to := fun hn => hi.trans (by simp only [nextE,if_pos hn])
  simp (disch := omega) only [go_sem,he]
  refine Br.ofP (fun g1 => ?_) (fun g1 => ?_) <;> simp (disch := omega) only [go_sem,g1]
  ·refine Br.ofP (fun g2 => ?_) (fun g2 => ?_) <;> simp (disch := omega) only [go_sem,g2]
   ·refine Br.ofP (fun g3 => ?_) (fun g3 => ?_) <;> simp (disch := omega) only [go_sem,g3]
    ·rw [yes ⟨g1,g2,g3⟩]
     rfl
    ·exact .of (by omega) rfl (no (fun hn => g3 hn.2.2))
   ·exact .of (by omega) rfl (no (fun hn => g2 hn.2.1))
  ·exact .of (by omega) rfl (no (fun hn => g1 hn.1))
 ·simp (disch := omega) only [go_sem]
  rw [hi,drop_end h]
  rfl
@[go_sem] theorem r39 (t : Nat) (a : Auto) (s : Int) (d : Bool) (x : Int) (hl : a.edges.length ≤ 2 ^ 63 - 1) :
  res A PrA 39 [.agg [.int .i64 a.states,.int .i64 a.start,.lst t (a.edges.map Edge.c)],.int .i64 s,.bool d,.int .i64 x] = some [.int .i64 ((nextE s d x a.edges).getD 0),.bool (nextE s d x a.edges).isSome] := by
 refine res_of a39 rfl rfl ?_
 simp only [F39]; try delta sS tT zZ nN gG bB pZ
 simp (disch := omega) only [go_sem]
 refine W.upto a.edges.length (fun k => ⟨[(1,.pv (.int .i64 s)),(2,.pv (.bool d)),(3,.pv (.int .i64 x)),(4,.ptr 4 0),(10,.pv (.int .i64 k))],⟨[(4,[.pv (.int .i64 a.states),.pv (.int .i64 a.start),.pv (.lst t (a.edges.map Edge.c))])],[],[]⟩⟩) (fun k => nextE s d x a.edges = nextE s d x (a.edges.drop k)) rfl rfl fun k hk hi => ?_
 simp (disch := omega) only [go_sem]
 refine Br.ofP (fun h => ?_) (fun h => ?_)
 ·obtain ⟨e,he⟩ := get_at (l := a.edges) (k := k) (by omega)
  rw [drop_at he] at hi
  have no : ¬ (e.fr = s ∧ e.send = d ∧ e.label = x) → nextE s d x a.edges = nextE s d x (a.edges.drop (k + 1)) := fun hn => hi.trans (by simp only [nextE,if_neg hn])
  have yes : (e.fr = s ∧ e.send = d ∧ e.label = x) → nextE s d x a.edges = some e.to := fun hn => hi.trans (by simp only [nextE,if_pos hn])
  simp (disch := omega) only [go_sem,he]
  refine Br.ofP (fun g1 => ?_) (fun g1 => ?_) <;> simp (disch := omega) only [go_sem,g1]
  ·refine Br.ofP (fun g2 => ?_) (fun g2 => ?_) <;> simp (disch := omega) only [go_sem,g2]
   ·refine Br.ofP (fun g3 => ?_) (fun g3 => ?_) <;> simp (disch := omega) only [go_sem,g3]
    ·rw [yes ⟨g1,g2,g3⟩]
     rfl
    ·exact .of (by omega) rfl (no (fun hn => g3 hn.2.2))
   ·exact .of (by omega) rfl (no (fun hn => g2 hn.2.1))
  ·exact .of (by omega) rfl (no (fun hn => g1 hn.1))
 ·simp (disch := omega) only [go_sem]
  rw [hi,drop_end h]
  rfl
end Go.Pv
namespace Go.Pv
variable {A : Nat → Option AFunc} {Pr : Prims}
def grV (n : Nat) : List (List PV) → V
 | [] => .tl []
 | _ :: r => .own n r.length 0 (r.length + 1)
def grA (k : Nat) : List (List PV) → List Arr
 | [] => []
 | x :: r => [⟨r.length,k,.inl (x :: r)⟩]
def grT (n k : Nat) (rows : List (List PV)) (r : List PV) : Tn :=
 match rows with
 | [] => { push := [⟨0,k,.inl [r]⟩],base := n }
 | x :: q => { ar := some (n,⟨q.length + 1,k,.inl (x :: q ++ [r])⟩) }
theorem grow (bx : List (Nat × List V)) (mp : List (List (PV × PV))) (pre : List Arr) (k : Nat) (rows : List (List PV)) (r : List PV) (hr : r.length = k) (hm : rows.length + 1 ≤ 2147483648) :
  appendV ⟨bx,pre ++ grA k rows,mp⟩ k (grV pre.length rows) (.tl [r]) = some (grV pre.length (rows ++ [r]),grT pre.length k rows r) := by
 cases rows with
 | nil => simp [appendV,grV,grA,grT,srcRows,rowsFit,rowsLen,hr,catRows,mostRows]
 | cons x q =>
  have h1 : ownArr ⟨bx,pre ++ grA k (x :: q),mp⟩ pre.length q.length = some ⟨q.length,k,.inl (x :: q)⟩ := by simp [ownArr,grA]
  have h2 : (⟨q.length,k,.inl (x :: q)⟩ : Arr).size = q.length + 1 := rfl
  have h3 : ((x :: q).drop 0).take (q.length + 1) = x :: q := by simp
  simp only [List.length_cons] at hm
  simp [appendV,grV,grT,srcRows,rowsFit,rowsLen,hr,h1,h2,catRows,cutRows,mostRows]
  omega
theorem grT_apply (bx : List (Nat × List V)) (mp : List (List (PV × PV))) (pre : List Arr) (k : Nat) (rows : List (List PV)) (r : List PV) :
  (grT pre.length k rows r).apply ⟨bx,pre ++ grA k rows,mp⟩ = ⟨bx,pre ++ grA k (rows ++ [r]),mp⟩ := by
 cases rows with
 | nil => simp [grT,Tn.apply,grA]
 | cons x q => simp [grT,Tn.apply,grA]
@[go_sem] theorem grow0 (bx : List (Nat × List V)) (mp : List (List (PV × PV))) (k : Nat) (rows : List (List PV)) (r : List PV) (hr : r.length = k) (hm : rows.length + 1 ≤ 2147483648) :
  appendV ⟨bx,grA k rows,mp⟩ k (grV 0 rows) (.tl [r]) = some (grV 0 (rows ++ [r]),grT 0 k rows r) := grow bx mp [] k rows r hr hm
@[go_sem] theorem grow1 (bx : List (Nat × List V)) (mp : List (List (PV × PV))) (a : Arr) (k : Nat) (rows : List (List PV)) (r : List PV) (hr : r.length = k) (hm : rows.length + 1 ≤ 2147483648) :
  appendV ⟨bx,a :: grA k rows,mp⟩ k (grV 1 rows) (.tl [r]) = some (grV 1 (rows ++ [r]),grT 1 k rows r) := grow bx mp [a] k rows r hr hm
@[go_sem] theorem grT_apply0 (bx : List (Nat × List V)) (mp : List (List (PV × PV))) (k : Nat) (rows : List (List PV)) (r : List PV) :
  (grT 0 k rows r).apply ⟨bx,grA k rows,mp⟩ = ⟨bx,grA k (rows ++ [r]),mp⟩ := grT_apply bx mp [] k rows r
@[go_sem] theorem grT_apply1 (bx : List (Nat × List V)) (mp : List (List (PV × PV))) (a : Arr) (k : Nat) (rows : List (List PV)) (r : List PV) :
  (grT 1 k rows r).apply ⟨bx,a :: grA k rows,mp⟩ = ⟨bx,a :: grA k (rows ++ [r]),mp⟩ := grT_apply bx mp [a] k rows r
@[go_sem] theorem lenV_gr (h : Heap) (n : Nat) (rows : List (List PV)) : lenV h 0 (grV n rows) = some (rows.length,{}) := by cases rows <;> rfl
@[go_sem] theorem cells_gr (n : Nat) (rows : List (List PV)) : V.cells (grV n rows) = [grV n rows] := by cases rows <;> rfl
@[go_sem] theorem calm_gr (n : Nat) (rows : List (List PV)) : V.calm (grV n rows) = true := by cases rows <;> rfl
@[go_sem] theorem sized_gr (n : Nat) (rows : List (List PV)) : V.sized (grV n rows) = true := by cases rows <;> rfl
@[go_sem] theorem scrub_gr (kb : List Nat) (n : Nat) (rows : List (List PV)) : scrub kb (grV n rows) = grV n rows := by cases rows <;> rfl
@[go_sem] theorem okc_gr (kb : List Nat) (n : Nat) (rows : List (List PV)) : okc kb (grV n rows) = true := by cases rows <;> rfl
@[go_sem] theorem purec_gr (n : Nat) (rows : List (List PV)) : V.purec (grV n rows) = none := by cases rows <;> rfl
theorem own_gr (bx : List (Nat × List V)) (mp : List (List (PV × PV))) (pre post : List Arr) (k : Nat) (x : List PV) (q : List (List PV)) : ownArr ⟨bx,pre ++ (grA k (x :: q) ++ post),mp⟩ pre.length q.length = some ⟨q.length,k,.inl (x :: q)⟩ := by simp [ownArr,grA]
theorem keepc_gr (bx : List (Nat × List V)) (mp : List (List (PV × PV))) (pre : List Arr) (k d : Nat) (rows : List (List PV)) : keepc ⟨bx,pre ++ grA k rows,mp⟩ (d + 1) (grV pre.length rows) = some (.lst 0 rows) := by
 cases rows with
 | nil => rfl
 | cons x q =>
  have := own_gr bx mp pre [] k x q
  rw [List.append_nil] at this
  simp [grV,keepc_own,this,keepRows,cutRows]
@[go_sem] theorem keepc_gr0 (bx : List (Nat × List V)) (mp : List (List (PV × PV))) (k : Nat) (rows : List (List PV)) : keepc ⟨bx,grA k rows,mp⟩ 4 (grV 0 rows) = some (.lst 0 rows) := keepc_gr bx mp [] k 3 rows
@[go_sem] theorem keepc_gr1 (bx : List (Nat × List V)) (mp : List (List (PV × PV))) (a : Arr) (k : Nat) (rows : List (List PV)) : keepc ⟨bx,a :: grA k rows,mp⟩ 4 (grV 1 rows) = some (.lst 0 rows) := keepc_gr bx mp [a] k 3 rows
@[go_sem] theorem keep_gr (h : Heap) (n : Nat) (rows : List (List PV)) : keep h false (grV n rows) = keepc h 4 (grV n rows) := by cases rows <;> rfl
def grG : List (List PV) → Nat
 | [] => 0
 | _ => 1
theorem lendc_gr (bx : List (Nat × List V)) (mp : List (List (PV × PV))) (pre : List Arr) (k d : Nat) (rows : List (List PV)) : lendc ⟨bx,pre ++ grA k rows,mp⟩ (d + 1) (grV pre.length rows) = some (.lst (grG rows) rows) := by
 cases rows with
 | nil => rfl
 | cons x q =>
  have := own_gr bx mp pre [] k x q
  rw [List.append_nil] at this
  simp [grV,lendc,this,cutRows,grG]
@[go_sem] theorem lendc_gr0 (bx : List (Nat × List V)) (mp : List (List (PV × PV))) (k : Nat) (rows : List (List PV)) : lendc ⟨bx,grA k rows,mp⟩ 4 (grV 0 rows) = some (.lst (grG rows) rows) := lendc_gr bx mp [] k 3 rows
@[go_sem] theorem lend_gr (h : Heap) (n : Nat) (rows : List (List PV)) : lend h (grV n rows) = lendc h 4 (grV n rows) := by cases rows <;> rfl
theorem grV_own {i n : Nat} {rows : List (List PV)} (h : rows.length = n + 1) : grV i rows = .own i n 0 (n + 1) := by
 match rows,h with
 | x :: q,h =>
  simp at h
  simp [grV,h]
theorem grA_own {k n : Nat} {rows : List (List PV)} (h : rows.length = n + 1) : grA k rows = [⟨n,k,.inl rows⟩] := by
 match rows,h with
 | x :: q,h =>
  simp at h
  simp [grA,h]
def chkR {α : Type} (i : Int) (len : Nat) (v : α) : Option α := if 0 ≤ i ∧ i ≤ len then some v else none
@[go_sem] theorem chkR_ok {α : Type} {i : Int} {len : Nat} {v : α} (h0 : 0 ≤ i) (h1 : i ≤ (len : Int)) : chkR i len v = some v := if_pos ⟨h0,h1⟩
end Go.Pv
namespace Go.Pv
@[go_sem] theorem ints_nil : ints [] = [] := rfl
@[go_sem] theorem ints_snoc (l : List Int) (x : Int) : ints l ++ [[.int .i64 x]] = ints (l ++ [x]) := by simp [ints]
def edgs (l : List Edge) : List (List PV) := l.map Edge.c
@[go_sem] theorem edgs_length (l : List Edge) : (edgs l).length = l.length := by simp [edgs]
@[go_sem] theorem edgs_nil : edgs [] = [] := rfl
@[go_sem] theorem edgs_get (l : List Edge) (i : Nat) : (edgs l)[i]? = l[i]?.map Edge.c := by simp [edgs]
theorem edgs_snoc (l : List Edge) (e : Edge) : edgs l ++ [e.c] = edgs (l ++ [e]) := by simp [edgs]
@[go_sem] theorem grow0e (bx : List (Nat × List V)) (mp : List (List (PV × PV))) (l : List Edge) (f : Int) (s : Bool) (x t : Int) (hm : l.length + 1 ≤ 2147483648) :
  appendV ⟨bx,grA 4 (edgs l),mp⟩ 4 (grV 0 (edgs l)) (.tl [[.int .i64 f,.bool s,.int .i64 x,.int .i64 t]]) = some (grV 0 (edgs (l ++ [⟨f,s,x,t⟩])),grT 0 4 (edgs l) (Edge.c ⟨f,s,x,t⟩)) := by
 rw [← edgs_snoc]
 exact grow0 bx mp  4 (edgs l) (Edge.c ⟨f,s,x,t⟩) rfl (by rw [edgs_length]; exact hm)
@[go_sem] theorem grow1i (bx : List (Nat × List V)) (mp : List (List (PV × PV))) (a : Arr) (l : List Int) (x : Int) (hm : l.length + 1 ≤ 2147483648) :
  appendV ⟨bx,a :: grA 1 (ints l),mp⟩ 1 (grV 1 (ints l)) (.tl [[.int .i64 x]]) = some (grV 1 (ints (l ++ [x])),grT 1 1 (ints l) [.int .i64 x]) := by
 rw [grow1 bx mp a 1 (ints l) [.int .i64 x] rfl (by rw [ints_length]; exact hm),ints_snoc]
def bools (l : List Bool) : List (List PV) := l.map fun b => [.bool b]
@[go_sem] theorem bools_length (l : List Bool) : (bools l).length = l.length := by simp [bools]
@[go_sem] theorem bools_get (l : List Bool) (i : Nat) : (bools l)[i]? = l[i]?.map fun b => [.bool b] := by simp [bools]
theorem bools_set (l : List Bool) (i : Nat) (b : Bool) : (bools l).set i [.bool b] = bools (l.set i b) := by simp [bools,List.map_set]
@[go_sem] theorem bools_store {id row ver : Nat} {b : Bool} {l : List Bool} (h1 : row < l.length) : storeRow id row 0 [.pv (.bool b)] ⟨ver,1,.inl (bools l)⟩ = some { ar := some (id,⟨ver,1,.inl (bools (l.set row b))⟩) } := by
 rw [storeRow_one (by rw [bools_length]; exact h1) rfl (.inr ⟨.bool l[row],by simp [bools,h1]⟩) rfl,bools_set]
@[go_sem] theorem bools_made (n : Nat) (b : Bool) : sameRows n [.pv (.bool b)] = .inl (bools (List.replicate n b)) := by
 simp [sameRows,mapO,V.purec,PV.perm,bools]
end Go.Pv
namespace Go.Pv
def isEnd (s : Int) : List Edge → Bool
 | [] => true
 | e :: r => if e.fr = s then false else isEnd s r
def endsTo (es : List Edge) : Nat → List Int
 | 0 => []
 | k + 1 => if isEnd k es then endsTo es k ++ [(k : Int)] else endsTo es k
theorem endsTo_len (es : List Edge) : ∀ k,(endsTo es k).length ≤ k
 | 0 => Nat.le_refl _
 | k + 1 => by
  have := endsTo_len es k
  unfold endsTo
  split <;> simp <;> omega
def Auto.ends (a : Auto) : List Int := if a.states ≤ 12 then endsTo a.edges a.states.toNat else []
def busyTo (n : Nat) (es : List Edge) : Nat → List Bool
 | 0 => List.replicate n false
 | k + 1 => match es[k]? with
  | some e => if 0 ≤ e.fr ∧ e.fr < n then (busyTo n es k).set e.fr.toNat true else busyTo n es k
  | none => busyTo n es k
theorem busyTo_len (n : Nat) (es : List Edge) : ∀ k,(busyTo n es k).length = n
 | 0 => by simp [busyTo]
 | k + 1 => by
  have := busyTo_len n es k
  unfold busyTo
  split
  ·split <;> simp [this]
  ·exact this
theorem isEnd_snoc (s : Int) (e : Edge) : ∀ l : List Edge,isEnd s (l ++ [e]) = (isEnd s l && !decide (e.fr = s))
 | [] => by by_cases h : e.fr = s <;> simp [isEnd,h]
 | d :: l => by
  simp only [List.cons_append,isEnd]
  rw [isEnd_snoc s e l]
  split <;> simp
theorem busyTo_get (n : Nat) (es : List Edge) : ∀ k,k ≤ es.length → ∀ s,s < n → (busyTo n es k)[s]? = some (!isEnd s (es.take k))
 | 0,_,s,hs => by simp [busyTo,isEnd,hs]
 | k + 1,hk,s,hs => by
  have ih := busyTo_get n es k (by omega) s hs
  have hlen := busyTo_len n es k
  obtain ⟨e,he⟩ : ∃ e,es[k]? = some e := ⟨es[k],by simp⟩
  have ht : es.take (k + 1) = es.take k ++ [e] := by rw [List.take_add_one,he]; rfl
  rw [ht,isEnd_snoc]
  simp only [busyTo,he]
  by_cases h : e.fr = (s : Int)
  ·rw [if_pos (by omega),h]
   simp [hlen,hs]
  ·by_cases h2 : 0 ≤ e.fr ∧ e.fr < n
   ·rw [if_pos h2,List.getElem?_set_ne (by omega),ih]
    simp [h]
   ·rw [if_neg h2,ih]
    simp [h]
@[go_sem] theorem r95 (t : Nat) (a : Auto) (hl : a.edges.length ≤ 2 ^ 63 - 1) :
  res A PrA 95 [.agg [.int .i64 a.states,.int .i64 a.start,.lst t (a.edges.map Edge.c)]] = some [.lst 0 (ints a.ends)] := by
 refine res_of a95 rfl rfl ?_
 simp only [F95]; try delta sS tT zZ nN gG bB pZ
 simp (disch := omega) only [go_sem]
 refine Br.ofP (fun h1 => ?_) (fun h1 => ?_) <;> simp (disch := omega) only [go_sem,h1]
 ·have : a.ends = [] := by
   unfold Auto.ends
   rw [if_pos (by omega),show a.states.toNat = 0 by omega]
   rfl
  rw [this]
  rfl
 refine Br.ofP (fun h2 => ?_) (fun h2 => ?_) <;> simp (disch := omega) only [go_sem,h2]
 ·have : a.ends = [] := if_neg (by omega)
  rw [this]
  rfl
 have he : a.ends = endsTo a.edges a.states.toNat := if_pos (by omega)
 rw [he]
 refine W.upto a.edges.length (fun k => ⟨[(1,.ptr 1 0),(3,.own 0 0 0 a.states.toNat),(21,.pv (.lst t (a.edges.map Edge.c))),(22,.pv (.int .i64 a.edges.length)),(23,.pv (.int .i64 k))],⟨[(1,[.pv (.int .i64 a.states),.pv (.int .i64 a.start),.pv (.lst t (a.edges.map Edge.c))])],[⟨0,1,.inl (bools (busyTo a.states.toNat a.edges k))⟩],[]⟩⟩) (fun _ => True) rfl trivial fun k hk hi => ?_
 have hbl := busyTo_len a.states.toNat a.edges k
 simp (disch := omega) only [go_sem]
 refine Br.ofP (fun h => ?_) (fun h => ?_)
 ·obtain ⟨e,hke⟩ := get_at (l := a.edges) (k := k) (by omega)
  have hb : busyTo a.states.toNat a.edges (k + 1) = if 0 ≤ e.fr ∧ e.fr < a.states.toNat then (busyTo a.states.toNat a.edges k).set e.fr.toNat true else busyTo a.states.toNat a.edges k := by simp only [busyTo,hke]
  simp (disch := omega) only [go_sem,hke]
  refine Br.ofP (fun g1 => ?_) (fun g1 => ?_) <;> simp (disch := omega) only [go_sem,g1]
  ·refine Br.ofP (fun g2 => ?_) (fun g2 => ?_) <;> simp (disch := omega) only [go_sem,g2]
   ·refine .of (by omega) ?_ trivial
    show _ = St.mk _ _
    rw [hb,if_pos (by omega)]
    rfl
   ·refine .of (by omega) ?_ trivial
    show _ = St.mk _ _
    rw [hb,if_neg (by omega)]
    rfl
  ·refine .of (by omega) ?_ trivial
   show _ = St.mk _ _
   rw [hb,if_neg (by omega)]
   rfl
 obtain rfl : k = a.edges.length := by omega
 have hget := fun s hs => busyTo_get a.states.toNat a.edges a.edges.length (Nat.le_refl _) s hs
 simp only [List.take_length] at hget
 generalize busyTo a.states.toNat a.edges a.edges.length = bs at hbl hget
 simp (disch := omega) only [go_sem]
 refine W.upto a.states.toNat (fun k => ⟨[(6,grV 1 (ints (endsTo a.edges k))),(42,.own 0 0 0 a.states.toNat),(43,.pv (.int .i64 a.states.toNat)),(44,.pv (.int .i64 k))],⟨[],⟨0,1,.inl (bools bs)⟩ :: grA 1 (ints (endsTo a.edges k)),[]⟩⟩) (fun _ => True) rfl trivial fun k hk hi => ?_
 have hle := endsTo_len a.edges k
 simp (disch := omega) only [go_sem]
 refine Br.ofP (fun g => ?_) (fun g => ?_)
 ·have hx := hget k (by omega)
  simp (disch := omega) only [go_sem,hx]
  refine Br.of (fun g2 => ?_) (fun g2 => ?_) <;> simp (disch := omega) only [go_sem]
  ·refine .of (by omega) ?_ trivial
   simp only [endsTo,g2,if_true]
   rfl
  ·refine .of (by omega) ?_ trivial
   simp only [endsTo,g2]
   rfl
 ·obtain rfl : k = a.states.toNat := by omega
  simp (disch := omega) only [go_sem]
end Go.Pv
namespace Go.Pv
def atFrom (x : Int) : Nat → List Int → Int
 | _,[] => -1
 | k,y :: r => if y = x then k else atFrom x (k + 1) r
def atL (x : Int) (l : List Int) : Int := atFrom x 0 l
end Go.Pv
namespace Go.Pv
end Go.Pv
namespace Go.Pv
@[go_sem] theorem ownIds_one (a b c d : Nat) : distinct (ownIds [.own a b c d]) = true := rfl
end Go.Pv
namespace Go.Pv
def apI (id ver off len : Nat) (x : Int) (a : Arr) : Option (V × Tn) :=
 if off + len ≤ a.size ∧ a.k = 1 ∧ len + 1 ≤ mostRows then some (.own id (ver + 1) 0 (len + 1),{ ar := some (id,⟨ver + 1,1,catRows (cutRows off len a.body) (.inl [[.int .i64 x]])⟩) }) else none
@[go_sem] theorem app_own (h : Heap) (id ver off len : Nat) (x : Int) : appendV h 1 (.own id ver off len) (.tl [[.int .i64 x]]) = (ownArr h id ver).bind (apI id ver off len x) := by
 cases ho : ownArr h id ver with
 | none => simp [appendV,srcRows,rowsFit,ho]
 | some a =>
  simp only [appendV,srcRows,rowsFit,ho,rowsLen,apI,List.all_cons,List.all_nil,List.length_cons,List.length_nil,Option.bind_some]
  by_cases h1 : off + len ≤ a.size <;> by_cases h2 : a.k = 1 <;> by_cases h3 : len + 1 ≤ mostRows <;> simp [h1,h2,h3]
@[go_sem] theorem apI_ok {id ver len : Nat} {x : Int} {l : List Int} (h1 : len = l.length) (h2 : l.length + 1 ≤ 2147483648) : apI id ver 0 len x ⟨ver,1,.inl (ints l)⟩ = some (.own id (ver + 1) 0 (len + 1),{ ar := some (id,⟨ver + 1,1,.inl (ints (l ++ [x]))⟩) }) := by
 subst h1
 unfold apI
 rw [if_pos ⟨by simp [Arr.size,ints],rfl,h2⟩]
 have : List.take l.length (List.map (fun x => [PV.int IntKind.i64 x]) l) = List.map (fun x => [PV.int IntKind.i64 x]) l := List.take_of_length_le (by simp)
 simp [catRows,cutRows,ints,this]
@[go_sem] theorem app_tl (h : Heap) (x : Int) : appendV h 1 (.tl []) (.tl [[.int .i64 x]]) = some (.own h.ar.length 0 0 1,{ push := [⟨0,1,.inl (ints [x])⟩],base := h.ar.length }) := by
 simp [appendV,srcRows,rowsFit,rowsLen,mostRows,catRows,ints]
end Go.Pv
namespace Go.Pv
variable {A : Nat → Option AFunc} {Pr : Prims}
def foldK {σ : Type} (S : Nat → σ → St) (I : Nat → σ → Prop) (k : Nat) (acc : σ) (Q : Ex → St → Prop) (_t : Tie (S,I,k,acc,Q) := .mk) : Ex → St → Prop
 | .normal,s => s = S k acc ∧ I k acc
 | .exit i,s => Q (.exit i) s
 | .ret,s => Q .ret s
@[go_sem] theorem foldK_exit {σ : Type} (S : Nat → σ → St) (I : Nat → σ → Prop) (k : Nat) (acc : σ) (Q : Ex → St → Prop) (i : Nat) (s : St) : foldK S I k acc Q .mk (.exit i) s = Q (.exit i) s := rfl
@[go_sem] theorem foldK_ret {σ : Type} (S : Nat → σ → St) (I : Nat → σ → Prop) (k : Nat) (acc : σ) (Q : Ex → St → Prop) (s : St) : foldK S I k acc Q .mk .ret s = Q .ret s := rfl
theorem foldK.of {σ : Type} {S : Nat → σ → St} {I : Nat → σ → Prop} {k : Nat} {acc : σ} {Q : Ex → St → Prop} {s : St} (h : s = S k acc) (h2 : I k acc) : foldK S I k acc Q .mk .normal s := ⟨h,h2⟩
def exitK (Q : Ex → St → Prop) (_t : Tie Q := .mk) : Ex → St → Prop
 | .normal,_ => False
 | .exit i,s => Q (.exit i) s
 | .ret,s => Q .ret s
@[go_sem] theorem exitK_exit (Q : Ex → St → Prop) (i : Nat) (s : St) : exitK Q .mk (.exit i) s = Q (.exit i) s := rfl
@[go_sem] theorem exitK_ret (Q : Ex → St → Prop) (s : St) : exitK Q .mk .ret s = Q .ret s := rfl
theorem W.fold {σ α : Type} {a : AC} {s : St} {Q : Ex → St → Prop} (l : List α) (f : σ → α → σ) (x0 : σ) (S : Nat → σ → St) (I : Nat → σ → Prop) (hs : s = S 0 x0) (h0 : I 0 x0)
  (hr : ∀ k x acc,l[k]? = some x → k < l.length → acc = (l.take k).foldl f x0 → I k acc → W A Pr a (S k acc) (foldK S I (k + 1) (f acc x) Q))
  (he : ∀ acc,acc = l.foldl f x0 → I l.length acc → W A Pr a (S l.length acc) (exitK Q)) : W A Pr (.loop a) s Q := by
 refine W.upto l.length (fun k => S k ((l.take k).foldl f x0)) (fun k => I k ((l.take k).foldl f x0)) (by simpa using hs) (by simpa using h0) fun k hk hi => ?_
 rcases Nat.lt_or_ge k l.length with h | h
 ·obtain ⟨x,hx⟩ : ∃ x,l[k]? = some x := ⟨l[k],by simp [h]⟩
  obtain ⟨ex,s',h1,h2⟩ := hr k x _ hx h rfl hi
  have ht : (l.take (k + 1)).foldl f x0 = f ((l.take k).foldl f x0) x := by rw [List.take_add_one,hx]; simp [List.foldl_append]
  refine ⟨ex,s',h1,?_⟩
  cases ex with
  | normal => exact .of h (by rw [ht]; exact h2.1) (by rw [ht]; exact h2.2)
  | exit i => exact h2
  | ret => exact h2
 ·obtain rfl : k = l.length := by omega
  rw [List.take_length] at hi ⊢
  obtain ⟨ex,s',h1,h2⟩ := he _ rfl hi
  refine ⟨ex,s',h1,?_⟩
  cases ex with
  | normal => exact h2.elim
  | exit i => exact h2
  | ret => exact h2
def findK (S : Nat → St) (k : Nat) (p : Bool) (Q : Ex → St → Prop) (_t : Tie (S,k,p,Q) := .mk) : Ex → St → Prop
 | .normal,s => p = false ∧ s = S k
 | .exit i,s => Q (.exit i) s
 | .ret,s => Q .ret s
@[go_sem] theorem findK_exit (S : Nat → St) (k : Nat) (p : Bool) (Q : Ex → St → Prop) (i : Nat) (s : St) : findK S k p Q .mk (.exit i) s = Q (.exit i) s := rfl
@[go_sem] theorem findK_ret (S : Nat → St) (k : Nat) (p : Bool) (Q : Ex → St → Prop) (s : St) : findK S k p Q .mk .ret s = Q .ret s := rfl
theorem findK.of {S : Nat → St} {k : Nat} {p : Bool} {Q : Ex → St → Prop} {s : St} (h : p = false) (h2 : s = S k) : findK S k p Q .mk .normal s := ⟨h,h2⟩
structure Found {α : Type} (l : List α) (p : α → Bool) (k : Nat) (x : α) : Prop where
 any : l.any p = true
 all : l.all (fun y => !p y) = false
 find : l.find? p = some x
 idx : l.findIdx? p = some k
structure Nowhere {α : Type} (l : List α) (p : α → Bool) : Prop where
 any : l.any p = false
 all : l.all (fun y => !p y) = true
 find : l.find? p = none
 idx : l.findIdx? p = none
theorem found_of {α : Type} {l : List α} {p : α → Bool} {k : Nat} {x : α} (hb : ∀ j,j < k → ∀ y,l[j]? = some y → p y = false) (hx : l[k]? = some x) (hp : p x = true) : Found l p k x := by
 obtain ⟨hk,rfl⟩ := List.getElem?_eq_some_iff.1 hx
 have hi : l.findIdx? p = some k := by
  rw [List.findIdx?_eq_some_iff_getElem]
  exact ⟨hk,hp,fun j hj => by simpa using hb j hj _ (by rw [List.getElem?_eq_getElem (by omega)])⟩
 refine ⟨List.any_eq_true.2 ⟨_,List.getElem_mem hk,hp⟩,?_,?_,hi⟩
 ·rw [List.all_eq_false]
  exact ⟨_,List.getElem_mem hk,by simp [hp]⟩
 ·rw [List.find?_eq_some_iff_getElem]
  exact ⟨hp,k,hk,rfl,fun j hj => by simpa using hb j hj _ (by rw [List.getElem?_eq_getElem (by omega)])⟩
theorem nowhere_of {α : Type} {l : List α} {p : α → Bool} (hb : ∀ j,j < l.length → ∀ y,l[j]? = some y → p y = false) : Nowhere l p := by
 have hm : ∀ x ∈ l,p x = false := fun x hx => by
  obtain ⟨j,hj,rfl⟩ := List.getElem_of_mem hx
  exact hb j hj _ (by rw [List.getElem?_eq_getElem])
 exact ⟨by rw [List.any_eq_false]; intro x hx; simp [hm x hx],by rw [List.all_eq_true]; intro x hx; simp [hm x hx],by rw [List.find?_eq_none]; intro x hx; simp [hm x hx],by rw [List.findIdx?_eq_none_iff]; exact hm⟩
theorem W.find {α : Type} {a : AC} {s : St} {Q : Ex → St → Prop} (l : List α) (p : α → Bool) (S : Nat → St) (hs : s = S 0)
  (hr : ∀ k x,l[k]? = some x → k < l.length → (p x = true → Found l p k x) → W A Pr a (S k) (findK S (k + 1) (p x) Q))
  (he : Nowhere l p → W A Pr a (S l.length) (exitK Q)) : W A Pr (.loop a) s Q := by
 refine W.upto l.length S (fun k => ∀ j,j < k → ∀ y,l[j]? = some y → p y = false) hs (fun j hj => absurd hj (Nat.not_lt_zero _)) fun k hk hi => ?_
 rcases Nat.lt_or_ge k l.length with h | h
 ·obtain ⟨x,hx⟩ : ∃ x,l[k]? = some x := ⟨l[k],by simp [h]⟩
  obtain ⟨ex,s',h1,h2⟩ := hr k x hx h (fun hp => found_of hi hx hp)
  refine ⟨ex,s',h1,?_⟩
  cases ex with
  | normal =>
   refine .of h h2.2 fun j hj y hy => ?_
   rcases Nat.lt_or_ge j k with g | g
   ·exact hi j g y hy
   ·obtain rfl : j = k := by omega
    rw [hx] at hy
    cases hy
    exact h2.1
  | exit i => exact h2
  | ret => exact h2
 ·obtain rfl : k = l.length := by omega
  obtain ⟨ex,s',h1,h2⟩ := he (nowhere_of hi)
  refine ⟨ex,s',h1,?_⟩
  cases ex with
  | normal => exact h2.elim
  | exit i => exact h2
  | ret => exact h2
def againK (A : Nat → Option AFunc) (Pr : Prims) (a : AC) (Q : Ex → St → Prop) (_t : Tie (a,Q) := .mk) : Ex → St → Prop
 | .normal,s => W A Pr (.loop a) s Q
 | .exit i,s => Q (.exit i) s
 | .ret,s => Q .ret s
@[go_sem] theorem againK_normal (a : AC) (Q : Ex → St → Prop) (s : St) : againK A Pr a Q .mk .normal s = W A Pr (.loop a) s Q := rfl
@[go_sem] theorem againK_exit (a : AC) (Q : Ex → St → Prop) (i : Nat) (s : St) : againK A Pr a Q .mk (.exit i) s = Q (.exit i) s := rfl
@[go_sem] theorem againK_ret (a : AC) (Q : Ex → St → Prop) (s : St) : againK A Pr a Q .mk .ret s = Q .ret s := rfl
end Go.Pv
namespace Go.Pv
inductive Two where
 | e
 | a (x : Int) (l : List Int)
 | b (x : Int) (l : List Int)
 | ab (x : Int) (l : List Int) (y : Int) (r : List Int)
 | ba (x : Int) (l : List Int) (y : Int) (r : List Int)
def ow (i : Nat) (l : List Int) : V := .own i l.length 0 (l.length + 1)
def ao (x : Int) (l : List Int) : Arr := ⟨l.length,1,.inl (ints (x :: l))⟩
def Two.v0 : Two → V
 | .e | .b _ _ => .tl []
 | .a _ l | .ab _ l _ _ => ow 0 l
 | .ba _ l _ _ => ow 1 l
def Two.v1 : Two → V
 | .e | .a _ _ => .tl []
 | .b _ l | .ba _ _ _ l => ow 0 l
 | .ab _ _ _ r => ow 1 r
def Two.ar : Two → List Arr
 | .e => []
 | .a x l | .b x l => [ao x l]
 | .ab x l y r => [ao x l,ao y r]
 | .ba x l y r => [ao y r,ao x l]
def Two.l0 : Two → List Int
 | .e | .b _ _ => []
 | .a x l | .ab x l _ _ | .ba x l _ _ => x :: l
def Two.l1 : Two → List Int
 | .e | .a _ _ => []
 | .b x l | .ab _ _ x l | .ba _ _ x l => x :: l
def Two.put (s : Bool) (z : Int) : Two → Two
 | .e => if s then .b z [] else .a z []
 | .a x l => if s then .ab x l z [] else .a x (l ++ [z])
 | .b x l => if s then .b x (l ++ [z]) else .ba z [] x l
 | .ab x l y r => if s then .ab x l y (r ++ [z]) else .ab x (l ++ [z]) y r
 | .ba x l y r => if s then .ba x l y (r ++ [z]) else .ba x (l ++ [z]) y r
def Two.len (t : Two) : Nat := t.l0.length + t.l1.length
def sortI1 (id ver off len : Nat) (a : Arr) : Option (V × Tn) :=
 if len = 0 then some (.tup [],{ ra := some id }) else (match a.body with
    | .inl rows => if a.k = 1 ∧ off + len ≤ rows.length ∧ len ≤ mostRows then (match mapO intDec ((rows.drop off).take len) with
     | some l => some (.tup [],{ ar := some (id,⟨ver,1,.inl (rows.take off ++ (isort ltI l).map (fun x => [.int .i64 x]) ++ rows.drop (off + len))⟩) })
     | none => none) else none
    | .inr _ => none)
@[go_sem] theorem sortIP_tl (h : Heap) : sortIP [.tl []] h = some (.tup [],{}) := rfl
@[go_sem] theorem sortIP_own (h : Heap) (id ver off len : Nat) : sortIP [.own id ver off len] h = (ownArr h id ver).bind (sortI1 id ver off len) := by
 simp only [sortIP]
 cases ownArr h id ver <;> rfl
theorem ints_dec (l : List Int) : mapO intDec (ints l) = some l := by
 induction l with
 | nil => rfl
 | cons x l ih =>
  show mapO intDec ([.int .i64 x] :: ints l) = _
  simp only [mapO,intDec,ih]
@[go_sem] theorem sortI1_ints {id ver n : Nat} {l : List Int} (hn : n = l.length) (h0 : n ≠ 0) (hm : n ≤ 2147483648) : sortI1 id ver 0 n ⟨ver,1,.inl (ints l)⟩ = some (.tup [],{ ar := some (id,⟨ver,1,.inl (ints (isort ltI l))⟩) }) := by
 subst hn
 have e1 : (ints l).length = l.length := ints_length l
 simp [sortI1,h0,e1,mostRows,hm,ints_dec,List.take_of_length_le (Nat.le_of_eq e1),List.drop_eq_nil_of_le (Nat.le_of_eq e1)]
 rfl
@[go_sem] theorem lendAll_tl (h : Heap) : lendAll h true [.tl []] = some ([.lst 0 []],none) := rfl
end Go.Pv
namespace Go.Pv
theorem atFrom_neg {x : Int} : ∀ {l : List Int} {k : Nat},atFrom x k l < 0 ↔ x ∉ l
 | [],k => by simp [atFrom]
 | y :: r,k => by
  unfold atFrom
  split
  ·rename_i h
   subst h
   simp
  ·rename_i h
   rw [atFrom_neg]
   simp only [List.mem_cons,not_or]
   exact ⟨fun h2 => ⟨fun e => h e.symm,h2⟩,fun h2 => h2.2⟩
theorem atL_neg {x : Int} {l : List Int} : atL x l < 0 ↔ x ∉ l := atFrom_neg
theorem atL_pos {x : Int} {l : List Int} : 0 ≤ atL x l ↔ x ∈ l := by
 rw [← Int.not_lt,atL_neg]
 simp
end Go.Pv
namespace Go.Pv
structure Auto.Good (a : Auto) : Prop where
 st : 0 ≤ a.start ∧ a.start < a.states
 mx : a.states ≤ 12
 len : a.edges.length ≤ 100
 fit : ∀ e ∈ a.edges,e.fits a.states = true
 asc : a.edges.Pairwise (fun x y => Edge.lt x y = true)
theorem Edge.lt_irr (x : Edge) : Edge.lt x x = false := by simp [Edge.lt]
theorem Edge.lt_tr (x y z : Edge) (h1 : Edge.lt x y = true) (h2 : Edge.lt y z = true) : Edge.lt x z = true := by
 unfold Edge.lt at *
 by_cases a1 : x.fr = y.fr <;> by_cases a2 : y.fr = z.fr <;> by_cases b1 : x.send = y.send <;> by_cases b2 : y.send = z.send <;> simp_all <;> (try omega)
 all_goals (try (have : ¬ x.fr = z.fr := by omega); simp_all; omega)
theorem Edge.apt_iff {x y : Edge} : apt Edge.lt x y ↔ ¬ (x.fr = y.fr ∧ x.send = y.send ∧ x.label = y.label) := by
 unfold apt Edge.lt
 by_cases a1 : x.fr = y.fr
 ·cases h1 : x.send <;> cases h2 : y.send <;> simp [a1] <;> omega
 ·have : ¬ y.fr = x.fr := fun h => a1 h.symm
  simp [a1,this]
  omega
theorem chk_asc {n : Int} : ∀ {p : Option Edge} {l : List Edge},chk n p l = true → l.Pairwise (fun x y => Edge.lt x y = true) ∧ ∀ q,p = some q → ∀ e ∈ l,Edge.lt q e = true
 | _,[],_ => ⟨List.Pairwise.nil,fun _ _ e he => absurd he (by simp)⟩
 | p,x :: r,h => by
  simp only [chk,Bool.and_eq_true] at h
  obtain ⟨h1,h2⟩ := chk_asc h.2
  refine ⟨List.pairwise_cons.2 ⟨h2 x rfl,h1⟩,fun q hq e he => ?_⟩
  subst hq
  have hx : Edge.lt q x = true := h.1.2
  rcases List.mem_cons.1 he with rfl | he
  ·exact hx
  ·exact Edge.lt_tr _ _ _ hx (h2 x rfl e he)
theorem chk_of {n : Int} : ∀ {p : Option Edge} {l : List Edge},l.Pairwise (fun x y => Edge.lt x y = true) → (∀ e ∈ l,e.fits n = true) → (∀ q,p = some q → ∀ e ∈ l,Edge.lt q e = true) → chk n p l = true
 | _,[],_,_,_ => rfl
 | p,x :: r,h1,h2,h3 => by
  obtain ⟨g1,g2⟩ := List.pairwise_cons.1 h1
  simp only [chk,Bool.and_eq_true]
  refine ⟨⟨h2 x (by simp),?_⟩,chk_of g2 (fun e he => h2 e (by simp [he])) fun q hq e he => ?_⟩
  ·cases p with
   | none => rfl
   | some q => exact h3 q rfl x (by simp)
  ·cases hq
   exact g1 e he
theorem Auto.good_iff {a : Auto} : a.err = 0 ↔ a.Good := by
 unfold Auto.err
 constructor
 ·intro h
  split at h
  ·cases h
  ·split at h
   ·split at h
    ·rename_i h1 h2 h3
     exact ⟨h2,by omega,by omega,chk_fits h3,(chk_asc h3).1⟩
    ·cases h
   ·cases h
 ·intro h
  have := h.mx; have := h.len
  rw [if_neg (by omega),if_pos h.st,if_pos (chk_of h.asc h.fit (fun q hq => by cases hq))]
theorem nextE_some {s : Int} {d : Bool} {x t : Int} : ∀ {es : List Edge},es.Pairwise (apt Edge.lt) → (nextE s d x es = some t ↔ ⟨s,d,x,t⟩ ∈ es)
 | [],_ => by simp [nextE]
 | e :: r,h => by
  obtain ⟨h1,h2⟩ := List.pairwise_cons.1 h
  unfold nextE
  split
  ·rename_i hc
   constructor
   ·intro h
    cases h
    obtain ⟨rfl,rfl,rfl⟩ := hc
    exact List.mem_cons_self ..
   ·intro hm
    rcases List.mem_cons.1 hm with hm | hm
    ·rw [← hm]
    ·exact (Edge.apt_iff.1 (h1 _ hm) hc).elim
  ·rename_i hc
   rw [nextE_some h2,List.mem_cons]
   refine ⟨.inr,fun h => h.elim (fun h => ?_) id⟩
   rw [← h] at hc
   exact (hc ⟨rfl,rfl,rfl⟩).elim
theorem Auto.Good.apt {a : Auto} (h : a.Good) : a.edges.Pairwise (apt Edge.lt) := h.asc.imp .inl
def Edge.flip (e : Edge) : Edge := ⟨e.fr,!e.send,e.label,e.to⟩
def outs (es : List Edge) (v : Int) : List Int := (es.filter fun e => e.fr == v).map (·.to)
theorem outs_mem {es : List Edge} {v x : Int} : x ∈ outs es v ↔ ∃ e ∈ es,e.fr = v ∧ e.to = x := by simp [outs,and_assoc]
def Auto.from (a : Auto) (s : Int) : List Int := bfs (outs a.edges) a.states.toNat 0 [s]
def Auto.order (a : Auto) : List Int := a.from a.start
def Auto.inr (a : Auto) (v : Int) : Prop := 0 ≤ v ∧ v < a.states
theorem Auto.Good.outs_in {a : Auto} (h : a.Good) : ∀ v,a.inr v → ∀ x ∈ outs a.edges v,a.inr x := by
 intro v _ x hx
 obtain ⟨e,he,_,rfl⟩ := outs_mem.1 hx
 have := fits_iff.1 (h.fit e he)
 exact ⟨this.2.2.1,this.2.2.2.1⟩
theorem Auto.bound {a : Auto} : ∀ o : List Int,o.Nodup → (∀ v ∈ o,a.inr v) → o.length ≤ a.states.toNat := fun o hd ho => nodup_bound hd fun x hx => by
 have := ho x hx
 unfold Auto.inr at this
 omega
theorem Auto.Good.from_mem {a : Auto} (h : a.Good) {s v : Int} (hs : a.inr s) : v ∈ a.from s ↔ Rch (outs a.edges) s v := bfs_rch h.outs_in a.bound hs
theorem Auto.from_nodup (a : Auto) (s : Int) : (a.from s).Nodup := bfs_nodup _ _ (by simp)
theorem Auto.Good.from_in {a : Auto} (h : a.Good) {s : Int} (hs : a.inr s) : ∀ v ∈ a.from s,a.inr v := bfs_all h.outs_in _ _ (by simpa using hs)
theorem Auto.Good.from_len {a : Auto} (h : a.Good) {s : Int} (hs : a.inr s) : (a.from s).length ≤ a.states.toNat := a.bound _ (a.from_nodup s) (h.from_in hs)
theorem Auto.Good.order_closed {a : Auto} (h : a.Good) {e : Edge} (he : e ∈ a.edges) (hf : e.fr ∈ a.order) : e.to ∈ a.order := (h.from_mem h.st).2 (.step ((h.from_mem h.st).1 hf) (outs_mem.2 ⟨e,he,rfl,rfl⟩))
theorem Auto.order_head (a : Auto) : ∃ r,a.order = a.start :: r := by
 obtain ⟨t,ht⟩ := bfs_pre (nx := outs a.edges) a.states.toNat 0 [a.start]
 exact ⟨t,ht.symm⟩
theorem atFrom_get {x : Int} : ∀ {l : List Int} {k : Nat},x ∈ l → ∃ j,atFrom x k l = ((k + j : Nat) : Int) ∧ l[j]? = some x
 | [],_,h => absurd h (by simp)
 | y :: r,k,h => by
  unfold atFrom
  split
  ·rename_i hy
   exact ⟨0,rfl,by simp [hy]⟩
  ·rename_i hy
   rcases List.mem_cons.1 h with rfl | h
   ·exact (hy rfl).elim
   ·obtain ⟨j,h1,h2⟩ := atFrom_get (k := k + 1) h
    exact ⟨j + 1,by rw [h1]; omega,by simpa using h2⟩
theorem atL_get {x : Int} {l : List Int} (h : x ∈ l) : ∃ j : Nat,atL x l = (j : Int) ∧ l[j]? = some x := by
 obtain ⟨j,h1,h2⟩ := atFrom_get (k := 0) h
 exact ⟨j,by unfold atL; rw [h1,Nat.zero_add],h2⟩
theorem atL_inj {x y : Int} {l : List Int} (hx : x ∈ l) (hy : y ∈ l) (h : atL x l = atL y l) : x = y := by
 obtain ⟨i,h1,h2⟩ := atL_get hx
 obtain ⟨j,g1,g2⟩ := atL_get hy
 rw [h1,g1] at h
 have : i = j := by omega
 subst this
 rw [h2] at g2
 exact Option.some.inj g2
theorem atL_range {x : Int} {l : List Int} (hx : x ∈ l) : 0 ≤ atL x l ∧ atL x l < l.length := by
 obtain ⟨i,h1,h2⟩ := atL_get hx
 have := (List.getElem?_eq_some_iff.1 h2).1
 omega
def iota (n : Nat) : List Int := (List.range n).map Int.ofNat
theorem iota_mem {n : Nat} {x : Int} : x ∈ iota n ↔ 0 ≤ x ∧ x < n := by
 unfold iota
 rw [List.mem_map]
 constructor
 ·rintro ⟨k,hk,rfl⟩
  have := List.mem_range.1 hk
  simp
  omega
 ·intro h
  exact ⟨x.toNat,List.mem_range.2 (by omega),by simp; omega⟩
def Edge.ren (o : List Int) (e : Edge) : Edge := ⟨atL e.fr o,e.send,e.label,atL e.to o⟩
def kept (o : List Int) (es : List Edge) : List Edge := (es.filter fun e => decide (e.fr ∈ o)).map (Edge.ren o)
def Auto.trim (a : Auto) : Auto := ⟨a.order.length,0,isort Edge.lt (kept a.order a.edges)⟩
theorem kept_mem {o : List Int} {es : List Edge} {x : Edge} : x ∈ kept o es ↔ ∃ e ∈ es,e.fr ∈ o ∧ e.ren o = x := by simp [kept,and_assoc]
theorem kept_apt {o : List Int} {es : List Edge} (h : es.Pairwise (apt Edge.lt)) : (kept o es).Pairwise (apt Edge.lt) := by
 unfold kept
 rw [List.pairwise_map]
 have h2 := h.filter (fun e => decide (e.fr ∈ o))
 refine List.Pairwise.imp_of_mem (fun {x y} hx hy hxy => ?_) h2
 have hx' := (List.mem_filter.1 hx).2
 have hy' := (List.mem_filter.1 hy).2
 simp only [decide_eq_true_eq] at hx' hy'
 rw [Edge.apt_iff] at hxy ⊢
 exact fun ⟨e1,e2,e3⟩ => hxy ⟨atL_inj hx' hy' e1,e2,e3⟩
theorem Auto.trim_mem {a : Auto} {x : Edge} : x ∈ a.trim.edges ↔ ∃ e ∈ a.edges,e.fr ∈ a.order ∧ e.ren a.order = x := by
 show x ∈ isort _ _ ↔ _
 rw [(isort_perm _ _).mem_iff,kept_mem]
theorem Auto.Good.trim {a : Auto} (h : a.Good) : a.trim.Good where
 st := by
  obtain ⟨r,hr⟩ := a.order_head
  show (0 : Int) ≤ 0 ∧ (0 : Int) < (a.order.length : Int)
  rw [hr]
  simp
 mx := by
  have := h.from_len h.st
  have := h.mx
  show (a.order.length : Int) ≤ 12
  unfold Auto.order
  omega
 len := by
  show (isort _ (kept _ _)).length ≤ 100
  rw [(isort_perm _ _).length_eq]
  have := List.length_filter_le (fun e : Edge => decide (e.fr ∈ a.order)) a.edges
  have := h.len
  simp only [kept,List.length_map]
  omega
 fit x hx := by
  obtain ⟨e,he,hf,rfl⟩ := Auto.trim_mem.1 hx
  have := fits_iff.1 (h.fit e he)
  have h1 := atL_range hf
  have h2 := atL_range (h.order_closed he hf)
  rw [fits_iff]
  show 0 ≤ atL e.fr a.order ∧ atL e.fr a.order < (a.order.length : Int) ∧ 0 ≤ atL e.to a.order ∧ atL e.to a.order < (a.order.length : Int) ∧ _
  exact ⟨h1.1,h1.2,h2.1,h2.2,this.2.2.2.2⟩
 asc := isort_pw Edge.lt_tr (kept_apt h.apt)
theorem Auto.start_mem (a : Auto) : a.start ∈ a.order := by
 obtain ⟨r,hr⟩ := a.order_head
 rw [hr]
 simp
theorem Auto.Good.trim_next {a : Auto} (h : a.Good) {s : Int} (hs : s ∈ a.order) (d : Bool) (x : Int) : nextE (atL s a.order) d x a.trim.edges = (nextE s d x a.edges).map (atL · a.order) := by
 apply Option.ext
 intro t
 rw [nextE_some h.trim.apt,Auto.trim_mem,Option.map_eq_some_iff]
 constructor
 ·rintro ⟨e,he,hf,hr⟩
  obtain ⟨f,d',x',t'⟩ := e
  simp only [Edge.ren,Edge.mk.injEq] at hr
  obtain ⟨h1,rfl,rfl,rfl⟩ := hr
  have := atL_inj hf hs h1
  subst this
  exact ⟨t',(nextE_some h.apt).2 he,rfl⟩
 ·rintro ⟨t',hn,rfl⟩
  exact ⟨_,(nextE_some h.apt).1 hn,hs,rfl⟩
def Auto.proper (a : Auto) : Bool := a.order.all fun v => (a.from v).any fun w => isEnd w a.edges
end Go.Pv
namespace Go.Pv
def lvIn (d : Int) (s : List Int × List Int) (x : Int) : List Int × List Int := if s.1.getD x.toNat (-1) < 0 then (s.1.set x.toNat d,s.2 ++ [x]) else s
def lvRun (nx : Int → List Int) : Nat → Nat → List Int × List Int → List Int × List Int
 | 0,_,s => s
 | n + 1,i,s => match s.2[i]? with
  | none => s
  | some v => lvRun nx n (i + 1) ((nx v).foldl (lvIn (s.1.getD v.toNat (-1) + 1)) s)
structure LvOk (n : Nat) (s : List Int × List Int) : Prop where
 len : s.1.length = n
 nd : s.2.Nodup
 mem : ∀ x,x ∈ s.2 ↔ 0 ≤ x ∧ x < n ∧ 0 ≤ s.1.getD x.toNat (-1)
 top : ∀ v : Nat,s.1.getD v (-1) ≤ s.2.length
theorem getD_set' {l : List Int} {i j : Nat} {x y : Int} (hi : i < l.length) : (l.set i x).getD j y = if i = j then x else l.getD j y := by
 simp only [List.getD_eq_getElem?_getD,List.getElem?_set]
 by_cases h : i = j
 ·subst h
  simp [hi]
 ·simp [h]
theorem LvOk.start (n : Nat) : LvOk n (List.replicate n (-1),[]) where
 len := by simp
 nd := by simp
 mem x := by
  simp only [List.not_mem_nil,false_iff,List.getD_eq_getElem?_getD,List.getElem?_replicate]
  intro ⟨_,_,h⟩
  split at h <;> simp at h
 top v := by
  simp only [List.getD_eq_getElem?_getD,List.getElem?_replicate]
  split <;> simp
theorem LvOk.step {n : Nat} {s : List Int × List Int} (h : LvOk n s) {x d : Int} (hx : 0 ≤ x ∧ x < n) (hd : 0 ≤ d ∧ d ≤ s.2.length + 1) : LvOk n (lvIn d s x) := by
 unfold lvIn
 split
 ·rename_i hc
  have hxl : x.toNat < s.1.length := by rw [h.len]; omega
  have hxn : x ∉ s.2 := fun hm => by
   have := (h.mem x).1 hm
   omega
  refine ⟨by simpa using h.len,?_,fun y => ?_,fun v => ?_⟩
  ·rw [List.nodup_append]
   exact ⟨h.nd,by simp,fun a ha b hb => by
    rw [List.mem_singleton] at hb
    subst hb
    exact fun e => hxn (e ▸ ha)⟩
  ·rw [List.mem_append,List.mem_singleton,h.mem,getD_set' hxl]
   by_cases e : y = x
   ·subst e
    simp
    omega
   ·simp only [e,or_false]
    by_cases hy : 0 ≤ y
    ·rw [if_neg (by omega)]
    ·exact ⟨fun h' => absurd h'.1 hy,fun h' => absurd h'.1 hy⟩
  ·dsimp only
   rw [getD_set' hxl]
   have := h.top v
   rw [List.length_append]
   simp only [List.length_cons,List.length_nil]
   split <;> omega
 ·exact h
theorem LvOk.bound {n : Nat} {s : List Int × List Int} (h : LvOk n s) : s.2.length ≤ n := nodup_bound h.nd fun x hx => by
 have := (h.mem x).1 hx
 omega
theorem lvIn_add {n : Nat} {s : List Int × List Int} (h : LvOk n s) {x d : Int} (hx : 0 ≤ x ∧ x < n) : (lvIn d s x).2 = addN s.2 x := by
 unfold lvIn addN
 by_cases hc : s.1.getD x.toNat (-1) < 0
 ·rw [if_pos hc,if_neg (fun hm => by have := (h.mem x).1 hm; omega)]
 ·rw [if_neg hc,if_pos ((h.mem x).2 ⟨hx.1,hx.2,by omega⟩)]
theorem lvIn_len {d : Int} {s : List Int × List Int} {x : Int} : s.2.length ≤ (lvIn d s x).2.length := by
 unfold lvIn
 split <;> simp
theorem lv_fold {n : Nat} {d : Int} : ∀ {l : List Int} {s : List Int × List Int},LvOk n s → (∀ x ∈ l,0 ≤ x ∧ x < n) → 0 ≤ d ∧ d ≤ s.2.length + 1 → LvOk n (l.foldl (lvIn d) s) ∧ (l.foldl (lvIn d) s).2 = addL s.2 l
 | [],s,h,_,_ => ⟨h,rfl⟩
 | x :: l,s,h,hl,hd => by
  have h1 := h.step (hl x (by simp)) hd
  have hlen := lvIn_len (d := d) (s := s) (x := x)
  obtain ⟨g1,g2⟩ := lv_fold (d := d) (l := l) h1 (fun y hy => hl y (List.mem_cons_of_mem _ hy)) ⟨hd.1,by omega⟩
  exact ⟨g1,by rw [List.foldl_cons,g2,lvIn_add h (hl x (by simp))]; rfl⟩
def levels (nx : Int → List Int) (n : Nat) (fr : List Int) : List Int := (lvRun nx n 0 (fr.foldl (lvIn 0) (List.replicate n (-1),[]))).1
end Go.Pv
namespace Go.Pv
structure Dist (n : Nat) (ed : Int → Int → Prop) (fr : List Int) (d : List Int) : Prop where
 len : d.length = n
 low : ∀ v : Nat,v < n → -1 ≤ d.getD v (-1)
 zero : ∀ v : Int,0 ≤ v → v < n → (d.getD v.toNat (-1) = 0 ↔ v ∈ fr)
 step : ∀ v u : Int,ed v u → 0 ≤ v ∧ v < n ∧ 0 ≤ u ∧ u < n → 0 ≤ d.getD u.toNat (-1) → 0 ≤ d.getD v.toNat (-1) ∧ d.getD v.toNat (-1) ≤ d.getD u.toNat (-1) + 1
 back : ∀ v : Int,0 ≤ v → v < n → 0 < d.getD v.toNat (-1) → ∃ u,ed v u ∧ 0 ≤ u ∧ u < n ∧ d.getD u.toNat (-1) = d.getD v.toNat (-1) - 1
structure LvInv (nx : Int → List Int) (n : Nat) (fr : List Int) (i : Nat) (s : List Int × List Int) : Prop where
 ok : LvOk n s
 low : ∀ v : Nat,v < n → -1 ≤ s.1.getD v (-1)
 mono : ∀ (j k : Nat) (x y : Int),j ≤ k → s.2[j]? = some x → s.2[k]? = some y → s.1.getD x.toNat (-1) ≤ s.1.getD y.toNat (-1)
 near : ∀ (j : Nat) (x y : Int),s.2[i]? = some x → s.2[j]? = some y → s.1.getD y.toNat (-1) ≤ s.1.getD x.toNat (-1) + 1
 zero : ∀ v : Int,0 ≤ v → v < n → (s.1.getD v.toNat (-1) = 0 ↔ v ∈ fr)
 done : ∀ (j : Nat) (u x : Int),j < i → s.2[j]? = some u → x ∈ nx u → 0 ≤ s.1.getD x.toNat (-1) ∧ s.1.getD x.toNat (-1) ≤ s.1.getD u.toNat (-1) + 1
 back : ∀ v : Int,0 ≤ v → v < n → 0 < s.1.getD v.toNat (-1) → ∃ u,v ∈ nx u ∧ 0 ≤ u ∧ u < n ∧ s.1.getD u.toNat (-1) = s.1.getD v.toNat (-1) - 1
theorem lvIn_get {n : Nat} {s : List Int × List Int} (h : LvOk n s) {x d : Int} (hx : 0 ≤ x ∧ x < n) (v : Nat) : (lvIn d s x).1.getD v (-1) = if s.1.getD x.toNat (-1) < 0 ∧ x.toNat = v then d else s.1.getD v (-1) := by
 unfold lvIn
 by_cases hc : s.1.getD x.toNat (-1) < 0
 ·rw [if_pos hc]
  dsimp only
  rw [getD_set' (by rw [h.len]; omega)]
  by_cases he : x.toNat = v
  ·rw [if_pos he,if_pos ⟨hc,he⟩]
  ·rw [if_neg he,if_neg (fun hh => he hh.2)]
 ·rw [if_neg hc,if_neg (fun hh => hc hh.1)]
theorem lvIn_snd {s : List Int × List Int} {x d : Int} : (lvIn d s x).2 = if s.1.getD x.toNat (-1) < 0 then s.2 ++ [x] else s.2 := by
 unfold lvIn
 split <;> rfl
theorem LvInv.fold {nx : Int → List Int} {n : Nat} {fr : List Int} (_hn : ∀ v x,x ∈ nx v → 0 ≤ x ∧ x < n) {i : Nat} {v d : Int} : ∀ (l : List Int) (s : List Int × List Int),LvInv nx n fr i s → s.2[i]? = some v → d = s.1.getD v.toNat (-1) + 1 → (∀ x ∈ l,x ∈ nx v ∧ 0 ≤ x ∧ x < n) →
  LvInv nx n fr i (l.foldl (lvIn d) s) ∧ (l.foldl (lvIn d) s).2[i]? = some v ∧ (l.foldl (lvIn d) s).1.getD v.toNat (-1) + 1 = d ∧ (∀ u : Nat,0 ≤ s.1.getD u (-1) → (l.foldl (lvIn d) s).1.getD u (-1) = s.1.getD u (-1)) ∧ ∀ x ∈ l,0 ≤ (l.foldl (lvIn d) s).1.getD x.toNat (-1) ∧ (l.foldl (lvIn d) s).1.getD x.toNat (-1) ≤ d
 | [],s,h,hv,hd,_ => ⟨h,hv,hd.symm,fun _ _ => rfl,fun x hx => by cases hx⟩
 | x :: l,s,h,hv,hd,hl => by
  obtain ⟨hxn,hx0,hx1⟩ := hl x (by simp)
  have hvm := (h.ok.mem v).1 (List.mem_of_getElem? hv)
  have htop := h.ok.top v.toNat
  have hg := lvIn_get h.ok (d := d) ⟨hx0,hx1⟩
  have hs2 : (lvIn d s x).2 = if s.1.getD x.toNat (-1) < 0 then s.2 ++ [x] else s.2 := lvIn_snd
  have hok := h.ok.step (x := x) (d := d) ⟨hx0,hx1⟩ ⟨by omega,by omega⟩
  have hnear := fun j y (hy : s.2[j]? = some y) => h.near j v y hv hy
  have hsame : ∀ u : Nat,0 ≤ s.1.getD u (-1) → (lvIn d s x).1.getD u (-1) = s.1.getD u (-1) := fun u hu => by
   rw [hg,if_neg (fun hh => by rw [hh.2] at hh; omega)]
  have hmemq : ∀ (j : Nat) (y : Int),s.2[j]? = some y → 0 ≤ s.1.getD y.toNat (-1) := fun j y hy => ((h.ok.mem y).1 (List.mem_of_getElem? hy)).2.2
  have hq : ∀ (j : Nat) (y : Int),(lvIn d s x).2[j]? = some y → (s.2[j]? = some y ∧ (lvIn d s x).1.getD y.toNat (-1) = s.1.getD y.toNat (-1)) ∨ (s.2.length = j ∧ y = x ∧ s.1.getD x.toNat (-1) < 0 ∧ (lvIn d s x).1.getD y.toNat (-1) = d) := fun j y hy => by
   rw [hs2] at hy
   by_cases hc : s.1.getD x.toNat (-1) < 0
   ·rw [if_pos hc] at hy
    rcases Nat.lt_or_ge j s.2.length with hj | hj
    ·rw [List.getElem?_append_left hj] at hy
     exact .inl ⟨hy,hsame _ (hmemq j y hy)⟩
    ·rw [List.getElem?_append_right hj] at hy
     obtain ⟨h1,h2⟩ := List.getElem?_eq_some_iff.1 hy
     have hj0 : j - s.2.length = 0 := by simpa using h1
     simp [hj0] at h2
     refine .inr ⟨by omega,h2.symm,hc,?_⟩
     rw [hg,← h2,if_pos ⟨hc,rfl⟩]
   ·rw [if_neg hc] at hy
    exact .inl ⟨hy,hsame _ (hmemq j y hy)⟩
  have hv' : (lvIn d s x).2[i]? = some v := by
   rw [hs2]
   split
   ·rw [List.getElem?_append_left (List.getElem?_eq_some_iff.1 hv).1]; exact hv
   ·exact hv
  have hdv : (lvIn d s x).1.getD v.toNat (-1) = s.1.getD v.toNat (-1) := hsame _ hvm.2.2
  have hI : LvInv nx n fr i (lvIn d s x) := by
   refine ⟨hok,fun u hu => ?_,fun j k a b hjk ha hb => ?_,fun j a b ha hb => ?_,fun u h0 h1 => ?_,fun j u y hj hu hy => ?_,fun u h0 h1 hp => ?_⟩
   ·rw [hg]
    split
    ·omega
    ·exact h.low u hu
   ·rcases hq j a ha with ⟨a1,a2⟩ | ⟨a1,a2,a3,a4⟩
    ·rcases hq k b hb with ⟨b1,b2⟩ | ⟨b1,b2,b3,b4⟩
     ·rw [a2,b2]; exact h.mono j k a b hjk a1 b1
     ·rw [a2,b4]
      have := hnear j a a1
      omega
    ·rcases hq k b hb with ⟨b1,b2⟩ | ⟨b1,b2,b3,b4⟩
     ·have := (List.getElem?_eq_some_iff.1 b1).1
      omega
     ·rw [a4,b4]; exact Int.le_refl _
   ·rw [hv'] at ha
    cases ha
    rw [hdv]
    rcases hq j b hb with ⟨b1,b2⟩ | ⟨b1,b2,b3,b4⟩
    ·rw [b2]; exact hnear j b b1
    ·rw [b4]; omega
   ·rw [← h.zero u h0 h1,hg]
    split
    ·rename_i hc
     have : x = u := by omega
     subst this
     constructor
     ·intro; omega
     ·intro; omega
    ·exact Iff.rfl
   ·rcases hq j u hu with ⟨b1,b2⟩ | ⟨b1,_,_,_⟩
    ·obtain ⟨g1,g2⟩ := h.done j u y hj b1 hy
     rw [hsame _ g1,b2]
     exact ⟨g1,g2⟩
    ·have := (List.getElem?_eq_some_iff.1 hv).1
     omega
   ·rw [hg] at hp
    rw [hg]
    split at hp
    ·rename_i hc
     rw [if_pos hc]
     have : x = u := by omega
     subst this
     exact ⟨v,hxn,hvm.1,hvm.2.1,by rw [hdv]; omega⟩
    ·rename_i hc
     rw [if_neg hc]
     obtain ⟨w,w1,w2,w3,w4⟩ := h.back u h0 h1 hp
     exact ⟨w,w1,w2,w3,by rw [hsame _ (by omega)]; exact w4⟩
  obtain ⟨f1,f2,f3,f4,f5⟩ := LvInv.fold (d := d) _hn l _ hI hv' (by rw [hdv]; exact hd) (fun y hy => hl y (List.mem_cons_of_mem _ hy))
  refine ⟨f1,f2,f3,fun u hu => ?_,fun y hy => ?_⟩
  ·rw [List.foldl_cons,f4 u (by rw [hsame u hu]; exact hu),hsame u hu]
  ·rcases List.mem_cons.1 hy with rfl | hy
   ·have hle : 0 ≤ (lvIn d s y).1.getD y.toNat (-1) ∧ (lvIn d s y).1.getD y.toNat (-1) ≤ d := by
     rw [hg]
     split
     ·omega
     ·rename_i hc
      have hp : 0 ≤ s.1.getD y.toNat (-1) := by
       by_cases hc2 : s.1.getD y.toNat (-1) < 0
       ·exact absurd ⟨hc2,rfl⟩ hc
       ·omega
      obtain ⟨j,hj⟩ := List.mem_iff_getElem?.1 ((h.ok.mem y).2 ⟨hx0,hx1,hp⟩)
      have := hnear j y hj
      omega
    rw [List.foldl_cons,f4 y.toNat hle.1]
    exact hle
   ·exact f5 y hy
theorem LvInv.run {nx : Int → List Int} {n : Nat} {fr : List Int} (hn : ∀ v x,x ∈ nx v → 0 ≤ x ∧ x < n) : ∀ (m i : Nat) (s : List Int × List Int),LvInv nx n fr i s → n ≤ i + m → ∃ j,LvInv nx n fr j (lvRun nx m i s) ∧ (lvRun nx m i s).2.length ≤ j
 | 0,i,s,h,hm => ⟨i,h,Nat.le_trans h.ok.bound (by omega)⟩
 | m + 1,i,s,h,hm => by
  unfold lvRun
  cases hv : s.2[i]? with
  | none => exact ⟨i,h,List.getElem?_eq_none_iff.1 hv⟩
  | some v =>
   have hvm := (h.ok.mem v).1 (List.mem_of_getElem? hv)
   obtain ⟨f1,f2,f3,f4,f5⟩ := LvInv.fold hn (nx v) s h hv rfl (fun x hx => ⟨hx,hn v x hx⟩)
   refine LvInv.run hn m (i + 1) _ ⟨f1.ok,f1.low,f1.mono,fun j x y hx hy => ?_,f1.zero,fun j u x hj hu hx => ?_,f1.back⟩ (by omega)
   ·have h1 := f1.near j v y f2 hy
    have h2 := f1.mono i (i + 1) v x (by omega) f2 hx
    omega
   ·rcases Nat.lt_or_ge j i with hji | hji
    ·exact f1.done j u x hji hu hx
    ·obtain rfl : j = i := by omega
     rw [f2] at hu
     cases hu
     have := f5 x hx
     exact ⟨this.1,by omega⟩
theorem levels_dist {nx : Int → List Int} {n : Nat} {fr : List Int} (hn : ∀ v x,x ∈ nx v → 0 ≤ x ∧ x < n) (hf : ∀ x ∈ fr,0 ≤ x ∧ x < n) : Dist n (fun v u => v ∈ nx u) fr (levels nx n fr) := by
 have start : ∀ (l : List Int) (s : List Int × List Int) (pre : List Int),LvOk n s → (∀ v : Nat,v < n → s.1.getD v (-1) = 0 ∨ s.1.getD v (-1) = -1) → (∀ v : Int,0 ≤ v → v < n → (s.1.getD v.toNat (-1) = 0 ↔ v ∈ pre)) → (∀ x ∈ l,0 ≤ x ∧ x < n) →
   LvOk n (l.foldl (lvIn 0) s) ∧ (∀ v : Nat,v < n → (l.foldl (lvIn 0) s).1.getD v (-1) = 0 ∨ (l.foldl (lvIn 0) s).1.getD v (-1) = -1) ∧ (∀ v : Int,0 ≤ v → v < n → ((l.foldl (lvIn 0) s).1.getD v.toNat (-1) = 0 ↔ v ∈ pre ++ l)) := by
  intro l
  induction l with
  | nil => intro s pre h1 h2 h3 _; exact ⟨h1,h2,by simpa using h3⟩
  | cons x l ih =>
   intro s pre h1 h2 h3 hl
   have hx := hl x (by simp)
   have hg := lvIn_get h1 (d := 0) hx
   have := ih (lvIn 0 s x) (pre ++ [x]) (h1.step hx ⟨by omega,by omega⟩) (fun v hv => by
    rw [hg]
    split
    ·exact .inl rfl
    ·exact h2 v hv) (fun v h0 hv => by
    rw [hg,List.mem_append,List.mem_singleton,← h3 v h0 hv]
    split
    ·rename_i hc
     have : v = x := by omega
     simp [this]
    ·rename_i hc
     constructor
     ·exact .inl
     ·rintro (h | h)
      ·exact h
      ·subst h
       rcases h2 v.toNat (by omega) with h | h
       ·exact h
       ·exact absurd ⟨by omega,rfl⟩ hc) (fun y hy => hl y (List.mem_cons_of_mem _ hy))
   rw [List.append_assoc] at this
   exact this
 obtain ⟨a1,a2,a3⟩ := start fr (List.replicate n (-1),[]) [] (LvOk.start n) (fun v hv => by simp [hv]) (fun v h0 h1 => by
  have : v.toNat < n := by omega
  simp [this]) hf
 have hI : LvInv nx n fr 0 (fr.foldl (lvIn 0) (List.replicate n (-1),[])) := by
  have hz : ∀ (j : Nat) (x : Int),(fr.foldl (lvIn 0) (List.replicate n (-1),[])).2[j]? = some x → (fr.foldl (lvIn 0) (List.replicate n (-1),[])).1.getD x.toNat (-1) = 0 := fun j x hx => by
   have := (a1.mem x).1 (List.mem_of_getElem? hx)
   rcases a2 x.toNat (by omega) with h | h
   ·exact h
   ·omega
  refine ⟨a1,fun v hv => ?_,fun j k x y _ hx hy => ?_,fun j x y hx hy => ?_,by simpa using a3,fun j u x hj => absurd hj (Nat.not_lt_zero _),fun v h0 h1 hp => ?_⟩
  ·rcases a2 v hv with h | h <;> omega
  ·rw [hz j x hx,hz k y hy]; exact Int.le_refl _
  ·rw [hz 0 x hx,hz j y hy]; omega
  ·rcases a2 v.toNat (by omega) with h | h <;> omega
 obtain ⟨j,h1,h2⟩ := LvInv.run hn n 0 _ hI (by omega)
 refine ⟨h1.ok.len,h1.low,h1.zero,fun v u hv hr hp => ?_,fun v h0 hl hp => ?_⟩
 ·obtain ⟨k,hk⟩ := List.mem_iff_getElem?.1 ((h1.ok.mem u).2 ⟨hr.2.2.1,hr.2.2.2,hp⟩)
  exact h1.done k u v (by have := (List.getElem?_eq_some_iff.1 hk).1; omega) hk hv
 ·obtain ⟨u,u1,u2,u3,u4⟩ := h1.back v h0 hl hp
  exact ⟨u,u1,u2,u3,u4⟩
end Go.Pv
namespace Go.Pv
end Go.Pv
namespace Go.Pv
end Go.Pv
namespace Go.Pv
def glV (n b : Nat) (rows : List (List PV)) : V := if rows.length ≤ b then .tl rows else .own n (rows.length - b - 1) 0 rows.length
def glA (k b : Nat) (rows : List (List PV)) : List Arr := if rows.length ≤ b then [] else [⟨rows.length - b - 1,k,.inl rows⟩]
theorem glV_lit {n b : Nat} {rows : List (List PV)} (h : rows.length ≤ b) : glV n b rows = .tl rows := if_pos h
theorem glA_lit {k b : Nat} {rows : List (List PV)} (h : rows.length ≤ b) : glA k b rows = [] := if_pos h
theorem glV_own {n b m : Nat} {rows : List (List PV)} (h : rows.length = b + m + 1) : glV n b rows = .own n m 0 (b + m + 1) := by
 unfold glV
 rw [if_neg (by omega),h,show b + m + 1 - b - 1 = m by omega]
theorem glA_own {k b m : Nat} {rows : List (List PV)} (h : rows.length = b + m + 1) : glA k b rows = [⟨m,k,.inl rows⟩] := by
 unfold glA
 rw [if_neg (by omega),h,show b + m + 1 - b - 1 = m by omega]
theorem gl_cases {b : Nat} {rows : List (List PV)} : rows.length ≤ b ∨ ∃ m,rows.length = b + m + 1 := by
 rcases Nat.lt_or_ge b rows.length with h | h
 ·exact .inr ⟨rows.length - b - 1,by omega⟩
 ·exact .inl h
theorem glV_snoc {n b : Nat} {rows : List (List PV)} {r : List PV} (h : b ≤ rows.length) : glV n b (rows ++ [r]) = .own n (rows.length - b) 0 (rows.length + 1) := by
 rw [glV_own (m := rows.length - b) (by simp; omega),show b + (rows.length - b) + 1 = rows.length + 1 by omega]
theorem glA_snoc {k b : Nat} {rows : List (List PV)} {r : List PV} (h : b ≤ rows.length) : glA k b (rows ++ [r]) = [⟨rows.length - b,k,.inl (rows ++ [r])⟩] := glA_own (by simp; omega)
def apR (id ver off len k : Nat) (r : List PV) (a : Arr) : Option (V × Tn) :=
 if off + len ≤ a.size ∧ a.k = k ∧ len + 1 ≤ mostRows then some (.own id (ver + 1) 0 (len + 1),{ ar := some (id,⟨ver + 1,k,catRows (cutRows off len a.body) (.inl [r])⟩) }) else none
theorem app_ownr (h : Heap) (id ver off len k : Nat) (r : List PV) (hr : r.length = k) : appendV h k (.own id ver off len) (.tl [r]) = (ownArr h id ver).bind (apR id ver off len k r) := by
 cases ho : ownArr h id ver with
 | none => simp [appendV,srcRows,rowsFit,ho]
 | some a =>
  simp only [appendV,srcRows,rowsFit,ho,rowsLen,apR,List.all_cons,List.all_nil,List.length_cons,List.length_nil,Option.bind_some,hr,beq_self_eq_true,Bool.and_self,if_true]
  by_cases h1 : off + len ≤ a.size <;> by_cases h2 : a.k = k <;> by_cases h3 : len + 1 ≤ mostRows <;> simp [h1,h2,h3]
theorem app_tlr (h : Heap) (k : Nat) (rows : List (List PV)) (r : List PV) (hr : r.length = k) (hk : ∀ x ∈ rows,x.length = k) (hm : rows.length + 1 ≤ 2147483648) : appendV h k (.tl rows) (.tl [r]) = some (.own h.ar.length 0 0 (rows.length + 1),{ push := [⟨0,k,.inl (rows ++ [r])⟩],base := h.ar.length }) := by
 have : (rows.all fun x => x.length == k) = true := by simpa using hk
 simp [appendV,srcRows,rowsFit,rowsLen,mostRows,catRows,hr,this,hm]
@[go_sem] theorem app_tli (h : Heap) (l : List Int) (x : Int) (hm : l.length + 1 ≤ 2147483648) : appendV h 1 (.tl (ints l)) (.tl [[.int .i64 x]]) = some (.own h.ar.length 0 0 (l.length + 1),{ push := [⟨0,1,.inl (ints (l ++ [x]))⟩],base := h.ar.length }) := by
 rw [app_tlr h 1 (ints l) [.int .i64 x] rfl (by simp [ints]) (by rw [ints_length]; exact hm),ints_length,ints_snoc]
@[go_sem] theorem lenV_gl (h : Heap) (n b : Nat) (rows : List (List PV)) : lenV h 0 (glV n b rows) = some (rows.length,{}) := by unfold glV; split <;> rfl
@[go_sem] theorem cells_gl (n b : Nat) (rows : List (List PV)) : V.cells (glV n b rows) = [glV n b rows] := by unfold glV; split <;> rfl
@[go_sem] theorem calm_gl (n b : Nat) (rows : List (List PV)) : V.calm (glV n b rows) = true := by unfold glV; split <;> rfl
@[go_sem] theorem sized_gl (n b : Nat) (rows : List (List PV)) : V.sized (glV n b rows) = true := by unfold glV; split <;> rfl
@[go_sem] theorem scrub_gl (kb : List Nat) (n b : Nat) (rows : List (List PV)) : scrub kb (glV n b rows) = glV n b rows := by unfold glV; split <;> rfl
@[go_sem] theorem okc_gl (kb : List Nat) (n b : Nat) (rows : List (List PV)) : okc kb (glV n b rows) = true := by unfold glV; split <;> rfl
@[go_sem] theorem keep_gl (h : Heap) (n b : Nat) (rows : List (List PV)) : keep h false (glV n b rows) = keepc h 4 (glV n b rows) := by unfold glV; split <;> rfl
@[go_sem] theorem lend_gl (h : Heap) (n b : Nat) (rows : List (List PV)) : lend h (glV n b rows) = lendc h 4 (glV n b rows) := by unfold glV; split <;> rfl
theorem keepc_gl (bx : List (Nat × List V)) (mp : List (List (PV × PV))) (pre : List Arr) (k b d : Nat) (rows : List (List PV)) : keepc ⟨bx,pre ++ glA k b rows,mp⟩ (d + 1) (glV pre.length b rows) = some (.lst 0 rows) := by
 unfold glV glA
 split
 ·rfl
 ·simp [keepc_own,ownArr,keepRows,cutRows]
@[go_sem] theorem keepc_gl1 (bx : List (Nat × List V)) (mp : List (List (PV × PV))) (a : Arr) (k b : Nat) (rows : List (List PV)) : keepc ⟨bx,a :: glA k b rows,mp⟩ 4 (glV 1 b rows) = some (.lst 0 rows) := keepc_gl bx mp [a] k b 3 rows
attribute [go_sem] Int.lt_irrefl
end Go.Pv
namespace Go.Pv
theorem take_step {α : Type} {a b : List α} {k : Nat} {x y : α} (hx : a[k]? = some x) (hy : b[k]? = some y) (h : a.take k = b.take k) (e : x = y) : a.take (k + 1) = b.take (k + 1) := by
 rw [List.take_add_one,List.take_add_one,hx,hy,h,e]
theorem takes_all {α : Type} {a b : List α} {k : Nat} (ha : a.length ≤ k) (hb : b.length ≤ k) (h : a.take k = b.take k) : a = b := by
 rwa [List.take_of_length_le ha,List.take_of_length_le hb] at h
end Go.Pv
namespace Go.Pv
@[go_sem] theorem edgs_snocc (l : List Edge) (f : Int) (d : Bool) (x t : Int) : edgs l ++ [[.int .i64 f,.bool d,.int .i64 x,.int .i64 t]] = edgs (l ++ [⟨f,d,x,t⟩]) := by simp [edgs,Edge.c]
theorem edge_eta (e : Edge) : (⟨e.fr,e.send,e.label,e.to⟩ : Edge) = e := rfl
@[go_sem] theorem edgs_store {id row ver : Nat} {f x t : Int} {d : Bool} {l : List Edge} (h1 : row < l.length) : storeRow id row 0 [.pv (.int .i64 f),.pv (.bool d),.pv (.int .i64 x),.pv (.int .i64 t)] ⟨ver,4,.inl (edgs l)⟩ = some { ar := some (id,⟨ver,4,.inl (edgs (l.set row ⟨f,d,x,t⟩))⟩) } := by
 rw [storeRow_inl (l := [.int .i64 f,.bool d,.int .i64 x,.int .i64 t]) (by rw [edgs_length]; exact h1) rfl (by simp) rfl]
 have : over row 0 [.int .i64 f,.bool d,.int .i64 x,.int .i64 t] (edgs l) = edgs (l.set row ⟨f,d,x,t⟩) := by
  unfold over edgs
  rw [List.map_set]
  congr 1
  obtain ⟨e,he⟩ : ∃ e,l[row]? = some e := ⟨l[row],by simp [h1]⟩
  simp [he,Edge.c]
 rw [this]
set_option maxHeartbeats 2000000 in
@[go_sem] theorem r43 (t : Nat) (a : Auto) (hl : a.edges.length ≤ 2000000000) :
  res A PrA 43 [.agg [.int .i64 a.states,.int .i64 a.start,.lst t (a.edges.map Edge.c)]] = some [.agg [.int .i64 a.states,.int .i64 a.start,.lst 0 (edgs (sortB Edge.lt a.edges))]] := by
 refine res_of a43 rfl rfl ?_
 simp only [F43]; try delta sS tT zZ nN gG bB pZ
 simp (disch := omega) only [go_sem]
 refine W.fold a.edges (fun o x => insB Edge.lt x o) [] (fun k o => ⟨[(1,.ptr 1 0),(2,.ptr 2 0),(3,.ptr 3 0),(4,.pv (.int .i64 k))],⟨[(1,[.pv (.int .i64 a.states),.pv (.int .i64 a.start),.pv (.lst t (a.edges.map Edge.c))]),(2,[.pv (.int .i64 0),.pv (.int .i64 0),.tl []]),(3,[.pv (.int .i64 a.states),.pv (.int .i64 a.start),grV 0 (edgs o)])],grA 4 (edgs o),[]⟩⟩) (fun k o => o.length = k) rfl rfl (fun k e o he hk _ hi => ?_) (fun o ho hi => ?_)
 ·simp (disch := omega) only [go_sem]
  refine Br.ofP (fun h => ?_) (fun h => (h (by omega)).elim)
  simp (disch := omega) only [go_sem,he]
  have hlen : (edgs (o ++ [e])).length = o.length + 1 := by simp [edgs]
  refine W.upto o.length (fun j => ⟨[(1,.ptr 1 0),(2,.ptr 2 0),(3,.ptr 3 0),(4,.pv (.int .i64 k)),(5,.pv (.int .i64 (o.length - j : Nat)))],⟨[(1,[.pv (.int .i64 a.states),.pv (.int .i64 a.start),.pv (.lst t (a.edges.map Edge.c))]),(2,[.pv (.int .i64 0),.pv (.int .i64 0),.tl []]),(3,[.pv (.int .i64 a.states),.pv (.int .i64 a.start),.own 0 o.length 0 (o.length + 1)])],[⟨o.length,4,.inl (edgs (putA e o (o.length - j)))⟩],[]⟩⟩)
   (fun j => bub Edge.lt e o o.length = bub Edge.lt e o (o.length - j)) ?_ rfl fun j hj hq => ?_
  ·rw [grV_own hlen,grA_own hlen,show (((o.length + 1 : Nat) : Int) - 1) = ((o.length - 0 : Nat) : Int) by omega]
   simp [putA]
  have hpl := putA_len e o (o.length - j) (by omega)
  have hp0 := putA_at e o (o.length - j) (by omega)
  simp (disch := omega) only [go_sem]
  have fin : bub Edge.lt e o o.length = o.length - j → insB Edge.lt e o = putA e o (o.length - j) := fun hb => by unfold insB; rw [hb]
  refine Br.ofP (fun f1 => ?_) (fun f1 => ?_)
  ·obtain ⟨p,hp⟩ : ∃ p,o.length - j = p + 1 := ⟨o.length - j - 1,by omega⟩
   have hpb := putA_below e o p (by omega)
   have hpd := putA_down e o p (by omega)
   have e1 : ((p + 1 : Nat) : Int) - 1 = (p : Int) := by omega
   have e2 : o.length - (j + 1) = p := by omega
   rw [hp] at hq hpl hp0 fin
   have f2 : (0 : Int) < ((p + 1 : Nat) : Int) := by omega
   have hpl2 : ((putA e o (p + 1)).set (p + 1) (o.getD p default)).length = o.length + 1 := by rw [List.length_set]; exact hpl
   simp (disch := omega) only [go_sem,hp,hp0,f2,e1,hpb]
   refine Br.of (fun f3 => ?_) (fun f3 => ?_) <;> simp (disch := omega) only [go_sem,f3,hp0,e1,hpb,hpd,edge_eta]
   ·refine .of (by omega) ?_ ?_
    ·show _ = St.mk _ _
     rw [e2]
    ·rw [hq,e2]
     simp only [bub,f3,if_true]
   ·refine foldK.of ?_ ?_
    ·show _ = St.mk _ _
     rw [fin (by rw [hq]; simp only [bub,f3,Bool.false_eq_true,if_false]),grV_own (by rw [edgs_length]; exact hpl),grA_own (by rw [edgs_length]; exact hpl)]
     rfl
    ·rw [insB_len]
     omega
  ·have h0 : o.length - j = 0 := by omega
   simp (disch := omega) only [go_sem,f1]
   rw [h0] at hq hpl hp0 fin ⊢
   refine foldK.of ?_ ?_
   ·show _ = St.mk _ _
    rw [fin hq,grV_own (by rw [edgs_length]; exact hpl),grA_own (by rw [edgs_length]; exact hpl)]
    rfl
   ·rw [insB_len]
    omega
 ·simp (disch := omega) only [go_sem]
  rw [ho]
  rfl
end Go.Pv
