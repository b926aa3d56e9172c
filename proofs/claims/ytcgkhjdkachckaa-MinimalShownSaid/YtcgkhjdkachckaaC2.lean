/-
  What the functions of the law give.
-/
import Derived.Test.YtcgkhjdkachckaaC1
set_option linter.unusedSimpArgs false
set_option linter.unusedVariables false
/-
  Classes and minimized automata.
-/
namespace Go.Pv

/-- Classes. -/
@[go_sem] theorem r10 (t : Nat) (a : Auto) (hl : a.edges.length ≤ 2000000000) : res A PrA 10 [.agg [.int .i64 a.states, .int .i64 a.start, .lst t (a.edges.map Edge.c)]] = some (if a.err = 0 then [.lst 0 (ints a.classes), .int .i64 0] else [.lst 0 [], .int .i64 a.err]) := by
  refine res_of a10 rfl rfl ?_
  simp only [F10]
  simp (disch := omega) only [go_sem]
  refine Br.ofP (fun h1 => ?_) (fun h1 => ?_) <;> simp (disch := omega) only [go_sem, h1]
  have hg := Auto.good_iff.1 h1
  have hmx := hg.mx
  have hst := hg.st
  obtain ⟨J, hJ, hb⟩ := cls_rest hg
  have hto : ∀ e ∈ a.edges, 0 ≤ e.to ∧ e.to < (a.states.toNat : Int) := fun e he => by have := fits_iff.1 (hg.fit e he); omega
  have h30 := r30 t a.states.toNat J a.start a.edges (by omega) hl hto hJ hb
  rw [cls_classes hg hJ, show ((a.states.toNat : Nat) : Int) = a.states by omega] at h30
  simp (disch := omega) only [go_sem, h30]
  rw [if_pos h1]

/-- The automaton of the classes. -/
def Auto.cl (a : Auto) (v : Int) : Int := a.classes.getD v.toNat 0
def Auto.merged (a : Auto) : Auto := ⟨a.states, a.cl a.start, (a.edges.filter fun e => a.cl e.fr == e.fr).map fun e => ⟨e.fr, e.send, e.label, a.cl e.to⟩⟩
def Auto.mini (a : Auto) : Auto := a.merged.trim
theorem Auto.Good.cl_in {a : Auto} (h : a.Good) {v : Int} (hv : a.inr v) : a.classes[v.toNat]? = some (a.cl v) ∧ a.inr (a.cl v) ∧ a.cl v ≤ v := by
  unfold Auto.inr at hv
  have hvn : v.toNat < a.states.toNat := by omega
  obtain ⟨e1, _⟩ := leastR_spec h hvn
  have hcg : a.classes[v.toNat]? = some (leastR (differ a a) a.states.toNat v.toNat : Int) := by
    unfold Auto.classes
    rw [List.getElem?_map, List.getElem?_range hvn]
    rfl
  have hc : a.cl v = (leastR (differ a a) a.states.toNat v.toNat : Int) := by
    unfold Auto.cl
    rw [List.getD_eq_getElem?_getD, hcg]
    rfl
  unfold Auto.inr
  exact ⟨by rw [hcg, hc], by omega, by omega⟩
theorem Auto.Good.merged {a : Auto} (h : a.Good) : a.merged.Good where
  st := (h.cl_in h.st).2.1
  mx := h.mx
  len := by
    show ((a.edges.filter _).map _).length ≤ 100
    rw [List.length_map]
    have := List.length_filter_le (fun e : Edge => a.cl e.fr == e.fr) a.edges
    have := h.len
    omega
  fit x hx := by
    obtain ⟨e, he, rfl⟩ := List.mem_map.1 hx
    have hf := fits_iff.1 (h.fit e (List.mem_filter.1 he).1)
    have := (h.cl_in (v := e.to) ⟨hf.2.2.1, hf.2.2.2.1⟩).2.1
    rw [fits_iff]
    exact ⟨hf.1, hf.2.1, this.1, this.2, hf.2.2.2.2⟩
  asc := by
    show ((a.edges.filter _).map _).Pairwise _
    rw [List.pairwise_map]
    exact (h.asc.filter _).imp fun {x y} hxy => hxy

end Go.Pv

/-
  Minimized automata; the law of classes.
-/
namespace Go.Pv

theorem merged_fold (a : Auto) : a.edges.foldl (fun o e => if a.cl e.fr = e.fr then o ++ [(⟨e.fr, e.send, e.label, a.cl e.to⟩ : Edge)] else o) [] = a.merged.edges := by
  have h := fold_filter (fun e : Edge => a.cl e.fr == e.fr) (fun e => (⟨e.fr, e.send, e.label, a.cl e.to⟩ : Edge)) a.edges []
  rw [List.nil_append] at h
  rw [← show _ = a.merged.edges from h]
  congr 1
  funext o e
  by_cases hc : a.cl e.fr = e.fr
  · simp [hc]
  · simp [hc]

set_option maxHeartbeats 4000000 in
/-- Minimize. -/
@[go_sem] theorem r12 (t : Nat) (a : Auto) (hl : a.edges.length ≤ 2000000000) : res A PrA 12 [.agg [.int .i64 a.states, .int .i64 a.start, .lst t (a.edges.map Edge.c)]] = some (if a.err = 0 then [.agg [.int .i64 a.mini.states, .int .i64 0, .lst 0 (edgs a.mini.edges)], .int .i64 0] else [.agg [.int .i64 0, .int .i64 0, .lst 0 []], .int .i64 a.err]) := by
  refine res_of a12 rfl rfl ?_
  simp only [F12]
  by_cases h1 : a.err = 0
  case neg => simp (disch := omega) only [go_sem, h1]
  have hg := Auto.good_iff.1 h1
  have hst := hg.st
  have hmx := hg.mx
  obtain ⟨c1, c2, c3⟩ := hg.cl_in hg.st
  have hcl := classes_len a
  simp (disch := omega) only [go_sem, h1, idxR_int, c1]
  refine W.fold a.edges (fun o e => if a.cl e.fr = e.fr then o ++ [(⟨e.fr, e.send, e.label, a.cl e.to⟩ : Edge)] else o) [] (fun k o => ⟨[(2, .ptr 2 0), (4, .pv (.lst 0 (ints a.classes))), (6, .ptr 6 0), (27, .pv (.lst t (a.edges.map Edge.c))), (28, .pv (.int .i64 a.edges.length)), (29, .pv (.int .i64 k))], ⟨[(2, [.pv (.int .i64 0), .pv (.int .i64 0), .tl []]), (6, [.pv (.int .i64 a.states), .pv (.int .i64 (a.cl a.start)), grV 0 (edgs o)])], grA 4 (edgs o), []⟩⟩) (fun k o => o.length ≤ k) rfl (Nat.le_refl _) (fun k e o he hk _ hi => ?_) (fun o ho hi => ?_)
  · have hf := fits_iff.1 (hg.fit e (List.mem_of_getElem? he))
    obtain ⟨d1, d2, d3⟩ := hg.cl_in (v := e.fr) ⟨hf.1, hf.2.1⟩
    obtain ⟨e1, e2, e3⟩ := hg.cl_in (v := e.to) ⟨hf.2.2.1, hf.2.2.2.1⟩
    simp (disch := omega) only [go_sem]
    refine Br.ofP (fun h => ?_) (fun h => (h (by omega)).elim)
    simp (disch := omega) only [go_sem, he, idxR_int, d1]
    refine Br.ofP (fun f => ?_) (fun f => ?_) <;> simp (disch := omega) only [go_sem, f, idxR_int, e1]
    · refine foldK.of ?_ (by rw [if_pos f]; simp; omega)
      show _ = St.mk _ _
      rw [if_pos f]
      rfl
    · refine foldK.of ?_ (by rw [if_neg f]; omega)
      show _ = St.mk _ _
      rw [if_neg f]
      rfl
  · rw [merged_fold] at ho
    subst ho
    have hm := hg.merged
    have hme := Auto.good_iff.2 hm
    have hml := hm.len
    have hmm : (⟨a.states, a.cl a.start, a.merged.edges⟩ : Auto) = a.merged := rfl
    simp (disch := omega) only [go_sem, hmm, hme]
    rw [if_pos h1]
    rfl
end Go.Pv

/-
  The law of classes.
-/
namespace Go.Pv

theorem r14n : res A PrA 14 [.lst 0 [], .lst 0 []] = some [.bool true] := by
  have h := r14 0 0 [] [] (by simp) (by simp)
  rw [decide_eq_true rfl] at h
  exact h
theorem r15n' : res A PrA 15 [.agg [.int .i64 0, .int .i64 0, .lst 0 []], .agg [.int .i64 0, .int .i64 0, .lst 0 []]] = some [.bool true] := by
  have h := r15e 0 0 0 0 0 0 [] [] (by simp) (by simp)
  rw [decide_eq_true rfl] at h
  exact h
end Go.Pv

/-
  Edges of a state, as the program finds them.
-/
namespace Go.Pv

@[go_sem] theorem r65 (e : Edge) (u : Nat) (s : Int) (cs : List PV) : res A PrA 65 [.agg [.int .i64 e.fr, .bool e.send, .int .i64 e.label, .int .i64 e.to], .ro u (.int .i64 s :: cs)] = some [.bool (!decide (e.fr = s))] := by
  refine res_of a65 rfl rfl ?_
  simp only [F65]
  simp (disch := omega) only [go_sem]
theorem r77 (g t u : Nat) (cs : List PV) (l : List Edge) (p : Edge → Bool) (hl : l.length ≤ 2 ^ 63 - 1) (hp : PrA g = none) (ht : takes A g = false) (hf : ∀ x ∈ l, res A PrA g [.agg [.int .i64 x.fr, .bool x.send, .int .i64 x.label, .int .i64 x.to], .ro u cs] = some [.bool (p x)]) : res A PrA 77 [.lst t (edgs l), .func g [.ro u cs]] = some [.int .i64 (idxP p l)] := by
  refine res_of a77 rfl rfl ?_
  simp only [F77]
  simp (disch := omega) only [go_sem]
  refine W.find l p (fun k => ⟨[(0, .pv (.lst t (edgs l))), (1, .pv (.func g [.ro u cs])), (7, .pv (.int .i64 l.length)), (8, .pv (.int .i64 k))], ⟨[], [], []⟩⟩) rfl (fun k x hx hk hfd => ?_) (fun hn => ?_)
  · have hfx := hf x (List.mem_of_getElem? hx)
    simp (disch := omega) only [go_sem]
    refine Br.ofP (fun h => ?_) (fun h => (h (by omega)).elim)
    simp (disch := omega) only [go_sem, hx, CW_none hp ht, hfx]
    refine Br.of (fun h2 => ?_) (fun h2 => ?_) <;> simp (disch := omega) only [go_sem]
    · rw [(hfd h2).idxP]
    · exact findK.of h2 rfl
  · simp (disch := omega) only [go_sem]
    rw [hn.idxP]

theorem filter_step {α : Type} {p : α → Bool} {l : List α} {k : Nat} {x : α} (h : l[k]? = some x) : (l.take (k + 1)).filter p = if p x = true then (l.take k).filter p ++ [x] else (l.take k).filter p := by
  rw [List.take_add_one, h, List.filter_append]
  by_cases hp : p x = true <;> simp [hp]
theorem set_putE (c l : List Edge) (v : Edge) (h : c.length < l.length) : (c ++ l.drop c.length).set c.length v = (c ++ [v]) ++ l.drop (c ++ [v]).length := by
  rw [List.set_append_right _ _ (Nat.le_refl _), Nat.sub_self, List.append_assoc]
  have : (c ++ [v]).length = c.length + 1 := by simp
  rw [this, List.drop_eq_getElem_cons h]
  rfl
@[go_sem] theorem fresh_edgs (bx : List (Nat × List V)) (mp : List (List (PV × PV))) (ar : List Arr) (v n : Nat) (l : List Edge) : keep ⟨bx, ⟨v, 4, .inl (edgs l)⟩ :: ar, mp⟩ true (.own 0 v 0 n) = some (.fr 4 (edgs (l.take n))) := by
  simp [keep, freshc, ownArr, edgs]
theorem clr_edgs (bx : List (Nat × List V)) (mp : List (List (PV × PV))) (ar : List Arr) (v off len : Nat) (l : List Edge) (h : off + len ≤ l.length) : clrV ⟨bx, ⟨v, 4, .inl (edgs l)⟩ :: ar, mp⟩ 4 [.pv (.int .i64 0), .pv (.bool false), .pv (.int .i64 0), .pv (.int .i64 0)] (.own 0 v off len) =
    some (.tup [], { ar := some (0, ⟨v, 4, .inl (edgs (l.take off ++ List.replicate len ⟨0, false, 0, 0⟩ ++ l.drop (off + len)))⟩) }) := by
  simp [clrV, ownArr, mapO, V.purec, PV.perm, edgs, h, Edge.c]
@[go_sem] theorem lendA_edgs {id ver v len : Nat} {l : List Edge} (hn : len = l.length) : lendA id ver len ⟨v, 4, .inl (edgs l)⟩ = some ([.fr 4 (edgs l)], some (id, ⟨ver + 1, 0, .inl []⟩)) := by
  subst hn
  simp [lendA, Arr.size, edgs_length]
@[go_sem] theorem edgs_take (l : List Edge) (n : Nat) : (edgs l).take n = edgs (l.take n) := by simp [edgs]
@[go_sem] theorem edgs_drop (l : List Edge) (n : Nat) : (edgs l).drop n = edgs (l.drop n) := by simp [edgs]

set_option maxHeartbeats 4000000 in
/-- DeleteFunc: the edges of a state are left. -/
@[go_sem] theorem r63 (l : List Edge) (s : Int) (hl : l.length ≤ 2000000000) : res A PrA 63 [.fr 4 (edgs l), .func 65 [.ro 2 [.int .i64 s]]] = some [.fr 4 (edgs (edgesOf l s))] := by
  refine res_of a63 rfl rfl ?_
  simp only [F63]
  have h77 := fun t : Nat => r77 65 t 2 [.int .i64 s] l (fun e => !decide (e.fr = s)) (by omega) (by kernel_rfl) (by kernel_rfl) (fun x _ => r65 x 2 s [])
  have hlt : l.take l.length = l := List.take_length
  cases hfi : l.findIdx? (fun e => !decide (e.fr = s)) with
  | none =>
    have hix : idxP (fun e => !decide (e.fr = s)) l = -1 := by unfold idxP; rw [hfi]
    rw [List.findIdx?_eq_none_iff] at hfi
    have hall : edgesOf l s = l := by
      unfold edgesOf
      rw [List.filter_eq_self]
      intro e he
      have := hfi e he
      simpa using this
    simp (disch := omega) only [go_sem, h77, hlt, hix, hall]
  | some k =>
    have hix : idxP (fun e => !decide (e.fr = s)) l = (k : Int) := by unfold idxP; rw [hfi]
    rw [List.findIdx?_eq_some_iff_getElem] at hfi
    obtain ⟨hk, hp, hbefore⟩ := hfi
    have hne : ¬ (k : Int) = -1 := by omega
    have hpre : edgesOf (l.take (k + 1)) s = l.take k := by
      unfold edgesOf
      rw [filter_step (List.getElem?_eq_getElem hk), if_neg (by simpa using hp), List.filter_eq_self]
      intro e he
      obtain ⟨j, hj, rfl⟩ := List.getElem_of_mem he
      rw [List.length_take] at hj
      have := hbefore j (by omega)
      simpa using this
    simp (disch := omega) only [go_sem, h77, hlt, hix, hne]
    refine W.upto (l.length - (k + 1)) (fun j => ⟨[(0, .own 0 0 0 l.length), (1, .pv (.func 65 [.ro 2 [.int .i64 s]])), (5, .pv (.int .i64 (edgesOf (l.take (k + 1 + j)) s).length)), (6, .pv (.int .i64 (k + 1 + j : Nat)))], ⟨[], [⟨0, 4, .inl (edgs (edgesOf (l.take (k + 1 + j)) s ++ l.drop (edgesOf (l.take (k + 1 + j)) s).length))⟩], []⟩⟩) (fun j => (edgesOf (l.take (k + 1 + j)) s).length ≤ k + j) ?_ ?_ fun j hj hw => ?_
    · simp only [Nat.add_zero, hpre, List.length_take, Nat.min_eq_left (Nat.le_of_lt hk)]
      rw [List.take_append_drop]
      rfl
    · simp only [Nat.add_zero, hpre, List.length_take]
      omega
    have hkeep : ∀ q, (edgesOf (l.take (k + 1 + j)) s).length ≤ q → (edgesOf (l.take (k + 1 + j)) s ++ l.drop (edgesOf (l.take (k + 1 + j)) s).length)[q]? = l[q]? := fun q hq => by
      rw [List.getElem?_append_right hq, List.getElem?_drop]
      congr 1
      omega
    have hln : (edgesOf (l.take (k + 1 + j)) s ++ l.drop (edgesOf (l.take (k + 1 + j)) s).length).length = l.length := by simp; omega
    simp (disch := omega) only [go_sem]
    refine Br.ofP (fun h => ?_) (fun h => ?_)
    · obtain ⟨x, hx⟩ := get_at (l := l) (k := k + 1 + j) (by omega)
      have h65 := r65 x 2 s []
      have hst : edgesOf (l.take (k + 1 + (j + 1))) s = if (x.fr == s) = true then edgesOf (l.take (k + 1 + j)) s ++ [x] else edgesOf (l.take (k + 1 + j)) s := filter_step hx
      simp (disch := omega) only [go_sem, hkeep, hx, h65]
      refine Br.ofP (fun g => ?_) (fun g => ?_) <;> simp (disch := omega) only [go_sem, g]
      · rw [if_pos (by simp [g])] at hst
        have hxe : (⟨s, x.send, x.label, x.to⟩ : Edge) = x := by rw [← g]
        refine .of (by omega) ?_ ?_
        · show _ = St.mk _ _
          rw [hst, hxe, set_putE _ _ _ (by omega), List.length_append]
          rfl
        · show (edgesOf _ s).length ≤ _
          rw [hst, List.length_append]
          simp
          omega
      · rw [if_neg (by simp [g])] at hst
        refine .of (by omega) ?_ ?_
        · show _ = St.mk _ _
          rw [hst]
          rfl
        · show (edgesOf _ s).length ≤ _
          rw [hst]
          omega
    · have hall : l.take (k + 1 + j) = l := List.take_of_length_le (by omega)
      rw [hall] at hln hw ⊢
      simp (disch := omega) only [go_sem]
      rw [clr_edgs _ _ _ _ _ _ _ (by omega)]
      have hl3 : (edgesOf l s ++ List.replicate (l.length - (edgesOf l s).length) (⟨0, false, 0, 0⟩ : Edge)).length = l.length := by simp; omega
      have e1 : List.take (edgesOf l s).length (edgesOf l s ++ List.drop (edgesOf l s).length l) = edgesOf l s := by
        rw [List.take_append_of_le_length (Nat.le_refl _), List.take_length]
      have e2 : List.drop ((edgesOf l s).length + (l.length - (edgesOf l s).length)) (edgesOf l s ++ List.drop (edgesOf l s).length l) = [] := List.drop_eq_nil_of_le (by rw [hln]; omega)
      rw [e1, e2]
      simp (disch := omega) only [go_sem]
      have e3 : List.take (edgesOf l s).length (edgesOf l s ++ List.replicate (l.length - (edgesOf l s).length) (⟨0, false, 0, 0⟩ : Edge)) = edgesOf l s := by
        rw [List.take_append_of_le_length (Nat.le_refl _), List.take_length]
      rw [e3]
@[go_sem] theorem r63n (s : Int) : res A PrA 63 [.lst 0 [], .func 65 [.ro 2 [.int .i64 s]]] = some [.lst 0 []] := by
  refine res_of a63 rfl rfl ?_
  simp only [F63]
  have h77 := r77 65 0 2 [.int .i64 s] [] (fun e => !decide (e.fr = s)) (by simp) (by kernel_rfl) (by kernel_rfl) (fun x hx => by cases hx)
  have hix : idxP (fun e : Edge => !decide (e.fr = s)) [] = -1 := rfl
  rw [hix] at h77
  have h77' : res A PrA 77 [.lst 0 [], .func 65 [.ro 2 [.int .i64 s]]] = some [.int .i64 (-1)] := h77
  simp (disch := omega) only [go_sem, h77']
  rfl

end Go.Pv

/-
  Edges and actions of a state.
-/
namespace Go.Pv

@[go_sem] theorem lendAll_tl2 (h : Heap) (v : V) : lendAll h true [.tl [], v] = (lend h v).bind fun q => some ([.lst 0 [], q], none) := by
  simp only [lendAll, lendTake, if_true, mapO]
  cases lend h v <;> rfl
/-- The second argument is lent, the first one has gone. -/
def lendB (h : Heap) (v : V) : List PV × Option (Nat × Arr) → Option (List PV × Option (Nat × Arr))
  | ([p], some (i, a)) => (lend { h with ar := h.ar.set i a } v).bind fun q => some ([p, q], some (i, a))
  | _ => none
@[go_sem] theorem lendB_mk (bx : List (Nat × List V)) (ar : List Arr) (mp : List (List (PV × PV))) (v : V) (p : PV) (i : Nat) (a : Arr) : lendB ⟨bx, ar, mp⟩ v ([p], some (i, a)) = (lend ⟨bx, ar.set i a, mp⟩ v).bind fun q => some ([p, q], some (i, a)) := rfl
@[go_sem] theorem lendAll_own2 (h : Heap) (id ver len : Nat) (v : V) : lendAll h true [.own id ver 0 len, v] = (ownArr h id ver).bind fun a => (lendA id ver len a).bind (lendB h v) := by
  simp only [lendAll, lendTake]
  cases ownArr h id ver with
  | none => rfl
  | some a =>
    simp only [Option.bind_some, if_true, lendA]
    by_cases hc : a.size = len ∧ a.k ≠ 0
    · cases hb : a.body with
      | inl rows =>
        simp only [hc, ne_eq, not_false_eq_true, and_self, if_true, Option.bind_some, lendB, mapO]
        cases lend { h with ar := h.ar.set id ⟨ver + 1, 0, .inl []⟩ } v <;> rfl
      | inr rows => simp [hc]
    · simp [hc]
@[go_sem] theorem r54 (t : Nat) (n s0 s : Int) (es : List Edge) (ht : t ≤ 1) (hl : es.length ≤ 2000000000) : res A PrA 54 [.agg [.int .i64 n, .int .i64 s0, .lst t (es.map Edge.c)], .int .i64 s] = some [.lst 0 (edgs (edgesOf es s))] := by
  refine res_of a54 rfl rfl ?_
  simp only [F54]
  by_cases h0 : es.length = 0
  · have he : es = [] := List.eq_nil_of_length_eq_zero h0
    simp (disch := omega) only [go_sem, cloneP_edgs, h0]
    rw [he]
    rfl
  · have hel := edgesOf_len es s
    simp (disch := omega) only [go_sem, cloneP_edgs, h0, List.take_length]
def lessE (a b : Edge) : Bool := if a.send = b.send then decide (a.label < b.label) else b.send
@[go_sem] theorem r55 (a b : Edge) : res A PrA 55 [.agg [.int .i64 a.fr, .bool a.send, .int .i64 a.label, .int .i64 a.to], .agg [.int .i64 b.fr, .bool b.send, .int .i64 b.label, .int .i64 b.to]] = some [.bool (lessE a b)] := by
  refine res_of a55 rfl rfl ?_
  simp only [F55]
  simp (disch := omega) only [go_sem]
  unfold lessE
  refine Br.ofP (fun h => ?_) (fun h => ?_) <;> simp (disch := omega) only [go_sem, h]
@[go_sem] theorem r56 (a : Edge) : res A PrA 56 [.agg [.int .i64 a.fr, .bool a.send, .int .i64 a.label, .int .i64 a.to]] = some [.agg [.bool a.send, .int .i64 a.label]] := by
  refine res_of a56 rfl rfl ?_
  simp only [F56]
  simp (disch := omega) only [go_sem]

/-- The first action that is possible in only one of two states. -/
def mrg (only : Bool) : List Edge → List Edge → Option (Edge × Int)
  | [], [] => none
  | x :: _, [] => some (x, 0)
  | [], y :: m => if only then mrg only [] m else some (y, 1)
  | x :: l, y :: m => if lessE x y = true then some (x, 0) else if lessE y x = true then (if only then mrg only (x :: l) m else some (y, 1)) else mrg only l m
termination_by l m => l.length + m.length

/-- A pair of states, and how it is reached. -/
structure Nd where
  x : Int
  y : Int
  path : List (Bool × Int)
  deriving DecidableEq, Inhabited
def Edge.act (e : Edge) : Bool × Int := (e.send, e.label)
/-- One more pair, unless it has been seen. -/
def addD (b : List Edge) (n : Nd) (s : List (Int × Int) × List Nd) (e : Edge) : List (Int × Int) × List Nd :=
  match nextE n.y e.send e.label b with
  | some y => if (e.to, y) ∈ s.1 then s else (s.1 ++ [(e.to, y)], s.2 ++ [⟨e.to, y, n.path ++ [e.act]⟩])
  | none => s
/-- The search: pairs that were seen, pairs that wait. -/
def dif (a b : List Edge) (only : Bool) : Nat → List (Int × Int) × List Nd → Option (List (Bool × Int) × Int)
  | 0, _ => none
  | k + 1, (seen, q) => match q with
    | [] => none
    | n :: q => match mrg only (edgesOf a n.x) (edgesOf b n.y) with
      | some (e, w) => some (n.path ++ [e.act], w)
      | none => dif a b only k ((edgesOf a n.x).foldl (addD b n) (seen, q))

end Go.Pv

/-
  What the search for a difference keeps.
-/
namespace Go.Pv

def prK (p : Int × Int) : PV := .agg [.int .i64 p.1, .int .i64 p.2]
def seenM (s : List (Int × Int)) : List (PV × PV) := s.map fun p => (prK p, .bool true)
theorem keyEq_pr (p q : Int × Int) : keyEq true [1, 1] (prK p) (prK q) = some (decide (p = q)) := by
  obtain ⟨a, b⟩ := p
  obtain ⟨c, d⟩ := q
  simp only [keyEq, prK, if_true]
  simp only [go_sem]
  by_cases h1 : a = c <;> by_cases h2 : b = d <;> simp [h1, h2]
theorem seen_no {p : Int × Int} : ∀ {s : List (Int × Int)} {i : Nat}, p ∉ s → findKey true [1, 1] (prK p) (seenM s) i = some none
  | [], i, _ => by simp [seenM, findKey, keyEq_pr]
  | q :: s, i, h => by
    simp only [List.mem_cons, not_or] at h
    show findKey true [1, 1] (prK p) ((prK q, .bool true) :: seenM s) i = _
    simp only [findKey, keyEq_pr, h.1, decide_false]
    exact seen_no h.2
theorem seen_in {p : Int × Int} : ∀ {s : List (Int × Int)} {i : Nat}, p ∈ s → ∃ j, findKey true [1, 1] (prK p) (seenM s) i = some (some (j, .bool true))
  | [], i, h => by cases h
  | q :: s, i, h => by
    show ∃ j, findKey true [1, 1] (prK p) ((prK q, .bool true) :: seenM s) i = _
    simp only [findKey, keyEq_pr]
    by_cases e : p = q
    · exact ⟨i, by simp [e]⟩
    · simp only [e, decide_false]
      exact seen_in ((List.mem_cons.1 h).resolve_left e)
@[go_sem] theorem foundV_some (z : V) (j : Nat) (p : PV) : foundV z false (some (j, p)) = .pv p := rfl
@[go_sem] theorem foundV_none (z : V) : foundV z false none = z := rfl
theorem updM_new {ag : Bool} {ks : List Nat} {q p : PV} {id : Nat} {l : List (PV × PV)} (h : findKey ag ks q l 0 = some none) : updM ag ks q p id l = some { mp := some (id, l ++ [(q, p)]) } := by
  simp only [updM, h]
theorem seenM_snoc (s : List (Int × Int)) (p : Int × Int) : seenM s ++ [(prK p, .bool true)] = seenM (s ++ [p]) := by simp [seenM]

/-- A value is a list of actions, at home in these arrays (the first of which lies at 1). -/
def PathV (ars : List Arr) (v : V) (l : List (Bool × Int)) : Prop := (v = .tl [] ∧ l = []) ∨ ∃ id ver, v = .own (id + 1) ver 0 l.length ∧ l ≠ [] ∧ ars[id]? = some ⟨ver, 2, .inl (acts l)⟩
theorem PathV.more {ars : List Arr} {v : V} {l : List (Bool × Int)} (h : PathV ars v l) (x : List Arr) : PathV (ars ++ x) v l := by
  rcases h with h | ⟨id, ver, h1, h2, h3⟩
  · exact .inl h
  · exact .inr ⟨id, ver, h1, h2, by rw [List.getElem?_append_left (List.getElem?_eq_some_iff.1 h3).1]; exact h3⟩
theorem PathV.fresh {ars : List Arr} {l : List (Bool × Int)} (hl : l ≠ []) (ver : Nat) (x : List Arr) : PathV (ars ++ ⟨ver, 2, .inl (acts l)⟩ :: x) (.own (ars.length + 1) ver 0 l.length) l :=
  .inr ⟨ars.length, ver, rfl, hl, by rw [List.getElem?_append_right (Nat.le_refl _)]; simp⟩
theorem PathV.calm {ars : List Arr} {v : V} {l : List (Bool × Int)} (h : PathV ars v l) : v.calm = true ∧ v.sized = true ∧ v.purec = none ∧ v.cells = [v] := by
  rcases h with ⟨rfl, _⟩ | ⟨id, ver, rfl, _, _⟩ <;> exact ⟨rfl, rfl, rfl, rfl⟩
/-- The pairs that wait. -/
structure QRep (off : Nat) (q : List Nd) (rows : List (List V)) (ars : List Arr) : Prop where
  len : rows.length = off + q.length
  row : ∀ (i : Nat) (n : Nd), q[i]? = some n → ∃ v, rows[off + i]? = some [.pv (.int .i64 n.x), .pv (.int .i64 n.y), v] ∧ PathV ars v n.path
theorem QRep.pop {off : Nat} {n : Nd} {q : List Nd} {rows : List (List V)} {ars : List Arr} (h : QRep off (n :: q) rows ars) : QRep (off + 1) q rows ars where
  len := by rw [h.len]; simp; omega
  row i m hi := by
    obtain ⟨v, h1, h2⟩ := h.row (i + 1) m (by simpa using hi)
    exact ⟨v, by rw [show off + 1 + i = off + (i + 1) by omega]; exact h1, h2⟩
theorem QRep.more {off : Nat} {q : List Nd} {rows : List (List V)} {ars : List Arr} (h : QRep off q rows ars) (x : List Arr) : QRep off q rows (ars ++ x) where
  len := h.len
  row i n hi := by
    obtain ⟨v, h1, h2⟩ := h.row i n hi
    exact ⟨v, h1, h2.more x⟩
/-- One more, behind the others. -/
theorem QRep.push {off : Nat} {q : List Nd} {rows : List (List V)} {ars : List Arr} (h : QRep off q rows ars) {n : Nd} {v : V} (hv : PathV ars v n.path) : QRep 0 (q ++ [n]) ((rows.drop off).take q.length ++ [[.pv (.int .i64 n.x), .pv (.int .i64 n.y), v]]) ars where
  len := by
    have := h.len
    simp
    omega
  row i m hi := by
    have hl := h.len
    rw [Nat.zero_add]
    rcases Nat.lt_or_ge i q.length with hlt | hge
    · rw [List.getElem?_append_left hlt] at hi
      obtain ⟨u, h1, h2⟩ := h.row i m hi
      refine ⟨u, ?_, h2⟩
      rw [List.getElem?_append_left (by simp; omega), List.getElem?_take, if_pos hlt, List.getElem?_drop]
      exact h1
    · rw [List.getElem?_append_right hge] at hi
      have h0 : i - q.length = 0 := by
        have := (List.getElem?_eq_some_iff.1 hi).1
        simp at this
        omega
      rw [h0] at hi
      simp only [List.getElem?_cons_zero, Option.some.injEq] at hi
      subst hi
      refine ⟨v, ?_, hv⟩
      rw [List.getElem?_append_right (by simp; omega)]
      have : i - ((rows.drop off).take q.length).length = 0 := by simp; omega
      rw [this]
      rfl
theorem pairs_bound {l : List (Int × Int)} {n m : Nat} (hn : l.Nodup) (h : ∀ p ∈ l, (0 ≤ p.1 ∧ p.1 < n) ∧ (0 ≤ p.2 ∧ p.2 < m)) : l.length ≤ n * m := by
  have h1 := List.Nodup.length_le_of_subset (l₂ := (iota n).flatMap fun p => (iota m).map fun q => (p, q)) hn (fun p hp => by
    have := h p hp
    rw [List.mem_flatMap]
    exact ⟨p.1, iota_mem.2 this.1, List.mem_map.2 ⟨p.2, iota_mem.2 this.2, rfl⟩⟩)
  have h2 : ∀ l : List Int, (l.flatMap fun p => (iota m).map fun q => (p, q)).length = l.length * m := by
    intro l
    induction l with
    | nil => simp
    | cons x l ih => rw [List.flatMap_cons, List.length_append, ih]; simp [iota]; rw [Nat.add_mul]; omega
  rw [h2, show (iota n).length = n by simp [iota]] at h1
  exact h1

@[go_sem] theorem acts_snoc (l : List (Bool × Int)) (d : Bool) (x : Int) : acts l ++ [[.bool d, .int .i64 x]] = acts (l ++ [(d, x)]) := by simp [acts, actC]
@[go_sem] theorem app_acts_tl (h : Heap) (d : Bool) (x : Int) : appendV h 2 (.tl []) (.tl [[.bool d, .int .i64 x]]) = some (.own h.ar.length 0 0 1, { push := [⟨0, 2, .inl (acts [(d, x)])⟩], base := h.ar.length }) := by
  have := app_tlr h 2 [] [.bool d, .int .i64 x] rfl (fun x hx => by cases hx) (by simp)
  exact this
@[go_sem] theorem app_acts_own (h : Heap) (id ver off len : Nat) (d : Bool) (x : Int) : appendV h 2 (.own id ver off len) (.tl [[.bool d, .int .i64 x]]) = (ownArr h id ver).bind (apR id ver off len 2 [.bool d, .int .i64 x]) := app_ownr h id ver off len 2 _ rfl
@[go_sem] theorem apR_acts {id ver len : Nat} {d : Bool} {x : Int} {l : List (Bool × Int)} (h1 : len = l.length) (h2 : l.length + 1 ≤ 2147483648) : apR id ver 0 len 2 [.bool d, .int .i64 x] ⟨ver, 2, .inl (acts l)⟩ = some (.own id (ver + 1) 0 (len + 1), { ar := some (id, ⟨ver + 1, 2, .inl (acts (l ++ [(d, x)]))⟩) }) := by
  rw [apR_ok (by rw [acts_length]; exact h1) (by rw [acts_length]; exact h2), acts_snoc]
@[go_sem] theorem acts_take (l : List (Bool × Int)) (n : Nat) : (acts l).take n = acts (l.take n) := by simp [acts]
@[go_sem] theorem acts_drop (l : List (Bool × Int)) (n : Nat) : (acts l).drop n = acts (l.drop n) := by simp [acts]
@[go_sem] theorem cloneP_tl (h : Heap) (k : Nat) : cloneP k [.tl []] h = some (.tl [], {}) := by simp [cloneP, srcRows, rowsFit]
/-- Actions copied. -/
def clnA (h : Heap) (id n : Nat) (a : Arr) : Option (V × Tn) := match a.body with
  | .inl rows => if (rows.take n).all (·.length == 2) = true ∧ (rows.take n).length ≤ mostRows then (if (rows.take n).length = 0 then some (.tl [], { ra := some id }) else some (.own h.ar.length 0 0 (rows.take n).length, { push := [⟨0, 2, .inl (rows.take n)⟩], ra := some id, base := h.ar.length })) else none
  | .inr _ => none
@[go_sem] theorem cloneP_own (h : Heap) (id ver n : Nat) : cloneP 2 [.own id ver 0 n] h = (ownArr h id ver).bind (clnA h id n) := by
  simp only [cloneP, srcRows]
  cases ownArr h id ver with
  | none => rfl
  | some a =>
    cases hb : a.body <;> simp [cutRows, clnA, hb, rowsFit]
@[go_sem] theorem clnA_acts {h : Heap} {id n ver : Nat} {l : List (Bool × Int)} (hn : n = l.length) (h0 : l.length ≠ 0) (hm : l.length ≤ 2147483648) : clnA h id n ⟨ver, 2, .inl (acts l)⟩ = some (.own h.ar.length 0 0 l.length, { push := [⟨0, 2, .inl (acts l)⟩], ra := some id, base := h.ar.length }) := by
  subst hn
  have e1 : (acts l).take l.length = acts l := List.take_of_length_le (by rw [acts_length]; exact Nat.le_refl _)
  have e2 : ((acts l).all fun x => x.length == 2) = true := by simp [acts, actC]
  simp [clnA, e1, e2, acts_length, mostRows, hm, h0]

end Go.Pv

/-
  Loops whose rounds leave more than the next round takes.
-/
namespace Go.Pv
variable {A : Nat → Option AFunc} {Pr : Prims}

/-- What a round comes to: the next round takes what is written here. -/
def rndM {α : Type} (kt kb : List Nat) (S : α → St) (P : α → Prop) (m : α → Nat) (x : α) (Q : Ex → St → Prop) (_t : Tie (kt, kb, S, P, m, x, Q) := .mk) : Ex → St → Prop
  | .normal, s => ∃ y, P y ∧ m y < m x ∧ s.mask kt kb = S y
  | .exit i, s => Q (.exit i) s
  | .ret, s => Q .ret s
@[go_sem] theorem rndM_exit {α : Type} (kt kb : List Nat) (S : α → St) (P : α → Prop) (m : α → Nat) (x : α) (Q : Ex → St → Prop) (i : Nat) (s : St) : rndM kt kb S P m x Q .mk (.exit i) s = Q (.exit i) s := rfl
@[go_sem] theorem rndM_ret {α : Type} (kt kb : List Nat) (S : α → St) (P : α → Prop) (m : α → Nat) (x : α) (Q : Ex → St → Prop) (s : St) : rndM kt kb S P m x Q .mk .ret s = Q .ret s := rfl
@[congr] theorem rndM_congr {α : Type} {kt kb : List Nat} {S : α → St} {P : α → Prop} {m : α → Nat} {x : α} {Q : Ex → St → Prop} {e e' : Ex} {s s' : St} (he : e = e') (hs : s = s') : rndM kt kb S P m x Q .mk e s = rndM kt kb S P m x Q .mk e' s' := by rw [he, hs]

theorem W.loopM {α : Type} {a : AC} {kt kb : List Nat} {s : St} {Q : Ex → St → Prop} (S : α → St) (P : α → Prop) (m : α → Nat) (x0 : α) (hs : s.mask kt kb = S x0) (h0 : P x0) (hr : ∀ x, P x → W A Pr a (S x) (rndM kt kb S P m x Q)) : W A Pr (.loop (.mask kt kb a)) s Q := by
  have key : ∀ n x s, m x ≤ n → s.mask kt kb = S x → P x → W A Pr (.loop (.mask kt kb a)) s Q := by
    intro n
    induction n with
    | zero =>
      intro x s hm hs hp
      obtain ⟨ex, s', h1, h2⟩ := hr x hp
      rw [← hs] at h1
      have h1 := Runs.mask h1
      cases ex with
      | normal => obtain ⟨y, _, h3, _⟩ := h2; omega
      | exit i => exact ⟨_, _, Runs.loop_out h1 (by simp), h2⟩
      | ret => exact ⟨_, _, Runs.loop_out h1 (by simp), h2⟩
    | succ n ih =>
      intro x s hm hs hp
      obtain ⟨ex, s', h1, h2⟩ := hr x hp
      rw [← hs] at h1
      have h1 := Runs.mask h1
      cases ex with
      | normal =>
        obtain ⟨y, hy, h3, h6⟩ := h2
        obtain ⟨e2, s2, h4, h5⟩ := ih y s' (by omega) h6 hy
        exact ⟨e2, s2, Runs.loop_step h1 h4, h5⟩
      | exit i => exact ⟨_, _, Runs.loop_out h1 (by simp), h2⟩
      | ret => exact ⟨_, _, Runs.loop_out h1 (by simp), h2⟩
  exact key _ x0 s (Nat.le_refl _) hs h0

end Go.Pv

/-
  The search for a difference.
-/
namespace Go.Pv

def difR : Option (List (Bool × Int) × Int) → List PV
  | none => [.lst 0 [], .int .i64 0, .bool false]
  | some (p, w) => [.lst 0 (acts p), .int .i64 w, .bool true]

theorem mrg_nn (o : Bool) : mrg o [] [] = none := by rw [mrg]
theorem mrg_cn (o : Bool) (x : Edge) (l : List Edge) : mrg o (x :: l) [] = some (x, 0) := by rw [mrg]
theorem mrg_nc (o : Bool) (y : Edge) (m : List Edge) : mrg o [] (y :: m) = if o then mrg o [] m else some (y, 1) := by rw [mrg]
theorem mrg_cc (o : Bool) (x y : Edge) (l m : List Edge) : mrg o (x :: l) (y :: m) = if lessE x y = true then some (x, 0) else if lessE y x = true then (if o then mrg o (x :: l) m else some (y, 1)) else mrg o l m := by rw [mrg]
/-- One more row, behind the rows that wait. -/
theorem app_q {bx : List (Nat × List V)} {mp : List (List (PV × PV))} {ver off len m : Nat} {rows : List (List V)} {r : List V} {ar : List Arr} (h1 : ar[m]? = some ⟨0, 3, .inr [r]⟩) (h2 : r.length = 3) (h3 : rows.length = off + len) (h4 : len + 1 ≤ 2147483648) :
    appendV ⟨bx, ⟨ver, 3, .inr rows⟩ :: ar, mp⟩ 3 (.own 0 ver off len) (.own (m + 1) 0 0 1) = some (.own 0 (ver + 1) 0 (len + 1), { ar := some (0, ⟨ver + 1, 3, .inr ((rows.drop off).take len ++ [r])⟩), ra := some (m + 1) }) := by
  simp [appendV, srcRows, ownArr, h1, cutRows, rowsFit, rowsLen, h2, Arr.size, h3, mostRows, h4, catRows]
/-- Where the search stands. -/
structure DifOk (a b : Auto) (k : Nat) (seen : List (Int × Int)) (q : List Nd) : Prop where
  nodup : seen.Nodup
  mem : ∀ p ∈ seen, (0 ≤ p.1 ∧ p.1 < a.states) ∧ (0 ≤ p.2 ∧ p.2 < b.states)
  count : k + seen.length = a.states.toNat * b.states.toNat + 1 + q.length
  node : ∀ n ∈ q, (0 ≤ n.x ∧ n.x < a.states) ∧ (0 ≤ n.y ∧ n.y < b.states) ∧ n.path.length < seen.length
  le : k ≤ 145
theorem DifOk.push {a b : Auto} {k : Nat} {seen : List (Int × Int)} {q : List Nd} (h : DifOk a b k seen q) {x y : Int} {p : List (Bool × Int)} (hn : (x, y) ∉ seen) (hr : (0 ≤ x ∧ x < a.states) ∧ (0 ≤ y ∧ y < b.states)) (hp : p.length ≤ seen.length) : DifOk a b k (seen ++ [(x, y)]) (q ++ [⟨x, y, p⟩]) where
  nodup := by
    rw [List.nodup_append]
    exact ⟨h.nodup, by simp, fun u hu v hv e => hn (by rw [List.mem_singleton] at hv; subst hv; subst e; exact hu)⟩
  mem u hu := by
    rw [List.mem_append, List.mem_singleton] at hu
    rcases hu with hu | rfl
    · exact h.mem u hu
    · exact hr
  count := by
    have := h.count
    simp
    omega
  node n hm := by
    rw [List.mem_append, List.mem_singleton] at hm
    rcases hm with hm | rfl
    · obtain ⟨h1, h2, h3⟩ := h.node n hm
      exact ⟨h1, h2, by simp; omega⟩
    · exact ⟨hr.1, hr.2, by simp; omega⟩
  le := h.le
def difS (t u : Nat) (a b : Auto) (only : Bool) (ver off : Nat) (q : List Nd) (rows : List (List V)) (ars : List Arr) (seen : List (Int × Int)) : St :=
  ⟨[(2, .pv (.bool only)), (3, .ptr 3 0), (4, .ptr 4 0), (9, .own 0 ver off q.length), (10, .map 0)], ⟨[(3, [.pv (.int .i64 a.states), .pv (.int .i64 a.start), .pv (.lst t (a.edges.map Edge.c))]), (4, [.pv (.int .i64 b.states), .pv (.int .i64 b.start), .pv (.lst u (b.edges.map Edge.c))])], ⟨ver, 3, .inr rows⟩ :: ars, [seenM seen]⟩⟩

set_option maxHeartbeats 4000000 in
@[go_sem] theorem r35 (t u : Nat) (a b : Auto) (only : Bool) (ht : t ≤ 1) (hu : u ≤ 1) (ha : a.Good) (hb : b.Good) : res A PrA 35 [.agg [.int .i64 a.states, .int .i64 a.start, .lst t (a.edges.map Edge.c)], .agg [.int .i64 b.states, .int .i64 b.start, .lst u (b.edges.map Edge.c)], .bool only] = some (difR (dif a.edges b.edges only (a.states.toNat * b.states.toNat + 1) ([(a.start, b.start)], [⟨a.start, b.start, []⟩]))) := by
  refine res_of a35 rfl rfl ?_
  simp only [F35]
  have hal := ha.len
  have hbl := hb.len
  have hst := ha.st
  have hst' := hb.st
  have hmx := ha.mx
  have hmx' := hb.mx
  have hu0 : updM true [1, 1] (PV.agg [PV.int IntKind.i64 a.start, PV.int IntKind.i64 b.start]) (PV.bool true) 0 [] = some { mp := some (0, seenM [(a.start, b.start)]) } := rfl
  simp (disch := omega) only [go_sem, hu0]
  generalize hN : a.states.toNat * b.states.toNat + 1 = N
  have hNb : N ≤ 145 := by
    have := Nat.mul_le_mul (show a.states.toNat ≤ 12 by omega) (show b.states.toNat ≤ 12 by omega)
    omega
  refine W.loopM (α := Nat × Nat × Nat × List Nd × List (List V) × List Arr × List (Int × Int)) (fun x => difS t u a b only x.2.1 x.2.2.1 x.2.2.2.1 x.2.2.2.2.1 x.2.2.2.2.2.1 x.2.2.2.2.2.2)
    (fun x => DifOk a b x.1 x.2.2.2.2.2.2 x.2.2.2.1 ∧ QRep x.2.2.1 x.2.2.2.1 x.2.2.2.2.1 x.2.2.2.2.2.1 ∧ dif a.edges b.edges only x.1 (x.2.2.2.2.2.2, x.2.2.2.1) = dif a.edges b.edges only N ([(a.start, b.start)], [⟨a.start, b.start, []⟩])) (fun x => x.1) (N, 0, 0, [⟨a.start, b.start, []⟩], [[.pv (.int .i64 a.start), .pv (.int .i64 b.start), .tl []]], [], [(a.start, b.start)]) rfl ⟨⟨by simp, by simp; omega, by simp; omega, by simp; omega, hNb⟩, ⟨rfl, fun i n hi => ?_⟩, rfl⟩ fun x hx => ?_
  · cases i with
    | zero =>
      cases hi
      exact ⟨.tl [], rfl, .inl ⟨rfl, rfl⟩⟩
    | succ i => simp at hi
  obtain ⟨k, ver, off, q, rows, ars, seen⟩ := x
  obtain ⟨hD, hQ, hres⟩ := hx
  dsimp only at hD hQ hres
  unfold difS
  dsimp only
  rw [← hres]
  have hsb := pairs_bound hD.nodup (n := a.states.toNat) (m := b.states.toNat) (fun p hp => by
    have := hD.mem p hp
    omega)
  have hcnt := hD.count
  rw [hN] at hcnt
  cases q with
  | nil =>
    simp (disch := omega) only [go_sem]
    refine Br.ofP (fun h => absurd h (by omega)) (fun h => ?_)
    simp (disch := omega) only [go_sem]
    cases k <;> rfl
  | cons n q =>
    obtain ⟨k, rfl⟩ : ∃ k', k = k' + 1 := ⟨k - 1, by simp at hcnt; omega⟩
    obtain ⟨v, hv, hpv⟩ := hQ.row 0 n rfl
    have hrl := hQ.len
    obtain ⟨⟨x0, x1⟩, ⟨y0, y1⟩, hpl⟩ := hD.node n (List.mem_cons_self ..)
    obtain ⟨c1, c2, c3, c4⟩ := hpv.calm
    have hoff : off < rows.length := by simp at hrl; omega
    rw [Nat.add_zero] at hv
    simp (disch := omega) only [go_sem]
    refine Br.ofP (fun h => ?_) (fun h => (h (by omega)).elim)
    simp (disch := omega) only [go_sem, hv, c1]
    rw [Nat.add_sub_cancel]
    have hla := edgesOf_len a.edges n.x
    have hlb := edgesOf_len b.edges n.y
    generalize hA : edgesOf a.edges n.x = la at hla ⊢
    generalize hB : edgesOf b.edges n.y = lb at hlb ⊢
    have hdif : dif a.edges b.edges only (k + 1) (seen, n :: q) = match mrg only la lb with
      | some (e, w) => some (n.path ++ [e.act], w)
      | none => dif a.edges b.edges only k (la.foldl (addD b.edges n) (seen, q)) := by rw [← hA, ← hB]; rfl
    rw [hdif]
    refine W.loop (α := Nat × Nat) (fun x => ⟨[(2, .pv (.bool only)), (3, .ptr 3 0), (4, .ptr 4 0), (9, .own 0 ver (off + 1) q.length), (10, .map 0), (11, .ptr 11 0), (12, .pv (.lst 0 (edgs la))), (13, .pv (.lst 0 (edgs lb))), (14, .pv (.int .i64 x.1)), (15, .pv (.int .i64 x.2))], ⟨[(3, [.pv (.int .i64 a.states), .pv (.int .i64 a.start), .pv (.lst t (a.edges.map Edge.c))]), (4, [.pv (.int .i64 b.states), .pv (.int .i64 b.start), .pv (.lst u (b.edges.map Edge.c))]), (11, [.pv (.int .i64 n.x), .pv (.int .i64 n.y), v])], ⟨ver, 3, .inr rows⟩ :: ars, [seenM seen]⟩⟩)
      (fun x => x.1 ≤ la.length ∧ x.2 ≤ lb.length ∧ mrg only (la.drop x.1) (lb.drop x.2) = mrg only la lb) (fun x => (la.length - x.1) + (lb.length - x.2)) (0, 0) rfl ⟨Nat.zero_le _, Nat.zero_le _, rfl⟩ fun x hx => ?_
    obtain ⟨i, j⟩ := x
    obtain ⟨hi, hj, hm⟩ := hx
    dsimp only at hi hj hm
    rw [← hm]
    dsimp only
    rcases Nat.lt_or_ge i la.length with hi' | hi'
    · obtain ⟨x, hx⟩ := get_at hi'
      rw [drop_at hx]
      rcases Nat.lt_or_ge j lb.length with hj' | hj'
      · obtain ⟨y, hy⟩ := get_at hj'
        rw [drop_at hy, mrg_cc]
        simp (disch := omega) only [go_sem]
        refine Br.ofP (fun h => ?_) (fun h => (h (by omega)).elim)
        simp (disch := omega) only [go_sem, h]
        refine Br.ofP (fun h => absurd h (by omega)) (fun h => ?_)
        simp (disch := omega) only [go_sem, h]
        refine Br.ofP (fun h => ?_) (fun h => (h (by omega)).elim)
        simp (disch := omega) only [go_sem, h, hx, hy]
        refine Br.of (fun l1 => ?_) (fun l1 => ?_) <;> simp (disch := omega) only [go_sem, l1, hx]
        · rw [if_pos l1]
          rcases hpv with ⟨rfl, hp⟩ | ⟨id, pv, rfl, hne, hid⟩
          · simp (disch := omega) only [go_sem]
            simp [keepRows, cutRows, difR, Edge.act, hp, acts]
          · simp (disch := omega) only [go_sem, hid]
            have hlt := (List.getElem?_eq_some_iff.1 hid).1
            rw [List.getElem?_set_self hlt]
            simp [keepRows, cutRows, difR, Edge.act, acts, List.take_of_length_le]
        rw [if_neg (by simp [l1])]
        refine Br.ofP (fun h => absurd h (by omega)) (fun h => ?_)
        simp (disch := omega) only [go_sem, h, hx, hy]
        refine Br.of (fun l2 => ?_) (fun l2 => ?_) <;> simp (disch := omega) only [go_sem, l2]
        · rw [if_pos l2]
          cases only with
          | true =>
            simp (disch := omega) only [go_sem]
            refine ⟨(i, j + 1), ⟨hi, by dsimp only; omega, ?_⟩, by dsimp only; omega, rfl⟩
            dsimp only
            rw [if_pos rfl, drop_at hx]
          | false =>
            simp (disch := omega) only [go_sem, hy]
            rcases hpv with ⟨rfl, hp⟩ | ⟨id, pv, rfl, hne, hid⟩
            · simp (disch := omega) only [go_sem]
              simp [keepRows, cutRows, difR, Edge.act, hp, acts]
            · simp (disch := omega) only [go_sem, hid]
              have hlt := (List.getElem?_eq_some_iff.1 hid).1
              rw [List.getElem?_set_self hlt]
              simp [keepRows, cutRows, difR, Edge.act, acts, List.take_of_length_le]
        · rw [if_neg (by simp [l2])]
          exact ⟨(i + 1, j + 1), ⟨by dsimp only; omega, by dsimp only; omega, rfl⟩, by dsimp only; omega, rfl⟩
      · obtain rfl : j = lb.length := by omega
        rw [List.drop_of_length_le hj', mrg_cn]
        simp (disch := omega) only [go_sem]
        refine Br.ofP (fun h => ?_) (fun h => (h (by omega)).elim)
        simp (disch := omega) only [go_sem, h, hx]
        rcases hpv with ⟨rfl, hp⟩ | ⟨id, pv, rfl, hne, hid⟩
        · simp (disch := omega) only [go_sem]
          simp [keepRows, cutRows, difR, Edge.act, hp, acts]
        · simp (disch := omega) only [go_sem, hid]
          have hlt := (List.getElem?_eq_some_iff.1 hid).1
          rw [List.getElem?_set_self hlt]
          simp [keepRows, cutRows, difR, Edge.act, acts, List.take_of_length_le]
    · obtain rfl : i = la.length := by omega
      rw [List.drop_of_length_le hi']
      rcases Nat.lt_or_ge j lb.length with hj' | hj'
      · obtain ⟨y, hy⟩ := get_at hj'
        rw [drop_at hy, mrg_nc]
        simp (disch := omega) only [go_sem]
        refine Br.ofP (fun h => ?_) (fun h => (h (by omega)).elim)
        simp (disch := omega) only [go_sem, h]
        refine Br.ofP (fun h => absurd h (by omega)) (fun h => ?_)
        simp (disch := omega) only [go_sem, h]
        cases only with
        | true =>
          simp (disch := omega) only [go_sem]
          refine ⟨(la.length, j + 1), ⟨hi, by dsimp only; omega, ?_⟩, by dsimp only; omega, rfl⟩
          dsimp only
          rw [if_pos rfl, List.drop_of_length_le hi']
        | false =>
          simp (disch := omega) only [go_sem, hy]
          rcases hpv with ⟨rfl, hp⟩ | ⟨id, pv, rfl, hne, hid⟩
          · simp (disch := omega) only [go_sem]
            simp [keepRows, cutRows, difR, Edge.act, hp, acts]
          · simp (disch := omega) only [go_sem, hid]
            have hlt := (List.getElem?_eq_some_iff.1 hid).1
            rw [List.getElem?_set_self hlt]
            simp [keepRows, cutRows, difR, Edge.act, acts, List.take_of_length_le]
      · obtain rfl : j = lb.length := by omega
        rw [List.drop_of_length_le hj', mrg_nn]
        simp (disch := omega) only [go_sem]
        refine W.loopM (α := Nat × Nat × Nat × List Nd × List (List V) × List Arr × List (Int × Int)) (fun x => ⟨[(2, .pv (.bool only)), (3, .ptr 3 0), (4, .ptr 4 0), (9, .own 0 x.2.1 x.2.2.1 x.2.2.2.1.length), (10, .map 0), (11, .ptr 11 0), (124, .pv (.lst 0 (edgs la))), (125, .pv (.int .i64 la.length)), (126, .pv (.int .i64 x.1))], ⟨[(3, [.pv (.int .i64 a.states), .pv (.int .i64 a.start), .pv (.lst t (a.edges.map Edge.c))]), (4, [.pv (.int .i64 b.states), .pv (.int .i64 b.start), .pv (.lst u (b.edges.map Edge.c))]), (11, [.pv (.int .i64 n.x), .pv (.int .i64 n.y), v])], ⟨x.2.1, 3, .inr x.2.2.2.2.1⟩ :: x.2.2.2.2.2.1, [seenM x.2.2.2.2.2.2]⟩⟩)
          (fun x => x.1 ≤ la.length ∧ DifOk a b k x.2.2.2.2.2.2 x.2.2.2.1 ∧ QRep x.2.2.1 x.2.2.2.1 x.2.2.2.2.1 x.2.2.2.2.2.1 ∧ PathV x.2.2.2.2.2.1 v n.path ∧ n.path.length < x.2.2.2.2.2.2.length ∧ (la.drop x.1).foldl (addD b.edges n) (x.2.2.2.2.2.2, x.2.2.2.1) = la.foldl (addD b.edges n) (seen, q)) (fun x => la.length - x.1) (0, ver, off + 1, q, rows, ars, seen) rfl
          ⟨Nat.zero_le _, ⟨hD.nodup, hD.mem, by have := hD.count; rw [List.length_cons] at this; dsimp only; omega, fun m hm => hD.node m (List.mem_cons_of_mem _ hm), by have := hD.le; omega⟩, hQ.pop, hpv, hpl, rfl⟩ fun x hx => ?_
        obtain ⟨m, ver', off', q', rows', ars', seen'⟩ := x
        obtain ⟨hm', hD', hQ', hpv', hpl', hf⟩ := hx
        dsimp only at hm' hD' hQ' hpv' hpl' hf
        dsimp only
        rw [← hf]
        have hsb' := pairs_bound hD'.nodup (n := a.states.toNat) (m := b.states.toNat) (fun p hp => by
          have := hD'.mem p hp
          omega)
        have hcnt' := hD'.count
        rw [hN] at hcnt'
        have hrl' := hQ'.len
        rcases Nat.lt_or_ge m la.length with hlt | hlt
        · obtain ⟨e, he⟩ := get_at hlt
          rw [drop_at he, List.foldl_cons]
          have hea := List.mem_of_getElem? he
          rw [← hA, edgesOf_mem] at hea
          have hef := fits_iff.1 (ha.fit e hea.1)
          simp (disch := omega) only [go_sem]
          refine Br.ofP (fun h => ?_) (fun h => (h (by omega)).elim)
          simp (disch := omega) only [go_sem, he]
          cases hn : nextE n.y e.send e.label b.edges with
          | none =>
            simp (disch := omega) only [go_sem, Option.isSome_none]
            have hadd : addD b.edges n (seen', q') e = (seen', q') := by simp [addD, hn]
            exact ⟨(m + 1, ver', off', q', rows', ars', seen'), ⟨by dsimp only; omega, hD', hQ', hpv', hpl', by rw [hadd]⟩, by dsimp only; omega, rfl⟩
          | some y =>
            simp only [Option.isSome_some, Option.getD_some]
            have hyr : 0 ≤ y ∧ y < b.states := by
              have hmem := (nextE_some hb.apt).1 hn
              have hf2 := fits_iff.1 (hb.fit _ hmem)
              exact ⟨hf2.2.2.1, hf2.2.2.2.1⟩
            have hkb := hD'.le
            simp (disch := omega) only [go_sem]
            by_cases hin : (e.to, y) ∈ seen'
            · obtain ⟨j, hj⟩ := seen_in (i := 0) hin
              have hj : findKey true [1, 1] (.agg [.int .i64 e.to, .int .i64 y]) (seenM seen') 0 = some (some (j, .bool true)) := hj
              simp (disch := omega) only [go_sem, hj]
              have hadd : addD b.edges n (seen', q') e = (seen', q') := by simp [addD, hn, hin]
              exact ⟨(m + 1, ver', off', q', rows', ars', seen'), ⟨by dsimp only; omega, hD', hQ', hpv', hpl', by rw [hadd]⟩, by dsimp only; omega, rfl⟩
            · have hj : findKey true [1, 1] (.agg [.int .i64 e.to, .int .i64 y]) (seenM seen') 0 = some none := seen_no hin
              have hup : updM true [1, 1] (.agg [.int .i64 e.to, .int .i64 y]) (.bool true) 0 (seenM seen') = some { mp := some (0, seenM (seen' ++ [(e.to, y)])) } := by
                rw [← seenM_snoc]
                exact updM_new hj
              simp (disch := omega) only [go_sem, hj, hup]
              rcases hpv' with ⟨rfl, hp⟩ | ⟨id, pv, rfl, hne, hid⟩
              · simp (disch := omega) only [go_sem]
                rw [app_q (r := [.pv (.int .i64 e.to), .pv (.int .i64 y), .own (ars'.length + 1) 0 0 1]) (by simp) rfl hrl' (by omega)]
                simp (disch := omega) only [go_sem]
                have hadd : addD b.edges n (seen', q') e = (seen' ++ [(e.to, y)], q' ++ [⟨e.to, y, n.path ++ [e.act]⟩]) := by simp [addD, hn, hin]
                refine ⟨(m + 1, ver' + 1, 0, q' ++ [⟨e.to, y, n.path ++ [e.act]⟩], (rows'.drop off').take q'.length ++ [[.pv (.int .i64 e.to), .pv (.int .i64 y), .own (ars'.length + 1) 0 0 1]], ars' ++ [⟨0, 2, .inl (acts [(e.send, e.label)])⟩] ++ [⟨0, 3, .inr [[.pv (.int .i64 e.to), .pv (.int .i64 y), .own (ars'.length + 1) 0 0 1]]⟩], seen' ++ [(e.to, y)]), ⟨by dsimp only; omega, hD'.push hin ⟨⟨by omega, by omega⟩, hyr⟩ (by simp; omega), ?_, .inl ⟨rfl, hp⟩, by simp; omega, by rw [hadd]⟩, by dsimp only; omega, ?_⟩
                · rw [List.append_assoc]
                  refine (hQ'.more _).push (n := ⟨e.to, y, n.path ++ [e.act]⟩) (.inr ⟨ars'.length, 0, ?_, by simp, ?_⟩)
                  · simp [hp]
                  · simp [hp, Edge.act]
                · dsimp only
                  rw [List.length_append]
                  rfl
              · have hne' : n.path.length ≠ 0 := fun h => hne (List.eq_nil_of_length_eq_zero h)
                simp (disch := omega) only [go_sem, hid, List.getElem?_concat_length, List.set_append_right, Nat.sub_self, List.set_cons_zero, Nat.le_refl]
                rw [app_q (r := [.pv (.int .i64 e.to), .pv (.int .i64 y), .own (ars'.length + 1) 1 0 (n.path.length + 1)]) (by simp) rfl hrl' (by omega)]
                simp (disch := omega) only [go_sem]
                have hadd : addD b.edges n (seen', q') e = (seen' ++ [(e.to, y)], q' ++ [⟨e.to, y, n.path ++ [e.act]⟩]) := by simp [addD, hn, hin]
                refine ⟨(m + 1, ver' + 1, 0, q' ++ [⟨e.to, y, n.path ++ [e.act]⟩], (rows'.drop off').take q'.length ++ [[.pv (.int .i64 e.to), .pv (.int .i64 y), .own (ars'.length + 1) 1 0 (n.path.length + 1)]], ars' ++ [⟨1, 2, .inl (acts (n.path ++ [(e.send, e.label)]))⟩] ++ [⟨0, 3, .inr [[.pv (.int .i64 e.to), .pv (.int .i64 y), .own (ars'.length + 1) 1 0 (n.path.length + 1)]]⟩], seen' ++ [(e.to, y)]), ⟨by dsimp only; omega, hD'.push hin ⟨⟨by omega, by omega⟩, hyr⟩ (by simp; omega), ?_, ?_, by simp; omega, by rw [hadd]⟩, by dsimp only; omega, ?_⟩
                · rw [List.append_assoc]
                  refine (hQ'.more _).push (n := ⟨e.to, y, n.path ++ [e.act]⟩) (.inr ⟨ars'.length, 1, ?_, by simp, ?_⟩)
                  · simp
                  · simp [Edge.act]
                · dsimp only
                  rw [List.append_assoc]
                  exact PathV.more (.inr ⟨id, pv, rfl, hne, hid⟩) _
                · dsimp only
                  rw [List.length_append]
                  rfl
        · obtain rfl : m = la.length := by omega
          simp (disch := omega) only [go_sem]
          refine ⟨(k, ver', off', q', rows', ars', seen'), ⟨hD', hQ', ?_⟩, by dsimp only; omega, rfl⟩
          dsimp only
          rw [List.drop_of_length_le hlt]
          rfl
end Go.Pv

/-
  Plain laws: what the search for a difference finds.
-/
namespace Go.Pv

theorem lessE_act {a b c d : Edge} (h1 : a.act = c.act) (h2 : b.act = d.act) : lessE a b = lessE c d := by
  simp only [Edge.act, Prod.mk.injEq] at h1 h2
  unfold lessE
  rw [h1.1, h1.2, h2.1, h2.2]
theorem lessE_irr {a b : Edge} (h : a.act = b.act) : lessE a b = false := by
  rw [lessE_act h rfl]
  simp [lessE]
theorem lessE_tr {a b c : Edge} (h1 : lessE a b = true) (h2 : lessE b c = true) : lessE a c = true := by
  unfold lessE at *
  cases ha : a.send <;> cases hb : b.send <;> cases hc : c.send <;> simp_all <;> omega
theorem lessE_tot {a b : Edge} (h1 : lessE a b = false) (h2 : lessE b a = false) : a.act = b.act := by
  unfold lessE at *
  unfold Edge.act
  cases ha : a.send <;> cases hb : b.send <;> simp_all <;> omega
/-- Edges in the order of their actions. -/
def AscE (l : List Edge) : Prop := l.Pairwise fun x y => lessE x y = true
theorem Auto.Good.ascE {a : Auto} (h : a.Good) (s : Int) : AscE (edgesOf a.edges s) := by
  unfold AscE edgesOf
  rw [List.pairwise_filter]
  refine h.asc.imp ?_
  intro x y hxy hx hy
  simp only [beq_iff_eq] at hx hy
  unfold Edge.lt at hxy
  unfold lessE
  rw [hx, hy] at hxy
  cases hs : x.send <;> cases ht : y.send <;> simp_all

/-- What the comparison of two lists says. -/
theorem mrg_spec (o : Bool) : ∀ (la lb : List Edge), AscE la → AscE lb → match mrg o la lb with
    | none => (∀ x ∈ la, ∃ y ∈ lb, y.act = x.act) ∧ (o = false → ∀ y ∈ lb, ∃ x ∈ la, x.act = y.act)
    | some (e, w) => (w = 0 ∧ e ∈ la ∧ ∀ y ∈ lb, y.act ≠ e.act) ∨ (w = 1 ∧ o = false ∧ e ∈ lb ∧ ∀ x ∈ la, x.act ≠ e.act)
  | [], [], _, _ => by
    rw [mrg_nn]
    exact ⟨fun x hx => (List.not_mem_nil hx).elim, fun _ y hy => (List.not_mem_nil hy).elim⟩
  | x :: l, [], _, _ => by
    rw [mrg_cn]
    exact .inl ⟨rfl, by simp, fun y hy => (List.not_mem_nil hy).elim⟩
  | [], y :: m, ha, hb => by
    rw [mrg_nc]
    cases o with
    | true =>
      rw [if_pos rfl]
      have h := mrg_spec true [] m ha (List.pairwise_cons.1 hb).2
      revert h
      cases mrg true [] m with
      | none => exact fun _ => ⟨fun x hx => (List.not_mem_nil hx).elim, fun h => by cases h⟩
      | some r =>
        rintro (⟨_, h, _⟩ | ⟨_, h, _⟩)
        · cases h
        · cases h
    | false =>
      rw [if_neg (by simp)]
      exact .inr ⟨rfl, rfl, by simp, fun x hx => (List.not_mem_nil hx).elim⟩
  | x :: l, y :: m, ha, hb => by
    obtain ⟨ha1, ha2⟩ := List.pairwise_cons.1 ha
    obtain ⟨hb1, hb2⟩ := List.pairwise_cons.1 hb
    have keya : ∀ {z}, lessE z x = true → ∀ u ∈ x :: l, u.act ≠ z.act := fun {z} hz u hu e => by
      rcases List.mem_cons.1 hu with rfl | hu
      · rw [lessE_irr e.symm] at hz; cases hz
      · have := lessE_tr hz (ha1 u hu)
        rw [lessE_irr e.symm] at this; cases this
    have keyb : ∀ {z}, lessE z y = true → ∀ u ∈ y :: m, u.act ≠ z.act := fun {z} hz u hu e => by
      rcases List.mem_cons.1 hu with rfl | hu
      · rw [lessE_irr e.symm] at hz; cases hz
      · have := lessE_tr hz (hb1 u hu)
        rw [lessE_irr e.symm] at this; cases this
    rw [mrg_cc]
    by_cases h1 : lessE x y = true
    · rw [if_pos h1]
      exact .inl ⟨rfl, by simp, keyb h1⟩
    · rw [if_neg h1]
      by_cases h2 : lessE y x = true
      · rw [if_pos h2]
        cases o with
        | true =>
          rw [if_pos rfl]
          have h := mrg_spec true (x :: l) m ha hb2
          revert h
          cases mrg true (x :: l) m with
          | none =>
            rintro ⟨h, _⟩
            refine ⟨fun u hu => ?_, fun h => by cases h⟩
            obtain ⟨v, hv, e⟩ := h u hu
            exact ⟨v, List.mem_cons_of_mem _ hv, e⟩
          | some r =>
            rintro (⟨h3, h4, h5⟩ | ⟨_, h, _⟩)
            · refine .inl ⟨h3, h4, fun v hv => ?_⟩
              rcases List.mem_cons.1 hv with rfl | hv
              · exact fun e => keya h2 _ h4 e.symm
              · exact h5 v hv
            · cases h
        | false =>
          rw [if_neg (by simp)]
          exact .inr ⟨rfl, rfl, by simp, keya h2⟩
      · rw [if_neg h2]
        have he : x.act = y.act := lessE_tot (by simpa using h1) (by simpa using h2)
        have h := mrg_spec o l m ha2 hb2
        revert h
        cases mrg o l m with
        | none =>
          rintro ⟨h3, h4⟩
          refine ⟨fun u hu => ?_, fun ho u hu => ?_⟩
          · rcases List.mem_cons.1 hu with rfl | hu
            · exact ⟨y, by simp, he.symm⟩
            · obtain ⟨v, hv, e⟩ := h3 u hu
              exact ⟨v, List.mem_cons_of_mem _ hv, e⟩
          · rcases List.mem_cons.1 hu with rfl | hu
            · exact ⟨x, by simp, he⟩
            · obtain ⟨v, hv, e⟩ := h4 ho u hu
              exact ⟨v, List.mem_cons_of_mem _ hv, e⟩
        | some r =>
          rintro (⟨h3, h4, h5⟩ | ⟨h3, h0, h4, h5⟩)
          · refine .inl ⟨h3, List.mem_cons_of_mem _ h4, fun v hv => ?_⟩
            rcases List.mem_cons.1 hv with rfl | hv
            · intro e
              have := ha1 _ h4
              rw [lessE_irr (he.trans e)] at this
              cases this
            · exact h5 v hv
          · refine .inr ⟨h3, h0, List.mem_cons_of_mem _ h4, fun v hv => ?_⟩
            rcases List.mem_cons.1 hv with rfl | hv
            · intro e
              have := hb1 _ h4
              rw [lessE_irr (he.symm.trans e)] at this
              cases this
            · exact h5 v hv
termination_by la lb => la.length + lb.length

/-- The same actions, taken in both. -/
inductive PR (a b : List Edge) (s t : Int) : List (Bool × Int) → Int → Int → Prop
  | nil : PR a b s t [] s t
  | snoc {p : List (Bool × Int)} {x y x' y' : Int} {d : Bool} {l : Int} : PR a b s t p x y → nextE x d l a = some x' → nextE y d l b = some y' → PR a b s t (p ++ [(d, l)]) x' y'

theorem addD_fold {a b : Auto} {k : Nat} {n : Nd} (hb : b.Good) : ∀ (l : List Edge) (seen : List (Int × Int)) (q : List Nd), (∀ e ∈ l, 0 ≤ e.to ∧ e.to < a.states) → n.path.length < seen.length → DifOk a b k seen q →
    ∃ seen' qs, l.foldl (addD b.edges n) (seen, q) = (seen', q ++ qs) ∧ DifOk a b k seen' (q ++ qs) ∧ (∀ p ∈ seen, p ∈ seen') ∧ (∀ p ∈ seen', p ∈ seen ∨ ∃ m ∈ qs, (m.x, m.y) = p) ∧
      (∀ m ∈ qs, ∃ e ∈ l, nextE n.y e.send e.label b.edges = some m.y ∧ m.x = e.to ∧ m.path = n.path ++ [e.act]) ∧ (∀ e ∈ l, ∀ y, nextE n.y e.send e.label b.edges = some y → (e.to, y) ∈ seen')
  | [], seen, q, _, _, hD => ⟨seen, [], by simp, by simpa using hD, fun _ h => h, fun _ h => .inl h, fun _ h => (List.not_mem_nil h).elim, fun _ h => (List.not_mem_nil h).elim⟩
  | e :: l, seen, q, hl, hp, hD => by
    have hl' : ∀ e ∈ l, 0 ≤ e.to ∧ e.to < a.states := fun f hf => hl f (List.mem_cons_of_mem _ hf)
    rw [List.foldl_cons]
    by_cases hadd : ∃ y, nextE n.y e.send e.label b.edges = some y ∧ (e.to, y) ∉ seen
    · obtain ⟨y, hy, hns⟩ := hadd
      have hy' := hb.next_in hy
      unfold Auto.inr at hy'
      have h0 : addD b.edges n (seen, q) e = (seen ++ [(e.to, y)], q ++ [⟨e.to, y, n.path ++ [e.act]⟩]) := by simp [addD, hy, hns]
      obtain ⟨seen', qs, h1, h2, h3, h4, h5, h6⟩ := addD_fold (n := n) hb l _ _ hl' (by simp; omega) (hD.push (p := n.path ++ [e.act]) hns ⟨hl e (by simp), hy'⟩ (by simp; omega))
      refine ⟨seen', ⟨e.to, y, n.path ++ [e.act]⟩ :: qs, ?_, ?_, ?_, ?_, ?_, ?_⟩
      · rw [h0, h1, List.append_assoc]
        rfl
      · rw [List.append_assoc] at h2
        exact h2
      · exact fun p hp => h3 p (by simp [hp])
      · intro p hp
        rcases h4 p hp with h | ⟨m, hm, h⟩
        · rw [List.mem_append, List.mem_singleton] at h
          rcases h with h | rfl
          · exact .inl h
          · exact .inr ⟨_, List.mem_cons_self .., rfl⟩
        · exact .inr ⟨m, List.mem_cons_of_mem _ hm, h⟩
      · intro m hm
        rcases List.mem_cons.1 hm with rfl | hm
        · exact ⟨e, by simp, hy, rfl, rfl⟩
        · obtain ⟨f, hf, h⟩ := h5 m hm
          exact ⟨f, List.mem_cons_of_mem _ hf, h⟩
      · intro f hf z hz
        rcases List.mem_cons.1 hf with rfl | hf
        · rw [hy] at hz
          cases hz
          exact h3 _ (by simp)
        · exact h6 f hf z hz
    · have h0 : addD b.edges n (seen, q) e = (seen, q) := by
        unfold addD
        cases hn : nextE n.y e.send e.label b.edges with
        | none => rfl
        | some y =>
          have : (e.to, y) ∈ seen := Classical.byContradiction fun h => hadd ⟨y, hn, h⟩
          simp [this]
      obtain ⟨seen', qs, h1, h2, h3, h4, h5, h6⟩ := addD_fold (n := n) hb l seen q hl' hp hD
      refine ⟨seen', qs, by rw [h0, h1], h2, h3, h4, ?_, ?_⟩
      · intro m hm
        obtain ⟨f, hf, h⟩ := h5 m hm
        exact ⟨f, List.mem_cons_of_mem _ hf, h⟩
      · intro f hf z hz
        rcases List.mem_cons.1 hf with rfl | hf
        · exact h3 _ (Classical.byContradiction fun h => hadd ⟨z, hz, h⟩)
        · exact h6 f hf z hz

theorem dif_spec {a b : Auto} (ha : a.Good) (hb : b.Good) (o : Bool) : ∀ (k : Nat) (seen : List (Int × Int)) (q : List Nd), DifOk a b k seen q → (∀ n ∈ q, PR a.edges b.edges a.start b.start n.path n.x n.y) →
    (∀ x y, (x, y) ∈ seen → (∃ n ∈ q, n.x = x ∧ n.y = y) ∨ (mrg o (edgesOf a.edges x) (edgesOf b.edges y) = none ∧ ∀ d l x' y', nextE x d l a.edges = some x' → nextE y d l b.edges = some y' → (x', y') ∈ seen)) → (a.start, b.start) ∈ seen →
    match dif a.edges b.edges o k (seen, q) with
    | none => ∀ p x y, PR a.edges b.edges a.start b.start p x y → mrg o (edgesOf a.edges x) (edgesOf b.edges y) = none
    | some (p, w) => ∃ (n : Nd) (e : Edge), PR a.edges b.edges a.start b.start n.path n.x n.y ∧ mrg o (edgesOf a.edges n.x) (edgesOf b.edges n.y) = some (e, w) ∧ p = n.path ++ [e.act] ∧ n.path.length < 1000
  | k, seen, [], hD, _, hs, h0 => by
    have : dif a.edges b.edges o k (seen, []) = none := by cases k <;> rfl
    rw [this]
    have hin : ∀ p x y, PR a.edges b.edges a.start b.start p x y → (x, y) ∈ seen := fun p x y h => by
      induction h with
      | nil => exact h0
      | snoc _ h1 h2 ih =>
        rcases hs _ _ ih with ⟨n, hn, _⟩ | ⟨_, h⟩
        · cases hn
        · exact h _ _ _ _ h1 h2
    intro p x y h
    rcases hs _ _ (hin p x y h) with ⟨n, hn, _⟩ | ⟨h, _⟩
    · cases hn
    · exact h
  | 0, seen, n :: q, hD, _, _, _ => by
    have h1 := hD.count
    have h2 := pairs_bound hD.nodup (n := a.states.toNat) (m := b.states.toNat) (fun p hp => by
      have := hD.mem p hp
      omega)
    simp at h1
    omega
  | k + 1, seen, n :: q, hD, hq, hs, h0 => by
    have hdif : dif a.edges b.edges o (k + 1) (seen, n :: q) = match mrg o (edgesOf a.edges n.x) (edgesOf b.edges n.y) with
      | some (e, w) => some (n.path ++ [e.act], w)
      | none => dif a.edges b.edges o k ((edgesOf a.edges n.x).foldl (addD b.edges n) (seen, q)) := rfl
    rw [hdif]
    cases hm : mrg o (edgesOf a.edges n.x) (edgesOf b.edges n.y) with
    | some r =>
      obtain ⟨e, w⟩ := r
      refine ⟨n, e, hq n (by simp), hm, rfl, ?_⟩
      have h1 := (hD.node n (by simp)).2.2
      have h2 := pairs_bound hD.nodup (n := a.states.toNat) (m := b.states.toNat) (fun p hp => by
        have := hD.mem p hp
        omega)
      have h3 := ha.mx
      have h4 := hb.mx
      have := Nat.mul_le_mul (show a.states.toNat ≤ 12 by omega) (show b.states.toNat ≤ 12 by omega)
      omega
    | none =>
      dsimp only
      have hl := (hD.node n (by simp)).2.2
      obtain ⟨seen', qs, h1, h2, h3, h4, h5, h6⟩ := addD_fold (a := a) (k := k) (n := n) hb (edgesOf a.edges n.x) seen q (fun e he => by
        rw [edgesOf_mem] at he
        have := fits_iff.1 (ha.fit e he.1)
        exact ⟨this.2.2.1, this.2.2.2.1⟩) hl ⟨hD.nodup, hD.mem, by have := hD.count; rw [List.length_cons] at this; omega, fun m hm => hD.node m (List.mem_cons_of_mem _ hm), by have := hD.le; omega⟩
      rw [h1]
      refine dif_spec ha hb o k seen' (q ++ qs) h2 ?_ ?_ (h3 _ h0)
      · intro m hm'
        rcases List.mem_append.1 hm' with hm' | hm'
        · exact hq m (List.mem_cons_of_mem _ hm')
        · obtain ⟨e, he, h7, h8, h9⟩ := h5 m hm'
          rw [edgesOf_mem] at he
          rw [h9, h8]
          refine PR.snoc (d := e.send) (l := e.label) (hq n (by simp)) ((nextE_some ha.apt).2 ?_) h7
          have : (⟨n.x, e.send, e.label, e.to⟩ : Edge) = e := by rw [← he.2]
          rw [this]
          exact he.1
      · intro x y hxy
        have done : ∀ x y, ((∃ m ∈ n :: q, m.x = x ∧ m.y = y) ∨ (mrg o (edgesOf a.edges x) (edgesOf b.edges y) = none ∧ ∀ d l x' y', nextE x d l a.edges = some x' → nextE y d l b.edges = some y' → (x', y') ∈ seen)) → (∃ n ∈ q ++ qs, n.x = x ∧ n.y = y) ∨ (mrg o (edgesOf a.edges x) (edgesOf b.edges y) = none ∧ ∀ d l x' y', nextE x d l a.edges = some x' → nextE y d l b.edges = some y' → (x', y') ∈ seen') := by
          rintro x y (⟨m, hm', rfl, rfl⟩ | ⟨h, h'⟩)
          · rcases List.mem_cons.1 hm' with rfl | hm'
            · refine .inr ⟨hm, fun d l x' y' hx hy => ?_⟩
              exact h6 ⟨m.x, d, l, x'⟩ (edgesOf_mem.2 ⟨(nextE_some ha.apt).1 hx, rfl⟩) y' hy
            · exact .inl ⟨m, List.mem_append_left _ hm', rfl, rfl⟩
          · exact .inr ⟨h, fun d l x' y' hx hy => h3 _ (h' d l x' y' hx hy)⟩
        rcases h4 _ hxy with h | ⟨m, hm', h⟩
        · exact done x y (hs x y h)
        · simp only [Prod.mk.injEq] at h
          exact .inl ⟨m, List.mem_append_right _ hm', h.1, h.2⟩

/-- The search from the two starts. -/
def Auto.dif (a b : Auto) (o : Bool) : Option (List (Bool × Int) × Int) := Pv.dif a.edges b.edges o (a.states.toNat * b.states.toNat + 1) ([(a.start, b.start)], [⟨a.start, b.start, []⟩])
theorem Auto.dif_spec {a b : Auto} (ha : a.Good) (hb : b.Good) (o : Bool) : match a.dif b o with
    | none => ∀ p x y, PR a.edges b.edges a.start b.start p x y → mrg o (edgesOf a.edges x) (edgesOf b.edges y) = none
    | some (p, w) => ∃ (n : Nd) (e : Edge), PR a.edges b.edges a.start b.start n.path n.x n.y ∧ mrg o (edgesOf a.edges n.x) (edgesOf b.edges n.y) = some (e, w) ∧ p = n.path ++ [e.act] ∧ n.path.length < 1000 := by
  have h1 := ha.st
  have h2 := hb.st
  have h3 := ha.mx
  have h4 := hb.mx
  have := Nat.mul_le_mul (show a.states.toNat ≤ 12 by omega) (show b.states.toNat ≤ 12 by omega)
  refine Pv.dif_spec ha hb o _ _ _ ⟨by simp, by simp; omega, by simp, by simp; omega, by omega⟩ ?_ ?_ (by simp)
  · intro n hn
    rw [List.mem_singleton] at hn
    subst hn
    exact .nil
  · intro x y hxy
    simp only [List.mem_singleton, Prod.mk.injEq] at hxy
    exact .inl ⟨_, List.mem_singleton.2 rfl, hxy.1.symm, hxy.2.symm⟩

end Go.Pv

/-
  Are two automata the same to one who uses them? Both ways of asking.
-/
namespace Go.Pv

/-- The first error of two automata. -/
def bothE (a b : Auto) : Int := if a.err = 0 then b.err else a.err
set_option maxHeartbeats 1000000 in
@[go_sem] theorem r34 (t u : Nat) (a b : Auto) (ha : a.edges.length ≤ 2000000000) (hb : b.edges.length ≤ 2000000000) : res A PrA 34 [.agg [.int .i64 a.states, .int .i64 a.start, .lst t (a.edges.map Edge.c)], .agg [.int .i64 b.states, .int .i64 b.start, .lst u (b.edges.map Edge.c)]] = some [.int .i64 (bothE a b)] := by
  refine res_of a34 rfl rfl ?_
  simp only [F34]
  simp (disch := omega) only [go_sem]
  refine Br.ofP (fun h => ?_) (fun h => ?_) <;> simp (disch := omega) only [go_sem, h]
  · unfold bothE
    rw [if_pos h]
  · unfold bothE
    rw [if_neg h]
set_option maxHeartbeats 1000000 in
@[go_sem] theorem r36 (t u : Nat) (a b : Auto) (ha : a.edges.length ≤ 2000000000) (hb : b.edges.length ≤ 2000000000) : res A PrA 36 [.agg [.int .i64 a.states, .int .i64 a.start, .lst t (a.edges.map Edge.c)], .agg [.int .i64 b.states, .int .i64 b.start, .lst u (b.edges.map Edge.c)]] = some [.int .i64 (bothE a b)] := by
  refine res_of a36 rfl rfl ?_
  simp only [F36]
  simp (disch := omega) only [go_sem]
  refine Br.ofP (fun h => ?_) (fun h => ?_) <;> simp (disch := omega) only [go_sem, h]
  · unfold bothE
    rw [if_pos h]
  · unfold bothE
    rw [if_neg h]
theorem both_good {a b : Auto} (h : bothE a b = 0) : a.Good ∧ b.Good := by
  unfold bothE at h
  by_cases h1 : a.err = 0
  · rw [if_pos h1] at h
    exact ⟨Auto.good_iff.1 h1, Auto.good_iff.1 h⟩
  · rw [if_neg h1] at h
    exact (h1 h).elim
theorem difR_def (r : Option (List (Bool × Int) × Int)) : difR r = [.lst 0 (acts (r.getD ([], 0)).1), .int .i64 (r.getD ([], 0)).2, .bool r.isSome] := by
  cases r with
  | none => rfl
  | some r => rfl
@[go_sem] theorem r35a (t u : Nat) (a b : Auto) (only : Bool) (ht : t ≤ 1) (hu : u ≤ 1) (h : bothE a b = 0) : res A PrA 35 [.agg [.int .i64 a.states, .int .i64 a.start, .lst t (a.edges.map Edge.c)], .agg [.int .i64 b.states, .int .i64 b.start, .lst u (b.edges.map Edge.c)], .bool only] = some [.lst 0 (acts ((a.dif b only).getD ([], 0)).1), .int .i64 ((a.dif b only).getD ([], 0)).2, .bool (a.dif b only).isSome] := by
  rw [r35 t u a b only ht hu (both_good h).1 (both_good h).2, difR_def]
  rfl
set_option maxHeartbeats 1000000 in
/-- The same to one who uses them. -/
@[go_sem] theorem r16 (t u : Nat) (a b : Auto) (ht : t ≤ 1) (hu : u ≤ 1) (ha : a.edges.length ≤ 2000000000) (hb : b.edges.length ≤ 2000000000) : res A PrA 16 [.agg [.int .i64 a.states, .int .i64 a.start, .lst t (a.edges.map Edge.c)], .agg [.int .i64 b.states, .int .i64 b.start, .lst u (b.edges.map Edge.c)]] = some [.bool (decide (bothE a b = 0) && !(a.dif b false).isSome), .int .i64 (bothE a b)] := by
  refine res_of a16 rfl rfl ?_
  simp only [F16]
  simp (disch := omega) only [go_sem]
  refine Br.ofP (fun h => ?_) (fun h => ?_)
  · have h0 := h
    simp (disch := omega) only [go_sem, h0, r35a t u a b false ht hu h0]
  · simp (disch := omega) only [go_sem, h]
set_option maxHeartbeats 1000000 in
/-- All that the first one does, the second one does. -/
@[go_sem] theorem r18 (t u : Nat) (a b : Auto) (ht : t ≤ 1) (hu : u ≤ 1) (ha : a.edges.length ≤ 2000000000) (hb : b.edges.length ≤ 2000000000) : res A PrA 18 [.agg [.int .i64 a.states, .int .i64 a.start, .lst t (a.edges.map Edge.c)], .agg [.int .i64 b.states, .int .i64 b.start, .lst u (b.edges.map Edge.c)]] = some [.bool (decide (bothE a b = 0) && !(a.dif b true).isSome), .int .i64 (bothE a b)] := by
  refine res_of a18 rfl rfl ?_
  simp only [F18]
  simp (disch := omega) only [go_sem]
  refine Br.ofP (fun h => ?_) (fun h => ?_)
  · have h0 := h
    simp (disch := omega) only [go_sem, h0, r35a t u a b true ht hu h0]
  · simp (disch := omega) only [go_sem, h]
/-- What is said of a difference. -/
def distR (a b : Auto) : List PV := if bothE a b = 0 then (match a.dif b false with
  | none => [.lst 0 [], .int .i64 0, .int .i64 15]
  | some (p, w) => [.lst 0 (acts p), .int .i64 w, .int .i64 0]) else [.lst 0 [], .int .i64 0, .int .i64 (bothE a b)]
set_option maxHeartbeats 1000000 in
@[go_sem] theorem r20 (t u : Nat) (a b : Auto) (ht : t ≤ 1) (hu : u ≤ 1) (ha : a.edges.length ≤ 2000000000) (hb : b.edges.length ≤ 2000000000) : res A PrA 20 [.agg [.int .i64 a.states, .int .i64 a.start, .lst t (a.edges.map Edge.c)], .agg [.int .i64 b.states, .int .i64 b.start, .lst u (b.edges.map Edge.c)]] = some (distR a b) := by
  refine res_of a20 rfl rfl ?_
  simp only [F20]
  simp (disch := omega) only [go_sem]
  refine Br.ofP (fun h => ?_) (fun h => ?_)
  · have h0 := h
    simp (disch := omega) only [go_sem, h0, r35a t u a b false ht hu h0]
    unfold distR
    rw [if_pos h0]
    cases hd : a.dif b false with
    | none =>
      simp (disch := omega) only [go_sem, Option.isSome_none]
    | some r =>
      obtain ⟨p, w⟩ := r
      simp (disch := omega) only [go_sem, Option.isSome_some, Option.getD_some]
  · simp (disch := omega) only [go_sem, h]
    simp [h, distR]
set_option maxHeartbeats 1000000 in
@[go_sem] theorem r17 (t u : Nat) (a b : Auto) (_ht : t ≤ 1) (_hu : u ≤ 1) (ha : a.edges.length ≤ 2000000000) (hb : b.edges.length ≤ 2000000000) : res A PrA 17 [.agg [.int .i64 a.states, .int .i64 a.start, .lst t (a.edges.map Edge.c)], .agg [.int .i64 b.states, .int .i64 b.start, .lst u (b.edges.map Edge.c)]] = some [.bool (decide (bothE a b = 0) && decide (ent (differ a b) a.start b.start = 0)), .int .i64 (bothE a b)] := by
  refine res_of a17 rfl rfl ?_
  simp only [F17]
  simp (disch := omega) only [go_sem]
  refine Br.ofP (fun h => ?_) (fun h => ?_)
  · have h0 := h
    obtain ⟨h1, h2⟩ := both_good h0
    have hM : MatOk a.states.toNat b.states.toNat (differ a b) := (difM_ent h1 h2 _).1
    obtain ⟨l, g1, g2, g3⟩ := hM.get (p := a.start) (q := b.start) (by have := h1.st; omega) (by have := h2.st; omega)
    have s1 := h1.st
    have s2 := h2.st
    have s3 := hM.len
    have s4 := h1.mx
    have s5 := h2.mx
    simp (disch := omega) only [go_sem, h0, r31 t u a b h1 h2, idxR_int, g1, g3]
  · simp (disch := omega) only [go_sem, h]

end Go.Pv

/-
  Plain laws: no difference.
-/
namespace Go.Pv

theorem edge_of_next {a : Auto} (ha : a.Good) {x : Int} {d : Bool} {l t : Int} (h : nextE x d l a.edges = some t) : (⟨x, d, l, t⟩ : Edge) ∈ edgesOf a.edges x := edgesOf_mem.2 ⟨(nextE_some ha.apt).1 h, rfl⟩
theorem next_of_edge {a : Auto} (ha : a.Good) {x : Int} {e : Edge} (h : e ∈ edgesOf a.edges x) : nextE x e.send e.label a.edges = some e.to := by
  obtain ⟨h1, h2⟩ := edgesOf_mem.1 h
  refine (nextE_some ha.apt).2 ?_
  have : (⟨x, e.send, e.label, e.to⟩ : Edge) = e := by rw [← h2]
  rw [this]
  exact h1
theorem mrg_none {a b : Auto} (ha : a.Good) (hb : b.Good) {o : Bool} {x y : Int} (h : mrg o (edgesOf a.edges x) (edgesOf b.edges y) = none) : (∀ d l, (nextE x d l a.edges).isSome = true → (nextE y d l b.edges).isSome = true) ∧ (o = false → ∀ d l, (nextE y d l b.edges).isSome = true → (nextE x d l a.edges).isSome = true) := by
  have hs := mrg_spec o _ _ (ha.ascE x) (hb.ascE y)
  rw [h] at hs
  refine ⟨fun d l hd => ?_, fun ho d l hd => ?_⟩
  · obtain ⟨t, ht⟩ := Option.isSome_iff_exists.1 hd
    obtain ⟨f, hf, he⟩ := hs.1 _ (edge_of_next ha ht)
    simp only [Edge.act, Prod.mk.injEq] at he
    have := next_of_edge hb hf
    rw [he.1, he.2] at this
    rw [this]; rfl
  · obtain ⟨t, ht⟩ := Option.isSome_iff_exists.1 hd
    obtain ⟨f, hf, he⟩ := hs.2 ho _ (edge_of_next hb ht)
    simp only [Edge.act, Prod.mk.injEq] at he
    have := next_of_edge ha hf
    rw [he.1, he.2] at this
    rw [this]; rfl
theorem mrg_some {a b : Auto} (ha : a.Good) (hb : b.Good) {o : Bool} {x y : Int} {e : Edge} {w : Int} (h : mrg o (edgesOf a.edges x) (edgesOf b.edges y) = some (e, w)) :
    (w = 0 ∧ (nextE x e.send e.label a.edges).isSome = true ∧ nextE y e.send e.label b.edges = none) ∨ (w = 1 ∧ o = false ∧ (nextE y e.send e.label b.edges).isSome = true ∧ nextE x e.send e.label a.edges = none) := by
  have hs := mrg_spec o _ _ (ha.ascE x) (hb.ascE y)
  rw [h] at hs
  rcases hs with ⟨h1, h2, h3⟩ | ⟨h1, h0, h2, h3⟩
  · refine .inl ⟨h1, by rw [next_of_edge ha h2]; rfl, ?_⟩
    cases hn : nextE y e.send e.label b.edges with
    | none => rfl
    | some t => exact (h3 _ (edge_of_next hb hn) rfl).elim
  · refine .inr ⟨h1, h0, by rw [next_of_edge hb h2]; rfl, ?_⟩
    cases hn : nextE x e.send e.label a.edges with
    | none => rfl
    | some t => exact (h3 _ (edge_of_next ha hn) rfl).elim
theorem PR.ev {a b : Auto} {p : List (Bool × Int)} {x y : Int} (h : PR a.edges b.edges a.start b.start p x y) (he : ∀ j, Ev a.edges b.edges j a.start b.start) : ∀ j, Ev a.edges b.edges j x y := by
  induction h with
  | nil => exact he
  | @snoc _ _ _ _ _ d l _ h1 h2 ih =>
    intro j
    have := ih (j + 1) d l
    rw [h1, h2] at this
    exact this
/-- No difference: the same lists of actions. -/
theorem dif_none {a b : Auto} (ha : a.Good) (hb : b.Good) : a.dif b false = none ↔ ∀ j, Ev a.edges b.edges j a.start b.start := by
  have hs := Auto.dif_spec ha hb false
  constructor
  · intro h
    rw [h] at hs
    have key : ∀ j p x y, PR a.edges b.edges a.start b.start p x y → Ev a.edges b.edges j x y := by
      intro j
      induction j with
      | zero => exact fun _ _ _ _ => trivial
      | succ j ih =>
        intro p x y hp d l
        obtain ⟨h1, h2⟩ := mrg_none ha hb (hs p x y hp)
        have h1 := h1 d l
        have h2 := h2 rfl d l
        cases hx : nextE x d l a.edges with
        | none =>
          cases hy : nextE y d l b.edges with
          | none => trivial
          | some t => rw [hx, hy] at h2; cases h2 rfl
        | some t =>
          cases hy : nextE y d l b.edges with
          | none => rw [hx, hy] at h1; cases h1 rfl
          | some u => exact ih _ t u (hp.snoc hx hy)
    exact fun j => key j [] _ _ .nil
  · intro he
    cases h : a.dif b false with
    | none => rfl
    | some r =>
      obtain ⟨p, w⟩ := r
      rw [h] at hs
      obtain ⟨n, e, hp, hm, _⟩ := hs
      have h1 := hp.ev he 1 e.send e.label
      rcases mrg_some ha hb hm with ⟨_, h2, h3⟩ | ⟨_, _, h2, h3⟩
      · rw [h3] at h1
        obtain ⟨t, ht⟩ := Option.isSome_iff_exists.1 h2
        rw [ht] at h1
        exact h1.elim
      · rw [h3] at h1
        obtain ⟨t, ht⟩ := Option.isSome_iff_exists.1 h2
        rw [ht] at h1
        exact h1.elim
theorem dif_differ {a b : Auto} (ha : a.Good) (hb : b.Good) : decide (ent (differ a b) a.start b.start = 0) = !(a.dif b false).isSome := by
  have h1 := differ_zero ha hb (p := a.start) (q := b.start) ha.st hb.st
  have h2 := dif_none ha hb
  cases hd : a.dif b false with
  | none =>
    have := h1.2 (h2.1 hd)
    simp [this]
  | some r =>
    have : ¬ ent (differ a b) a.start b.start = 0 := fun h => by
      have := h2.2 (h1.1 h)
      rw [hd] at this
      cases this
    simp [this]
/-- Nothing is lacking anywhere. -/
theorem dif_lack {a b : Auto} (ha : a.Good) (hb : b.Good) : a.dif b true = none ↔ ∀ p x y, PR a.edges b.edges a.start b.start p x y → lackE a.edges b.edges x y = none := by
  have hs := Auto.dif_spec ha hb true
  have hl : ∀ x y, lackE a.edges b.edges x y = none ↔ ∀ d l, (nextE x d l a.edges).isSome = true → (nextE y d l b.edges).isSome = true := fun x y => by
    unfold lackE
    rw [List.find?_eq_none]
    constructor
    · intro h d l hd
      obtain ⟨t, ht⟩ := Option.isSome_iff_exists.1 hd
      have := h _ (edge_of_next ha ht)
      simp only [Bool.not_eq_true, Bool.not_eq_false'] at this
      exact this
    · intro h e he
      have := h e.send e.label (by rw [next_of_edge ha he]; rfl)
      simp [this]
  constructor
  · intro h p x y hp
    rw [h] at hs
    exact (hl x y).2 (mrg_none ha hb (hs p x y hp)).1
  · intro hk
    cases h : a.dif b true with
    | none => rfl
    | some r =>
      obtain ⟨p, w⟩ := r
      rw [h] at hs
      obtain ⟨n, e, hp, hm, _⟩ := hs
      rcases mrg_some ha hb hm with ⟨_, h2, h3⟩ | ⟨_, h0, _⟩
      · have := (hl _ _).1 (hk _ _ _ hp) e.send e.label h2
        rw [h3] at this
        cases this
      · cases h0
end Go.Pv

/-
  A list of pairs.
-/
namespace Go.Pv

theorem any_pair (l : List (Int × Int)) (x y : Int) : (l.any fun p => decide (p = (x, y))) = decide ((x, y) ∈ l) := by
  by_cases h : (x, y) ∈ l
  · simp [h]
  · rw [decide_eq_false h, List.any_eq_false]
    intro p hp
    simp only [decide_eq_true_eq]
    exact fun e => h (e ▸ hp)
/-- Where the search for something lacking stands. -/
structure LackOk (a b : Auto) (k : Nat) (L : List (Int × Int)) : Prop where
  nodup : L.Nodup
  mem : ∀ p ∈ L, (0 ≤ p.1 ∧ p.1 < a.states) ∧ (0 ≤ p.2 ∧ p.2 < b.states)
  reach : ∀ p ∈ L, ∃ w, PR a.edges b.edges a.start b.start w p.1 p.2
  start : (a.start, b.start) ∈ L
  done : ∀ i x y, i < k → L[i]? = some (x, y) → lackE a.edges b.edges x y = none ∧ ∀ d l x' y', nextE x d l a.edges = some x' → nextE y d l b.edges = some y' → (x', y') ∈ L
theorem LackOk.full {a b : Auto} {L : List (Int × Int)} (h : LackOk a b L.length L) (ha : a.Good) (hb : b.Good) : a.dif b true = none := by
  refine (dif_lack ha hb).2 fun p x y hp => ?_
  have hin : (x, y) ∈ L := by
    induction hp with
    | nil => exact h.start
    | @snoc p x y x' y' d l _ h1 h2 ih =>
      obtain ⟨i, hi⟩ := List.mem_iff_getElem?.1 ih
      exact (h.done i x y (List.getElem?_eq_some_iff.1 hi).1 hi).2 d l x' y' h1 h2
  obtain ⟨i, hi⟩ := List.mem_iff_getElem?.1 hin
  exact (h.done i x y (List.getElem?_eq_some_iff.1 hi).1 hi).1
@[go_sem] theorem app_prs_tl (h : Heap) (l : List (Int × Int)) (x y : Int) (hm : l.length + 1 ≤ 2147483648) : appendV h 2 (.tl (prs l)) (.tl [[.int .i64 x, .int .i64 y]]) = some (.own h.ar.length 0 0 (l.length + 1), { push := [⟨0, 2, .inl (prs (l ++ [(x, y)]))⟩], base := h.ar.length }) := by
  rw [app_tlr h 2 (prs l) [.int .i64 x, .int .i64 y] rfl (fun r hr => by simp only [prs, List.mem_map] at hr; obtain ⟨p, _, rfl⟩ := hr; rfl) (by rw [prs_length]; exact hm), prs_length, prs_snoc]
@[go_sem] theorem app_prs_own (h : Heap) (id ver off len : Nat) (x y : Int) : appendV h 2 (.own id ver off len) (.tl [[.int .i64 x, .int .i64 y]]) = (ownArr h id ver).bind (apR id ver off len 2 [.int .i64 x, .int .i64 y]) := app_ownr h id ver off len 2 _ rfl
@[go_sem] theorem apR_prs {id ver len : Nat} {x y : Int} {l : List (Int × Int)} (h1 : len = l.length) (h2 : l.length + 1 ≤ 2147483648) : apR id ver 0 len 2 [.int .i64 x, .int .i64 y] ⟨ver, 2, .inl (prs l)⟩ = some (.own id (ver + 1) 0 (len + 1), { ar := some (id, ⟨ver + 1, 2, .inl (prs (l ++ [(x, y)]))⟩) }) := by
  rw [apR_ok (by rw [prs_length]; exact h1) (by rw [prs_length]; exact h2), prs_snoc]
def addLk (b : List Edge) (y : Int) (L : List (Int × Int)) (e : Edge) : List (Int × Int) :=
  if (e.to, (nextE y e.send e.label b).getD 0) ∈ L then L else L ++ [(e.to, (nextE y e.send e.label b).getD 0)]
structure LackIn (a b : Auto) (L : List (Int × Int)) (x y : Int) (j : Nat) (M : List (Int × Int)) : Prop where
  nodup : M.Nodup
  mem : ∀ p ∈ M, (0 ≤ p.1 ∧ p.1 < a.states) ∧ (0 ≤ p.2 ∧ p.2 < b.states)
  reach : ∀ p ∈ M, ∃ w, PR a.edges b.edges a.start b.start w p.1 p.2
  pre : ∃ r, M = L ++ r
  upto : ∀ i e, i < j → (edgesOf a.edges x)[i]? = some e → (e.to, (nextE y e.send e.label b.edges).getD 0) ∈ M
theorem lack_next {a b : Auto} {x y : Int} (h : lackE a.edges b.edges x y = none) {e : Edge} (he : e ∈ edgesOf a.edges x) : ∃ t, nextE y e.send e.label b.edges = some t := by
  unfold lackE at h
  rw [List.find?_eq_none] at h
  have := h e he
  simp only [Bool.not_eq_true, Bool.not_eq_false'] at this
  exact Option.isSome_iff_exists.1 this
theorem LackIn.step {a b : Auto} {L M : List (Int × Int)} {x y : Int} {j : Nat} {e : Edge} (h : LackIn a b L x y j M) (ha : a.Good) (hb : b.Good) (hn : lackE a.edges b.edges x y = none) (he : (edgesOf a.edges x)[j]? = some e) (hxy : (x, y) ∈ L) : LackIn a b L x y (j + 1) (addLk b.edges y M e) := by
  have hem := List.mem_of_getElem? he
  obtain ⟨t, ht⟩ := lack_next hn hem
  have hto := ha.next_in (next_of_edge ha hem)
  have hto' := hb.next_in ht
  unfold Auto.inr at hto hto'
  obtain ⟨r, hr⟩ := h.pre
  obtain ⟨w, hw⟩ := h.reach (x, y) (by rw [hr]; exact List.mem_append_left _ hxy)
  have hin : ∀ p, p ∈ addLk b.edges y M e ↔ p ∈ M ∨ p = (e.to, t) := fun p => by
    unfold addLk
    rw [ht, Option.getD_some]
    split
    · constructor
      · exact .inl
      · rintro (h | rfl)
        · exact h
        · assumption
    · simp
  refine ⟨?_, fun p hp => ?_, fun p hp => ?_, ?_, fun i f hi hf => ?_⟩
  · unfold addLk
    split
    · exact h.nodup
    · rw [List.nodup_append]
      rename_i hni
      exact ⟨h.nodup, by simp, fun u hu v hv e' => hni (by rw [List.mem_singleton] at hv; subst hv; subst e'; exact hu)⟩
  · rcases (hin p).1 hp with hp | rfl
    · exact h.mem p hp
    · exact ⟨hto, hto'⟩
  · rcases (hin p).1 hp with hp | rfl
    · exact h.reach p hp
    · exact ⟨_, hw.snoc (next_of_edge ha hem) ht⟩
  · unfold addLk
    split
    · exact ⟨r, hr⟩
    · exact ⟨r ++ [_], by rw [hr, List.append_assoc]⟩
  · rcases Nat.lt_or_ge i j with h1 | h1
    · exact (hin _).2 (.inl (h.upto i f h1 hf))
    · obtain rfl : i = j := by omega
      rw [he] at hf
      cases hf
      rw [ht]
      exact (hin _).2 (.inr rfl)
theorem LackIn.close {a b : Auto} {L M : List (Int × Int)} {x y : Int} {k : Nat} (h : LackIn a b L x y (edgesOf a.edges x).length M) (hL : LackOk a b k L) (ha : a.Good) (hn : lackE a.edges b.edges x y = none) (hxy : L[k]? = some (x, y)) : LackOk a b (k + 1) M ∧ k + 1 ≤ M.length := by
  obtain ⟨r, hr⟩ := h.pre
  have hkl := (List.getElem?_eq_some_iff.1 hxy).1
  have hsub : ∀ p ∈ L, p ∈ M := fun p hp => by rw [hr]; exact List.mem_append_left _ hp
  refine ⟨⟨h.nodup, h.mem, h.reach, hsub _ hL.start, fun i u v hi huv => ?_⟩, by rw [hr, List.length_append]; omega⟩
  rw [hr, List.getElem?_append_left (by omega)] at huv
  rcases Nat.lt_or_ge i k with h1 | h1
  · obtain ⟨h2, h3⟩ := hL.done i u v h1 huv
    exact ⟨h2, fun d l x' y' hx hy => hsub _ (h3 d l x' y' hx hy)⟩
  · obtain rfl : i = k := by omega
    rw [hxy] at huv
    cases huv
    refine ⟨hn, fun d l x' y' hx hy => ?_⟩
    obtain ⟨j, hj⟩ := List.mem_iff_getElem?.1 (edge_of_next ha hx)
    have := h.upto j _ (List.getElem?_eq_some_iff.1 hj).1 hj
    dsimp only at this
    rw [hy] at this
    exact this
end Go.Pv

/-
  The law of being the same.
-/
namespace Go.Pv

theorem r9_two (a b : Auto) : res A PrA 9 [.lst 0 [[.int .i64 a.states, .int .i64 a.start, .lst 0 (a.edges.map Edge.c)], [.int .i64 b.states, .int .i64 b.start, .lst 0 (b.edges.map Edge.c)]]] = some [.bool (decide ((a.edges.length : Int) ≤ 110) && decide ((b.edges.length : Int) ≤ 110))] := by
  have := r9 [a, b] (by simp)
  simpa [Auto.row] using this
theorem same_differ (a b : Auto) : (decide (bothE a b = 0) && decide (ent (differ a b) a.start b.start = 0)) = (decide (bothE a b = 0) && !(a.dif b false).isSome) := by
  by_cases h : bothE a b = 0
  · rw [dif_differ (both_good h).1 (both_good h).2]
  · simp [h]
end Go.Pv

/-
  The law of what is shown of a difference.
-/
namespace Go.Pv

theorem runE_snoc {es : List Edge} {d : Bool} {l : Int} : ∀ {p : List (Bool × Int)} {s x : Int}, runE es s p = (x, p.length) → runE es s (p ++ [(d, l)]) = match nextE x d l es with
    | some t => (t, p.length + 1)
    | none => (x, p.length)
  | [], s, x, h => by
    simp only [runE, Prod.mk.injEq, List.length_nil, and_true] at h
    subst h
    simp only [List.nil_append, runE, List.length_nil]
    cases nextE s d l es <;> rfl
  | c :: p, s, x, h => by
    obtain ⟨d', l'⟩ := c
    simp only [runE] at h
    cases hn : nextE s d' l' es with
    | none =>
      rw [hn] at h
      simp at h
    | some t =>
      rw [hn] at h
      simp only [Prod.mk.injEq, List.length_cons, Nat.add_right_cancel_iff] at h
      have := runE_snoc (d := d) (l := l) (p := p) (s := t) (x := x) (by rw [← h.1, ← h.2])
      simp only [List.cons_append, runE, hn, this]
      cases nextE x d l es <;> simp
theorem PR.run {a b : List Edge} {s t : Int} {p : List (Bool × Int)} {x y : Int} (h : PR a b s t p x y) : runE a s p = (x, p.length) ∧ runE b t p = (y, p.length) := by
  induction h with
  | nil => exact ⟨rfl, rfl⟩
  | snoc _ h1 h2 ih =>
    rw [runE_snoc ih.1, runE_snoc ih.2, h1, h2, List.length_append]
    exact ⟨rfl, rfl⟩
/-- What is found can be taken but for its last action in both, and all of it in one. -/
theorem dif_shown {a b : Auto} (ha : a.Good) (hb : b.Good) {p : List (Bool × Int)} {w : Int} (h : a.dif b false = some (p, w)) : 1 ≤ p.length ∧ p.length ≤ 1000 ∧
    ((w = 0 ∧ (runE a.edges a.start p).2 = p.length ∧ (runE b.edges b.start p).2 = p.length - 1) ∨ (w = 1 ∧ (runE b.edges b.start p).2 = p.length ∧ (runE a.edges a.start p).2 = p.length - 1)) := by
  have hs := Auto.dif_spec ha hb false
  rw [h] at hs
  obtain ⟨n, e, hp, hm, rfl, hlt⟩ := hs
  obtain ⟨u1, u2⟩ := hp.run
  have q1 := runE_snoc (d := e.send) (l := e.label) u1
  have q2 := runE_snoc (d := e.send) (l := e.label) u2
  have hact : e.act = (e.send, e.label) := rfl
  rw [hact, q1, q2, List.length_append]
  refine ⟨by simp, by simp; omega, ?_⟩
  rcases mrg_some ha hb hm with ⟨h1, h2, h3⟩ | ⟨h1, _, h2, h3⟩
  · obtain ⟨t, ht⟩ := Option.isSome_iff_exists.1 h2
    rw [ht, h3]
    exact .inl ⟨h1, rfl, rfl⟩
  · obtain ⟨t, ht⟩ := Option.isSome_iff_exists.1 h2
    rw [ht, h3]
    exact .inr ⟨h1, rfl, rfl⟩
theorem Draft.auto_good {d : Draft} (hd : d.ok) : d.auto.Good := Draft.good hd (s := 0) (by have := d.st; omega)
theorem r25a (t : Nat) (d : Draft) (hd : d.ok) : res A PrA 25 [.agg [.int .u8 d.n, .lst t (d.arcs.map Arc.c)]] = some [.agg [.int .i64 d.auto.states, .int .i64 d.auto.start, .lst 0 (d.auto.edges.map Edge.c)], .bool (decide ((d.arcs.length : Int) ≤ 12))] := r25 t d hd
set_option maxHeartbeats 1000000 in
/-- MinimalShown. -/
theorem r7 (d d' : Draft) (hd : d.ok) (hd' : d'.ok) : res A PrA 7 [.agg [.int .u8 d.n, .lst 0 (d.arcs.map Arc.c)], .agg [.int .u8 d'.n, .lst 0 (d'.arcs.map Arc.c)]] = some [.bool true] := by
  refine res_of a7 rfl rfl ?_
  simp only [F7]
  have hg := Draft.auto_good hd
  have hg' := Draft.auto_good hd'
  have he := Auto.good_iff.2 hg
  have he' := Auto.good_iff.2 hg'
  have hl := hg.len
  have hl' := hg'.len
  have hb : bothE d.auto d'.auto = 0 := by unfold bothE; rw [if_pos he, he']
  have h20 : distR d.auto d'.auto = match d.auto.dif d'.auto false with
    | none => [.lst 0 [], .int .i64 0, .int .i64 15]
    | some (p, w) => [.lst 0 (acts p), .int .i64 w, .int .i64 0] := if_pos hb
  have h0 := dif_differ hg hg'
  simp (disch := omega) only [go_sem, r8, r25a 0 d hd, r25a 0 d' hd']
  refine Br.ofP (fun h1 => ?_) (fun h1 => ?_) <;> simp (disch := omega) only [go_sem, r8, h1]
  refine Br.ofP (fun h2 => ?_) (fun h2 => ?_) <;> simp (disch := omega) only [go_sem, r8, h2]
  cases hdf : d.auto.dif d'.auto false with
  | none =>
    rw [hdf] at h20 h0
    simp (disch := omega) only [go_sem, h20, hb, h0, Option.isSome_none]
    rfl
  | some r =>
    obtain ⟨p, w⟩ := r
    rw [hdf] at h20
    obtain ⟨p1, p2, hsh⟩ := dif_shown hg hg' hdf
    have e3 : ((p.length - 1 : Nat) : Int) = (p.length : Int) - 1 := by omega
    rcases hsh with ⟨rfl, e1, e2⟩ | ⟨rfl, e1, e2⟩
    · simp (disch := omega) only [go_sem, h20, he, he', e1, e2, e3]
    · simp (disch := omega) only [go_sem, h20, he, he', e1, e2, e3]

end Go.Pv

/-
  Plain laws: minimized automata.
-/
namespace Go.Pv

/-- The same lists of actions, however long. -/
def Al (a b : List Edge) (p q : Int) : Prop := ∀ j, Ev a b j p q
theorem Al.refl (a : List Edge) (p : Int) : Al a a p p := fun j => Ev.refl a j p
theorem Al.symm {a b : List Edge} {p q : Int} (h : Al a b p q) : Al b a q p := fun j => (h j).symm
theorem Al.trans {a b c : List Edge} {p q r : Int} (h : Al a b p q) (h2 : Al b c q r) : Al a c p r := fun j => (h j).trans (h2 j)
theorem Al.next {a b : List Edge} {p q : Int} (h : Al a b p q) (d : Bool) (x : Int) : OptR (Al a b) (nextE p d x a) (nextE q d x b) := by
  have h1 := h 1 d x
  cases hp : nextE p d x a with
  | none =>
    cases hq : nextE q d x b with
    | none => trivial
    | some u => rw [hp, hq] at h1; exact h1.elim
  | some t =>
    cases hq : nextE q d x b with
    | none => rw [hp, hq] at h1; exact h1.elim
    | some u =>
      intro j
      have := h (j + 1) d x
      rw [hp, hq] at this
      exact this
theorem Al.intro {a b : List Edge} (R : Int → Int → Prop) (hR : ∀ p q, R p q → ∀ d x, OptR R (nextE p d x a) (nextE q d x b)) {p q : Int} (h : R p q) : Al a b p q := by
  have key : ∀ j p q, R p q → Ev a b j p q := by
    intro j
    induction j with
    | zero => exact fun _ _ _ => trivial
    | succ j ih => exact fun p q h d x => (hR p q h d x).mono fun t u _ _ htu => ih t u htu
  exact fun j => key j p q h

theorem Auto.Good.cl_def {a : Auto} (_h : a.Good) {v : Int} (hv : a.inr v) : a.cl v = (leastR (differ a a) a.states.toNat v.toNat : Int) := by
  unfold Auto.inr at hv
  have hcg : a.classes[v.toNat]? = some (leastR (differ a a) a.states.toNat v.toNat : Int) := by
    unfold Auto.classes
    rw [List.getElem?_map, List.getElem?_range (by omega)]
    rfl
  unfold Auto.cl
  rw [List.getD_eq_getElem?_getD, hcg]
  rfl
theorem Auto.Good.cl_al {a : Auto} (h : a.Good) {v : Int} (hv : a.inr v) : Al a.edges a.edges (a.cl v) v := by
  have hv' := hv
  unfold Auto.inr at hv'
  obtain ⟨_, h2, _⟩ := leastR_spec h (p := v.toNat) (by omega)
  rw [h.cl_def hv]
  have := h2.rel
  rw [show ((v.toNat : Nat) : Int) = v by omega] at this
  exact this
theorem Auto.Good.cl_eq {a : Auto} (h : a.Good) {v w : Int} (hv : a.inr v) (hw : a.inr w) (hvw : Al a.edges a.edges v w) : a.cl v = a.cl w := by
  have hv' := hv
  have hw' := hw
  unfold Auto.inr at hv' hw'
  obtain ⟨_, h2, _⟩ := leastR_spec h (p := v.toNat) (by omega)
  obtain ⟨_, h3, _⟩ := leastR_spec h (p := w.toNat) (by omega)
  rw [h.cl_def hv, h.cl_def hw]
  have e1 : ((v.toNat : Nat) : Int) = v := by omega
  have e2 : ((w.toNat : Nat) : Int) = w := by omega
  have h4 : Lst (fun k _ => ∀ j, Ev a.edges a.edges j k w.toNat) v.toNat (leastR (differ a a) a.states.toNat w.toNat) := ⟨h3.rel, h3.min⟩
  have := h2.uniq h4 (fun h5 => Al.trans h5 (by rw [e1, e2]; exact hvw)) (fun h5 => Al.trans h5 (by rw [e1, e2]; exact hvw.symm))
  rw [this]
theorem Auto.Good.cl_cl {a : Auto} (h : a.Good) {v : Int} (hv : a.inr v) : a.cl (a.cl v) = a.cl v := h.cl_eq (h.cl_in hv).2.1 hv (h.cl_al hv)
theorem Auto.Good.merged_next {a : Auto} (h : a.Good) {v : Int} (hv : a.cl v = v) (d : Bool) (x : Int) : nextE v d x a.merged.edges = (nextE v d x a.edges).map a.cl := by
  apply Option.ext
  intro t
  rw [nextE_some h.merged.apt, Option.map_eq_some_iff]
  have hm : ∀ y : Edge, y ∈ a.merged.edges ↔ ∃ e ∈ a.edges, a.cl e.fr = e.fr ∧ (⟨e.fr, e.send, e.label, a.cl e.to⟩ : Edge) = y := fun y => by
    simp [Auto.merged, and_assoc]
  rw [hm]
  constructor
  · rintro ⟨e, he, _, heq⟩
    obtain ⟨f, d', x', t'⟩ := e
    simp only [Edge.mk.injEq] at heq
    obtain ⟨rfl, rfl, rfl, rfl⟩ := heq
    exact ⟨t', (nextE_some h.apt).2 he, rfl⟩
  · rintro ⟨t', hn, rfl⟩
    exact ⟨_, (nextE_some h.apt).1 hn, hv, rfl⟩
theorem Auto.Good.merged_al {a : Auto} (h : a.Good) {v : Int} (hv : a.inr v) : Al a.edges a.merged.edges v (a.cl v) := by
  refine Al.intro (fun p q => a.inr p ∧ q = a.cl p) ?_ ⟨hv, rfl⟩
  rintro p q ⟨hp, rfl⟩ d x
  have h1 := (h.cl_al hp).next d x
  rw [h.merged_next (h.cl_cl hp)]
  cases e1 : nextE (a.cl p) d x a.edges with
  | none =>
    cases e2 : nextE p d x a.edges with
    | none => trivial
    | some u => rw [e1, e2] at h1; exact h1.elim
  | some t =>
    cases e2 : nextE p d x a.edges with
    | none => rw [e1, e2] at h1; exact h1.elim
    | some u =>
      rw [e1, e2] at h1
      exact ⟨h.next_in e2, h.cl_eq (h.next_in e1) (h.next_in e2) h1⟩
theorem Auto.Good.trim_al {a : Auto} (h : a.Good) {v : Int} (hv : v ∈ a.order) : Al a.edges a.trim.edges v (atL v a.order) := by
  refine Al.intro (fun p q => p ∈ a.order ∧ q = atL p a.order) ?_ ⟨hv, rfl⟩
  rintro p q ⟨hp, rfl⟩ d x
  rw [h.trim_next hp]
  cases e1 : nextE p d x a.edges with
  | none => trivial
  | some t => exact ⟨h.order_closed ((nextE_some h.apt).1 e1) hp, rfl⟩
theorem Auto.Good.mini_al {a : Auto} (h : a.Good) : Al a.edges a.mini.edges a.start 0 := by
  refine (h.merged_al h.st).trans ?_
  have := h.merged.trim_al a.merged.start_mem
  rw [Auto.start_at] at this
  exact this
theorem Auto.Good.mini_good {a : Auto} (h : a.Good) : a.mini.Good := h.merged.trim
theorem Auto.Good.mini_states {a : Auto} (h : a.Good) : a.mini.states ≤ a.states := by
  have := h.merged.from_len h.merged.st
  have h2 := h.st
  show ((a.merged.from a.merged.start).length : Int) ≤ a.states
  have h3 : a.merged.states = a.states := rfl
  rw [h3] at this
  omega
/-- No two states are alike. -/
def Auto.red (m : Auto) : Prop := ∀ p q, m.inr p → m.inr q → Al m.edges m.edges p q → p = q
theorem Auto.Good.order_cl {a : Auto} (h : a.Good) {v : Int} (hv : v ∈ a.merged.order) : a.cl v = v := by
  have hr := (h.merged.from_mem h.merged.st).1 hv
  induction hr with
  | refl => exact h.cl_cl h.st
  | step _ hx _ =>
    obtain ⟨e, he, _, rfl⟩ := outs_mem.1 hx
    simp only [Auto.merged, List.mem_map, List.mem_filter] at he
    obtain ⟨f, ⟨hf, _⟩, rfl⟩ := he
    have := fits_iff.1 (h.fit f hf)
    exact h.cl_cl ⟨this.2.2.1, this.2.2.2.1⟩
theorem Auto.Good.mini_red {a : Auto} (h : a.Good) : a.mini.red := by
  intro p q hp hq hpq
  have hs : a.mini.states = (a.merged.order.length : Int) := rfl
  unfold Auto.inr at hp hq
  rw [hs] at hp hq
  have get : ∀ p : Int, 0 ≤ p ∧ p < (a.merged.order.length : Int) → ∃ v ∈ a.merged.order, atL v a.merged.order = p ∧ a.cl v = v := fun p hp => by
    obtain ⟨v, hv⟩ := get_at (l := a.merged.order) (k := p.toNat) (by omega)
    refine ⟨v, List.mem_of_getElem? hv, ?_, h.order_cl (List.mem_of_getElem? hv)⟩
    have := atL_of (show a.merged.order.Nodup from a.merged.from_nodup _) hv
    omega
  obtain ⟨v, hv, rfl, cv⟩ := get p hp
  obtain ⟨w, hw, rfl, cw⟩ := get q hq
  have h1 := (h.merged.trim_al hv).trans (hpq.trans (h.merged.trim_al hw).symm)
  have iv : a.inr v := h.merged.order_in v hv
  have iw : a.inr w := h.merged.order_in w hw
  have h2 := h.merged_al iv
  have h3 := h.merged_al iw
  rw [cv] at h2
  rw [cw] at h3
  have := h.cl_eq iv iw (h2.trans (h1.trans h3.symm))
  rw [cv, cw] at this
  rw [this]
theorem Auto.red.cl {m : Auto} (hr : m.red) (h : m.Good) {v : Int} (hv : m.inr v) : m.cl v = v := hr _ _ (h.cl_in hv).2.1 hv (h.cl_al hv)
theorem Auto.red.classes {m : Auto} (hr : m.red) (h : m.Good) {p : Nat} (hp : p < m.states.toNat) : m.classes[p]? = some (p : Int) := by
  have hi : m.inr (p : Int) := by unfold Auto.inr; omega
  have := (h.cl_in hi).1
  rw [hr.cl h hi] at this
  exact this
theorem Auto.red.merged {m : Auto} (hr : m.red) (h : m.Good) : m.merged = m := by
  unfold Auto.merged
  have h1 : (m.edges.filter fun e => m.cl e.fr == e.fr) = m.edges := by
    rw [List.filter_eq_self]
    intro e he
    have := fits_iff.1 (h.fit e he)
    rw [hr.cl h ⟨this.1, this.2.1⟩]
    simp
  rw [h1, hr.cl h h.st]
  have h2 : (m.edges.map fun e => (⟨e.fr, e.send, e.label, m.cl e.to⟩ : Edge)) = m.edges := by
    rw [List.map_eq_iff]
    intro i
    cases hi : m.edges[i]? with
    | none => rfl
    | some e =>
      have := fits_iff.1 (h.fit e (List.mem_of_getElem? hi))
      simp only [Option.map_some, hr.cl h (v := e.to) ⟨this.2.2.1, this.2.2.2.1⟩]
  rw [h2]
theorem Auto.Good.mini_mini {a : Auto} (h : a.Good) : a.mini.mini = a.mini := by
  show a.mini.merged.trim = a.mini
  rw [h.mini_red.merged h.mini_good]
  exact h.merged.trim_trim

end Go.Pv

/-
  The law of least automata.
-/
namespace Go.Pv

theorem dif_al {a b : Auto} (ha : a.Good) (hb : b.Good) (h : Al a.edges b.edges a.start b.start) : a.dif b false = none := (dif_none ha hb).2 h
theorem r12m (t : Nat) (a : Auto) (h : a.Good) : res A PrA 12 [.agg [.int .i64 a.mini.states, .int .i64 0, .lst t (edgs a.mini.edges)]] = some [.agg [.int .i64 a.mini.states, .int .i64 0, .lst 0 (edgs a.mini.edges)], .int .i64 0] := by
  have hm := h.mini_good
  have hl := hm.len
  have := r12 t a.mini (by omega)
  rw [if_pos (Auto.good_iff.2 hm), h.mini_mini] at this
  exact this
theorem r10m (t : Nat) (a : Auto) (h : a.Good) : res A PrA 10 [.agg [.int .i64 a.mini.states, .int .i64 0, .lst t (edgs a.mini.edges)]] = some [.lst 0 (ints a.mini.classes), .int .i64 0] := by
  have hm := h.mini_good
  have hl := hm.len
  have := r10 t a.mini (by omega)
  rw [if_pos (Auto.good_iff.2 hm)] at this
  exact this
theorem r16m (t u : Nat) (a : Auto) (ht : t ≤ 1) (hu : u ≤ 1) (h : a.Good) : res A PrA 16 [.agg [.int .i64 a.states, .int .i64 a.start, .lst t (a.edges.map Edge.c)], .agg [.int .i64 a.mini.states, .int .i64 0, .lst u (edgs a.mini.edges)]] = some [.bool true, .int .i64 0] := by
  have hm := h.mini_good
  have hl := h.len
  have hl' := hm.len
  have := r16 t u a a.mini ht hu (by omega) (by omega)
  have hb : bothE a a.mini = 0 := by unfold bothE; rw [if_pos (Auto.good_iff.2 h), Auto.good_iff.2 hm]
  rw [hb, dif_al h hm h.mini_al] at this
  exact this
end Go.Pv

/-
  Plain laws: automata that are alike are minimized to the same.
-/
namespace Go.Pv

theorem outs_edges (es : List Edge) (v : Int) : outs es v = (edgesOf es v).map (·.to) := rfl

/-- All states can be reached, in this order; no two are alike. -/
structure Auto.Least (m : Auto) : Prop where
  good : m.Good
  zero : m.start = 0
  ord : m.order = iota m.states.toNat
  red : m.red
theorem Auto.Good.mini_least {a : Auto} (h : a.Good) : a.mini.Least where
  good := h.mini_good
  zero := rfl
  ord := h.merged.trim_order
  red := h.mini_red

theorem least_uniq {m n : Auto} (hm : m.Least) (hn : n.Least) (h : Al m.edges n.edges m.start n.start) : m = n := by
  have hgm := hm.good
  have hgn := hn.good
  have mem : ∀ {m : Auto}, m.Least → ∀ p, m.inr p → p ∈ m.order := fun {m} hm p hp => by
    rw [hm.ord, iota_mem]
    unfold Auto.inr at hp
    omega
  have ex : ∀ v, m.inr v → ∃ w, n.inr w ∧ Al m.edges n.edges v w := fun v hv => by
    have hr := (hgm.from_mem hgm.st).1 (mem hm v hv)
    clear hv
    induction hr with
    | refl => exact ⟨_, hgn.st, h⟩
    | @step u x hru hx ih =>
      obtain ⟨w, hwi, hw⟩ := ih
      obtain ⟨e, he, rfl, rfl⟩ := outs_mem.1 hx
      have h1 := hw.next e.send e.label
      rw [(nextE_some hgm.apt).2 he] at h1
      cases h2 : nextE w e.send e.label n.edges with
      | none => rw [h2] at h1; exact h1.elim
      | some y =>
        rw [h2] at h1
        exact ⟨y, hgn.next_in h2, h1⟩
  have exf : ∃ g : Int → Int, ∀ v, m.inr v → n.inr (g v) ∧ Al m.edges n.edges v (g v) := by
    refine ⟨fun v => open Classical in if hv : m.inr v then Classical.choose (ex v hv) else 0, fun v hv => ?_⟩
    simp only [hv, dif_pos]
    exact Classical.choose_spec (ex v hv)
  obtain ⟨g, hg⟩ := exf
  have uni : ∀ {v w : Int}, m.inr v → n.inr w → Al m.edges n.edges v w → w = g v := fun {v w} hv hw hvw => hn.red _ _ hw (hg v hv).1 (hvw.symm.trans (hg v hv).2)
  have inj : ∀ v w, m.inr v → m.inr w → g v = g w → v = w := fun v w hv hw e => hm.red _ _ hv hw ((hg v hv).2.trans (e ▸ (hg w hw).2.symm))
  have nxt : ∀ v, m.inr v → ∀ d x, nextE (g v) d x n.edges = (nextE v d x m.edges).map g := fun v hv d x => by
    have h1 := (hg v hv).2.next d x
    cases e1 : nextE v d x m.edges with
    | none =>
      cases e2 : nextE (g v) d x n.edges with
      | none => rfl
      | some u => rw [e1, e2] at h1; exact h1.elim
    | some t =>
      cases e2 : nextE (g v) d x n.edges with
      | none => rw [e1, e2] at h1; exact h1.elim
      | some u =>
        rw [e1, e2] at h1
        rw [uni (hgm.next_in e1) (hgn.next_in e2) h1]
        rfl
  have key : ∀ v, m.inr v → (edgesOf n.edges (g v)).map (fun e => (e.send, e.label, e.to)) = (edgesOf m.edges v).map (fun e => (e.send, e.label, g e.to)) := fun v hv => by
    let r : Bool × Int × Int → Bool × Int × Int → Prop := fun x y => lessE ⟨0, x.1, x.2.1, 0⟩ ⟨0, y.1, y.2.1, 0⟩ = true
    refine pw_ext (r := r) (fun x => ?_) (fun x y z h1 h2 => lessE_tr h1 h2) ?_ ?_ fun x => ?_
    · show ¬ _ = true
      rw [lessE_irr rfl]
      simp
    · rw [List.pairwise_map]
      exact (hgn.ascE _).imp fun {x y} hxy => by
        exact (lessE_act rfl rfl).trans hxy
    · rw [List.pairwise_map]
      exact (hgm.ascE _).imp fun {x y} hxy => by
        exact (lessE_act rfl rfl).trans hxy
    · obtain ⟨d, l, t⟩ := x
      simp only [List.mem_map, Prod.mk.injEq]
      constructor
      · rintro ⟨e, he, rfl, rfl, rfl⟩
        have h1 := next_of_edge hgn he
        rw [nxt v hv, Option.map_eq_some_iff] at h1
        obtain ⟨u, hu, hu2⟩ := h1
        exact ⟨_, edge_of_next hgm hu, rfl, rfl, hu2⟩
      · rintro ⟨e, he, rfl, rfl, rfl⟩
        have h1 := next_of_edge hgm he
        have h2 := nxt v hv e.send e.label
        rw [h1] at h2
        exact ⟨_, edge_of_next hgn h2, rfl, rfl, rfl⟩
  have hout : ∀ v, m.inr v → outs n.edges (g v) = (outs m.edges v).map g := fun v hv => by
    have h1 := congrArg (List.map fun x : Bool × Int × Int => x.2.2) (key v hv)
    rw [List.map_map, List.map_map] at h1
    rw [outs_edges, outs_edges, List.map_map]
    exact h1
  have g0 : g m.start = n.start := (uni hgm.st hgn.st h).symm
  have hP : ∀ v, m.inr v → ∀ x ∈ outs m.edges v, m.inr x := hgm.outs_in
  have hmap := bfs_map (g := g) (P := m.inr) (nx := outs m.edges) (nx' := outs n.edges) inj hP hout n.states.toNat 0 (o := [m.start]) (fun v hv => by rw [List.mem_singleton] at hv; subst hv; exact hgm.st)
  have hsz : m.states.toNat ≤ n.states.toNat := by
    have h1 := nodup_bound (l := (iota m.states.toNat).map g) (n := n.states.toNat) (by
      refine List.pairwise_map.2 (List.Pairwise.imp_of_mem ?_ (iota_nodup _))
      intro x y hx hy hxy e
      rw [iota_mem] at hx hy
      exact hxy (inj x y (by unfold Auto.inr; omega) (by unfold Auto.inr; omega) e)) (fun x hx => by
      obtain ⟨v, hv, rfl⟩ := List.mem_map.1 hx
      rw [iota_mem] at hv
      have := (hg v (by unfold Auto.inr; omega)).1
      unfold Auto.inr at this
      omega)
    simpa [iota] using h1
  have hord : n.order = m.order.map g := by
    show bfs (outs n.edges) n.states.toNat 0 [n.start] = (bfs (outs m.edges) m.states.toNat 0 [m.start]).map g
    rw [← g0]
    refine hmap.trans ?_
    congr 1
    exact bfs_more (N := m.states.toNat) (P := m.inr) hP m.bound _ _ 0 (by omega) (by omega) (by simp) (fun v hv => by rw [List.mem_singleton] at hv; subst hv; exact hgm.st)
  have hlen : n.states.toNat = m.states.toNat := by
    have := congrArg List.length hord
    rw [hn.ord, hm.ord] at this
    simpa [iota] using this
  have hst : m.states = n.states := by
    have h1 := hgm.st
    have h2 := hgn.st
    omega
  have hgid : ∀ v, m.inr v → g v = v := fun v hv => by
    unfold Auto.inr at hv
    have h1 := congrArg (fun l => l[v.toNat]?) hord
    simp only [hn.ord, hm.ord, List.getElem?_map] at h1
    rw [iota_get (by omega), iota_get (by omega)] at h1
    simp only [Option.map_some, Option.some.injEq] at h1
    rw [show ((v.toNat : Nat) : Int) = v by omega] at h1
    exact h1.symm
  have hed : m.edges = n.edges := by
    refine pw_uniq Edge.lt_irr Edge.lt_tr hgm.asc hgn.asc fun e => ?_
    constructor
    · intro he
      have hf := fits_iff.1 (hgm.fit e he)
      have h1 := nxt e.fr ⟨hf.1, hf.2.1⟩ e.send e.label
      rw [hgid _ ⟨hf.1, hf.2.1⟩, (nextE_some hgm.apt).2 he] at h1
      simp only [Option.map_some, hgid e.to ⟨hf.2.2.1, hf.2.2.2.1⟩] at h1
      exact (nextE_some hgn.apt).1 h1
    · intro he
      have hf := fits_iff.1 (hgn.fit e he)
      have hfr : m.inr e.fr := ⟨hf.1, by rw [hst]; exact hf.2.1⟩
      have h1 := nxt e.fr hfr e.send e.label
      rw [hgid _ hfr, (nextE_some hgn.apt).2 he] at h1
      obtain ⟨t, ht, ht2⟩ := Option.map_eq_some_iff.1 h1.symm
      rw [hgid t (hgm.next_in ht)] at ht2
      subst ht2
      exact (nextE_some hgm.apt).1 ht
  obtain ⟨s1, s2, s3⟩ := m
  obtain ⟨t1, t2, t3⟩ := n
  have z1 := hm.zero
  have z2 := hn.zero
  simp only at hst hed z1 z2
  rw [hst, hed, z1, z2]
/-- The same to one who uses them: minimized to the same. -/
theorem mini_uniq {a b : Auto} (ha : a.Good) (hb : b.Good) : Al a.edges b.edges a.start b.start ↔ a.mini = b.mini := by
  constructor
  · intro h
    exact least_uniq ha.mini_least hb.mini_least (ha.mini_al.symm.trans (h.trans hb.mini_al))
  · intro h
    have h2 := hb.mini_al
    rw [← h] at h2
    exact ha.mini_al.trans h2.symm

end Go.Pv

/-
  The law of two automata.
-/
namespace Go.Pv

theorem PR.swap {a b : List Edge} {s t : Int} {p : List (Bool × Int)} {x y : Int} (h : PR a b s t p x y) : PR b a t s p y x := by
  induction h with
  | nil => exact .nil
  | snoc _ h1 h2 ih => exact ih.snoc h2 h1
theorem within_iff {a b : Auto} (ha : a.Good) (hb : b.Good) : a.dif b true = none ↔ ∀ p x y, PR a.edges b.edges a.start b.start p x y → ∀ d l, (nextE x d l a.edges).isSome = true → (nextE y d l b.edges).isSome = true := by
  rw [dif_lack ha hb]
  constructor
  · intro h p x y hp d l hd
    obtain ⟨t, ht⟩ := Option.isSome_iff_exists.1 hd
    obtain ⟨u, hu⟩ := lack_next (h p x y hp) (edge_of_next ha ht)
    rw [hu]; rfl
  · intro h p x y hp
    unfold lackE
    rw [List.find?_eq_none]
    intro e he
    have := h p x y hp e.send e.label (by rw [next_of_edge ha he]; rfl)
    simp [this]
theorem same_within {a b : Auto} (ha : a.Good) (hb : b.Good) : a.dif b false = none ↔ a.dif b true = none ∧ b.dif a true = none := by
  constructor
  · intro h
    have hal := (dif_none ha hb).1 h
    have half : ∀ {a b : Auto}, a.Good → b.Good → (∀ j, Ev a.edges b.edges j a.start b.start) → a.dif b true = none := fun {a b} ha hb hal => by
      refine (within_iff ha hb).2 fun p x y hp d l hd => ?_
      have h1 := hp.ev hal 1 d l
      obtain ⟨t, ht⟩ := Option.isSome_iff_exists.1 hd
      rw [ht] at h1
      cases h2 : nextE y d l b.edges with
      | none => rw [h2] at h1; exact h1.elim
      | some u => rfl
    exact ⟨half ha hb hal, half hb ha fun j => (hal j).symm⟩
  · rintro ⟨h1, h2⟩
    have h1 := (within_iff ha hb).1 h1
    have h2 := (within_iff hb ha).1 h2
    refine (dif_none ha hb).2 ?_
    refine Al.intro (fun x y => ∃ p, PR a.edges b.edges a.start b.start p x y) ?_ ⟨[], .nil⟩
    rintro x y ⟨p, hp⟩ d l
    have h3 := h1 p x y hp d l
    have h4 := h2 p y x hp.swap d l
    cases e1 : nextE x d l a.edges with
    | none =>
      cases e2 : nextE y d l b.edges with
      | none => trivial
      | some u => rw [e1, e2] at h4; cases h4 rfl
    | some t =>
      cases e2 : nextE y d l b.edges with
      | none => rw [e1, e2] at h3; cases h3 rfl
      | some u => exact ⟨_, hp.snoc e1 e2⟩
theorem isSome_not {α : Type} (o : Option α) : (!o.isSome) = true ↔ o = none := by cases o <;> simp
theorem same_within_b {a b : Auto} (ha : a.Good) (hb : b.Good) : ((!(a.dif b true).isSome) && !(b.dif a true).isSome) = !(a.dif b false).isSome := by
  rw [Bool.eq_iff_iff, Bool.and_eq_true, isSome_not, isSome_not, isSome_not, same_within ha hb]
theorem same_mini_b {a b : Auto} (ha : a.Good) (hb : b.Good) : decide (a.mini = b.mini) = !(a.dif b false).isSome := by
  rw [Bool.eq_iff_iff, isSome_not, dif_none ha hb, decide_eq_true_eq]
  exact (mini_uniq ha hb).symm
end Go.Pv

/-
  Plain laws: numbers of lists of actions.
-/
namespace Go.Pv

/-- The number of lists of k actions from a state. -/
def numE (es : List Edge) : Nat → Int → Int
  | 0, _ => 1
  | k + 1, p => ((edgesOf es p).map fun e => numE es k e.to).sum
theorem sum_nn {f : Edge → Int} : ∀ {l : List Edge}, (∀ x ∈ l, 0 ≤ f x) → 0 ≤ (l.map f).sum
  | [], _ => by simp
  | x :: l, h => by
    rw [List.map_cons, List.sum_cons]
    have := sum_nn (l := l) fun y hy => h y (List.mem_cons_of_mem _ hy)
    have := h x (by simp)
    omega
theorem numE_nn (es : List Edge) : ∀ (k : Nat) (p : Int), 0 ≤ numE es k p
  | 0, _ => by simp [numE]
  | k + 1, p => sum_nn fun e _ => numE_nn es k e.to
theorem sum_le_mul {f : Edge → Int} {M : Int} : ∀ {l : List Edge}, (∀ x ∈ l, f x ≤ M) → (l.map f).sum ≤ l.length * M
  | [], _ => by simp
  | x :: l, h => by
    rw [List.map_cons, List.sum_cons, List.length_cons]
    have h1 := sum_le_mul (l := l) fun y hy => h y (List.mem_cons_of_mem _ hy)
    have h2 := h x (by simp)
    have : ((l.length + 1 : Nat) : Int) * M = (l.length : Int) * M + M := by
      rw [Int.natCast_add, Int.add_mul]
      simp
    omega
theorem numE_le {es : List Edge} (h : es.length ≤ 12) : ∀ (k : Nat) (p : Int), numE es k p ≤ 12 ^ k
  | 0, _ => by simp [numE]
  | k + 1, p => by
    have h1 := sum_le_mul (f := fun e => numE es k e.to) (l := edgesOf es p) (M := 12 ^ k) fun e _ => numE_le h k e.to
    have h2 := edgesOf_len es p
    have h3 : (0 : Int) ≤ 12 ^ k := Int.pow_nonneg (by omega)
    have h4 : ((edgesOf es p).length : Int) * 12 ^ k ≤ 12 * 12 ^ k := Int.mul_le_mul_of_nonneg_right (by omega) h3
    show (List.map (fun e => numE es k e.to) (edgesOf es p)).sum ≤ 12 ^ (k + 1)
    rw [Int.pow_succ]
    omega
theorem sum_incl {f g : Edge → Int} (hg : ∀ y, 0 ≤ g y) : ∀ {lb la : List Edge}, AscE la → AscE lb → (∀ x ∈ la, ∃ y ∈ lb, y.act = x.act ∧ f x ≤ g y) → (la.map f).sum ≤ (lb.map g).sum
  | [], la, _, _, h => by
    cases la with
    | nil => simp
    | cons x l =>
      obtain ⟨y, hy, _⟩ := h x (by simp)
      cases hy
  | y :: m, [], _, _, _ => by
    rw [List.map_nil, List.sum_nil]
    exact sum_nn fun y _ => hg y
  | y :: m, x :: l, ha, hb, h => by
    obtain ⟨ha1, ha2⟩ := List.pairwise_cons.1 ha
    obtain ⟨hb1, hb2⟩ := List.pairwise_cons.1 hb
    rw [List.map_cons, List.map_cons, List.sum_cons, List.sum_cons]
    by_cases hxy : y.act = x.act
    · have h1 : f x ≤ g y := by
        obtain ⟨z, hz, e, hle⟩ := h x (by simp)
        rcases List.mem_cons.1 hz with rfl | hz
        · exact hle
        · have := hb1 z hz
          rw [lessE_irr (hxy.trans e.symm)] at this
          cases this
      have h2 := sum_incl (f := f) (g := g) hg ha2 hb2 fun u hu => by
        obtain ⟨z, hz, e, hle⟩ := h u (List.mem_cons_of_mem _ hu)
        rcases List.mem_cons.1 hz with rfl | hz
        · have := ha1 u hu
          rw [lessE_irr (hxy.symm.trans e)] at this
          cases this
        · exact ⟨z, hz, e, hle⟩
      omega
    · have h2 := sum_incl (f := f) (g := g) hg ha hb2 fun u hu => by
        obtain ⟨z, hz, e, hle⟩ := h u hu
        rcases List.mem_cons.1 hz with rfl | hz
        · rcases List.mem_cons.1 hu with rfl | hu
          · exact (hxy e).elim
          · obtain ⟨w, hw, e2, _⟩ := h x (by simp)
            rcases List.mem_cons.1 hw with rfl | hw
            · exact (hxy e2).elim
            · have h3 := ha1 u hu
              have h4 := hb1 w hw
              rw [lessE_act e e2] at h4
              have := lessE_tr h3 h4
              rw [lessE_irr rfl] at this
              cases this
        · exact ⟨z, hz, e, hle⟩
      rw [List.map_cons, List.sum_cons] at h2
      have := hg y
      omega
theorem numE_mono {a b : Auto} (ha : a.Good) (hb : b.Good) (R : Int → Int → Prop) (hR : ∀ p q, R p q → ∀ d l t, nextE p d l a.edges = some t → ∃ u, nextE q d l b.edges = some u ∧ R t u) : ∀ (k : Nat) (p q : Int), R p q → numE a.edges k p ≤ numE b.edges k q
  | 0, _, _, _ => by simp [numE]
  | k + 1, p, q, h => sum_incl (f := fun e => numE a.edges k e.to) (g := fun e => numE b.edges k e.to) (fun y => numE_nn _ _ _) (ha.ascE p) (hb.ascE q) fun e he => by
    obtain ⟨u, hu, hr⟩ := hR p q h _ _ _ (next_of_edge ha he)
    exact ⟨_, edge_of_next hb hu, rfl, numE_mono ha hb R hR k _ _ hr⟩
theorem numE_al {a b : Auto} (ha : a.Good) (hb : b.Good) {p q : Int} (h : Al a.edges b.edges p q) (k : Nat) : numE a.edges k p = numE b.edges k q := by
  have half : ∀ {a b : Auto}, a.Good → b.Good → ∀ {p q : Int}, Al a.edges b.edges p q → numE a.edges k p ≤ numE b.edges k q := fun {a b} ha hb {p q} h => by
    refine numE_mono ha hb (Al a.edges b.edges) (fun p q h d l t ht => ?_) k p q h
    have h1 := h.next d l
    rw [ht] at h1
    cases h2 : nextE q d l b.edges with
    | none => rw [h2] at h1; exact h1.elim
    | some u => rw [h2] at h1; exact ⟨u, rfl, h1⟩
  have h1 := half ha hb h
  have h2 := half hb ha h.symm
  omega
theorem numE_within {a b : Auto} (ha : a.Good) (hb : b.Good) (h : a.dif b true = none) (k : Nat) : numE a.edges k a.start ≤ numE b.edges k b.start := by
  have h1 := (within_iff ha hb).1 h
  refine numE_mono ha hb (fun x y => ∃ p, PR a.edges b.edges a.start b.start p x y) ?_ k _ _ ⟨[], .nil⟩
  rintro x y ⟨p, hp⟩ d l t ht
  obtain ⟨u, hu⟩ := Option.isSome_iff_exists.1 (h1 p x y hp d l (by rw [ht]; rfl))
  exact ⟨u, hu, _, hp.snoc ht hu⟩

theorem cnt_fold {n : Nat} {l : List Int} {f : Int → Int} (hf : ∀ p : Int, 0 ≤ p ∧ p < n → l.getD p.toNat 0 = min (f p) 1000000000000001 ∧ 0 ≤ f p) : ∀ (es : List Edge) (nx : List Int) (p : Int), (∀ e ∈ es, (0 ≤ e.fr ∧ e.fr < n) ∧ (0 ≤ e.to ∧ e.to < n)) → nx.length = n → (0 ≤ p ∧ p < n) → 0 ≤ nx.getD p.toNat 0 → nx.getD p.toNat 0 ≤ 1000000000000001 →
    (es.foldl (cntE l) nx).getD p.toNat 0 = min (nx.getD p.toNat 0 + ((edgesOf es p).map fun e => f e.to).sum) 1000000000000001
  | [], nx, p, _, _, _, _, _ => by
    have : ((edgesOf [] p).map fun e => f e.to).sum = 0 := by simp [edgesOf]
    rw [this, List.foldl_nil]
    omega
  | e :: es, nx, p, he, hl, hp, h0, h1 => by
    obtain ⟨⟨e1, e2⟩, e3⟩ := he e (by simp)
    obtain ⟨g1, g2⟩ := hf e.to e3
    have he' : ∀ x ∈ es, (0 ≤ x.fr ∧ x.fr < n) ∧ (0 ≤ x.to ∧ x.to < n) := fun x hx => he x (List.mem_cons_of_mem _ hx)
    have hs : 0 ≤ ((edgesOf es p).map fun e => f e.to).sum := sum_nn fun x hx => (hf x.to (he' x (edgesOf_mem.1 hx).1).2).2
    rw [List.foldl_cons]
    have hv : (cntE l nx e).getD p.toNat 0 = if e.fr = p then min (nx.getD p.toNat 0 + min (f e.to) 1000000000000001) 1000000000000001 else nx.getD p.toNat 0 := by
      unfold cntE
      rw [getD_set, g1]
      by_cases hep : e.fr = p
      · rw [if_pos ⟨by rw [hep], by omega⟩, if_pos hep, hep]
      · rw [if_neg (fun h => hep (by omega)), if_neg hep]
    rw [cnt_fold hf es (cntE l nx e) p he' (by rw [cntE_len]; exact hl) hp (by rw [hv]; split <;> omega) (by rw [hv]; split <;> omega), hv]
    by_cases hep : e.fr = p
    · have : edgesOf (e :: es) p = e :: edgesOf es p := by simp [edgesOf, hep]
      rw [if_pos hep, this, List.map_cons, List.sum_cons]
      omega
    · have : edgesOf (e :: es) p = edgesOf es p := by simp [edgesOf, hep]
      rw [if_neg hep, this]
theorem cntN_num {n : Nat} {es : List Edge} (he : ∀ e ∈ es, (0 ≤ e.fr ∧ e.fr < n) ∧ (0 ≤ e.to ∧ e.to < n)) : ∀ (k : Nat) (p : Int), (0 ≤ p ∧ p < n) → (cntN n es k).getD p.toNat 0 = min (numE es k p) 1000000000000001
  | 0, p, hp => by
    have : p.toNat < n := by omega
    simp [cntN, numE, this]
    omega
  | k + 1, p, hp => by
    have h0 : (List.replicate n (0 : Int)).getD p.toNat 0 = 0 := by
      simp only [List.getD_eq_getElem?_getD, List.getElem?_replicate]
      split <;> rfl
    have := cnt_fold (l := cntN n es k) (f := numE es k) (fun q hq => ⟨cntN_num he k q hq, numE_nn _ _ _⟩) es (List.replicate n 0) p he (by simp) hp (by rw [h0]; omega) (by rw [h0]; omega)
    rw [h0, Int.zero_add] at this
    exact this
theorem Auto.Good.count_num {a : Auto} (h : a.Good) {n : Int} (hn : 0 ≤ n ∧ n ≤ 1000) (hs : numE a.edges n.toNat a.start ≤ 1000000000000000) : a.count n = (numE a.edges n.toNat a.start, 0) := by
  have hst := h.st
  rw [Auto.count_val (Auto.good_iff.2 h) (by omega) (by omega) (v := numE a.edges n.toNat a.start) ?_, if_neg (by omega)]
  rw [cntN_num (fun e he => by
    have := fits_iff.1 (h.fit e he)
    omega) n.toNat a.start (by omega)]
  omega

end Go.Pv

/-
  The law of fewer lists of actions.
-/
namespace Go.Pv

theorem pow12 : ∀ n : Nat, n ≤ 12 → (12 : Int) ^ n ≤ 1000000000000000 := by decide
end Go.Pv

/-
  Plain laws: the first difference, found in two ways.
-/
namespace Go.Pv

/-- The number of actions that tell two states apart; 0: none do. -/
def dE (a b : Auto) (p q : Int) : Int := ent (differ a b) p q
theorem dE_lst {a b : Auto} (ha : a.Good) (hb : b.Good) {p q : Int} (hp : a.inr p) (hq : b.inr q) : dE a b p q = (lst a.edges b.edges (a.states.toNat * b.states.toNat + 1) p q : Int) := by
  unfold Auto.inr at hp hq
  have h := (difM_ent ha hb (a.states.toNat * b.states.toNat)).2 p.toNat q.toNat (by omega) (by omega)
  rw [show ((p.toNat : Nat) : Int) = p by omega, show ((q.toNat : Nat) : Int) = q by omega] at h
  exact h
theorem dE_zero {a b : Auto} (ha : a.Good) (hb : b.Good) {p q : Int} (hp : a.inr p) (hq : b.inr q) : dE a b p q = 0 ↔ Al a.edges b.edges p q := differ_zero ha hb hp hq
theorem dE_nn {a b : Auto} (ha : a.Good) (hb : b.Good) {p q : Int} (hp : a.inr p) (hq : b.inr q) : 0 ≤ dE a b p q := by
  rw [dE_lst ha hb hp hq]
  omega
theorem dE_succ {a b : Auto} (ha : a.Good) (hb : b.Good) {p q : Int} (hp : a.inr p) (hq : b.inr q) {m : Nat} : dE a b p q = m + 1 ↔ Ev a.edges b.edges m p q ∧ ¬ Ev a.edges b.edges (m + 1) p q := by
  rw [dE_lst ha hb hp hq]
  have h := lst_succ (a := a.edges) (b := b.edges) (m := m) (p := p) (q := q) (k := a.states.toNat * b.states.toNat + 1)
  constructor
  · intro h1
    exact (h.1 (by omega)).2
  · intro h1
    have : m + 1 ≤ a.states.toNat * b.states.toNat + 1 := by
      rcases Nat.lt_or_ge (a.states.toNat * b.states.toNat) m with h2 | h2
      · exact (h1.2 (Ev.stable ha hb hp hq (Ev.le (by omega) h1.1) _)).elim
      · omega
    rw [h.2 ⟨this, h1⟩]
    simp
/-- What one action leads to is no further off than it must be. -/
theorem dE_next {a b : Auto} (ha : a.Good) (hb : b.Good) {p q t u : Int} (hp : a.inr p) (hq : b.inr q) {d : Bool} {x : Int} (h1 : nextE p d x a.edges = some t) (h2 : nextE q d x b.edges = some u) {m : Int} (h : dE a b p q = 0 ∨ m + 1 ≤ dE a b p q) : dE a b t u = 0 ∨ m ≤ dE a b t u := by
  have ht := ha.next_in h1
  have hu := hb.next_in h2
  have n1 := dE_nn ha hb ht hu
  have n2 := dE_nn ha hb hp hq
  by_cases h0 : dE a b t u = 0
  · exact .inl h0
  · refine .inr ?_
    obtain ⟨i, hi⟩ : ∃ i : Nat, dE a b t u = i + 1 := ⟨(dE a b t u - 1).toNat, by omega⟩
    have hne : ¬ Ev a.edges b.edges (i + 2) p q := fun hc => by
      have := hc d x
      rw [h1, h2] at this
      exact ((dE_succ ha hb ht hu).1 hi).2 this
    by_cases h00 : dE a b p q = 0
    · exact (hne ((dE_zero ha hb hp hq).1 h00 _)).elim
    · obtain ⟨j, hj⟩ : ∃ j : Nat, dE a b p q = j + 1 := ⟨(dE a b p q - 1).toNat, by omega⟩
      have hjE := ((dE_succ ha hb hp hq).1 hj).1
      have : j < i + 2 := Nat.lt_of_not_le fun hc => hne (Ev.le hc hjE)
      omega
theorem dE_one {a b : Auto} (ha : a.Good) (hb : b.Good) {p q : Int} (hp : a.inr p) (hq : b.inr q) : mrg false (edgesOf a.edges p) (edgesOf b.edges q) = none ↔ dE a b p q ≠ 1 := by
  have hs := dE_succ ha hb hp hq (m := 0)
  have hev : Ev a.edges b.edges 1 p q ↔ mrg false (edgesOf a.edges p) (edgesOf b.edges q) = none := by
    constructor
    · intro h
      cases hm : mrg false (edgesOf a.edges p) (edgesOf b.edges q) with
      | none => rfl
      | some r =>
        obtain ⟨e, w⟩ := r
        have h1 := h e.send e.label
        rcases mrg_some ha hb hm with ⟨_, h2, h3⟩ | ⟨_, _, h2, h3⟩ <;> (obtain ⟨t, ht⟩ := Option.isSome_iff_exists.1 h2; rw [ht, h3] at h1; exact h1.elim)
    · intro h d x
      obtain ⟨h1, h2⟩ := mrg_none ha hb h
      have h1 := h1 d x
      have h2 := h2 rfl d x
      cases e1 : nextE p d x a.edges <;> cases e2 : nextE q d x b.edges <;> rw [e1, e2] at h1 h2 <;> first | trivial | exact absurd (h1 rfl) (by simp) | exact absurd (h2 rfl) (by simp)
  rw [← hev]
  constructor
  · intro h h1
    exact (hs.1 (by omega)).2 h
  · intro h
    exact Classical.byContradiction fun hc => h (by
      have := hs.2 ⟨trivial, hc⟩
      omega)
theorem dE_near {a b : Auto} (ha : a.Good) (hb : b.Good) {p q : Int} (hp : a.inr p) (hq : b.inr q) {m : Nat} (h : dE a b p q = m + 2) : ∃ e l1 l2 y, nearE a.edges b.edges (differ a b) p q (m + 1) = some e ∧ edgesOf a.edges p = l1 ++ e :: l2 ∧ nextE q e.send e.label b.edges = some y ∧ dE a b e.to y = m + 1 ∧ ∀ f ∈ l1, nearP b.edges (differ a b) q (m + 1) f = false := by
  have h' : dE a b p q = ((m + 1 : Nat) : Int) + 1 := by omega
  obtain ⟨h1, h2⟩ := (dE_succ ha hb hp hq).1 h'
  have hex : ∃ d x t u, nextE p d x a.edges = some t ∧ nextE q d x b.edges = some u ∧ ent (differ a b) t u = m + 1 := by
    refine Classical.byContradiction fun hc => h2 fun d x => ?_
    have h3 := h1 d x
    cases e1 : nextE p d x a.edges <;> cases e2 : nextE q d x b.edges <;> rw [e1, e2] at h3 <;> first | trivial | exact h3.elim | skip
    rename_i t u
    refine Classical.byContradiction fun hn => hc ⟨d, x, t, u, e1, e2, ?_⟩
    exact (dE_succ ha hb (ha.next_in e1) (hb.next_in e2)).2 ⟨h3, hn⟩
  have hn := (nearE_iff ha.apt).2 hex
  obtain ⟨e, he⟩ := Option.isSome_iff_exists.1 hn
  have he' := he
  unfold nearE at he'
  rw [List.find?_eq_some_iff_append] at he'
  obtain ⟨h4, l1, l2, h5, h6⟩ := he'
  unfold nearP at h4
  cases hy : nextE q e.send e.label b.edges with
  | none => rw [hy] at h4; cases h4
  | some y =>
    rw [hy] at h4
    exact ⟨e, l1, l2, y, he, h5, hy, by simpa [dE] using h4, fun f hf => by simpa using h6 f hf⟩

/-- The way to a difference: at each state the first action that leads nearer. -/
def fin (a b : Auto) : Nat → Int → Int → List (Bool × Int) × Int
  | 0, p, q => match mrg false (edgesOf a.edges p) (edgesOf b.edges q) with
    | some (e, w) => ([e.act], w)
    | none => ([], 0)
  | m + 1, p, q => match nearE a.edges b.edges (differ a b) p q (m + 1) with
    | some e => (e.act :: (fin a b m e.to ((nextE q e.send e.label b.edges).getD 0)).1, (fin a b m e.to ((nextE q e.send e.label b.edges).getD 0)).2)
    | none => ([], 0)

theorem DifOk.tail {a b : Auto} {k : Nat} {seen : List (Int × Int)} {n : Nd} {q : List Nd} (h : DifOk a b (k + 1) seen (n :: q)) : DifOk a b k seen q :=
  ⟨h.nodup, h.mem, by have := h.count; rw [List.length_cons] at this; omega, fun m hm => h.node m (List.mem_cons_of_mem _ hm), by have := h.le; omega⟩
theorem DifOk.more {a b : Auto} {k : Nat} {seen : List (Int × Int)} {n : Nd} {q : List Nd} (h : DifOk a b k seen (n :: q)) : ∃ k', k = k' + 1 := by
  have h1 := h.count
  have h2 := pairs_bound h.nodup (n := a.states.toNat) (m := b.states.toNat) (fun p hp => by
    have := h.mem p hp
    omega)
  rw [List.length_cons] at h1
  exact ⟨k - 1, by omega⟩

theorem dif_fin {a b : Auto} (ha : a.Good) (hb : b.Good) : ∀ (k m : Nat) (seen : List (Int × Int)) (q1 q2 : List Nd) (n : Nd), DifOk a b k seen (q1 ++ n :: q2) → dE a b n.x n.y = m + 1 → (∀ c ∈ q1, dE a b c.x c.y = 0 ∨ (m : Int) + 2 ≤ dE a b c.x c.y) → (∀ c ∈ q2, dE a b c.x c.y = 0 ∨ (m : Int) + 1 ≤ dE a b c.x c.y) →
    (∀ p ∈ seen, dE a b p.1 p.2 = 0 ∨ (m : Int) + 1 ≤ dE a b p.1 p.2) → Pv.dif a.edges b.edges false k (seen, q1 ++ n :: q2) = some (n.path ++ (fin a b m n.x n.y).1, (fin a b m n.x n.y).2)
  | 0, m, seen, q1, q2, n, hD, _, _, _, _ => by
    cases q1 with
    | nil => obtain ⟨k', hk⟩ := hD.more; cases hk
    | cons c q1 => obtain ⟨k', hk⟩ := hD.more; cases hk
  | k + 1, m, seen, c :: q1, q2, n, hD, hn, h1, h2, h3 => by
    rw [List.cons_append] at hD ⊢
    obtain ⟨c1, c2, c3⟩ := hD.node c (by simp)
    have hc := h1 c (by simp)
    have hmc : mrg false (edgesOf a.edges c.x) (edgesOf b.edges c.y) = none := (dE_one ha hb c1 c2).2 (by omega)
    have hdif : Pv.dif a.edges b.edges false (k + 1) (seen, c :: (q1 ++ n :: q2)) = Pv.dif a.edges b.edges false k ((edgesOf a.edges c.x).foldl (addD b.edges c) (seen, q1 ++ n :: q2)) := by
      rw [Pv.dif, hmc]
    rw [hdif]
    obtain ⟨seen', qs, g1, g2, g3, g4, g5, g6⟩ := addD_fold (a := a) (k := k) (n := c) hb (edgesOf a.edges c.x) seen (q1 ++ n :: q2) (fun e he => by
      rw [edgesOf_mem] at he
      have := fits_iff.1 (ha.fit e he.1)
      exact ⟨this.2.2.1, this.2.2.2.1⟩) c3 hD.tail
    have hqs : ∀ d ∈ qs, dE a b d.x d.y = 0 ∨ (m : Int) + 1 ≤ dE a b d.x d.y := fun d hd => by
      obtain ⟨e, he, g7, g8, _⟩ := g5 d hd
      rw [g8]
      exact dE_next ha hb c1 c2 (next_of_edge ha he) g7 (by omega)
    rw [g1, List.append_assoc, List.cons_append]
    rw [List.append_assoc, List.cons_append] at g2
    refine dif_fin ha hb k m seen' q1 (q2 ++ qs) n g2 hn (fun d hd => h1 d (List.mem_cons_of_mem _ hd)) (fun d hd => ?_) (fun p hp => ?_)
    · rcases List.mem_append.1 hd with hd | hd
      · exact h2 d hd
      · exact hqs d hd
    · rcases g4 p hp with hp | ⟨d, hd, hp⟩
      · exact h3 p hp
      · rw [← hp]
        exact hqs d hd
  | k + 1, 0, seen, [], q2, n, hD, hn, _, _, _ => by
    rw [List.nil_append] at hD ⊢
    obtain ⟨c1, c2, c3⟩ := hD.node n (by simp)
    rw [Pv.dif, fin]
    cases hm : mrg false (edgesOf a.edges n.x) (edgesOf b.edges n.y) with
    | none => exact ((dE_one ha hb c1 c2).1 hm (by simpa using hn)).elim
    | some r => rfl
  | k + 1, m + 1, seen, [], q2, n, hD, hn, _, h2, h3 => by
    rw [List.nil_append] at hD ⊢
    obtain ⟨c1, c2, c3⟩ := hD.node n (by simp)
    have hmc : mrg false (edgesOf a.edges n.x) (edgesOf b.edges n.y) = none := (dE_one ha hb c1 c2).2 (by omega)
    have hdif : Pv.dif a.edges b.edges false (k + 1) (seen, n :: q2) = Pv.dif a.edges b.edges false k ((edgesOf a.edges n.x).foldl (addD b.edges n) (seen, q2)) := by
      rw [Pv.dif, hmc]
    obtain ⟨e, l1, l2, y, e1, e2, e3, e4, e5⟩ := dE_near ha hb c1 c2 (m := m) (by omega)
    have hrange : ∀ f ∈ edgesOf a.edges n.x, 0 ≤ f.to ∧ f.to < a.states := fun f hf => by
      rw [edgesOf_mem] at hf
      have := fits_iff.1 (ha.fit f hf.1)
      exact ⟨this.2.2.1, this.2.2.2.1⟩
    have hrange' := hrange
    have hedge : ∀ f ∈ edgesOf a.edges n.x, nextE n.x f.send f.label a.edges = some f.to := fun f hf => next_of_edge ha hf
    rw [e2] at hrange hedge
    rw [hdif]
    simp only [fin, e1, e3, Option.getD_some]
    rw [e2, List.foldl_append, List.foldl_cons]
    obtain ⟨seen1, qs1, f1, f2, f3, f4, f5, f6⟩ := addD_fold (a := a) (k := k) (n := n) hb l1 seen q2 (fun f hf => hrange f (by simp [hf])) c3 hD.tail
    have hq1 : ∀ d ∈ qs1, dE a b d.x d.y = 0 ∨ (m : Int) + 2 ≤ dE a b d.x d.y := fun d hd => by
      obtain ⟨f, hf, g7, g8, _⟩ := f5 d hd
      have h5 := e5 f hf
      unfold nearP at h5
      rw [g7] at h5
      simp only [decide_eq_false_iff_not] at h5
      have h6 := dE_next ha hb c1 c2 (hedge f (by simp [hf])) g7 (m := (m : Int) + 1) (by omega)
      rw [g8]
      have h7 : dE a b f.to d.y ≠ m + 1 := h5
      omega
    have hs1 : ∀ p ∈ seen1, dE a b p.1 p.2 = 0 ∨ (m : Int) + 2 ≤ dE a b p.1 p.2 := fun p hp => by
      rcases f4 p hp with hp | ⟨d, hd, hp⟩
      · have := h3 p hp
        omega
      · rw [← hp]
        exact hq1 d hd
    have hnew : (e.to, y) ∉ seen1 := fun hc => by
      have := hs1 _ hc
      dsimp only at this
      omega
    have hadd : addD b.edges n (seen1, q2 ++ qs1) e = (seen1 ++ [(e.to, y)], (q2 ++ qs1) ++ [⟨e.to, y, n.path ++ [e.act]⟩]) := by simp [addD, e3, hnew]
    have hl1 : n.path.length ≤ seen1.length := by
      have := List.Nodup.length_le_of_subset hD.nodup f3
      omega
    have hyr := hb.next_in e3
    have f2' := f2.push (p := n.path ++ [e.act]) hnew ⟨hrange e (by simp), hyr⟩ (by
      have := List.Nodup.length_le_of_subset hD.nodup f3
      simp
      omega)
    rw [f1, hadd]
    obtain ⟨seen2, qs2, i1, i2, i3, i4, i5, i6⟩ := addD_fold (a := a) (k := k) (n := n) hb l2 _ _ (fun f hf => hrange f (by simp [hf])) (by simp; omega) f2'
    rw [i1, List.append_assoc, List.singleton_append]
    rw [List.append_assoc, List.singleton_append] at i2
    have hq2 : ∀ d ∈ qs2, dE a b d.x d.y = 0 ∨ (m : Int) + 1 ≤ dE a b d.x d.y := fun d hd => by
      obtain ⟨f, hf, g7, g8, _⟩ := i5 d hd
      rw [g8]
      exact dE_next ha hb c1 c2 (hedge f (by simp [hf])) g7 (by omega)
    have := dif_fin ha hb k m seen2 (q2 ++ qs1) qs2 ⟨e.to, y, n.path ++ [e.act]⟩ i2 e4 (fun d hd => ?_) hq2 (fun p hp => ?_)
    · rw [this]
      simp
    · rcases List.mem_append.1 hd with hd | hd
      · have := h2 d hd
        omega
      · exact hq1 d hd
    · rcases i4 p hp with hp | ⟨d, hd, hp⟩
      · rw [List.mem_append, List.mem_singleton] at hp
        rcases hp with hp | rfl
        · have := hs1 p hp
          omega
        · dsimp only
          omega
      · rw [← hp]
        exact hq2 d hd
/-- The first difference. -/
theorem dif_first {a b : Auto} (ha : a.Good) (hb : b.Good) {m : Nat} (h : dE a b a.start b.start = m + 1) : a.dif b false = some (fin a b m a.start b.start) := by
  have h1 := ha.st
  have h2 := hb.st
  have h3 := ha.mx
  have h4 := hb.mx
  have := Nat.mul_le_mul (show a.states.toNat ≤ 12 by omega) (show b.states.toNat ≤ 12 by omega)
  exact dif_fin ha hb _ m _ [] [] ⟨a.start, b.start, []⟩ ⟨by simp, by simp; omega, by simp, by simp; omega, by omega⟩ h (fun c hc => by cases hc) (fun c hc => by cases hc) (fun p hp => by
    rw [List.mem_singleton] at hp
    subst hp
    exact .inr (by dsimp only; omega))

end Go.Pv

/-
  Plain laws: the lesser of two actions that are lacking.
-/
namespace Go.Pv

def noAct (l : List Edge) (x : Edge) : Bool := !(l.any fun y => decide (y.act = x.act))
theorem noAct_false {l : List Edge} {x : Edge} : noAct l x = false ↔ ∃ y ∈ l, y.act = x.act := by
  simp [noAct]
theorem noAct_true {l : List Edge} {x : Edge} : noAct l x = true ↔ ∀ y ∈ l, y.act ≠ x.act := by
  simp [noAct]
def lesser : Option Edge → Option Edge → Option (Edge × Int)
  | some x, some y => if lessE x y = true then some (x, 0) else some (y, 1)
  | some x, none => some (x, 0)
  | none, some y => some (y, 1)
  | none, none => none
theorem find_cong {α : Type} {p q : α → Bool} : ∀ {l : List α}, (∀ x ∈ l, p x = q x) → l.find? p = l.find? q
  | [], _ => rfl
  | x :: l, h => by
    rw [List.find?_cons, List.find?_cons, h x (by simp), find_cong fun y hy => h y (List.mem_cons_of_mem _ hy)]
theorem mrg_lesser : ∀ (la lb : List Edge), AscE la → AscE lb → mrg false la lb = lesser (la.find? (noAct lb)) (lb.find? (noAct la))
  | [], [], _, _ => by
    rw [mrg_nn]
    rfl
  | x :: l, [], _, _ => by
    rw [mrg_cn]
    rfl
  | [], y :: m, ha, hb => by
    rw [mrg_nc]
    rfl
  | x :: l, y :: m, ha, hb => by
    obtain ⟨ha1, ha2⟩ := List.pairwise_cons.1 ha
    obtain ⟨hb1, hb2⟩ := List.pairwise_cons.1 hb
    rw [mrg_cc]
    have keya : ∀ {z}, lessE z x = true → ∀ u ∈ x :: l, lessE z u = true := fun {z} hz u hu => by
      rcases List.mem_cons.1 hu with rfl | hu
      · exact hz
      · exact lessE_tr hz (ha1 u hu)
    have keyb : ∀ {z}, lessE z y = true → ∀ u ∈ y :: m, lessE z u = true := fun {z} hz u hu => by
      rcases List.mem_cons.1 hu with rfl | hu
      · exact hz
      · exact lessE_tr hz (hb1 u hu)
    by_cases h1 : lessE x y = true
    · rw [if_pos h1]
      have hx : noAct (y :: m) x = true := noAct_true.2 fun u hu e => by
        have := keyb h1 u hu
        rw [lessE_irr e.symm] at this
        cases this
      rw [List.find?_cons, hx]
      cases hf : (y :: m).find? (noAct (x :: l)) with
      | none => rfl
      | some u =>
        have hu := List.mem_of_find?_eq_some hf
        show _ = if lessE x u = true then _ else _
        rw [if_pos (keyb h1 u hu)]
    · rw [if_neg h1]
      by_cases h2 : lessE y x = true
      · rw [if_pos h2, if_neg (by simp)]
        have hy : noAct (x :: l) y = true := noAct_true.2 fun u hu e => by
          have := keya h2 u hu
          rw [lessE_irr e.symm] at this
          cases this
        rw [List.find?_cons (p := noAct (x :: l)), hy]
        cases hf : (x :: l).find? (noAct (y :: m)) with
        | none => rfl
        | some u =>
          have hu := keya h2 u (List.mem_of_find?_eq_some hf)
          show _ = if lessE u y = true then _ else _
          rw [if_neg fun hc => by
            have := lessE_tr hu hc
            rw [lessE_irr rfl] at this
            cases this]
      · rw [if_neg h2]
        have he : x.act = y.act := lessE_tot (by simpa using h1) (by simpa using h2)
        have hx : noAct (y :: m) x = false := noAct_false.2 ⟨y, by simp, he.symm⟩
        have hy : noAct (x :: l) y = false := noAct_false.2 ⟨x, by simp, he⟩
        have c1 : ∀ u ∈ l, noAct (y :: m) u = noAct m u := fun u hu => by
          have : ¬ y.act = u.act := fun e => by
            have := ha1 u hu
            rw [lessE_irr (he.trans e)] at this
            cases this
          simp [noAct, this]
        have c2 : ∀ u ∈ m, noAct (x :: l) u = noAct l u := fun u hu => by
          have : ¬ x.act = u.act := fun e => by
            have := hb1 u hu
            rw [lessE_irr (he.symm.trans e)] at this
            cases this
          simp [noAct, this]
        rw [List.find?_cons, hx, List.find?_cons (p := noAct (x :: l)), hy, mrg_lesser l m ha2 hb2]
        simp only
        rw [find_cong c1, find_cong c2]
termination_by la lb => la.length + lb.length
theorem lackE_no {a b : Auto} (hb : b.Good) (p q : Int) : lackE a.edges b.edges p q = (edgesOf a.edges p).find? (noAct (edgesOf b.edges q)) := by
  unfold lackE
  refine find_cong fun e _ => ?_
  cases h : nextE q e.send e.label b.edges with
  | none =>
    have : noAct (edgesOf b.edges q) e = true := noAct_true.2 fun y hy hc => by
      have h1 := next_of_edge hb hy
      simp only [Edge.act, Prod.mk.injEq] at hc
      rw [hc.1, hc.2, h] at h1
      cases h1
    rw [this]
    rfl
  | some t =>
    have : noAct (edgesOf b.edges q) e = false := noAct_false.2 ⟨_, edge_of_next hb h, rfl⟩
    rw [this]
    rfl
theorem mrg_lack {a b : Auto} (ha : a.Good) (hb : b.Good) (p q : Int) : mrg false (edgesOf a.edges p) (edgesOf b.edges q) = lesser (lackE a.edges b.edges p q) (lackE b.edges a.edges q p) := by
  rw [lackE_no hb, lackE_no ha]
  exact mrg_lesser _ _ (ha.ascE p) (hb.ascE q)

end Go.Pv

/-
  The first difference, of the reference.
-/
namespace Go.Pv

def lessA (x y : Bool × Int) : Bool := if x.1 = y.1 then decide (x.2 < y.2) else y.1
theorem lessA_E (x y : Edge) : lessA x.act y.act = lessE x y := rfl
@[go_sem] theorem r42 (d e : Bool) (x y : Int) : res A PrA 42 [.agg [.bool d, .int .i64 x], .agg [.bool e, .int .i64 y]] = some [.bool (lessA (d, x) (e, y))] := by
  refine res_of a42 rfl rfl ?_
  simp only [F42]
  simp (disch := omega) only [go_sem]
  unfold lessA
  refine Br.ofP (fun h => ?_) (fun h => ?_) <;> simp (disch := omega) only [go_sem, h]
set_option maxHeartbeats 1000000 in
@[go_sem] theorem r22 (t u : Nat) (l m : List (Bool × Int)) (hl : l.length ≤ 2000000000) (_hm : m.length ≤ 2000000000) : res A PrA 22 [.lst t (acts l), .lst u (acts m)] = some [.bool (decide (l = m))] := by
  refine res_of a22 rfl rfl ?_
  simp only [F22]
  simp (disch := omega) only [go_sem]
  refine Br.ofP (fun h => ?_) (fun h => ?_) <;> simp (disch := omega) only [go_sem, h]
  · have hlen : l.length = m.length := by omega
    refine W.upto l.length (fun k => ⟨[(0, .pv (.lst t (acts l))), (1, .pv (.lst u (acts m))), (5, .pv (.int .i64 k))], ⟨[], [], []⟩⟩) (fun k => l.take k = m.take k) rfl rfl fun k hk hi => ?_
    simp (disch := omega) only [go_sem]
    refine Br.ofP (fun h1 => ?_) (fun h1 => ?_)
    · obtain ⟨x, hx⟩ := get_at (l := l) (k := k) (by omega)
      obtain ⟨y, hy⟩ := get_at (l := m) (k := k) (by omega)
      simp (disch := omega) only [go_sem, hx, hy]
      have hxy : (decide (x.1 = y.1) && decide (x.2 = y.2)) = decide (x = y) := by
        obtain ⟨x1, x2⟩ := x
        obtain ⟨y1, y2⟩ := y
        simp
      rw [hxy]
      refine Br.ofP (fun g => ?_) (fun g => ?_) <;> simp (disch := omega) only [go_sem]
      · refine .of (by omega) rfl ?_
        rw [List.take_add_one, List.take_add_one, hi, hx, hy, g]
      · have : ¬ l = m := fun e => by
          rw [e, hy] at hx
          cases hx
          exact g rfl
        simp [this]
    · obtain rfl : k = l.length := by omega
      simp (disch := omega) only [go_sem]
      have : l = m := by
        rw [List.take_length, hlen, List.take_length] at hi
        exact hi
      simp [this]
  · have : ¬ l = m := fun e => h (by rw [e])
    simp [this]

@[go_sem] theorem grow0a (bx : List (Nat × List V)) (mp : List (List (PV × PV))) (l : List (Bool × Int)) (d : Bool) (x : Int) (hm : l.length + 1 ≤ 2147483648) :
    appendV ⟨bx, grA 2 (acts l), mp⟩ 2 (grV 0 (acts l)) (.tl [[.bool d, .int .i64 x]]) = some (grV 0 (acts (l ++ [(d, x)])), grT 0 2 (acts l) [.bool d, .int .i64 x]) := by
  rw [grow0 bx mp 2 (acts l) [.bool d, .int .i64 x] rfl (by rw [acts_length]; exact hm), acts_snoc]
theorem actOf_some (e : Edge) : actOf (some e) = (e.send, e.label) := rfl
/-- What is said of the first difference. -/
def firstR (a b : Auto) : List PV := if bothE a b = 0 then (if dE a b a.start b.start = 0 then [.lst 0 [], .int .i64 0, .int .i64 15]
  else [.lst 0 (acts (fin a b (dE a b a.start b.start - 1).toNat a.start b.start).1), .int .i64 (fin a b (dE a b a.start b.start - 1).toNat a.start b.start).2, .int .i64 0]) else [.lst 0 [], .int .i64 0, .int .i64 (bothE a b)]
set_option maxHeartbeats 4000000 in
@[go_sem] theorem r21 (t u : Nat) (a b : Auto) (ha : a.edges.length ≤ 2000000000) (hb : b.edges.length ≤ 2000000000) : res A PrA 21 [.agg [.int .i64 a.states, .int .i64 a.start, .lst t (a.edges.map Edge.c)], .agg [.int .i64 b.states, .int .i64 b.start, .lst u (b.edges.map Edge.c)]] = some (firstR a b) := by
  refine res_of a21 rfl rfl ?_
  simp only [F21]
  simp (disch := omega) only [go_sem]
  refine Br.ofP (fun h => ?_) (fun h => ?_)
  · have h0 := h
    obtain ⟨hga, hgb⟩ := both_good h0
    have hM : MatOk a.states.toNat b.states.toNat (differ a b) := (difM_ent hga hgb _).1
    have s1 := hga.st
    have s2 := hgb.st
    have s3 := hM.len
    have s4 := hga.mx
    have s5 := hgb.mx
    have get : ∀ {p q : Int}, a.inr p → b.inr q → ∃ l, (differ a b)[p.toNat]? = some l ∧ l.length = b.states.toNat ∧ l[q.toNat]? = some (dE a b p q) := fun {p q} hp hq => by
      unfold Auto.inr at hp hq
      exact hM.get (p := p) (q := q) (by omega) (by omega)
    obtain ⟨l, g1, g2, g3⟩ := get hga.st hgb.st
    have hnn := dE_nn hga hgb hga.st hgb.st
    simp (disch := omega) only [go_sem, h0, r31 t u a b hga hgb, idxR_int, g1, g3]
    unfold firstR
    rw [if_pos h0]
    refine Br.ofP (fun z => ?_) (fun z => ?_)
    · simp (disch := omega) only [go_sem, z]
    · rw [if_neg z]
      simp (disch := omega) only [go_sem, z]
      have h41 : ∀ p q k : Int, res A PrA 41 [.agg [.int .i64 a.states, .int .i64 a.start, .lst t (a.edges.map Edge.c)], .agg [.int .i64 b.states, .int .i64 b.start, .lst u (b.edges.map Edge.c)], .int .i64 p, .int .i64 q, .lst 0 (lls (differ a b)), .int .i64 k] = some [.agg [.bool (actOf (nearE a.edges b.edges (differ a b) p q k)).1, .int .i64 (actOf (nearE a.edges b.edges (differ a b) p q k)).2], .bool (nearE a.edges b.edges (differ a b) p q k).isSome] := fun p q k =>
        r41 t u 0 a.states.toNat b.states.toNat (fun _ => 0) a.states a.start b.states b.start p q k a.edges b.edges (differ a b) ha hb hM (fun e he => by have := fits_iff.1 (hga.fit e he); omega) (fun e he => by have := fits_iff.1 (hgb.fit e he); omega)
      have hT : dE a b a.start b.start ≤ 145 := by
        obtain ⟨m, hm⟩ : ∃ m : Nat, dE a b a.start b.start = m + 1 := ⟨(dE a b a.start b.start - 1).toNat, by omega⟩
        have h1 := hm
        rw [dE_lst hga hgb hga.st hgb.st] at h1
        have := (lst_succ (m := m) (k := a.states.toNat * b.states.toNat + 1) (p := a.start) (q := b.start) (a := a.edges) (b := b.edges)).1 (by omega)
        have := Nat.mul_le_mul (show a.states.toNat ≤ 12 by omega) (show b.states.toNat ≤ 12 by omega)
        omega
      generalize hF : fin a b (dE a b a.start b.start - 1).toNat a.start b.start = F
      refine W.loop (α := Int × Int × List (Bool × Int)) (fun x => ⟨[(2, .ptr 2 0), (3, .ptr 3 0), (8, .pv (.lst 0 (lls (differ a b)))), (9, .pv (.int .i64 x.1)), (10, .pv (.int .i64 x.2.1)), (11, grV 0 (acts x.2.2))], ⟨[(2, [.pv (.int .i64 a.states), .pv (.int .i64 a.start), .pv (.lst t (a.edges.map Edge.c))]), (3, [.pv (.int .i64 b.states), .pv (.int .i64 b.start), .pv (.lst u (b.edges.map Edge.c))])], grA 2 (acts x.2.2), []⟩⟩)
        (fun x => a.inr x.1 ∧ b.inr x.2.1 ∧ 1 ≤ dE a b x.1 x.2.1 ∧ x.2.2.length + dE a b x.1 x.2.1 ≤ 145 ∧ x.2.2 ++ (fin a b (dE a b x.1 x.2.1 - 1).toNat x.1 x.2.1).1 = F.1 ∧ (fin a b (dE a b x.1 x.2.1 - 1).toNat x.1 x.2.1).2 = F.2) (fun x => (dE a b x.1 x.2.1).toNat) (a.start, b.start, []) rfl ⟨hga.st, hgb.st, by dsimp only; omega, by dsimp only [List.length_nil]; omega, by rw [hF]; rfl, by rw [hF]⟩ fun x hx => ?_
      obtain ⟨p, q, path⟩ := x
      obtain ⟨hp, hq, hd1, hlen, hf1, hf2⟩ := hx
      dsimp only at hp hq hd1 hlen hf1 hf2
      obtain ⟨l', e1, e2, e3⟩ := get hp hq
      have hp' := hp
      have hq' := hq
      unfold Auto.inr at hp' hq'
      dsimp only
      simp (disch := omega) only [go_sem, idxR_int, e1, e3]
      refine Br.ofP (fun c => ?_) (fun c => ?_)
      · obtain ⟨m, hm⟩ : ∃ m : Nat, dE a b p q = m + 2 := ⟨(dE a b p q - 2).toNat, by omega⟩
        obtain ⟨e, l1, l2, y, k1, k2, k3, k4, _⟩ := dE_near hga hgb hp hq hm
        have hk : dE a b p q - 1 = (m : Int) + 1 := by omega
        have hee : e ∈ edgesOf a.edges p := by rw [k2]; simp
        have hx1 := next_of_edge hga hee
        simp (disch := omega) only [go_sem, idxR_int, e1, e3, h41, hk, k1, actOf_some, hx1, k3, Option.getD_some]
        have f0 : fin a b (m + 1) p q = (e.act :: (fin a b m e.to y).1, (fin a b m e.to y).2) := by simp only [fin, k1, k3, Option.getD_some]
        have t1 : (dE a b p q - 1).toNat = m + 1 := by omega
        have t2 : (dE a b e.to y - 1).toNat = m := by omega
        rw [t1, f0] at hf1 hf2
        refine ⟨(e.to, y, path ++ [e.act]), ⟨hga.next_in hx1, hgb.next_in k3, by dsimp only; omega, by dsimp only; rw [List.length_append]; simp; omega, ?_, ?_⟩, by dsimp only; omega, rfl⟩
        · dsimp only
          rw [t2, List.append_assoc]
          exact hf1
        · dsimp only
          rw [t2]
          exact hf2
      · have hm : dE a b p q = 1 := by omega
        have hl := mrg_lack hga hgb p q
        have hfin : fin a b (dE a b p q - 1).toNat p q = match lesser (lackE a.edges b.edges p q) (lackE b.edges a.edges q p) with
          | some (e, w) => ([e.act], w)
          | none => ([], 0) := by rw [hm, ← hl]; rfl
        have hne : mrg false (edgesOf a.edges p) (edgesOf b.edges q) ≠ none := fun hc => (dE_one hga hgb hp hq).1 hc hm
        rw [hl] at hne
        rw [hfin] at hf1 hf2
        cases c1 : lackE a.edges b.edges p q with
        | none =>
          cases c2 : lackE b.edges a.edges q p with
          | none => rw [c1, c2] at hne; exact (hne rfl).elim
          | some y =>
            rw [c1, c2] at hf1 hf2
            simp (disch := omega) only [go_sem, c1, c2, actOf_some, Option.isSome_none, Option.isSome_some]
            rw [← hf1, ← hf2]
            rfl
        | some x =>
          cases c2 : lackE b.edges a.edges q p with
          | none =>
            rw [c1, c2] at hf1 hf2
            simp (disch := omega) only [go_sem, c1, c2, actOf_some, Option.isSome_none, Option.isSome_some]
            rw [← hf1, ← hf2]
            rfl
          | some y =>
            rw [c1, c2] at hf1 hf2
            simp (disch := omega) only [go_sem, c1, c2, actOf_some, Option.isSome_some]
            refine Br.of (fun g => ?_) (fun g => ?_) <;> simp (disch := omega) only [go_sem, g]
            · have gl : lesser (some x) (some y) = some (x, 0) := if_pos g
              rw [← hf1, ← hf2, gl]
              rfl
            · have gl : lesser (some x) (some y) = some (y, 1) := if_neg (by rw [← lessA_E]; exact Bool.eq_false_iff.1 g)
              rw [← hf1, ← hf2, gl]
              rfl
  · simp (disch := omega) only [go_sem, h]
    simp [firstR, h]

end Go.Pv

/-
  The law of the first difference.
-/
namespace Go.Pv

theorem first_dist {a b : Auto} : firstR a b = distR a b := by
  unfold firstR distR
  by_cases h : bothE a b = 0
  · obtain ⟨ha, hb⟩ := both_good h
    rw [if_pos h, if_pos h]
    have h0 := dif_differ ha hb
    have h0 : decide (dE a b a.start b.start = 0) = !(a.dif b false).isSome := h0
    by_cases hz : dE a b a.start b.start = 0
    · rw [if_pos hz]
      rw [decide_eq_true hz] at h0
      have := (isSome_not _).1 h0.symm
      rw [this]
    · have hnn := dE_nn ha hb ha.st hb.st
      have := dif_first ha hb (m := (dE a b a.start b.start - 1).toNat) (by omega)
      rw [if_neg hz, this]
  · rw [if_neg h, if_neg h]
/-- The three that are said. -/
theorem distR_cases (a b : Auto) : ∃ (p : List (Bool × Int)) (w c : Int), distR a b = [.lst 0 (acts p), .int .i64 w, .int .i64 c] ∧ p.length ≤ 1000 := by
  unfold distR
  split
  · rename_i h
    obtain ⟨ha, hb⟩ := both_good h
    cases hd : a.dif b false with
    | none => exact ⟨[], 0, 15, rfl, by simp⟩
    | some r =>
      obtain ⟨p, w⟩ := r
      exact ⟨p, w, 0, rfl, (dif_shown ha hb hd).2.1⟩
  · exact ⟨[], 0, bothE a b, rfl, by simp⟩
set_option maxHeartbeats 1000000 in
/-- MinimalDistinguish. -/
theorem r2 (a b : Auto) (ha : a.edges.length ≤ 2 ^ 63 - 1) (hb : b.edges.length ≤ 2 ^ 63 - 1) : res A PrA 2 [.agg [.int .i64 a.states, .int .i64 a.start, .lst 0 (a.edges.map Edge.c)], .agg [.int .i64 b.states, .int .i64 b.start, .lst 0 (b.edges.map Edge.c)]] = some [.bool true] := by
  refine res_of a2 rfl rfl ?_
  simp only [F2]
  simp (disch := omega) only [go_sem, r8, r9_two]
  refine Br.of (fun h1 => ?_) (fun h1 => ?_)
  · simp only [Bool.and_eq_true, decide_eq_true_eq] at h1
    have hal : a.edges.length ≤ 110 := by omega
    have hbl : b.edges.length ≤ 110 := by omega
    obtain ⟨p, w, c, hd, hp⟩ := distR_cases a b
    simp (disch := omega) only [go_sem, first_dist, hd]
  · simp (disch := omega) only [go_sem, r8]

end Go.Pv

