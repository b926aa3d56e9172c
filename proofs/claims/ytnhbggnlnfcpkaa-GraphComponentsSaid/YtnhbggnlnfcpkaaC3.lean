/-
  What the functions of the law give.
-/
import Derived.Test.YtnhbggnlnfcpkaaC2
set_option linter.unusedSimpArgs false
set_option linter.unusedVariables false
/-
  Chapter 05: few, errors, reversed edges, as the document says.
-/
namespace Go.Pv

def fewG (n : Int) (k : Nat) : Bool := decide (k ≤ 40) && (decide (n ≤ 10) || decide (2000 < n))
theorem r346 (t : Nat) (n : Int) (es : List (Int × Int)) (hl : es.length ≤ 2 ^ 63 - 1) : res A PrA 346 [.int .i64 n, .lst t (prs es)] = some [.bool (fewG n es.length)] := by
  refine res_of a346 rfl rfl ?_
  simp only [F346]
  unfold fewG
  simp (disch := omega) only [go_sem]
  refine Br.ofP (fun h => ?_) (fun h => ?_) <;> simp (disch := omega) only [go_sem, h]
  · have h1 : decide (es.length ≤ 40) = true := by simp; omega
    rw [h1]
    refine Br.ofP (fun h2 => ?_) (fun h2 => ?_) <;> simp (disch := omega) only [go_sem, h2]
  · have h1 : decide (es.length ≤ 40) = false := by simp; omega
    rw [h1]
    rfl
theorem badP_eq (n : Int) (x : Int × Int) : badP n x = (((decide (x.1 < 0) || decide (n ≤ x.1)) || decide (x.2 < 0)) || decide (n ≤ x.2)) := by
  unfold badP
  rw [Bool.eq_iff_iff]
  simp only [Bool.or_eq_true, decide_eq_true_eq]
  omega
set_option maxHeartbeats 1000000 in
theorem r348 (t : Nat) (n : Int) (es : List (Int × Int)) (hl : es.length ≤ 2 ^ 63 - 1) : res A PrA 348 [.int .i64 n, .lst t (prs es)] = some [.int .i64 (gErr n es)] := by
  refine res_of a348 rfl rfl ?_
  simp only [F348]
  simp (disch := omega) only [go_sem]
  unfold gErr
  refine Br.ofP (fun h1 => ?_) (fun h1 => ?_) <;> simp (disch := omega) only [go_sem, h1]
  · rw [if_pos (.inl trivial)]
  refine Br.ofP (fun h2 => ?_) (fun h2 => ?_) <;> simp (disch := omega) only [go_sem, h2]
  · rw [if_pos (by omega)]
  rw [if_neg (by omega)]
  refine Br.ofP (fun h3 => ?_) (fun h3 => ?_) <;> simp (disch := omega) only [go_sem, h3]
  · rw [if_pos (.inl trivial)]
  refine W.find es (badP n) (fun k => ⟨[(0, .pv (.int .i64 n)), (1, .pv (.lst t (prs es))), (5, .pv (.int .i64 k))], ⟨[], [], []⟩⟩) rfl (fun k x hx hk hfd => ?_) (fun hn => ?_)
  · have hb := badP_eq n x
    have done : badP n x = true → (some [PV.int .i64 1] : Option (List PV)) = some [.int .i64 (if n < 0 ∨ es.any (badP n) = true then 1 else 0)] := fun h => by
      rw [if_pos (.inr (hfd h).any)]
    simp (disch := omega) only [go_sem]
    refine Br.ofP (fun c => ?_) (fun c => (c (by omega)).elim)
    simp (disch := omega) only [go_sem, hx]
    refine Br.ofP (fun c1 => ?_) (fun c1 => ?_) <;> simp (disch := omega) only [go_sem, c1, hx]
    · exact done (by rw [hb]; simp [c1])
    refine Br.ofP (fun c2 => ?_) (fun c2 => ?_) <;> simp (disch := omega) only [go_sem, c2, hx]
    · exact done (by rw [hb]; simp [c2])
    refine Br.ofP (fun c3 => ?_) (fun c3 => ?_) <;> simp (disch := omega) only [go_sem, c3, hx]
    · exact done (by rw [hb]; simp [c3])
    refine Br.ofP (fun c4 => ?_) (fun c4 => ?_) <;> simp (disch := omega) only [go_sem, c4]
    · exact done (by rw [hb]; simp [c4])
    · exact findK.of (by rw [hb]; simp [c1, c2, c3, c4]) rfl
  · simp (disch := omega) only [go_sem]
    rw [hn.any, if_neg (by simp; omega)]
set_option maxHeartbeats 1000000 in
theorem r367 (t u : Nat) (n : Int) (es : List (Int × Int)) (l : List Int) (hl : es.length ≤ 2 ^ 63 - 1) (hm : l.length ≤ 2 ^ 63 - 1) : res A PrA 367 [.int .i64 n, .lst t (prs es), .lst u (ints l)] = some [.int .i64 (gErrL n es l)] := by
  refine res_of a367 rfl rfl ?_
  simp only [F367]
  have h348 := r348 t n es hl
  simp (disch := omega) only [go_sem, h348]
  unfold gErrL
  refine Br.ofP (fun h1 => ?_) (fun h1 => ?_) <;> simp (disch := omega) only [go_sem, h1]
  rotate_left
  · rw [if_pos h1]
  rw [if_neg (by simp [h1])]
  refine W.find l (fun x => decide (x < 0) || decide (n ≤ x)) (fun k => ⟨[(0, .pv (.int .i64 n)), (2, .pv (.lst u (ints l))), (8, .pv (.int .i64 k))], ⟨[], [], []⟩⟩) rfl (fun k x hx hk hfd => ?_) (fun hn => ?_)
  · simp (disch := omega) only [go_sem]
    refine Br.ofP (fun c => ?_) (fun c => (c (by omega)).elim)
    simp (disch := omega) only [go_sem, hx]
    refine Br.ofP (fun c1 => ?_) (fun c1 => ?_) <;> simp (disch := omega) only [go_sem, c1, hx]
    · rw [if_pos (hfd (by simp [c1])).any]
    refine Br.ofP (fun c2 => ?_) (fun c2 => ?_) <;> simp (disch := omega) only [go_sem, c2]
    · rw [if_pos (hfd (by simp [c2])).any]
    · exact findK.of (by simp [c1, c2]) rfl
  · simp (disch := omega) only [go_sem]
    rw [hn.any, if_neg (by simp)]
end Go.Pv

/-
  Loops whose rounds leave more than the next round takes.
-/
namespace Go.Pv
variable {A : Nat → Option AFunc} {Pr : Prims}

def rndM {α : Type} (kt kb : List Nat) (S : α → St) (P : α → Prop) (m : α → Nat) (x : α) (Q : Ex → St → Prop) (_t : Tie (kt, kb, S, P, m, x, Q) := .mk) : Ex → St → Prop
  | .normal, s => ∃ y, P y ∧ m y < m x ∧ s.mask kt kb = S y
  | .exit i, s => Q (.exit i) s
  | .ret, s => Q .ret s
@[go_sem] theorem rndM_exit {α : Type} (kt kb : List Nat) (S : α → St) (P : α → Prop) (m : α → Nat) (x : α) (Q : Ex → St → Prop) (i : Nat) (s : St) : rndM kt kb S P m x Q .mk (.exit i) s = Q (.exit i) s := rfl
@[go_sem] theorem rndM_ret {α : Type} (kt kb : List Nat) (S : α → St) (P : α → Prop) (m : α → Nat) (x : α) (Q : Ex → St → Prop) (s : St) : rndM kt kb S P m x Q .mk .ret s = Q .ret s := rfl
@[congr] theorem rndM_congr {α : Type} {kt kb : List Nat} {S : α → St} {P : α → Prop} {m : α → Nat} {x : α} {Q : Ex → St → Prop} {e e' : Ex} {s s' : St} (he : e = e') (hs : s = s') : rndM kt kb S P m x Q .mk e s = rndM kt kb S P m x Q .mk e' s' := by rw [he, hs]

theorem W.loopM {α : Type} {a : AC} {kt kb : List Nat} {s : St} {Q : Ex → St → Prop} (S : α → St) (P : α → Prop) (m : α → Nat) (x0 : α) (hs : s.mask kt kb = S x0) (h0 : P x0) (hr : ∀ x, P x → W A Pr a (S x) (rndM kt kb S P m x Q)) : W A Pr (.loop (.mask kt kb a)) s Q := by
  have key : ∀ n x s, m x ≤ n → s.mask kt kb = S x → P x → W A Pr (.loop (.mask kt kb a)) s Q := by
    intro n
    induction n with
    | zero =>
      intro x s hm hs hp
      obtain ⟨ex, s', h1, h2⟩ := hr x hp
      rw [← hs] at h1
      have h1 := Runs.mask h1
      cases ex with
      | normal => obtain ⟨y, _, h3, _⟩ := h2; omega
      | exit i => exact ⟨_, _, Runs.loop_out h1 (by simp), h2⟩
      | ret => exact ⟨_, _, Runs.loop_out h1 (by simp), h2⟩
    | succ n ih =>
      intro x s hm hs hp
      obtain ⟨ex, s', h1, h2⟩ := hr x hp
      rw [← hs] at h1
      have h1 := Runs.mask h1
      cases ex with
      | normal =>
        obtain ⟨y, hy, h3, h6⟩ := h2
        obtain ⟨e2, s2, h4, h5⟩ := ih y s' (by omega) h6 hy
        exact ⟨e2, s2, Runs.loop_step h1 h4, h5⟩
      | exit i => exact ⟨_, _, Runs.loop_out h1 (by simp), h2⟩
      | ret => exact ⟨_, _, Runs.loop_out h1 (by simp), h2⟩
  exact key _ x0 s (Nat.le_refl _) hs h0

end Go.Pv

/-
  Chapter 05: distances, as the document says.
-/
namespace Go.Pv

def distsTo (n : Nat) (es : List (Int × Int)) (to : List Int) : List Int := levels (nxt (succs n (es.map swapP))) n to
theorem distsTo_dist {n : Nat} {es : List (Int × Int)} {to : List Int} (hg : inG n es) (hl : es.length ≤ 100000) (ht : ∀ x ∈ to, 0 ≤ x ∧ x < (n : Int)) : Dist n (fun v u => (v, u) ∈ es) to (distsTo n es to) := by
  have hs := inG_swap hg
  have hok := succs_ok hs (by rw [List.length_map]; exact hl)
  have h := levels_dist (nx := nxt (succs n (es.map swapP))) (nxt_in hok) ht
  have key : ∀ v u : Int, 0 ≤ u → (v ∈ nxt (succs n (es.map swapP)) u ↔ (v, u) ∈ es) := fun v u hu => by
    rw [nxt_succs hs hu, List.mem_map]
    constructor
    · rintro ⟨e, he, h⟩
      unfold swapP at h
      cases h
      exact he
    · exact fun h => ⟨(v, u), h, rfl⟩
  exact ⟨h.len, h.low, h.zero, fun v u he hr hp => h.step v u ((key v u hr.2.2.1).2 he) hr hp, fun v h0 h1 hp => by
    obtain ⟨u, u1, u2, u3, u4⟩ := h.back v h0 h1 hp
    exact ⟨u, (key v u u2).1 u1, u2, u3, u4⟩⟩
theorem set_dist0 {n : Nat} {to : List Int} {k : Nat} {v : Int} (h : to[k]? = some v) : ((to.take k).foldl (fun d v => d.set v.toNat 0) (List.replicate n (-1 : Int))).set v.toNat 0 = (to.take (k + 1)).foldl (fun d v => d.set v.toNat 0) (List.replicate n (-1)) := by
  rw [List.take_add_one, h, List.foldl_append]
  rfl
set_option maxHeartbeats 4000000 in
theorem r350 (t u : Nat) (n : Int) (es : List (Int × Int)) (to : List Int) (hn : n ≤ 12 ∨ 2000 < n) (hl : es.length ≤ 2 ^ 63 - 1) (hm : to.length ≤ 2000000000) : res A PrA 350 [.int .i64 n, .lst t (prs es), .lst u (ints to)] = some (if gErrL n es to = 0 then [.lst 0 (ints (distsTo n.toNat es to)), .int .i64 0] else [.lst 0 [], .int .i64 (gErrL n es to)]) := by
  refine res_of a350 rfl rfl ?_
  simp only [F350]
  have h367 := r367 t u n es to hl (by omega)
  simp (disch := omega) only [go_sem, h367]
  refine Br.ofP (fun h1 => ?_) (fun h1 => ?_) <;> simp (disch := omega) only [go_sem, h1]
  obtain ⟨g1, g2⟩ := gErrL_zero h1
  obtain ⟨f1, f2, f3, f4⟩ := gErr_zero g1
  obtain ⟨m, rfl⟩ := Int.eq_ofNat_of_zero_le f1
  rw [Int.toNat_natCast] at f4 ⊢
  have hD := distsTo_dist f4 (by omega) g2
  refine W.upto m (fun k => ⟨[(0, .pv (.int .i64 m)), (1, .pv (.lst t (prs es))), (2, .pv (.lst u (ints to))), (9, grV 0 (ints (List.replicate k (-1)))), (10, .pv (.int .i64 k))], ⟨[], grA 1 (ints (List.replicate k (-1))), []⟩⟩) (fun _ => True) rfl trivial fun k hk _ => ?_
  have hrl : (List.replicate k (-1 : Int)).length = k := by simp
  simp (disch := omega) only [go_sem]
  refine Br.ofP (fun c => ?_) (fun c => ?_)
  · have hr : List.replicate (k + 1) (-1 : Int) = List.replicate k (-1) ++ [-1] := List.replicate_succ'
    generalize List.replicate k (-1 : Int) = q at hrl hr
    simp (disch := omega) only [go_sem]
    refine .of (by omega) ?_ trivial
    rw [hr]
    rfl
  obtain rfl : k = m := by omega
  clear hk c
  simp (disch := omega) only [go_sem]
  refine W.upto to.length (fun j => ⟨[(1, .pv (.lst t (prs es))), (2, .pv (.lst u (ints to))), (9, grV 0 (ints ((to.take j).foldl (fun d v => d.set v.toNat 0) (List.replicate k (-1))))), (11, .pv (.int .i64 j))], ⟨[], grA 1 (ints ((to.take j).foldl (fun d v => d.set v.toNat 0) (List.replicate k (-1)))), []⟩⟩) (fun _ => True) rfl trivial fun j hj _ => ?_
  obtain ⟨hdl, _⟩ := dist0_get k (to.take j) (List.replicate k (-1)) (by simp) (fun x hx => g2 x (List.mem_of_mem_take hx))
  simp (disch := omega) only [go_sem]
  refine Br.ofP (fun c => ?_) (fun c => ?_)
  · have hx := List.getElem?_eq_getElem (l := to) (i := j) (by omega)
    generalize to[j]'(by omega) = x at hx
    obtain ⟨x0, x1⟩ := g2 x (List.mem_of_getElem? hx)
    have hs := set_dist0 (n := k) hx
    generalize (to.take j).foldl (fun d v => d.set v.toNat 0) (List.replicate k (-1 : Int)) = q at hdl hs
    obtain ⟨k', rfl⟩ : ∃ k', k = k' + 1 := ⟨k - 1, by omega⟩
    rw [grV_own (n := k') (by rw [ints_length, hdl]), grA_own (n := k') (by rw [ints_length, hdl])]
    simp (disch := omega) only [go_sem, hx]
    refine .of (by omega) ?_ trivial
    rw [← hs, grV_own (n := k') (by rw [ints_length, List.length_set, hdl]), grA_own (n := k') (by rw [ints_length, List.length_set, hdl])]
    rfl
  obtain rfl : j = to.length := by omega
  clear hj c
  rw [List.take_length] at hdl ⊢
  have hI := dist0_inv (es := es) g2
  change RInv k es to (to.foldl (fun d v => d.set v.toNat 0) (List.replicate k (-1))) at hI
  generalize to.foldl (fun d v => d.set v.toNat 0) (List.replicate k (-1 : Int)) = d0 at hdl hI
  simp (disch := omega) only [go_sem]
  refine W.loopM (α := Bool × List Int) (fun x => ⟨[(1, .pv (.lst t (prs es))), (9, grV 0 (ints x.2)), (12, .pv (.bool x.1))], ⟨[], grA 1 (ints x.2), []⟩⟩)
    (fun x => RInv k es to x.2 ∧ (x.1 = false → ∀ e ∈ es, relaxes x.2 e = false)) (fun x => 2 * leftD k x.2 + (if x.1 = true then 1 else 0)) (true, d0) (by simp (disch := omega) only [go_sem]) ⟨hI, fun h => by cases h⟩ fun x hx => ?_
  obtain ⟨b, d⟩ := x
  obtain ⟨hR, hfix⟩ := hx
  dsimp only at hR hfix
  cases b with
  | false =>
    have hd := (hR.dist (hfix rfl)).uniq hD
    simp (disch := omega) only [go_sem]
    rw [if_pos h1, hd]
  | true =>
    simp (disch := omega) only [go_sem]
    refine W.fold es rstep (false, d) (fun j q => ⟨[(1, .pv (.lst t (prs es))), (9, grV 0 (ints q.2)), (12, .pv (.bool q.1)), (13, .pv (.int .i64 j))], ⟨[], grA 1 (ints q.2), []⟩⟩) (fun j q => PInv k es to d j q) rfl (PInv.start hR) (fun j e q he hj _ hi => ?_) (fun q hacc hi => ?_)
    · have hst := hi.step he (f4 e (List.mem_of_getElem? he))
      obtain ⟨⟨a0, a1⟩, b0, b1⟩ := f4 e (List.mem_of_getElem? he)
      obtain ⟨b, q⟩ := q
      have hql := hi.r.len
      dsimp only at hql
      have hga : q[e.1.toNat]? = some (q.getD e.1.toNat (-1)) := by
        have : e.1.toNat < q.length := by omega
        simp [this]
      have hgb : q[e.2.toNat]? = some (q.getD e.2.toNat (-1)) := by
        have : e.2.toNat < q.length := by omega
        simp [this]
      have htb := hi.r.top e.2.toNat (by omega)
      have hhd := hasD_le q
      have hlb := hi.r.low e.2.toNat (by omega)
      dsimp only at htb hlb
      obtain ⟨k', rfl⟩ : ∃ k', k = k' + 1 := ⟨k - 1, by omega⟩
      rw [grV_own (n := k') (by rw [ints_length, hql]), grA_own (n := k') (by rw [ints_length, hql])]
      have hno : relaxes q e = false → rstep (b, q) e = (b, q) := fun h => by unfold rstep; rw [if_neg (by simp [h])]
      have hyes : relaxes q e = true → rstep (b, q) e = (true, q.set e.1.toNat (q.getD e.2.toNat (-1) + 1)) := fun h => by unfold rstep relax; rw [if_pos h, if_pos h]
      have hrel : relaxes q e = (decide (0 ≤ q.getD e.2.toNat (-1)) && (decide (q.getD e.1.toNat (-1) < 0) || decide (q.getD e.2.toNat (-1) + 1 < q.getD e.1.toNat (-1)))) := rfl
      generalize q.getD e.2.toNat (-1) = db at *
      generalize q.getD e.1.toNat (-1) = da at *
      simp (disch := omega) only [go_sem]
      refine Br.ofP (fun c => ?_) (fun c => (c (by omega)).elim)
      simp (disch := omega) only [go_sem, he, hgb]
      have fin : relaxes q e = true → e.1.toNat < q.length → PInv (k' + 1) es to d (j + 1) (true, q.set e.1.toNat (db + 1)) := fun h _ => by rw [← hyes h]; exact hst
      have fin0 : relaxes q e = false → PInv (k' + 1) es to d (j + 1) (b, q) := fun h => by rw [← hno h]; exact hst
      have hsl : (q.set e.1.toNat (db + 1)).length = k' + 1 := by rw [List.length_set, hql]
      by_cases c1 : 0 ≤ db
      · have d1 : decide (0 ≤ db) = true := by simp [c1]
        by_cases c2 : da < 0
        · have d2 : decide (da < 0) = true := by simp [c2]
          have hr : relaxes q e = true := by rw [hrel, d1, d2]; rfl
          simp (disch := omega) only [go_sem, hga, hgb, d1, d2]
          rw [hyes hr] at hst ⊢
          refine foldK.of ?_ hst
          rw [grV_own (n := k') (by rw [ints_length, hsl]), grA_own (n := k') (by rw [ints_length, hsl])]
          rfl
        · have d2 : decide (da < 0) = false := by simp; omega
          by_cases c3 : db + 1 < da
          · have d3 : decide (db + 1 < da) = true := by simp [c3]
            have hr : relaxes q e = true := by rw [hrel, d1, d2, d3]; rfl
            simp (disch := omega) only [go_sem, hga, hgb, d1, d2, d3]
            rw [hyes hr] at hst ⊢
            refine foldK.of ?_ hst
            rw [grV_own (n := k') (by rw [ints_length, hsl]), grA_own (n := k') (by rw [ints_length, hsl])]
            rfl
          · have d3 : decide (db + 1 < da) = false := by simp; omega
            have hr : relaxes q e = false := by rw [hrel, d1, d2, d3]; rfl
            simp (disch := omega) only [go_sem, hga, hgb, d1, d2, d3]
            rw [hno hr] at hst ⊢
            refine foldK.of ?_ hst
            rw [grV_own (n := k') (by rw [ints_length, hql]), grA_own (n := k') (by rw [ints_length, hql])]
            rfl
      · have d1 : decide (0 ≤ db) = false := by simp; omega
        have hr : relaxes q e = false := by rw [hrel, d1]; rfl
        simp (disch := omega) only [go_sem, d1]
        rw [hno hr] at hst ⊢
        refine foldK.of ?_ hst
        rw [grV_own (n := k') (by rw [ints_length, hql]), grA_own (n := k') (by rw [ints_length, hql])]
        rfl
    · simp (disch := omega) only [go_sem]
      refine ⟨q, ⟨hi.r, fun hq => ?_⟩, ?_, by simp (disch := omega) only [go_sem]⟩
      · obtain ⟨e1, e2⟩ := hi.no hq
        rw [e1]
        rw [List.take_length] at e2
        exact e2
      · dsimp only
        cases hq : q.1 with
        | true =>
          have := hi.yes hq
          simp
          omega
        | false =>
          rw [(hi.no hq).1]
          simp
end Go.Pv

/-
  Plain laws: the first topological order.
-/
namespace Go.Pv

def ready (es : List (Int × Int)) (L : List Int) (v : Int) : Bool := !L.contains v && es.all fun e => !decide (e.2 = v) || L.contains e.1
def topF (n : Nat) (es : List (Int × Int)) : Nat → Option (List Int)
  | 0 => some []
  | k + 1 => (topF n es k).bind fun L => if (List.range n).any (fun (v : Nat) => ready es L v) = true then some (L ++ [leastN n (ready es L)]) else none
structure TopOk (n : Nat) (es : List (Int × Int)) (k : Nat) (L : List Int) : Prop where
  len : L.length = k
  inn : ∀ v ∈ L, 0 ≤ v ∧ v < (n : Int)
  nd : L.Nodup
  ord : ∀ (i : Nat) (e : Int × Int), e ∈ es → L[i]? = some e.2 → e.1 ∈ L.take i
theorem ready_iff {es : List (Int × Int)} {L : List Int} {v : Int} : ready es L v = true ↔ v ∉ L ∧ ∀ e ∈ es, e.2 = v → e.1 ∈ L := by
  unfold ready
  rw [Bool.and_eq_true, List.all_eq_true]
  constructor
  · rintro ⟨h1, h2⟩
    refine ⟨by simpa using h1, fun e he hv => ?_⟩
    have := h2 e he
    simpa [hv] using this
  · rintro ⟨h1, h2⟩
    refine ⟨by simpa using h1, fun e he => ?_⟩
    by_cases hv : e.2 = v
    · simp [hv, h2 e he hv]
    · simp [hv]
theorem least_ready {n : Nat} {es : List (Int × Int)} {L : List Int} (h : (List.range n).any (fun (v : Nat) => ready es L v) = true) : 0 ≤ leastN n (ready es L) ∧ leastN n (ready es L) < n ∧ ready es L (leastN n (ready es L)) = true := by
  obtain ⟨v, hv, hr⟩ := List.any_eq_true.1 h
  exact leastN_of (x := (v : Int)) (by omega) (by have := List.mem_range.1 hv; omega) hr
theorem topF_ok {n : Nat} {es : List (Int × Int)} : ∀ {k : Nat} {L : List Int}, topF n es k = some L → TopOk n es k L
  | 0, L, h => by
    cases h
    exact ⟨rfl, fun v hv => (by cases hv), by simp, fun i e _ h => by simp at h⟩
  | k + 1, L, h => by
    simp only [topF, Option.bind_eq_some_iff] at h
    obtain ⟨M, hM, h⟩ := h
    have ok := topF_ok hM
    split at h
    · rename_i hr
      cases h
      obtain ⟨a1, a2, a3⟩ := least_ready hr
      obtain ⟨b1, b2⟩ := ready_iff.1 a3
      refine ⟨by rw [List.length_append, ok.len]; rfl, fun v hv => ?_, ?_, fun i e he hi => ?_⟩
      · rcases List.mem_append.1 hv with hv | hv
        · exact ok.inn v hv
        · rw [List.mem_singleton.1 hv]
          exact ⟨a1, a2⟩
      · rw [List.nodup_append]
        exact ⟨ok.nd, by simp, fun x hx y hy e => b1 (by rw [← List.mem_singleton.1 hy, ← e]; exact hx)⟩
      · rcases Nat.lt_or_ge i M.length with hl | hl
        · rw [List.getElem?_append_left hl] at hi
          have := ok.ord i e he hi
          rw [List.take_append_of_le_length (by omega)]
          exact this
        · rw [List.getElem?_append_right hl] at hi
          have hi0 : i - M.length = 0 := by
            rcases Nat.lt_or_ge (i - M.length) 1 with q | q
            · omega
            · rw [List.getElem?_eq_none (by simpa using q)] at hi
              cases hi
          rw [hi0] at hi
          have hi : leastN n (ready es M) = e.2 := by simpa using hi
          have := b2 e he hi.symm
          rw [show i = M.length by omega, List.take_left']
          · exact this
          · rfl
    · cases h
def Cyc (n : Nat) (es : List (Int × Int)) : Prop := ∃ e ∈ es, 0 ≤ (distsTo n es [e.1]).getD e.2.toNat (-1)
theorem top_acyclic {n : Nat} {es : List (Int × Int)} {L : List Int} (hg : inG n es) (hl : es.length ≤ 100000) (h : topF n es n = some L) : ¬ Cyc n es := by
  rintro ⟨e, he, hd⟩
  have ok := topF_ok h
  have hi := hg e he
  have hD := distsTo_dist (to := [e.1]) hg hl (fun x hx => by rw [List.mem_singleton.1 hx]; exact hi.1)
  have all : ∀ v : Int, 0 ≤ v → v < n → v ∈ L := fun v h0 h1 => by
    rcases Classical.em (v ∈ L) with hv | hv
    · exact hv
    · have := nodup_bound (l := v :: L) (n := n) (List.nodup_cons.2 ⟨hv, ok.nd⟩) (fun x hx => by
        rcases List.mem_cons.1 hx with rfl | hx
        · exact ⟨h0, h1⟩
        · exact ok.inn x hx)
      rw [List.length_cons, ok.len] at this
      omega
  have same : ∀ (i j : Nat) (x : Int), L[i]? = some x → L[j]? = some x → i = j := fun i j x h1 h2 => by
    obtain ⟨i1, rfl⟩ := List.getElem?_eq_some_iff.1 h1
    obtain ⟨j1, e2⟩ := List.getElem?_eq_some_iff.1 h2
    exact (List.getElem_inj ok.nd).1 e2.symm
  have key : ∀ (k : Nat) (v : Int) (i : Nat), 0 ≤ v → v < n → (distsTo n es [e.1]).getD v.toNat (-1) = k → L[i]? = some v → ∃ j, i ≤ j ∧ L[j]? = some e.1 := by
    intro k
    induction k with
    | zero =>
      intro v i h0 h1 hk hL
      have := (hD.zero v h0 h1).1 hk
      rw [List.mem_singleton.1 this] at hL
      exact ⟨i, Nat.le_refl _, hL⟩
    | succ k ih =>
      intro v i h0 h1 hk hL
      obtain ⟨w, e1, e2, e3, e4⟩ := hD.back v h0 h1 (by omega)
      obtain ⟨i2, hi2, hw⟩ := List.getElem_of_mem (all w e2 e3)
      have hw' : L[i2]? = some w := by rw [List.getElem?_eq_getElem hi2, hw]
      have hv := ok.ord i2 (v, w) e1 hw'
      obtain ⟨i3, hi3, hv3⟩ := List.getElem_of_mem hv
      rw [List.getElem_take] at hv3
      rw [List.length_take] at hi3
      have : i = i3 := same i i3 v hL (by rw [List.getElem?_eq_getElem (by omega), hv3])
      obtain ⟨j, hj1, hj2⟩ := ih w i2 e2 e3 (by omega) hw'
      exact ⟨j, by omega, hj2⟩
  obtain ⟨i, hil, hiv⟩ := List.getElem_of_mem (all e.2 hi.2.1 hi.2.2)
  have hiv' : L[i]? = some e.2 := by rw [List.getElem?_eq_getElem hil, hiv]
  obtain ⟨j, hj1, hj2⟩ := key ((distsTo n es [e.1]).getD e.2.toNat (-1)).toNat e.2 i hi.2.1 hi.2.2 (by omega) hiv'
  have hu := ok.ord i e he hiv'
  obtain ⟨i3, hi3, hv3⟩ := List.getElem_of_mem hu
  rw [List.getElem_take] at hv3
  rw [List.length_take] at hi3
  have := same j i3 e.1 hj2 (by rw [List.getElem?_eq_getElem (by omega), hv3])
  omega
theorem repeated {n : Nat} (f : Nat → Int) (h : ∀ i, 0 ≤ f i ∧ f i < (n : Int)) : ∃ i j, i < j ∧ f i = f j := by
  rcases Classical.em (((List.range (n + 1)).map f).Nodup) with hd | hd
  · have := nodup_bound (n := n) hd (fun x hx => by
      obtain ⟨i, _, rfl⟩ := List.mem_map.1 hx
      exact h i)
    rw [List.length_map, List.length_range] at this
    omega
  · rw [List.nodup_iff_pairwise_ne, List.pairwise_iff_getElem] at hd
    simp only [Classical.not_forall] at hd
    obtain ⟨i, j, hi, hj, hij, e⟩ := hd
    rw [ne_eq, Classical.not_not] at e
    simp only [List.getElem_map, List.getElem_range] at e
    exact ⟨i, j, hij, e⟩
theorem stuck_cyclic {n : Nat} {es : List (Int × Int)} {k : Nat} {L : List Int} (hg : inG n es) (hl : es.length ≤ 100000) (hL : topF n es k = some L) (hk : k < n) (hs : (List.range n).any (fun (v : Nat) => ready es L v) = false) : Cyc n es := by
  have ok := topF_ok hL
  have hpre : ∀ v : Int, 0 ≤ v → v < n → v ∉ L → ∃ u, (u, v) ∈ es ∧ u ∉ L := fun v h0 h1 hv => by
    have := List.any_eq_false.1 hs v.toNat (List.mem_range.2 (by omega))
    rw [Int.toNat_of_nonneg h0, ready_iff] at this
    rcases Classical.em (∃ u, (u, v) ∈ es ∧ u ∉ L) with h | h
    · exact h
    · refine absurd ⟨hv, fun e he hev => ?_⟩ this
      rcases Classical.em (e.1 ∈ L) with q | q
      · exact q
      · exact absurd ⟨e.1, by rw [← hev]; exact he, q⟩ h
  have hex : ∃ v : Int, 0 ≤ v ∧ v < n ∧ v ∉ L := by
    rcases Classical.em (∃ v : Int, 0 ≤ v ∧ v < n ∧ v ∉ L) with h | h
    · exact h
    · have hsub : ∀ x ∈ (List.range n).map Int.ofNat, x ∈ L := fun x hx => by
        obtain ⟨i, hi, rfl⟩ := List.mem_map.1 hx
        have := List.mem_range.1 hi
        rcases Classical.em (Int.ofNat i ∈ L) with q | q
        · exact q
        · exact absurd ⟨Int.ofNat i, by show 0 ≤ (i : Int); omega, by show (i : Int) < n; omega, q⟩ h
      have hd : ((List.range n).map Int.ofNat).Nodup := by
        rw [List.nodup_iff_pairwise_ne, List.pairwise_map]
        exact List.nodup_range.imp (fun h e => h (Int.ofNat.inj e))
      have := List.Nodup.length_le_of_subset hd hsub
      rw [List.length_map, List.length_range, ok.len] at this
      omega
  obtain ⟨v0, h0, h1, h2⟩ := hex
  let T := {v : Int // (0 ≤ v ∧ v < n) ∧ v ∉ L}
  have hnx : ∀ x : T, ∃ y : T, (y.1, x.1) ∈ es := fun x => by
    obtain ⟨u, hu, hn⟩ := hpre x.1 x.2.1.1 x.2.1.2 x.2.2
    exact ⟨⟨u, (hg _ hu).1, hn⟩, hu⟩
  let f : Nat → T := fun i => Nat.rec ⟨v0, ⟨h0, h1⟩, h2⟩ (fun _ x => Classical.choose (hnx x)) i
  have hf : ∀ i, ((f (i + 1)).1, (f i).1) ∈ es := fun i => Classical.choose_spec (hnx (f i))
  obtain ⟨i, j, hij, e⟩ := repeated (n := n) (fun i => (f i).1) (fun i => (f i).2.1)
  refine ⟨_, hf i, ?_⟩
  have hr := (f (i + 1)).2.1
  have hD := distsTo_dist (to := [(f (i + 1)).1]) hg hl (fun x hx => by rw [List.mem_singleton.1 hx]; exact hr)
  have key : ∀ m, 0 ≤ (distsTo n es [(f (i + 1)).1]).getD (f (i + 1 + m)).1.toNat (-1) := by
    intro m
    induction m with
    | zero =>
      have := (hD.zero _ hr.1 hr.2).2 (List.mem_singleton.2 rfl)
      show 0 ≤ (distsTo n es [(f (i + 1)).1]).getD (f (i + 1)).1.toNat (-1)
      omega
    | succ m ih =>
      have a := (f (i + 1 + m)).2.1
      have b := (f (i + 1 + m + 1)).2.1
      exact (hD.step _ _ (hf (i + 1 + m)) ⟨b.1, b.2, a.1, a.2⟩ ih).1
  have := key (j - (i + 1))
  rw [show i + 1 + (j - (i + 1)) = j by omega] at this
  show 0 ≤ (distsTo n es [(f (i + 1)).1]).getD (f i).1.toNat (-1)
  have e : (f i).1 = (f j).1 := e
  rw [e]
  exact this
end Go.Pv

/-
  Plain laws: the counts of what is to come before.
-/
namespace Go.Pv

def bump (c : Int) (d : List Int) (x : Int) : List Int := d.set x.toNat (d.getD x.toNat (-1) + c)
theorem bump_fold (c : Int) : ∀ (r : List Int) (d : List Int), (∀ x ∈ r, 0 ≤ x ∧ x < (d.length : Int)) → (r.foldl (bump c) d).length = d.length ∧ ∀ v : Nat, v < d.length → (r.foldl (bump c) d).getD v (-1) = d.getD v (-1) + c * (r.count (v : Int))
  | [], d, _ => ⟨rfl, fun v _ => by simp⟩
  | x :: r, d, h => by
    have hx := h x (by simp)
    have hl : (bump c d x).length = d.length := List.length_set
    obtain ⟨h1, h2⟩ := bump_fold c r (bump c d x) (fun y hy => by rw [hl]; exact h y (by simp [hy]))
    refine ⟨by rw [List.foldl_cons, h1, hl], fun v hv => ?_⟩
    rw [List.foldl_cons, h2 v (by rw [hl]; exact hv), List.count_cons]
    unfold bump
    by_cases e : x = (v : Int)
    · subst e
      rw [Int.toNat_natCast]
      have : (d.set v (d.getD v (-1) + c)).getD v (-1) = d.getD v (-1) + c := by simp [hv]
      rw [this]
      simp only [beq_self_eq_true, if_true, Int.natCast_add, Int.mul_add]
      omega
    · have hne : x.toNat ≠ v := by omega
      have : (d.set x.toNat (d.getD x.toNat (-1) + c)).getD v (-1) = d.getD v (-1) := by
        simp only [List.getD_eq_getElem?_getD, List.getElem?_set_ne hne]
      rw [this]
      have hb : (x == (v : Int)) = false := by simp [e]
      simp only [hb, if_neg Bool.false_ne_true, Nat.add_zero]

def pendF (f : Nat → Nat) (n : Nat) : Nat := ((List.range n).map f).sum
theorem pendF_succ (f : Nat → Nat) (n : Nat) : pendF f (n + 1) = pendF f n + f n := by
  unfold pendF
  rw [List.range_succ, List.map_append, List.sum_append]
  simp
theorem pendF_congr {f g : Nat → Nat} : ∀ {n : Nat}, (∀ u, u < n → f u = g u) → pendF f n = pendF g n
  | 0, _ => rfl
  | n + 1, h => by rw [pendF_succ, pendF_succ, pendF_congr (fun u hu => h u (by omega)), h n (by omega)]
theorem pendF_drop {f g : Nat → Nat} {x : Nat} : ∀ {n : Nat}, x < n → (∀ u, u < n → u ≠ x → f u = g u) → g x = 0 → pendF f n = pendF g n + f x
  | 0, h, _, _ => by omega
  | n + 1, hx, h, h0 => by
    rw [pendF_succ, pendF_succ]
    rcases Nat.lt_or_ge x n with q | q
    · rw [pendF_drop q (fun u hu => h u (by omega)) h0, h n (by omega) (by omega)]
      omega
    · obtain rfl : x = n := by omega
      rw [pendF_congr (fun u hu => h u (by omega) (by omega)), h0]
      omega
theorem pendF_zero {f : Nat → Nat} : ∀ {n : Nat}, pendF f n = 0 ↔ ∀ u, u < n → f u = 0
  | 0 => by simp [pendF]
  | n + 1 => by
    rw [pendF_succ, Nat.add_eq_zero_iff, pendF_zero]
    constructor
    · rintro ⟨h1, h2⟩ u hu
      rcases Nat.lt_or_ge u n with q | q
      · exact h1 u q
      · rw [show u = n by omega]
        exact h2
    · exact fun h => ⟨fun u hu => h u (by omega), h n (by omega)⟩
theorem pendF_le {f : Nat → Nat} {m : Nat} : ∀ {n : Nat}, (∀ u, u < n → f u ≤ m) → pendF f n ≤ m * n
  | 0, _ => by simp [pendF]
  | n + 1, h => by
    have h1 := pendF_le (f := f) (m := m) (n := n) (fun u hu => h u (by omega))
    have h2 := h n (by omega)
    rw [pendF_succ, Nat.mul_succ]
    omega
def pend (rows : List (List Int)) (L : List Int) (v : Int) (u : Nat) : Nat := if (u : Int) ∈ L then 0 else (nxt rows u).count v
structure KInv (n : Nat) (rows : List (List Int)) (L : List Int) (d : List Int) : Prop where
  len : d.length = n
  val : ∀ v : Nat, v < n → d.getD v (-1) = if (v : Int) ∈ L then -1 else (pendF (pend rows L v) n : Int)
structure CInv (n : Nat) (rows : List (List Int)) (k : Nat) (d : List Int) : Prop where
  len : d.length = n
  val : ∀ v : Nat, v < n → d.getD v (-1) = (pendF (pend rows [] v) k : Int)
theorem CInv.zero (n : Nat) (rows : List (List Int)) : CInv n rows 0 (List.replicate n 0) := ⟨by simp, fun v hv => by simp [pendF, hv]⟩
theorem CInv.succ {n : Nat} {rows : List (List Int)} {k : Nat} {d r : List Int} (h : CInv n rows k d) (hr : rows[k]? = some r) (hin : ∀ x ∈ r, 0 ≤ x ∧ x < (n : Int)) : CInv n rows (k + 1) (r.foldl (bump 1) d) := by
  obtain ⟨h1, h2⟩ := bump_fold 1 r d (by rw [h.len]; exact hin)
  refine ⟨by rw [h1, h.len], fun v hv => ?_⟩
  rw [h2 v (by rw [h.len]; exact hv), h.val v hv, pendF_succ]
  have : pend rows [] v k = r.count (v : Int) := by
    unfold pend nxt
    simp [hr]
  rw [this]
  omega
theorem CInv.done {n : Nat} {rows : List (List Int)} {d : List Int} (h : CInv n rows n d) : KInv n rows [] d := ⟨h.len, fun v hv => by rw [h.val v hv]; simp⟩

section
variable {n : Nat} {es : List (Int × Int)} (hg : inG n es)
include hg
theorem KInv.zero_iff {k : Nat} {L d : List Int} (h : KInv n (succs n es) L d) (_ok : TopOk n es k L) (v : Nat) (hv : v < n) : d.getD v (-1) = 0 ↔ ready es L v = true := by
  rw [h.val v hv, ready_iff]
  by_cases hL : (v : Int) ∈ L
  · rw [if_pos hL]
    constructor
    · intro q
      cases q
    · exact fun q => absurd hL q.1
  · rw [if_neg hL, Int.natCast_eq_zero, pendF_zero]
    constructor
    · refine fun q => ⟨hL, fun e he hev => ?_⟩
      have hi := (hg e he).1
      have := q e.1.toNat (by omega)
      unfold pend at this
      rw [Int.toNat_of_nonneg hi.1] at this
      rcases Classical.em (e.1 ∈ L) with g | g
      · exact g
      · rw [if_neg g, List.count_eq_zero] at this
        refine absurd ((nxt_succs hg hi.1).2 ?_) this
        rw [← hev]
        exact he
    · rintro ⟨_, q⟩ u hu
      unfold pend
      split
      · rfl
      · rename_i hu2
        rw [List.count_eq_zero]
        intro hm
        exact hu2 (q _ ((nxt_succs hg (by omega)).1 hm) rfl)
theorem KInv.step {k : Nat} {L d : List Int} (h : KInv n (succs n es) L d) (ok : TopOk n es k L) {x : Int} (h0 : 0 ≤ x) (h1 : x < n) (hr : ready es L x = true) : KInv n (succs n es) (L ++ [x]) ((nxt (succs n es) x).foldl (bump (-1)) (d.set x.toNat (-1))) := by
  obtain ⟨r1, r2⟩ := ready_iff.1 hr
  have hin : ∀ y ∈ nxt (succs n es) x, 0 ≤ y ∧ y < (n : Int) := fun y hy => (hg _ ((nxt_succs hg h0).1 hy)).2
  have hsl : (d.set x.toNat (-1)).length = n := by rw [List.length_set, h.len]
  obtain ⟨g1, g2⟩ := bump_fold (-1) (nxt (succs n es) x) (d.set x.toNat (-1)) (by rw [hsl]; exact hin)
  have hloop : (x, x) ∉ es := fun he => r1 (r2 _ he rfl)
  refine ⟨by rw [g1, hsl], fun v hv => ?_⟩
  rw [g2 v (by rw [hsl]; exact hv)]
  have hcnt : (v : Int) ∈ L ++ [x] → (nxt (succs n es) x).count (v : Int) = 0 := fun hm => by
    rw [List.count_eq_zero]
    intro hc
    have he := (nxt_succs hg h0).1 hc
    rcases List.mem_append.1 hm with hm | hm
    · obtain ⟨i, hi, hx⟩ := List.getElem_of_mem hm
      exact r1 (List.mem_of_mem_take (ok.ord i _ he (by rw [List.getElem?_eq_getElem hi, hx])))
    · rw [List.mem_singleton.1 hm] at he
      exact hloop he
  by_cases hvx : (v : Int) = x
  · have : x.toNat = v := by omega
    rw [if_pos (by simp [hvx]), hcnt (by simp [hvx]), this]
    have : (d.set v (-1)).getD v (-1) = -1 := by simp [h.len, hv]
    rw [this]
    simp
  · have hne : x.toNat ≠ v := by omega
    have hget : (d.set x.toNat (-1)).getD v (-1) = d.getD v (-1) := by
      rw [List.getD_eq_getElem?_getD, List.getD_eq_getElem?_getD, List.getElem?_set_ne hne]
    rw [hget, h.val v hv]
    by_cases hL : (v : Int) ∈ L
    · rw [if_pos hL, if_pos (by simp [hL]), hcnt (by simp [hL])]
      simp
    · rw [if_neg hL, if_neg (by simp [hL, hvx])]
      have hd := pendF_drop (f := pend (succs n es) L v) (g := pend (succs n es) (L ++ [x]) v) (x := x.toNat) (n := n) (by omega) (fun u _ hu => by
        have : (u : Int) ≠ x := by omega
        unfold pend
        simp [this]) (by
        unfold pend
        rw [Int.toNat_of_nonneg h0]
        simp)
      have hx : pend (succs n es) L v x.toNat = (nxt (succs n es) x).count (v : Int) := by
        unfold pend
        rw [Int.toNat_of_nonneg h0, if_neg r1]
      rw [hd, hx]
      omega
end
theorem atFrom_first {x : Int} : ∀ {l : List Int} {k j : Nat}, l[j]? = some x → (∀ i, i < j → l[i]? ≠ some x) → atFrom x k l = ((k + j : Nat) : Int)
  | [], k, j, h, _ => by simp at h
  | y :: r, k, 0, h, _ => by
    have : y = x := by simpa using h
    unfold atFrom
    rw [if_pos this]
    rfl
  | y :: r, k, j + 1, h, hb => by
    have hy : y ≠ x := fun e => hb 0 (by omega) (by simp [e])
    unfold atFrom
    rw [if_neg hy, atFrom_first (l := r) (k := k + 1) (j := j) (by simpa using h) (fun i hi => by simpa using hb (i + 1) (by omega))]
    omega
theorem atL_least {n : Nat} {d : List Int} {p : Int → Bool} (hl : d.length = n) (h : ∀ v : Nat, v < n → (d.getD v (-1) = 0 ↔ p v = true)) : ((List.range n).any (fun (v : Nat) => p v) = true → atL 0 d = leastN n p) ∧ ((List.range n).any (fun (v : Nat) => p v) = false → atL 0 d < 0) := by
  constructor
  · intro ha
    obtain ⟨v, hv, hp⟩ := List.any_eq_true.1 ha
    have hv := List.mem_range.1 hv
    obtain ⟨a1, a2, a3⟩ := leastN_of (n := n) (x := (v : Int)) (by omega) (by omega) hp
    have hget : ∀ v : Nat, v < n → d[v]? = some (d.getD v (-1)) := fun v hv => by simp [hl, hv]
    have := atFrom_first (x := 0) (l := d) (k := 0) (j := (leastN n p).toNat) (by
      rw [hget _ (by omega), (h _ (by omega)).2 (by rw [Int.toNat_of_nonneg a1]; exact a3)]) (fun i hi => by
      rw [hget i (by omega)]
      intro e
      have := (h i (by omega)).1 (Option.some.inj e)
      rw [leastN_lt (n := n) (p := p) (y := (i : Int)) (by omega) (by omega) (by omega)] at this
      cases this)
    unfold atL
    rw [this]
    omega
  · intro ha
    rw [atL_neg]
    intro hm
    obtain ⟨i, hi, hx⟩ := List.getElem_of_mem hm
    have := (h i (by omega)).1 (by simp [hi, hx])
    have := List.any_eq_false.1 ha i (List.mem_range.2 (by omega))
    contradiction
end Go.Pv

/-
  The law of duals.
-/
namespace Go.Pv

end Go.Pv

/-
  The law of trimmed automata.
-/
namespace Go.Pv

def Draft.from (d : Draft) (s : Int) : Auto := ⟨1 + d.n % 4, s % (1 + d.n % 4), d.auto.edges⟩
end Go.Pv

/-
  The law of runs.
-/
namespace Go.Pv

end Go.Pv

/-
  The laws of the errors of automata, and of proper automata.
-/
namespace Go.Pv

end Go.Pv

/-
  Classes of states: moves, lists that are equal.
-/
namespace Go.Pv

structure Mv where
  send : Bool
  label : Int
  cls : Int
  deriving DecidableEq, Inhabited
def Mv.c (m : Mv) : List PV := [.bool m.send, .int .i64 m.label, .int .i64 m.cls]
def mvs (l : List Mv) : List (List PV) := l.map Mv.c
@[go_sem] theorem mvs_length (l : List Mv) : (mvs l).length = l.length := by simp [mvs]
@[go_sem] theorem mvs_nil : mvs [] = [] := rfl
@[go_sem] theorem mvs_get (l : List Mv) (i : Nat) : (mvs l)[i]? = l[i]?.map Mv.c := by simp [mvs]
@[go_sem] theorem Mv.c_eq (m : Mv) : m.c = [.bool m.send, .int .i64 m.label, .int .i64 m.cls] := rfl
theorem mvs_snoc (l : List Mv) (m : Mv) : mvs l ++ [m.c] = mvs (l ++ [m]) := by simp [mvs]
@[go_sem] theorem mvs_snocc (l : List Mv) (d : Bool) (x y : Int) : mvs l ++ [[.bool d, .int .i64 x, .int .i64 y]] = mvs (l ++ [⟨d, x, y⟩]) := by simp [mvs, Mv.c]
@[go_sem] theorem grow0m (bx : List (Nat × List V)) (mp : List (List (PV × PV))) (l : List Mv) (d : Bool) (x y : Int) (hm : l.length + 1 ≤ 2147483648) :
    appendV ⟨bx, grA 3 (mvs l), mp⟩ 3 (grV 0 (mvs l)) (.tl [[.bool d, .int .i64 x, .int .i64 y]]) = some (grV 0 (mvs (l ++ [⟨d, x, y⟩])), grT 0 3 (mvs l) (Mv.c ⟨d, x, y⟩)) := by
  rw [← mvs_snoc]
  exact grow0 bx mp 3 (mvs l) (Mv.c ⟨d, x, y⟩) rfl (by rw [mvs_length]; exact hm)
def movesL (es : List Edge) (s : Int) (c : List Int) : List Mv := (es.filter fun e => e.fr == s).map fun e => ⟨e.send, e.label, c.getD e.to.toNat 0⟩
set_option maxHeartbeats 1000000 in
@[go_sem] theorem r14 (t u : Nat) (a b : List Int) (ha : a.length ≤ 2 ^ 63 - 1) (_hb : b.length ≤ 2 ^ 63 - 1) : res A PrA 14 [.lst t (ints a), .lst u (ints b)] = some [.bool (decide (a = b))] := by
  refine res_of a14 rfl rfl ?_
  simp only [F14]
  simp (disch := omega) only [go_sem]
  refine Br.ofP (fun h => ?_) (fun h => ?_) <;> simp (disch := omega) only [go_sem, h]
  case refine_2 =>
    have : ¬ a = b := fun e => h (by rw [e])
    simp [this]
  refine W.upto a.length (fun k => ⟨[(0, .pv (.lst t (ints a))), (1, .pv (.lst u (ints b))), (12, .pv (.int .i64 b.length)), (13, .pv (.int .i64 k))], ⟨[], [], []⟩⟩) (fun k => a.take k = b.take k) rfl rfl fun k hk hi => ?_
  simp (disch := omega) only [go_sem]
  refine Br.ofP (fun g => ?_) (fun g => ?_)
  · obtain ⟨x, hx⟩ := get_at (l := a) (k := k) (by omega)
    obtain ⟨y, hy⟩ := get_at (l := b) (k := k) (by omega)
    simp (disch := omega) only [go_sem, hx, hy]
    refine Br.ofP (fun f => ?_) (fun f => ?_) <;> simp (disch := omega) only [go_sem, f]
    · exact .of (by omega) rfl (take_step hx hy hi f)
    · have : ¬ a = b := fun e => f (by rw [e, hy] at hx; exact (Option.some.inj hx).symm)
      simp [this]
  · simp (disch := omega) only [go_sem]
    have := takes_all (k := k) (by omega) (by omega) hi
    simp [this]

def simB (es : List Edge) (c : List Int) (k i : Nat) : Bool := decide (c.getD k 0 = c.getD i 0) && decide (movesL es (k : Int) c = movesL es (i : Int) c)
def leastC (es : List Edge) (c : List Int) (i : Nat) : Nat := ((List.range i).find? fun k => simB es c k i).getD i
def stepC (n : Nat) (es : List Edge) (c : List Int) : List Int := (List.range n).map fun i => (leastC es c i : Int)
def cls (n : Nat) (es : List Edge) : Nat → List Int
  | 0 => List.replicate n 0
  | j + 1 => stepC n es (cls n es j)
end Go.Pv

/-
  Chapter 05: distances and what is reached; the laws of Valid, Distances, Reach.
-/
namespace Go.Pv

theorem cloneCases {k : Nat} {rows : List (List PV)} (hr : ∀ r ∈ rows, r.length = k) (hm : rows.length ≤ 2147483648) : (rows = [] ∧ ∀ h, cloneP k [.pv (.lst 0 rows)] h = some (.tl [], {})) ∨ (rows ≠ [] ∧ ∀ h, cloneP k [.pv (.lst 0 rows)] h = some (.own h.ar.length 0 0 rows.length, { push := [⟨0, k, .inl rows⟩], base := h.ar.length })) := by
  have hf : rowsFit k (.inl rows) = true := by
    simp only [rowsFit, List.all_eq_true, beq_iff_eq]
    exact hr
  by_cases h0 : rows = []
  · subst h0
    exact .inl ⟨rfl, fun h => by simp [cloneP, srcRows, rowsFit]⟩
  · refine .inr ⟨h0, fun h => ?_⟩
    have hl : ¬ rows.length = 0 := fun e => h0 (List.eq_nil_of_length_eq_zero e)
    have h01 : (0 : Nat) ≤ 1 := by decide
    simp [cloneP, srcRows, hf, hl, mostRows, hm]
theorem clonePrs {es : List (Int × Int)} (hm : es.length ≤ 2147483648) : (es = [] ∧ ∀ h, cloneP 2 [.pv (.lst 0 [])] h = some (.tl [], {})) ∨ (es ≠ [] ∧ ∀ h, cloneP 2 [.pv (.lst 0 (prs es))] h = some (.own h.ar.length 0 0 es.length, { push := [⟨0, 2, .inl (prs es)⟩], base := h.ar.length })) := by
  rcases cloneCases (k := 2) (rows := prs es) (fun r hr => by obtain ⟨x, _, rfl⟩ := List.mem_map.1 hr; rfl) (by rw [prs_length]; omega) with ⟨h0, hc⟩ | ⟨h0, hc⟩
  · cases es with
    | nil => exact .inl ⟨rfl, hc⟩
    | cons x r => simp [prs] at h0
  · rw [prs_length] at hc
    exact .inr ⟨fun h => h0 (by rw [h]; rfl), hc⟩
@[go_sem] theorem r14n (t u : Nat) : res A PrA 14 [.lst t [], .lst u []] = some [.bool true] := r14 t u [] [] (by decide) (by decide)
@[go_sem] theorem r128n (t : Nat) (n : Int) : res A PrA 128 [.int .i64 n, .lst t []] = some [.int .i64 (gErr n [])] := r128 t n [] (by decide)
def reachG (n : Nat) (es : List (Int × Int)) (fr : List Int) : List Int := there (levels (nxt (succs n es)) n fr)
set_option maxHeartbeats 1000000 in
theorem r363 (t u : Nat) (n : Int) (es : List (Int × Int)) (fr : List Int) (hn : n ≤ 12 ∨ 2000 < n) (hl : es.length ≤ 2 ^ 63 - 1) (hm : fr.length ≤ 2000000000) : res A PrA 363 [.int .i64 n, .lst t (prs es), .lst u (ints fr)] = some (if gErrL n es fr = 0 then [.lst 0 (ints (reachG n.toNat es fr)), .int .i64 0] else [.lst 0 [], .int .i64 (gErrL n es fr)]) := by
  refine res_of a363 rfl rfl ?_
  simp only [F363]
  simp (disch := omega) only [go_sem]
  refine Br.ofP (fun h1 => ?_) (fun h1 => ?_) <;> simp (disch := omega) only [go_sem, h1]
  obtain ⟨g1, g2⟩ := gErrL_zero h1
  obtain ⟨f1, f2, f3, f4⟩ := gErr_zero g1
  obtain ⟨m, rfl⟩ := Int.eq_ofNat_of_zero_le f1
  rw [Int.toNat_natCast] at f4
  have h115 := fun t => r115 t m es (by omega) (by omega) f4
  have hok := succs_ok f4 (by omega)
  have h114 := r114 0 u m (succs m es) fr (by omega) (succs_len _ _) hok g2 hm
  have hll := levels_len (nx := nxt (succs m es)) (nxt_in hok) g2
  simp (disch := omega) only [go_sem, h115, h114]
  rw [if_pos h1]
  rfl
theorem distsTo_len {n : Nat} {es : List (Int × Int)} {to : List Int} (hg : inG n es) (hl : es.length ≤ 100000) (ht : ∀ x ∈ to, 0 ≤ x ∧ x < (n : Int)) : (distsTo n es to).length = n := (distsTo_dist hg hl ht).len
theorem few_true {n : Int} {k : Nat} (h : fewG n k = true) : k ≤ 40 ∧ (n ≤ 12 ∨ 2000 < n) := by
  unfold fewG at h
  simp only [Bool.and_eq_true, Bool.or_eq_true, decide_eq_true_eq] at h
  omega
end Go.Pv

/-
  Chapter 05: topological orders.
-/
namespace Go.Pv
def topRes (n : Nat) (es : List (Int × Int)) : List PV := match topF n es n with
  | some L => [.lst 0 (ints L), .int .i64 0]
  | none => [.lst 0 [], .int .i64 9]
theorem topF_stop {n : Nat} {es : List (Int × Int)} {k : Nat} (h : topF n es k = none) : ∀ j, topF n es (k + j) = none
  | 0 => h
  | j + 1 => by
    show (topF n es (k + j)).bind _ = none
    rw [topF_stop h j]
    rfl
theorem topRes_none {n : Nat} {es : List (Int × Int)} {k : Nat} {L : List Int} (h : topF n es k = some L) (hk : k < n) (hr : (List.range n).any (fun (v : Nat) => ready es L v) = false) : topRes n es = [.lst 0 [], .int .i64 9] := by
  have h1 : topF n es (k + 1) = none := by
    show (topF n es k).bind _ = none
    rw [h]
    show (if (List.range n).any (fun (v : Nat) => ready es L v) = true then some (L ++ [leastN n (ready es L)]) else none) = none
    rw [hr]
    rfl
  have h2 := topF_stop h1 (n - (k + 1))
  rw [show k + 1 + (n - (k + 1)) = n by omega] at h2
  unfold topRes
  rw [h2]
theorem topRes_some {n : Nat} {es : List (Int × Int)} {L : List Int} (h : topF n es n = some L) : topRes n es = [.lst 0 (ints L), .int .i64 0] := by
  unfold topRes
  rw [h]
theorem topF_next {n : Nat} {es : List (Int × Int)} {k : Nat} {L : List Int} (h : topF n es k = some L) (hr : (List.range n).any (fun (v : Nat) => ready es L v) = true) : topF n es (k + 1) = some (L ++ [leastN n (ready es L)]) := by
  show (topF n es k).bind _ = _
  rw [h]
  show (if (List.range n).any (fun (v : Nat) => ready es L v) = true then some (L ++ [leastN n (ready es L)]) else none) = _
  rw [if_pos hr]
theorem bump_get {d : List Int} {x : Int} (h0 : 0 ≤ x) (h1 : x < d.length) : d[x.toNat]? = some (d.getD x.toNat (-1)) := by
  have : x.toNat < d.length := by omega
  simp [this]
set_option maxHeartbeats 4000000 in
theorem r356 (t : Nat) (n : Int) (es : List (Int × Int)) (hn : n ≤ 12 ∨ 2000 < n) (hl : es.length ≤ 2 ^ 63 - 1) : res A PrA 356 [.int .i64 n, .lst t (prs es)] = some (if gErr n es = 0 then topRes n.toNat es else [.lst 0 [], .int .i64 (gErr n es)]) := by
  refine res_of a356 rfl rfl ?_
  simp only [F356]
  have h128 := r128 t n es hl
  simp (disch := omega) only [go_sem, h128]
  refine Br.ofP (fun h1 => ?_) (fun h1 => ?_) <;> simp (disch := omega) only [go_sem, h1]
  rw [if_pos h1]
  obtain ⟨f1, f2, f3, f4⟩ := gErr_zero h1
  obtain ⟨m, rfl⟩ := Int.eq_ofNat_of_zero_le f1
  rw [Int.toNat_natCast] at f4 ⊢
  have h115 := r115 t m es (by omega) (by omega) f4
  have hok := succs_ok f4 (by omega)
  have hsl := succs_len m es
  simp (disch := omega) only [go_sem, h115]
  refine W.fold (succs m es) (fun d r => r.foldl (bump 1) d) (List.replicate m 0) (fun j d => ⟨[(0, .pv (.int .i64 m)), (7, .pv (.lst 0 (lls (succs m es)))), (8, .own 0 0 0 m), (28, .pv (.lst 0 (lls (succs m es)))), (29, .pv (.int .i64 (succs m es).length)), (30, .pv (.int .i64 j))], ⟨[], [⟨0, 1, .inl (ints d)⟩], []⟩⟩) (fun j d => CInv m (succs m es) j d) rfl (CInv.zero m _) (fun j r d hr hj _ hi => ?_) (fun d _ hi => ?_)
  · obtain ⟨r1, r2⟩ := hok r (List.mem_of_getElem? hr)
    have hs := hi.succ hr r2
    have hdl : d.length = m := hi.len
    have hval : ∀ x : Int, 0 ≤ x → x < m → 0 ≤ d.getD x.toNat (-1) ∧ d.getD x.toNat (-1) ≤ 100000 * 12 := fun x x0 x1 => by
      have h := hi.val x.toNat (by omega)
      have := pendF_le (f := pend (succs m es) [] (x.toNat : Int)) (m := 100000) (n := j) (fun u hu => by
        have hu2 := List.getElem?_eq_getElem (l := succs m es) (i := u) (by omega)
        have := (hok _ (List.getElem_mem (l := succs m es) (n := u) (by omega))).1
        unfold pend nxt
        simp only [List.not_mem_nil, if_false, List.getD_eq_getElem?_getD, Int.toNat_natCast, hu2, Option.getD_some]
        exact Nat.le_trans List.count_le_length this)
      omega
    simp (disch := omega) only [go_sem]
    refine Br.ofP (fun c => ?_) (fun c => (c (by omega)).elim)
    simp (disch := omega) only [go_sem, hr]
    refine W.fold r (bump 1) d (fun i d => ⟨[(0, .pv (.int .i64 m)), (7, .pv (.lst 0 (lls (succs m es)))), (8, .own 0 0 0 m), (28, .pv (.lst 0 (lls (succs m es)))), (29, .pv (.int .i64 (succs m es).length)), (30, .pv (.int .i64 j)), (34, .pv (.lst 0 (ints r))), (35, .pv (.int .i64 r.length)), (36, .pv (.int .i64 i))], ⟨[], [⟨0, 1, .inl (ints d)⟩], []⟩⟩) (fun _ _ => True) rfl trivial (fun i x d' hx hi2 hacc _ => ?_) (fun d' hacc _ => ?_)
    · obtain ⟨b1, b2⟩ := bump_fold 1 (r.take i) d (by rw [hdl]; exact fun y hy => r2 y (List.mem_of_mem_take hy))
      rw [← hacc] at b1 b2
      obtain ⟨x0, x1⟩ := r2 x (List.mem_of_getElem? hx)
      have hv := b2 x.toNat (by omega)
      obtain ⟨v1, v2⟩ := hval x x0 x1
      have hct := List.count_le_length (a := ((x.toNat : Nat) : Int)) (l := r.take i)
      rw [List.length_take] at hct
      have hg := bump_get (d := d') x0 (by omega)
      have hbd : bump 1 d' x = d'.set x.toNat (d'.getD x.toNat (-1) + 1) := rfl
      rw [hbd]
      generalize d'.getD x.toNat (-1) = y at *
      simp (disch := omega) only [go_sem]
      refine Br.ofP (fun c => ?_) (fun c => (c (by omega)).elim)
      simp (disch := omega) only [go_sem, hx, hg]
      exact foldK.of rfl trivial
    · simp (disch := omega) only [go_sem]
      rw [hacc]
      exact foldK.of rfl hs
  · rw [hsl] at hi
    have hK := hi.done
    clear hi
    simp (disch := omega) only [go_sem]
    refine W.loop (α := Nat × List Int × List Int) (fun q => ⟨[(7, .pv (.lst 0 (lls (succs m es)))), (8, .own 0 0 0 m), (13, grV 1 (ints q.2.1)), (48, .pv (.int .i64 m)), (49, .pv (.int .i64 q.1))], ⟨[], ⟨0, 1, .inl (ints q.2.2)⟩ :: grA 1 (ints q.2.1), []⟩⟩)
      (fun q => q.1 ≤ m ∧ topF m es q.1 = some q.2.1 ∧ KInv m (succs m es) q.2.1 q.2.2) (fun q => m - q.1) (0, [], d) rfl ⟨Nat.zero_le _, rfl, hK⟩ fun q hq => ?_
    obtain ⟨k, L, d⟩ := q
    obtain ⟨k1, k2, k3⟩ := hq
    dsimp only at k1 k2 k3
    have hLl := (topF_ok k2).len
    have hdl := k3.len
    have htk : d.take m = d := List.take_of_length_le (by omega)
    simp (disch := omega) only [go_sem]
    refine Br.ofP (fun c => ?_) (fun c => ?_)
    · obtain ⟨a1, a2⟩ := atL_least hdl (k3.zero_iff f4 (topF_ok k2))
      cases hr : (List.range m).any (fun (v : Nat) => ready es L v) with
      | false =>
        have := a2 hr
        simp (disch := omega) only [go_sem, htk]
        refine Br.ofP (fun c2 => ?_) (fun c2 => (c2 (by omega)).elim)
        simp (disch := omega) only [go_sem]
        rw [topRes_none k2 (by omega) hr]
      | true =>
        have ha := a1 hr
        have hnx := topF_next k2 hr
        obtain ⟨l1, l2, l3⟩ := least_ready hr
        have hKs := k3.step f4 (topF_ok k2) l1 l2 l3
        generalize leastN m (ready es L) = x at *
        have hxg := bump_get (d := d) l1 (by omega)
        have hsv : (succs m es)[x.toNat]? = some (nxt (succs m es) x) := by
          have : x.toNat < (succs m es).length := by rw [succs_len]; omega
          simp [nxt, this]
        obtain ⟨q1, q2⟩ := hok _ (List.mem_of_getElem? hsv)
        simp (disch := omega) only [go_sem, htk, ha]
        refine Br.ofP (fun c2 => absurd c2 (by omega)) (fun c2 => ?_)
        simp (disch := omega) only [go_sem, idxR_int, hsv]
        have hd0 : (d.set x.toNat (-1)).length = m := by rw [List.length_set, hdl]
        have hval : ∀ v : Nat, v < m → -1 ≤ (d.set x.toNat (-1)).getD v (-1) ∧ (d.set x.toNat (-1)).getD v (-1) ≤ 100000 * 12 := fun v hv => by
          have h := k3.val v hv
          have := pendF_le (f := pend (succs m es) L v) (m := 100000) (n := m) (fun u hu => by
            have hu2 := List.getElem?_eq_getElem (l := succs m es) (i := u) (by omega)
            have := (hok _ (List.getElem_mem (l := succs m es) (n := u) (by omega))).1
            unfold pend nxt
            simp only [List.getD_eq_getElem?_getD, Int.toNat_natCast, hu2, Option.getD_some]
            split
            · omega
            · exact Nat.le_trans List.count_le_length this)
          by_cases e : x.toNat = v
          · rw [← e]
            have : (d.set x.toNat (-1)).getD x.toNat (-1) = -1 := by simp [show x.toNat < d.length by omega]
            omega
          · have hg : (d.set x.toNat (-1)).getD v (-1) = d.getD v (-1) := by
              simp only [List.getD_eq_getElem?_getD, List.getElem?_set_ne e]
            rw [hg, h]
            split <;> omega
        generalize d.set x.toNat (-1) = d0 at *
        generalize nxt (succs m es) x = r at *
        refine W.fold r (bump (-1)) d0 (fun i d => ⟨[(7, .pv (.lst 0 (lls (succs m es)))), (8, .own 0 0 0 m), (13, grV 1 (ints (L ++ [x]))), (48, .pv (.int .i64 m)), (49, .pv (.int .i64 k)), (65, .pv (.lst 0 (ints r))), (66, .pv (.int .i64 r.length)), (67, .pv (.int .i64 i))], ⟨[], ⟨0, 1, .inl (ints d)⟩ :: grA 1 (ints (L ++ [x])), []⟩⟩) (fun _ _ => True) rfl trivial (fun i y d' hy hi hacc _ => ?_) (fun d' hacc _ => ?_)
        · obtain ⟨b1, b2⟩ := bump_fold (-1) (r.take i) d0 (by rw [hd0]; exact fun y hy => q2 y (List.mem_of_mem_take hy))
          rw [← hacc] at b1 b2
          obtain ⟨y0, y1⟩ := q2 y (List.mem_of_getElem? hy)
          have hv := b2 y.toNat (by omega)
          obtain ⟨v1, v2⟩ := hval y.toNat (by omega)
          have hct := List.count_le_length (a := ((y.toNat : Nat) : Int)) (l := r.take i)
          rw [List.length_take] at hct
          have hg := bump_get (d := d') y0 (by omega)
          have hbd : bump (-1) d' y = d'.set y.toNat (d'.getD y.toNat (-1) - 1) := rfl
          rw [hbd]
          generalize d'.getD y.toNat (-1) = z at *
          simp (disch := omega) only [go_sem]
          refine Br.ofP (fun c => ?_) (fun c => (c (by omega)).elim)
          simp (disch := omega) only [go_sem, hy, hg]
          exact foldK.of rfl trivial
        · simp (disch := omega) only [go_sem]
          rw [← hacc] at hKs
          exact ⟨(k + 1, L ++ [x], d'), ⟨by show k + 1 ≤ m; omega, hnx, hKs⟩, by show m - (k + 1) < m - k; omega, rfl⟩
    · obtain rfl : k = m := by omega
      simp (disch := omega) only [go_sem]
      rw [topRes_some k2]
end Go.Pv

/-
  Chapter 05: topological orders, as the document says; the law.
-/
namespace Go.Pv
theorem r375 (t : Nat) (l : List Int) (x : Int) (hl : l.length ≤ 2000000000) : res A PrA 375 [.lst t (ints l), .int .i64 x] = some [.bool (l.contains x)] := by
  refine res_of a375 rfl rfl ?_
  simp only [F375]
  simp (disch := omega) only [go_sem]
  refine W.find l (fun y => decide (y = x)) (fun k => ⟨[(0, .pv (.lst t (ints l))), (1, .pv (.int .i64 x)), (5, .pv (.int .i64 k))], ⟨[], [], []⟩⟩) rfl (fun k y hy hk hfd => ?_) (fun hn => ?_)
  · simp (disch := omega) only [go_sem]
    refine Br.ofP (fun h => ?_) (fun h => (h (by omega)).elim)
    simp (disch := omega) only [go_sem, hy]
    refine Br.ofP (fun h2 => ?_) (fun h2 => ?_) <;> simp (disch := omega) only [go_sem]
    · have : x ∈ l := by rw [← h2]; exact List.mem_of_getElem? hy
      simp [this]
    · exact findK.of (by simp [h2]) rfl
  · simp (disch := omega) only [go_sem]
    have : x ∉ l := fun hm => by
      have := List.any_eq_false.1 hn.any x hm
      simp at this
    simp [this]
def leads (n : Nat) (es : List (Int × Int)) (v w : Int) : Bool := decide (0 ≤ (distsTo n es [w]).getD v.toNat (-1))
theorem r373 (t : Nat) (n : Nat) (es : List (Int × Int)) (v w : Int) (hn : n ≤ 12) (hl : es.length ≤ 2 ^ 63 - 1) (hz : gErr n es = 0) (hv : 0 ≤ v ∧ v < n) (hw : 0 ≤ w ∧ w < n) : res A PrA 373 [.int .i64 n, .lst t (prs es), .int .i64 v, .int .i64 w] = some [.bool (leads n es v w)] := by
  refine res_of a373 rfl rfl ?_
  simp only [F373]
  obtain ⟨f1, f2, f3, f4⟩ := gErr_zero hz
  rw [Int.toNat_natCast] at f4
  have hbe : gErrL (n : Int) es [w] = 0 := by
    unfold gErrL
    rw [if_neg (by rw [hz]; decide)]
    simp only [List.any_cons, List.any_nil, Bool.or_false]
    rw [if_neg (by simp; omega)]
  have i1 : ints [w] = [[PV.int .i64 w]] := rfl
  have h350 := r350 t 0 n es [w] (by omega) hl (by show 1 ≤ 2000000000; decide)
  rw [if_pos hbe, Int.toNat_natCast, i1] at h350
  have hdl := distsTo_len (to := [w]) f4 (by omega) (fun x hx => by rw [List.mem_singleton.1 hx]; exact hw)
  unfold leads
  generalize distsTo n es [w] = d at *
  have hdv : d[v.toNat]? = some (d.getD v.toNat (-1)) := by
    have : v.toNat < d.length := by omega
    simp [this]
  generalize d.getD v.toNat (-1) = dv at *
  simp (disch := omega) only [go_sem, h350, idxR_int, hdv]
def cycB (n : Nat) (es : List (Int × Int)) : Bool := es.any fun e => leads n es e.2 e.1
theorem cycB_iff {n : Nat} {es : List (Int × Int)} : cycB n es = true ↔ Cyc n es := by
  unfold cycB leads Cyc
  rw [List.any_eq_true]
  simp only [decide_eq_true_eq]
theorem r360 (t : Nat) (n : Nat) (es : List (Int × Int)) (hn : n ≤ 12) (hl : es.length ≤ 2 ^ 63 - 1) (hz : gErr n es = 0) : res A PrA 360 [.int .i64 n, .lst t (prs es)] = some [.bool (cycB n es)] := by
  refine res_of a360 rfl rfl ?_
  simp only [F360]
  obtain ⟨f1, f2, f3, f4⟩ := gErr_zero hz
  rw [Int.toNat_natCast] at f4
  simp (disch := omega) only [go_sem]
  refine W.find es (fun e => leads n es e.2 e.1) (fun k => ⟨[(0, .pv (.int .i64 n)), (1, .pv (.lst t (prs es))), (5, .pv (.int .i64 k))], ⟨[], [], []⟩⟩) rfl (fun k e he hk hfd => ?_) (fun hn => ?_)
  · have hi := f4 e (List.mem_of_getElem? he)
    have h373 := r373 t n es e.2 e.1 hn hl hz hi.2 hi.1
    simp (disch := omega) only [go_sem]
    refine Br.ofP (fun h => ?_) (fun h => (h (by omega)).elim)
    simp (disch := omega) only [go_sem, he, h373]
    refine Br.of (fun h2 => ?_) (fun h2 => ?_) <;> simp (disch := omega) only [go_sem]
    · have : cycB n es = true := (hfd h2).any
      rw [this]
    · exact findK.of h2 rfl
  · simp (disch := omega) only [go_sem]
    have : cycB n es = false := hn.any
    rw [this]
theorem topRes_cyc {n : Nat} {es : List (Int × Int)} (hg : inG n es) (hl : es.length ≤ 100000) (h : cycB n es = true) : topRes n es = [.lst 0 [], .int .i64 9] := by
  unfold topRes
  cases hT : topF n es n with
  | none => rfl
  | some L => exact absurd (cycB_iff.1 h) (top_acyclic hg hl hT)
theorem topF_any {n : Nat} {es : List (Int × Int)} (hg : inG n es) (hl : es.length ≤ 100000) (h : cycB n es = false) {k : Nat} {L : List Int} (hL : topF n es k = some L) (hk : k < n) : (List.range n).any (fun (v : Nat) => ready es L v) = true := by
  cases hr : (List.range n).any (fun (v : Nat) => ready es L v) with
  | true => rfl
  | false =>
    have := cycB_iff.2 (stuck_cyclic hg hl hL hk hr)
    rw [h] at this
    cases this
end Go.Pv

/-
  Chapter 05: Tarjan's visit.
-/
namespace Go.Pv
def cellsT (n : Nat) (rows : List (List Int)) (stkV csV : V) (cnt : Int) : List V := [.pv (.lst 0 (lls rows)), .own 0 1 0 n, .own 1 1 0 n, stkV, .own 2 1 0 n, .pv (.int .i64 cnt), csV]
def arsT (σ : Fin) (rest : List Arr) : List Arr := ⟨1, 1, .inl (ints σ.num)⟩ :: ⟨1, 1, .inl (ints σ.low)⟩ :: ⟨1, 1, .inl (bools σ.on)⟩ :: rest
def StkR (rest : List Arr) (x : V) (l : List Int) : Prop := (x = .tl [] ∧ l = []) ∨ ∃ id ver junk, x = .own (id + 3) ver 0 l.length ∧ rest[id]? = some ⟨ver, 1, .inl (ints (l ++ junk))⟩
def CompR (rest : List Arr) (sx : V) (x : V) (l : List Int) : Prop := ∃ id ver, x = .own (id + 3) ver 0 l.length ∧ rest[id]? = some ⟨ver, 1, .inl (ints l)⟩ ∧ ownId sx ≠ some (id + 3)
def CsR (rest : List Arr) (sx x : V) (cs : List (List Int)) : Prop := (x = .tl [] ∧ cs = []) ∨ ∃ id ver xs, x = .own (id + 3) ver 0 cs.length ∧ rest[id]? = some ⟨ver, 1, .inr (rowsV xs)⟩ ∧ xs.length = cs.length ∧ ∀ (j : Nat) (y : V) (l : List Int), xs[j]? = some y → cs[j]? = some l → CompR rest sx y l
structure TRep (n : Nat) (σ : Fin) (rest : List Arr) (sx cx : V) : Prop where
  stk : StkR rest sx σ.stk
  cs : CsR rest sx cx σ.cs
  cu : σ.cnt + unv n σ ≤ n
theorem CsR.set {rest : List Arr} {cx : V} {cs : List (List Int)} {id ver ver' m m' : Nat} {l l' : List Int} (h : CsR rest (.own (id + 3) ver 0 m) cx cs) (hs : rest[id]? = some ⟨ver, 1, .inl (ints l)⟩) : CsR (rest.set id ⟨ver', 1, .inl (ints l')⟩) (.own (id + 3) ver' 0 m') cx cs := by
  rcases h with h | ⟨ci, cv, xs, h1, h2, h3, h4⟩
  · exact .inl h
  · have hne : id ≠ ci := fun e => by
      subst e
      rw [hs] at h2
      injection h2 with h2
      injection h2 with _ _ h2
      cases h2
    refine .inr ⟨ci, cv, xs, h1, by rw [List.getElem?_set_ne hne]; exact h2, h3, fun j y l hy hl => ?_⟩
    obtain ⟨i, w, g1, g2, g3⟩ := h4 j y l hy hl
    have hni : id ≠ i := fun e => g3 (by rw [e]; rfl)
    exact ⟨i, w, g1, by rw [List.getElem?_set_ne hni]; exact g2, by
      intro e
      simp only [ownId, Option.some.injEq] at e
      omega⟩
theorem CsR.born {rest : List Arr} {cx : V} {cs : List (List Int)} {a : Arr} {m : Nat} (h : CsR rest (.tl []) cx cs) : CsR (rest ++ [a]) (.own (rest.length + 3) 0 0 m) cx cs := by
  rcases h with h | ⟨ci, cv, xs, h1, h2, h3, h4⟩
  · exact .inl h
  · have hlt := (List.getElem?_eq_some_iff.1 h2).1
    refine .inr ⟨ci, cv, xs, h1, by rw [List.getElem?_append_left hlt]; exact h2, h3, fun j y l hy hl => ?_⟩
    obtain ⟨i, w, g1, g2, g3⟩ := h4 j y l hy hl
    have hlt := (List.getElem?_eq_some_iff.1 g2).1
    exact ⟨i, w, g1, by rw [List.getElem?_append_left hlt]; exact g2, by
      intro e
      simp only [ownId, Option.some.injEq] at e
      omega⟩
theorem CompR.push {rest : List Arr} {sx x : V} {l : List Int} (h : CompR rest sx x l) (a : List Arr) : CompR (rest ++ a) sx x l := by
  obtain ⟨i, w, g1, g2, g3⟩ := h
  exact ⟨i, w, g1, by rw [List.getElem?_append_left (List.getElem?_eq_some_iff.1 g2).1]; exact g2, g3⟩
theorem CompR.sx {rest : List Arr} {sx sx' x : V} {l : List Int} (h : CompR rest sx x l) (he : ownId sx' = ownId sx) : CompR rest sx' x l := by
  obtain ⟨i, w, g1, g2, g3⟩ := h
  exact ⟨i, w, g1, g2, by rw [he]; exact g3⟩
theorem CompR.setI {rest : List Arr} {sx x : V} {l : List Int} {ci cv : Nat} {r : List (List V)} {a : Arr} (h : CompR rest sx x l) (hc : rest[ci]? = some ⟨cv, 1, .inr r⟩) : CompR (rest.set ci a) sx x l := by
  obtain ⟨i, w, g1, g2, g3⟩ := h
  refine ⟨i, w, g1, ?_, g3⟩
  rw [List.getElem?_set_ne]
  · exact g2
  · intro e
    subst e
    rw [hc] at g2
    injection g2 with g2
    injection g2 with _ _ g2
    cases g2
theorem TInv.cs_le {n : Nat} {nx : Int → List Int} {G : List Int} {s : Fin} (h : TInv n nx G s) : s.cs.length ≤ n := by
  have hd : (s.cs.map fun C => C.headD 0).Nodup := by
    rw [List.nodup_iff_pairwise_ne, List.pairwise_map]
    refine h.dis.imp_of_mem fun {C D} hC hD hx e => ?_
    obtain ⟨c, C', rfl⟩ := List.exists_cons_of_ne_nil (h.cs C hC).1
    obtain ⟨d, D', rfl⟩ := List.exists_cons_of_ne_nil (h.cs D hD).1
    have e : c = d := e
    exact hx c (by simp) (by simp [e])
  have := nodup_bound (n := n) hd (fun x hx => by
    obtain ⟨C, hC, rfl⟩ := List.mem_map.1 hx
    obtain ⟨c, C', rfl⟩ := List.exists_cons_of_ne_nil (h.cs C hC).1
    exact (((h.cs _ hC).2.2 c (by simp)).1).1)
  rwa [List.length_map] at this
theorem apI_junk {id ver : Nat} {l junk : List Int} {v : Int} (h : l.length + 1 ≤ 2147483648) : apI id ver 0 l.length v ⟨ver, 1, .inl (ints (l ++ junk))⟩ = some (.own id (ver + 1) 0 (l.length + 1), { ar := some (id, ⟨ver + 1, 1, .inl (ints (l ++ [v]))⟩) }) := by
  have h1 : 0 + l.length ≤ (⟨ver, 1, .inl (ints (l ++ junk))⟩ : Arr).size := by simp [Arr.size, ints]
  unfold apI
  rw [if_pos ⟨h1, rfl, by unfold mostRows; omega⟩]
  have : cutRows 0 l.length (.inl (ints (l ++ junk))) = .inl (ints l) := by
    simp [cutRows, ints]
  rw [this]
  simp [catRows, ints]
def AC.sec : Nat → AC → AC
  | 0, a => a
  | n + 1, .seq _ b => AC.sec n b
  | _ + 1, a => a
def AC.hd : AC → AC
  | .seq a _ => a
  | a => a
def tail370 : AC := AC.sec 3 F370.body
def fin370 : AC := AC.sec 4 F370.body
theorem body370 : F370.body = .seq (AC.hd F370.body) (.seq (AC.hd (AC.sec 1 F370.body)) (.seq (AC.hd (AC.sec 2 F370.body)) tail370)) := rfl
theorem body370b : tail370 = .seq (AC.hd (AC.sec 3 F370.body)) fin370 := rfl
theorem at0_get {l : List Int} {v : Int} {n : Nat} (hl : l.length = n) (h : 0 ≤ v ∧ v < n) : l[v.toNat]? = some (at0 l v) := by
  have : v.toNat < l.length := by omega
  simp [at0, this]
theorem on_get {l : List Bool} {v : Int} {n : Nat} (hl : l.length = n) (h : 0 ≤ v ∧ v < n) : l[v.toNat]? = some (l.getD v.toNat false) := by
  have : v.toNat < l.length := by omega
  simp [this]
theorem clone_own {h : Heap} {id ver off len : Nat} {l : List Int} (ho : ownArr h id ver = some ⟨ver, 1, .inl (ints l)⟩) (hb : off + len ≤ l.length) (h0 : len ≠ 0) (hm : len ≤ 2147483648) : cloneP 1 [.own id ver off len] h = some (.own h.ar.length 0 0 len, { push := [⟨0, 1, .inl (ints ((l.drop off).take len))⟩], ra := some id, base := h.ar.length }) := by
  have h1 : off + len ≤ (⟨ver, 1, .inl (ints l)⟩ : Arr).size := by simpa [Arr.size, ints] using hb
  have h2 : cutRows off len (.inl (ints l)) = .inl (ints ((l.drop off).take len)) := by simp [cutRows, ints, List.map_drop, List.map_take]
  have h3 : (ints ((l.drop off).take len)).length = len := by rw [ints_length, List.length_take, List.length_drop]; omega
  have h4 : rowsFit 1 (.inl (ints ((l.drop off).take len))) = true := by
    simp only [rowsFit, List.all_eq_true, beq_iff_eq]
    intro r hr
    obtain ⟨y, _, rfl⟩ := List.mem_map.1 hr
    rfl
  simp [cloneP, srcRows, ho, h2, h3, h4, h0, mostRows, hm]
theorem app_row0 {h : Heap} {lid : Nat} {y : V} (hl : ownArr h lid 0 = some ⟨0, 1, .inr [[y]]⟩) : appendV h 1 (.tl []) (.own lid 0 0 1) = some (.own h.ar.length 0 0 1, { push := [⟨0, 1, .inr (rowsV [y])⟩], ra := some lid, base := h.ar.length }) := by
  simp [appendV, srcRows, hl, cutRows, rowsFit, rowsLen, catRows, mostRows, rowsV]
theorem app_row1 {h : Heap} {lid id ver m : Nat} {y : V} {xs : List V} (hl : ownArr h lid 0 = some ⟨0, 1, .inr [[y]]⟩) (ho : ownArr h id ver = some ⟨ver, 1, .inr (rowsV xs)⟩) (hx : xs.length = m) (hm : m + 1 ≤ 2147483648) (hne : lid ≠ id) : appendV h 1 (.own id ver 0 m) (.own lid 0 0 1) = some (.own id (ver + 1) 0 (m + 1), { ar := some (id, ⟨ver + 1, 1, .inr (rowsV (xs ++ [y]))⟩), ra := some lid }) := by
  have h1 : m ≤ (⟨ver, 1, .inr (rowsV xs)⟩ : Arr).size := by simp [Arr.size, rowsV, hx]
  have h2 : (rowsV xs).take m = rowsV xs := List.take_of_length_le (by simp [rowsV, hx])
  simp [appendV, srcRows, hl, ho, cutRows, rowsFit, rowsLen, catRows, mostRows, h1, hm, hne, h2]
  simp [rowsV]
set_option maxHeartbeats 8000000 in
theorem fin_run (n : Nat) (rows : List (List Int)) (hn12 : n ≤ 2000) {G : List Int} {s : Fin} {v : Int} {rest : List Arr} {sx cx x1 x2 x3 x4 : V} {Q : Ex → St → Prop} (hI : TInv n (nxt rows) G s) (hv : 0 ≤ v ∧ v < n) (hvs : v ∈ s.stk) (hR : TRep n s rest sx cx)
    (hQ : ∀ (ex : Ex) (env : List (Nat × V)) (rest' : List Arr) (sx' cx' : V), (ex = .normal ∨ ex = .ret) → TRep n (s.fin v) rest' sx' cx' → Q ex ⟨env, ⟨[(200000, cellsT n rows sx' cx' (s.fin v).cnt)], arsT (s.fin v) rest', []⟩⟩) :
    W A PrA fin370 ⟨[(0, .ptr 200000 0), (1, .pv (.int .i64 v)), (59, x1), (60, x2), (61, x3), (62, x4)], ⟨[(200000, cellsT n rows sx cx s.cnt)], arsT s rest, []⟩⟩ Q := by
  have hnv := at0_get hI.ln hv
  have hlv := at0_get hI.ll hv
  have hln := hI.ln
  have hll := hI.ll
  have hlo := hI.lo
  unfold Fin.fin at hQ
  simp only [fin370, AC.sec, F370, cellsT, arsT]
  simp (disch := omega) only [go_sem, hnv, hlv]
  refine Br.ofP (fun c => ?_) (fun c => ?_)
  · rw [if_pos c] at hQ
    simp (disch := omega) only [go_sem]
    exact hQ .ret _ _ _ _ (.inr rfl) hR
  · rw [if_neg c] at hQ
    obtain ⟨sid, sver, junk, rfl, hst⟩ : ∃ id ver junk, sx = .own (id + 3) ver 0 s.stk.length ∧ rest[id]? = some ⟨ver, 1, .inl (ints (s.stk ++ junk))⟩ := by
      rcases hR.stk with ⟨_, h⟩ | h
      · rw [h] at hvs
        cases hvs
      · exact h
    have htk : List.take s.stk.length (s.stk ++ junk) = s.stk := by simp
    have hskl : s.stk.length ≤ n := by
      refine nodup_bound ?_ (fun x hx => (hI.stv x hx).1)
      rw [List.nodup_iff_pairwise_ne]
      exact hI.asc.imp fun {a b} hab e => by rw [e] at hab; omega
    obtain ⟨j, hj, hjv⟩ := atL_get hvs
    have hjl := (List.getElem?_eq_some_iff.1 hjv).1
    have hcl : ((s.stk ++ junk).drop j).take (s.stk.length - j) = s.stk.drop j := by
      rw [List.drop_append_of_le_length (by omega), List.take_append_of_le_length (by simp), List.take_of_length_le (by simp)]
    have hCl : (s.stk.drop j).length = s.stk.length - j := by simp
    have hCr : ∀ x ∈ s.stk.drop j, 0 ≤ x ∧ x < (n : Int) := fun x hx => (hI.stv x (List.mem_of_mem_drop hx)).1
    have hclone := fun (bx : List (Nat × List V)) => clone_own (h := ⟨bx, ⟨1, 1, .inl (ints s.num)⟩ :: ⟨1, 1, .inl (ints s.low)⟩ :: ⟨1, 1, .inl (bools s.on)⟩ :: rest, []⟩) (id := sid + 3) (ver := sver) (off := j) (len := s.stk.length - j) (l := s.stk ++ junk) (by simp [ownArr, hst]) (by simp; omega) (by omega) (by omega)
    rw [hcl] at hclone
    have hpop : s.pop v = { s with stk := s.stk.take j, on := (s.stk.drop j).foldl (fun o w => o.set w.toNat false) s.on, cs := s.cs ++ [isort ltI (s.stk.drop j)] } := by
      unfold Fin.pop
      rw [hj, Int.toNat_natCast]
    rw [hpop] at hQ
    generalize hC : s.stk.drop j = C at *
    have hst2 : (rest ++ [⟨0, 1, .inl (ints C)⟩])[sid]? = some ⟨sver, 1, .inl (ints (s.stk ++ junk))⟩ := by rw [List.getElem?_append_left (List.getElem?_eq_some_iff.1 hst).1]; exact hst
    simp (disch := omega) only [go_sem, hst, htk, hj, hclone, hst2]
    have hcat : (rest ++ [(⟨0, 1, .inl (ints C)⟩ : Arr)])[rest.length]? = some ⟨0, 1, .inl (ints C)⟩ := by simp
    rw [← hCl]
    refine W.fold C (fun o w => o.set w.toNat false) s.on (fun i o => ⟨[(0, .ptr 200000 0), (7, .own (rest.length + 1 + 1 + 1) 0 0 C.length), (163, .own (rest.length + 1 + 1 + 1) 0 0 C.length), (164, .pv (.int .i64 C.length)), (165, .pv (.int .i64 i))],
      ⟨[(200000, [.pv (.lst 0 (lls rows)), .own 0 1 0 n, .own 1 1 0 n, .own (sid + 3) sver 0 j, .own 2 1 0 n, .pv (.int .i64 s.cnt), cx])], ⟨1, 1, .inl (ints s.num)⟩ :: ⟨1, 1, .inl (ints s.low)⟩ :: ⟨1, 1, .inl (bools o)⟩ :: (rest ++ [⟨0, 1, .inl (ints C)⟩]), []⟩⟩) (fun _ o => o.length = n) rfl hlo (fun i w o hw hi _ ho => ?_) (fun o hacc ho => ?_)
    · have hwr := hCr w (List.mem_of_getElem? hw)
      simp (disch := omega) only [go_sem]
      refine Br.ofP (fun c => ?_) (fun c => (c (by omega)).elim)
      simp (disch := omega) only [go_sem, hcat, hw]
      exact foldK.of rfl (by rw [List.length_set, ho])
    · have hset : (rest ++ [(⟨0, 1, .inl (ints C)⟩ : Arr)]).set rest.length ⟨0, 1, .inl (ints (isort ltI C))⟩ = rest ++ [⟨0, 1, .inl (ints (isort ltI C))⟩] := by simp
      simp (disch := omega) only [go_sem, hcat, hset]
      have hlit : ∀ bx, ownArr ⟨bx, ⟨1, 1, .inl (ints s.num)⟩ :: ⟨1, 1, .inl (ints s.low)⟩ :: ⟨1, 1, .inl (bools o)⟩ :: (rest ++ [⟨0, 1, .inl (ints (isort ltI C))⟩] ++ [⟨0, 1, .inr [[V.own (rest.length + 1 + 1 + 1) 0 0 C.length]]⟩]), []⟩ (rest.length + 1 + 1 + 1 + 1) 0 = some ⟨0, 1, .inr [[V.own (rest.length + 1 + 1 + 1) 0 0 C.length]]⟩ := fun bx => by
        simp [ownArr]
      have hIl : (isort ltI C).length = C.length := (isort_perm ltI C).length_eq
      have hcsl := hI.cs_le
      rw [← hacc] at hQ
      have htl : (s.stk.take j).length = j := by rw [List.length_take]; omega
      have hjk : s.stk ++ junk = s.stk.take j ++ (C ++ junk) := by rw [← List.append_assoc, ← hC, List.take_append_drop]
      have hS : ∀ (r : List Arr), StkR (rest ++ r) (.own (sid + 3) sver 0 j) (s.stk.take j) := fun r => .inr ⟨sid, sver, C ++ junk, by rw [htl], by rw [List.getElem?_append_left (List.getElem?_eq_some_iff.1 hst).1, hst, hjk]⟩
      have hnew : CompR (rest ++ ([⟨0, 1, .inl (ints (isort ltI C))⟩] ++ [⟨0, 1, .inr [[V.own (rest.length + 1 + 1 + 1) 0 0 C.length]]⟩])) (.own (sid + 3) sver 0 j) (V.own (rest.length + 1 + 1 + 1) 0 0 C.length) (isort ltI C) := ⟨rest.length, 0, by rw [hIl], by simp, by
        have := (List.getElem?_eq_some_iff.1 hst).1
        intro e
        simp only [ownId, Option.some.injEq] at e
        omega⟩
      rcases hR.cs with ⟨rfl, hcs⟩ | ⟨ci, cv, xs, rfl, hc1, hc2, hc3⟩
      · simp (disch := omega) only [go_sem, app_row0 (hlit _)]
        refine hQ .normal [] _ _ _ (.inl rfl) ⟨?_, ?_, hR.cu⟩
        · rw [List.append_assoc, List.append_assoc]
          exact hS _
        · rw [hcs, List.append_assoc]
          refine .inr ⟨rest.length + 2, 0, [V.own (rest.length + 1 + 1 + 1) 0 0 C.length], rfl, by simp, rfl, fun i y l hy hl => ?_⟩
          cases i with
          | zero =>
            cases hy
            cases hl
            simpa only [List.append_assoc] using hnew.push [⟨0, 1, .inr (rowsV [V.own (rest.length + 1 + 1 + 1) 0 0 C.length])⟩]
          | succ i => simp at hy
      · have hci : ∀ bx, ownArr ⟨bx, ⟨1, 1, .inl (ints s.num)⟩ :: ⟨1, 1, .inl (ints s.low)⟩ :: ⟨1, 1, .inl (bools o)⟩ :: (rest ++ [⟨0, 1, .inl (ints (isort ltI C))⟩] ++ [⟨0, 1, .inr [[V.own (rest.length + 1 + 1 + 1) 0 0 C.length]]⟩]), []⟩ (ci + 3) cv = some ⟨cv, 1, .inr (rowsV xs)⟩ := fun bx => by
          have hlt := (List.getElem?_eq_some_iff.1 hc1).1
          have : (rest ++ [(⟨0, 1, .inl (ints (isort ltI C))⟩ : Arr)] ++ [⟨0, 1, .inr [[V.own (rest.length + 1 + 1 + 1) 0 0 C.length]]⟩])[ci]? = some ⟨cv, 1, .inr (rowsV xs)⟩ := by
            rw [List.append_assoc, List.getElem?_append_left hlt]
            exact hc1
          simp only [ownArr, List.getElem?_cons_succ, this]
          simp
        have hlt := (List.getElem?_eq_some_iff.1 hc1).1
        simp (disch := omega) only [go_sem, app_row1 (hlit _) (hci _) hc2 (by omega) (by omega)]
        rw [List.append_assoc]
        refine hQ .normal [] _ _ _ (.inl rfl) ⟨?_, ?_, hR.cu⟩
        · have hne : sid ≠ ci := fun e => by
            subst e
            rw [hst] at hc1
            injection hc1 with hc1
            injection hc1 with _ _ hc1
            cases hc1
          rcases hS ([⟨0, 1, .inl (ints (isort ltI C))⟩] ++ [⟨0, 1, .inr [[V.own (rest.length + 1 + 1 + 1) 0 0 C.length]]⟩]) with ⟨q, _⟩ | ⟨i, w, jk, q1, q2⟩
          · cases q
          · refine .inr ⟨i, w, jk, q1, ?_⟩
            have : i = sid := by
              injection q1 with q1
              omega
            subst this
            rw [List.getElem?_set_ne (Ne.symm hne)]
            exact q2
        · refine .inr ⟨ci, cv + 1, xs ++ [V.own (rest.length + 1 + 1 + 1) 0 0 C.length], by simp, by rw [List.getElem?_set_self (by simp; omega)], by simp [hc2], fun i y l hy hl => ?_⟩
          have hcA : (rest ++ ([(⟨0, 1, .inl (ints (isort ltI C))⟩ : Arr)] ++ [⟨0, 1, .inr [[V.own (rest.length + 1 + 1 + 1) 0 0 C.length]]⟩]))[ci]? = some ⟨cv, 1, .inr (rowsV xs)⟩ := by
            rw [List.getElem?_append_left hlt]
            exact hc1
          rcases Nat.lt_or_ge i s.cs.length with hlt2 | hge
          · rw [List.getElem?_append_left (by omega)] at hy
            have hl : (s.cs ++ [isort ltI C])[i]? = some l := hl
            rw [List.getElem?_append_left hlt2] at hl
            exact (((hc3 i y l hy hl).sx (sx' := .own (sid + 3) sver 0 j) rfl).push _).setI hcA
          · have hl : (s.cs ++ [isort ltI C])[i]? = some l := hl
            have : i = s.cs.length := by
              rcases Nat.lt_or_ge i (s.cs.length + 1) with q | q
              · omega
              · rw [List.getElem?_eq_none (by simp; omega)] at hl
                cases hl
            subst this
            rw [List.getElem?_append_right (by omega)] at hy hl
            simp only [hc2, Nat.sub_self, List.getElem?_cons_zero] at hy hl
            cases hy
            cases hl
            exact hnew.setI hcA
def Flat (x : V) : Prop := x = .tl [] ∨ ∃ a b c, x = .own a b 0 c
theorem StkR.flat {rest : List Arr} {x : V} {l : List Int} (h : StkR rest x l) : Flat x := by
  rcases h with ⟨h, _⟩ | ⟨id, ver, _, h, _⟩
  · exact .inl h
  · exact .inr ⟨_, _, _, h⟩
theorem CsR.flat {rest : List Arr} {sx x : V} {l : List (List Int)} (h : CsR rest sx x l) : Flat x := by
  rcases h with ⟨h, _⟩ | ⟨id, ver, _, h, _⟩
  · exact .inl h
  · exact .inr ⟨_, _, _, h⟩
theorem call370 {n : Nat} {rows : List (List Int)} {sx cx : V} {cnt : Int} {ars : List Arr} {v : Int} {K : V → Tn → Prop} (h1 : Flat sx) (h2 : Flat cx) (h : W A PrA F370.body ⟨[(0, .ptr 200000 0), (1, .pv (.int .i64 v))], ⟨[(200000, cellsT n rows sx cx cnt)], ars, []⟩⟩ (inlK [] [200000] K)) : IW A PrA 370 [.ptr 200000 0, .pv (.int .i64 v)] ⟨[(200000, cellsT n rows sx cx cnt)], ars, []⟩ K := by
  rw [IW_eq a370]
  rcases h1 with rfl | ⟨a, b, c, rfl⟩ <;> rcases h2 with rfl | ⟨a', b', c', rfl⟩ <;> exact ⟨rfl, _, rfl, _, rfl, h⟩
theorem back370 {n : Nat} {rows : List (List Int)} {sx cx : V} {cnt : Int} {ars : List Arr} {env : List (Nat × V)} {ex : Ex} {K : V → Tn → Prop} (hex : ex = .normal ∨ ex = .ret) (h1 : Flat sx) (h2 : Flat cx) (h : K (.tup []) { all := some ([(200000, cellsT n rows sx cx cnt)], ars, []) }) : inlK [] [200000] K .mk ex ⟨env, ⟨[(200000, cellsT n rows sx cx cnt)], ars, []⟩⟩ := by
  rcases hex with rfl | rfl <;> rcases h1 with rfl | ⟨a, b, c, rfl⟩ <;> rcases h2 with rfl | ⟨a', b', c', rfl⟩ <;> exact ⟨_, rfl, _, rfl, _, rfl, h⟩
theorem see_fold {rec : Int → Fin → Fin} {v : Int} {s0 : Fin} {r : List Int} {j : Nat} {w : Int} (h : r[j]? = some w) : (r.take (j + 1)).foldl (Fin.see rec v) s0 = ((r.take j).foldl (Fin.see rec v) s0).see rec v w := by
  rw [List.take_add_one, h, List.foldl_append]
  rfl
set_option maxHeartbeats 8000000 in
theorem visit_run (n : Nat) (rows : List (List Int)) (hrl : rows.length = n) (hn12 : n ≤ 2000) (hrows : ∀ l ∈ rows, l.length ≤ 100000 ∧ ∀ x ∈ l, 0 ≤ x ∧ x < (n : Int)) (hn : ∀ w x, x ∈ nxt rows w → 0 ≤ x ∧ x < (n : Int)) :
    ∀ (k : Nat) (G : List Int) (σ : Fin) (v : Int) (rest : List Arr) (sx cx : V) (Q : Ex → St → Prop), unv n σ ≤ k → TInv n (nxt rows) G σ → 0 ≤ v ∧ v < n → at0 σ.num v = 0 → (∀ g ∈ G, Rch (nxt rows) g v) → TRep n σ rest sx cx →
    (∀ (ex : Ex) (env : List (Nat × V)) (rest' : List Arr) (sx' cx' : V), (ex = .normal ∨ ex = .ret) → TRep n (visit (nxt rows) k v σ) rest' sx' cx' → Q ex ⟨env, ⟨[(200000, cellsT n rows sx' cx' (visit (nxt rows) k v σ).cnt)], arsT (visit (nxt rows) k v σ) rest', []⟩⟩) →
    W A PrA F370.body ⟨[(0, .ptr 200000 0), (1, .pv (.int .i64 v))], ⟨[(200000, cellsT n rows sx cx σ.cnt)], arsT σ rest, []⟩⟩ Q
  | 0, G, σ, v, rest, sx, cx, Q, hk, hI, hv, hz, hr, hR, hQ => by
    have := unv_lt (n := n) (s := σ) (t := σ.push v) (v := v) (fun w w0 w1 q => by rw [hI.num_push hv w0]; have := hI.c0; split <;> omega) hv.1 hv.2 hz (by rw [hI.num_push hv hv.1, if_pos rfl]; have := hI.c0; omega)
    omega
  | k + 1, G, σ, v, rest, sx, cx, Q, hk, hI, hv, hz, hr, hR, hQ => by
    have hc0 := hI.c0
    have hcu := hR.cu
    have hlt := unv_lt (n := n) (s := σ) (t := σ.push v) (v := v) (fun w w0 w1 q => by rw [hI.num_push hv w0]; split <;> omega) hv.1 hv.2 hz (by rw [hI.num_push hv hv.1, if_pos rfl]; omega)
    have hvis : visit (nxt rows) (k + 1) v σ = ((nxt rows v).foldl (Fin.see (visit (nxt rows) k) v) (σ.push v)).fin v := rfl
    rw [hvis] at hQ
    have hstart := TLoop.start hI hv hz hr hn
    have hsv : rows[v.toNat]? = some (nxt rows v) := by
      have : v.toNat < rows.length := by omega
      simp [nxt, this]
    have hrr := hrows _ (List.mem_of_getElem? hsv)
    have hln := hI.ln
    have hll := hI.ll
    have hlo := hI.lo
    have hskl : σ.stk.length ≤ n := by
      refine nodup_bound ?_ (fun x hx => (hI.stv x hx).1)
      rw [List.nodup_iff_pairwise_ne]
      exact hI.asc.imp fun {a b} hab e => by rw [e] at hab; omega
    have main : ∀ rest1 sx1, TRep n (σ.push v) rest1 sx1 cx → W A PrA tail370 ⟨[(0, .ptr 200000 0), (1, .pv (.int .i64 v))], ⟨[(200000, cellsT n rows sx1 cx (σ.cnt + 1))], arsT (σ.push v) rest1, []⟩⟩ Q := by
      intro rest1 sx1 hR1
      have hnx : ∀ w ∈ nxt rows v, 0 ≤ w ∧ w < (n : Int) := fun w hw => hn v w hw
      generalize hrv : nxt rows v = r at *
      rw [body370b]
      simp only [AC.hd, AC.sec, F370, cellsT, arsT]
      simp (disch := omega) only [go_sem, idxR_int, hsv]
      refine W.loop (α := Nat × Fin × List Arr × V × V) (fun q => ⟨[(0, .ptr 200000 0), (1, .pv (.int .i64 v)), (59, .pv (.lst 0 (ints r))), (60, .pv (.int .i64 r.length)), (61, .pv (.int .i64 q.1))], ⟨[(200000, cellsT n rows q.2.2.2.1 q.2.2.2.2 q.2.1.cnt)], arsT q.2.1 q.2.2.1, []⟩⟩)
        (fun q => q.1 ≤ r.length ∧ q.2.1 = (r.take q.1).foldl (Fin.see (visit (nxt rows) k) v) (σ.push v) ∧ (∃ seg, TLoop n (nxt rows) G v σ q.2.1 seg (r.take q.1)) ∧ TRep n q.2.1 q.2.2.1 q.2.2.2.1 q.2.2.2.2) (fun q => r.length - q.1) (0, σ.push v, rest1, sx1, cx) rfl ⟨Nat.zero_le _, rfl, ⟨[], hstart⟩, hR1⟩ fun q hq => ?_
      obtain ⟨j, s, rest2, sx2, cx2⟩ := q
      obtain ⟨hj, hs, ⟨seg, hL⟩, hR2⟩ := hq
      dsimp only at hj hs hL hR2
      simp only [cellsT, arsT]
      simp (disch := omega) only [go_sem]
      refine Br.ofP (fun c => ?_) (fun c => ?_)
      · have hw := List.getElem?_eq_getElem (l := r) (i := j) (by omega)
        generalize r[j]'(by omega) = w at hw
        have hwr := hnx w (List.mem_of_getElem? hw)
        have hsee := see_fold (rec := visit (nxt rows) k) (v := v) (s0 := σ.push v) hw
        rw [← hs] at hsee
        have hnw := at0_get hL.inv.ln hwr
        have htk : r.take (j + 1) = r.take j ++ [w] := by rw [List.take_add_one, hw]; rfl
        simp (disch := omega) only [go_sem, hw, idxR_int, hnw]
        refine Br.ofP (fun c2 => ?_) (fun c2 => ?_)
        · have hunv : unv n s ≤ k := by
            have := unv_lt (n := n) (s := σ) (t := s) (v := v) (fun w w0 w1 q => hL.ext.mono w0 w1 q) hv.1 hv.2 hz (by rw [hL.nu]; omega)
            omega
          have hrw : ∀ g ∈ G ++ [v], Rch (nxt rows) g w := fun g hg => by
            have hwr2 : w ∈ nxt rows v := by rw [hrv]; exact List.mem_of_getElem? hw
            rcases List.mem_append.1 hg with hg | hg
            · exact .step (hr g hg) hwr2
            · rw [List.mem_singleton.1 hg]
              exact .head hwr2 .refl
          have hok := visit_ok hn k w s (G ++ [v]) hunv hL.inv hwr c2 hrw
          have hLs := hL.see hI hv hr (by rw [hrv]; exact List.mem_of_getElem? hw) hwr (rec := visit (nxt rows) k) (fun _ => hok)
          simp (disch := omega) only [go_sem]
          refine call370 hR2.stk.flat hR2.cs.flat (visit_run n rows hrl hn12 hrows hn k (G ++ [v]) s w rest2 sx2 cx2 _ hunv hL.inv hwr c2 hrw hR2 fun ex env rest' sx' cx' hex hR' => back370 hex hR'.stk.flat hR'.cs.flat ?_)
          have hsv2 : s.see (visit (nxt rows) k) v w = (visit (nxt rows) k w s).lower v (at0 (visit (nxt rows) k w s).low w) := by
            unfold Fin.see
            rw [if_pos c2]
          rw [hsv2] at hsee hLs
          obtain ⟨_, hTI, _, _, _⟩ := hok
          generalize visit (nxt rows) k w s = t at *
          have hlv := at0_get hTI.ll hv
          have hlw := at0_get hTI.ll hwr
          have htll := hTI.ll
          have hlwr : t.lower v (at0 t.low w) = { t with low := t.low.set v.toNat (min (at0 t.low v) (at0 t.low w)) } := rfl
          simp only [cellsT, arsT]
          simp (disch := omega) only [go_sem, hlv, hlw]
          obtain ⟨seg', hLs⟩ := hLs
          exact ⟨(j + 1, t.lower v (at0 t.low w), rest', sx', cx'), ⟨by show j + 1 ≤ r.length; omega, hsee.symm, ⟨_, by rw [htk]; exact hLs⟩, hR'.stk, hR'.cs, hR'.cu⟩, by show r.length - (j + 1) < r.length - j; omega, rfl⟩
        · have hon := on_get hL.inv.lo hwr
          have hsv2 : s.see (visit (nxt rows) k) v w = if s.on.getD w.toNat false = true then s.lower v (at0 s.num w) else s := by
            unfold Fin.see
            rw [if_neg c2]
          have hLs := hL.see hI hv hr (by rw [hrv]; exact List.mem_of_getElem? hw) hwr (rec := visit (nxt rows) k) (fun q => absurd q c2)
          rw [hsv2] at hsee hLs
          have hlv := at0_get hL.inv.ll hv
          have hsll := hL.inv.ll
          simp (disch := omega) only [go_sem, hon]
          refine Br.of (fun c3 => ?_) (fun c3 => ?_)
          · rw [if_pos c3] at hsee hLs
            simp (disch := omega) only [go_sem, hlv, hnw]
            obtain ⟨seg', hLs⟩ := hLs
            exact ⟨(j + 1, s.lower v (at0 s.num w), rest2, sx2, cx2), ⟨by show j + 1 ≤ r.length; omega, hsee.symm, ⟨_, by rw [htk]; exact hLs⟩, hR2.stk, hR2.cs, hR2.cu⟩, by show r.length - (j + 1) < r.length - j; omega, rfl⟩
          · rw [if_neg (by rw [c3]; exact Bool.false_ne_true)] at hsee hLs
            simp (disch := omega) only [go_sem]
            obtain ⟨seg', hLs⟩ := hLs
            exact ⟨(j + 1, s, rest2, sx2, cx2), ⟨by show j + 1 ≤ r.length; omega, hsee.symm, ⟨_, by rw [htk]; exact hLs⟩, hR2⟩, by show r.length - (j + 1) < r.length - j; omega, rfl⟩
      · obtain rfl : j = r.length := by omega
        rw [List.take_length] at hs hL
        simp (disch := omega) only [go_sem]
        rw [← hs] at hQ
        exact fin_run n rows hn12 hL.inv hv (by rw [hL.ext.stk]; simp) hR2 hQ
    have hcs := hR.cs
    rw [body370]
    simp only [AC.hd, AC.sec, F370, cellsT, arsT]
    rcases hR.stk with ⟨rfl, hs0⟩ | ⟨id, ver, junk, rfl, hst⟩
    · have i1 : ints [v] = [[PV.int .i64 v]] := rfl
      simp (disch := omega) only [go_sem]
      refine main (rest ++ [⟨0, 1, .inl (ints [v])⟩]) (.own (rest.length + 3) 0 0 1) ⟨?_, hcs.born, by show σ.cnt + 1 + _ ≤ _; omega⟩
      refine .inr ⟨rest.length, 0, [], ?_, ?_⟩
      · show _ = V.own _ _ _ (σ.stk ++ [v]).length
        rw [hs0]
        rfl
      · show _ = some (⟨0, 1, .inl (ints ((σ.stk ++ [v]) ++ []))⟩ : Arr)
        rw [hs0]
        simp
    · have hap := fun v => apI_junk (id := id + 3) (ver := ver) (l := σ.stk) (junk := junk) (v := v) (by omega)
      simp (disch := omega) only [go_sem, hst, hap]
      refine main (rest.set id ⟨ver + 1, 1, .inl (ints (σ.stk ++ [v]))⟩) (.own (id + 3) (ver + 1) 0 (σ.stk.length + 1)) ⟨?_, hcs.set hst, by show σ.cnt + 1 + _ ≤ _; omega⟩
      refine .inr ⟨id, ver + 1, [], ?_, ?_⟩
      · show _ = V.own _ _ _ (σ.stk ++ [v]).length
        simp
      · show _ = some (⟨ver + 1, 1, .inl (ints ((σ.stk ++ [v]) ++ []))⟩ : Arr)
        rw [List.getElem?_set_self (List.getElem?_eq_some_iff.1 hst).1, List.append_nil]
end Go.Pv

