/-
  The interpreter over plain values, and that it is sound.
-/
import Derived.Test.YtnhbggnlnfcpkaaA3
import Derived.Shelf.SlSortCmp.InsertionK
import Derived.Shelf.SlicesE.Clone
import Derived.Shelf.Sort.Plain
import Derived.Shelf.Slices.In.SortNone
set_option linter.unusedSimpArgs false
set_option linter.unusedVariables false
/-
  A function that compares, called by a sort: its contract in the sort's own words.
-/
namespace Go.Pv
open Go.Sort
variable {P : Program} {N : Nat → Nat} {W : Nat → Prop} {L : Lx} {e : Emb} {h : Heap} {w w' : World}

/-- A world that has only grown. -/
theorem Fr.grown (hf : Fr (Wc w none) w w') : ∃ q os, w' = grow (w.drewN q) os := by
  refine ⟨w'.drawn - w.drawn, w'.heap.extract w.heap.size w'.heap.size, ?_⟩
  obtain ⟨h1, h2, h3, h4, h5, h6⟩ := hf
  have hh : w'.heap = w.heap ++ w'.heap.extract w.heap.size w'.heap.size := by
    apply Array.ext_getElem?
    intro i
    rcases Nat.lt_or_ge i w.heap.size with hi | hi
    · rw [Array.getElem?_append_left hi]
      exact h5 i hi (fun hc => by rcases hc with hc | hc <;> first | omega | cases hc)
    · rw [Array.getElem?_append_right hi, Array.getElem?_extract]
      rcases Nat.lt_or_ge i w'.heap.size with hi2 | hi2
      · rw [if_pos (by omega)]
        congr 1
        omega
      · rw [Array.getElem?_eq_none hi2, if_neg (by omega)]
  obtain ⟨heap, tape, drawn, os, output⟩ := w
  obtain ⟨heap', tape', drawn', os', output'⟩ := w'
  simp only at h1 h2 h3 h4 h5 h6 hh
  subst h1
  subst h2
  subst h3
  show _ = grow (Sort.ahead _ _) _
  simp only [grow, Sort.ahead]
  rw [← hh]
  congr 1
  show drawn' = drawn + (drawn' - drawn)
  omega

theorem scal_one {p : PV} (hp : scal p = true) : p.one = true := by
  cases p <;> simp [scal] at hp <;> rfl

theorem plain_args {ps : List PV} (hp : ∀ c ∈ ps, scal c = true) : PVR N L w (.agg ps) (.agg (ps.map sv).toArray) := by
  refine .agg _ _ (by simp) (fun j c hj => ?_) (fun c hc => scal_one (hp c hc))
  have : (ps.map sv).toArray.getD j undef = sv c := by
    simp [Array.getD_eq_getD_getElem?, hj]
  rw [this]
  exact scal_pvr (hp c (List.mem_of_getElem? hj))

/-- What a function that makes nothing but new blocks gives. -/
theorem fnr_calls {g : Nat} {ps : List PV} {k : IntKind} {n : Int} (hF : FnR P N g ps [.int k n]) {args : Array Value} (w : World)
    (eg : ∀ args w, (callFunc (N g) args).run P w = .ok (.enter (N g) args) w) (hl : args.toList.length = ps.length) (ha : ∀ (j : Nat) (p : PV), ps[j]? = some p → ∃ v, args.toList[j]? = some v ∧ PVR N (fun _ _ => False) w p v) :
    Calls P (N g) args w fun e w' => e = .returned (.int k n) ∧ ∃ q os', w' = grow (w.drewN q) os' := by
  have hc := hF (fun _ _ => False) w none args (fun _ _ h => h.elim) (.plain _ _ hl ha)
  rcases hc with ⟨v, w', h1, h2⟩ | ⟨h1, h2⟩
  · rw [eg] at h1
    cases h1
  · refine h2.mono fun en w' hh => ?_
    cases en with
    | returned v =>
      obtain ⟨L1, bs, vals, f1, f2, f3, f4, f5, f6, f7, rfl⟩ := hh
      refine ⟨?_, f1.grown⟩
      cases f5 with
      | cons p u b1 ps vs b2 q1 q2 =>
        cases q2
        cases q1 with
        | cell _ _ _ q =>
          cases q with
          | keep _ _ _ q => cases q; rfl
    | panicked => exact hh.elim
    | outgrown => exact hh.elim

theorem fnr_lays {α : Type} [Inhabited α] {g : Nat} {enc : α → List PV} (hsc : ∀ x, ∀ c ∈ enc x, scal c = true) {cf : α → α → Int} (hF : ∀ x y, FnR P N g [.agg (enc x), .agg (enc y)] [.int .i64 (cf x y)])
    (eg : ∀ args w, (callFunc (N g) args).run P w = .ok (.enter (N g) args) w) (k blk off size : Nat) (w : World) : Go.Proofs.CmpLays P (N g) #[] (venc enc) k cf blk off size w := by
  intro m os dk hs x y
  refine fnr_calls (hF x y) _ eg rfl fun j p hj => ?_
  match j, hj with
  | 0, hj =>
    cases hj
    exact ⟨_, rfl, plain_args (hsc x)⟩
  | 1, hj =>
    cases hj
    exact ⟨_, rfl, plain_args (hsc y)⟩
  | j + 2, hj => simp at hj

end Go.Pv

/-
  slices.Clone: what it does, for the interpreter.
-/
namespace Go.Proofs
open Go.Shelf Go.RowKit Go.Lib
variable {P : Program} {ρ : Ren}

theorem pv_append_zero {ops : Array Oper} {rest : List Oper} {o : Oper} {a : Act} {w : World} {Q : Exit → Act → World → Prop} (hgd : o.guard = none) (s x : Operand) (t : TypeId)
    (ho : o.op = .call { callee := .builtin .append, args := #[s, x], argTypes := #[t, t] }) (e : TypeId) (i : TypeInfo) (ht : P.underlying t = some (.slice e)) (hi : P.info? e = some i)
    (g : Nat) (hg : w.heap[g]? = some (.cells #[] e (0, 0))) (hs : a.eval s = .slice (some ⟨g, 0, none⟩) 0 0) (ad : Addr) (c : Nat) (hx : a.eval x = .slice (some ad) 0 c)
    (h : wpList P ops Q rest (a.put o.dst (.slice (some ⟨g, 0, none⟩) 0 0)) w) : wpList P ops Q (o :: rest) a w := by
  refine wpList_plain hgd fun K hK => ?_
  have hr := run_append_room (P := P) w t o.type e i ht hi g 0 0 #[] hg ad 0 c [] (by simp) (fun j u hj => by simp at hj) (fun u hu => by simp at hu) (Nat.le_refl _) (by simp)
  have hw : w.setRow g (([] : List Value).take (0 * i.size) ++ [] ++ ([] : List Value).drop (0 * i.size + ([] : List Value).length)).toArray = w := by
    simp only [List.take_nil, List.drop_nil, List.append_nil]
    unfold World.setRow
    have : w.heap.modify g (fun | .cells _ t f => .cells #[] t f | o => o) = w.heap := by
      apply Array.ext_getElem?
      intro k
      rw [Array.getElem?_modify]
      split
      · rename_i hk
        subst hk
        rw [hg]
        rfl
      · rfl
    first | rw [this] | (congr 1)
  rw [show (#[] : Array Value).toList = [] from rfl, hw] at hr
  unfold Oper.wp execOp
  simp only [ho, resolve, invoke, builtin, Sem.run_bind, Sem.run_pure, Result.andThen_ok, List.map_toArray, List.map_cons, List.map_nil, hs, hx, hr]
  exact hK _ _ h

set_option maxHeartbeats 1000000 in
/-- slices.Clone of an empty slice that is not nil. -/
theorem pv_clone_empty (L : SlLaysE0.n41 P ρ) (i0 : TypeInfo) (z : Value) (hi : P.info? (ρ.t 23) = some i0) (_hz0 : i0.zero = some z)
    (z23 : ∀ w, (Go.sizeOf (ρ.t 23)).run P w = .ok i0.size w) (ad : Addr) (c : Nat) (w : World) :
    Calls P (ρ.f 41) #[.slice (some ad) 0 c] w fun e w' => ∃ g, e = .returned (.slice (some ⟨g, 0, none⟩) 0 0) ∧ w' = w.alloc (.cells #[] (ρ.t 23)) := by
  have mixed := L.mixed; have t4 := L.t4; have a4 := L.a4; have z4 := L.z4; have v4 := L.v4; have t22 := L.t22; have a22 := L.a22; have z22 := L.z22; have v22 := L.v22
  have q22 : ∀ (w : World) (a : Option Addr) (n c n' c' : Nat), (binOp .eql (ρ.t 22) (.slice a n c) (.slice none n' c')).run P w = .ok (.bool a.isNone) w := fun w a n c n' c' => Lib.run_eql_slice_nil w _ _ a n c n' c' L.t22
  have u22 : ∀ w, Sem.run P (underlying (ρ.t 22)) w = .ok (TypeDesc.slice (ρ.t 23)) w := run_underlying t22
  obtain ⟨_, _, FG⟩ := L.f41
  go_enter FG, SlBodyN.n41_ntmps ρ
  go_wp2_with (at_builtin; refine pv_append_zero rfl _ _ (ρ.t 22) rfl (ρ.t 23) i0 t22 hi w.heap.size ?qc1 rfl ad c rfl ?_)
  case qc1 => exact heap_alloc_new w _
  go_wp2
  go_ret
  exact ⟨_, rfl, rfl⟩

theorem pv_append_grow {ops : Array Oper} {rest : List Oper} {o : Oper} {a : Act} {w : World} {Q : Exit → Act → World → Prop} (hgd : o.guard = none) (s x : Operand) (t : TypeId)
    (ho : o.op = .call { callee := .builtin .append, args := #[s, x], argTypes := #[t, t] }) (e : TypeId) (i : TypeInfo) (z : Value) (ht : P.underlying t = some (.slice e)) (hi : P.info? e = some i) (hz : i.zero = some z) (zc : Array Value) (hzc : z.cells = zc)
    (g : Nat) (hs : a.eval s = .slice (some ⟨g, 0, none⟩) 0 0) (ad : Addr) (n c : Nat) (hx : a.eval x = .slice (some ad) n c) (news : List Value) (hl : news.length = n * i.size) (hnews : ∀ j v, news[j]? = some v → w.cell? (ad.add j) = some v)
    (hn : 0 < n) (hm : n ≤ maxLen) (hb : n * i.bytes ≤ 140737488355328)
    (h : wpList P ops Q rest (a.put o.dst (.slice (some ⟨w.heap.size, 0, none⟩) n (grownCap w n 0 e))) (w.drew.alloc (.cells (news.toArray ++ Builtin.zeroCells zc (grownCap w n 0 e - n)) e))) : wpList P ops Q (o :: rest) a w := by
  subst hzc
  refine wpList_plain hgd fun K hK => ?_
  have hr := run_append_grow (P := P) w t o.type e i z ht hi hz ⟨g, 0, none⟩ 0 0 [] (by simp) (fun j v hj => by simp at hj) ad n c news hl hnews (by omega) (by unfold maxLen at hm; omega) (by rw [Nat.zero_add, nextslicecap_zero hn]; omega)
  simp only [Nat.zero_add, Array.empty_append] at hr
  unfold Oper.wp execOp
  simp only [ho, resolve, invoke, builtin, Sem.run_bind, Sem.run_pure, Result.andThen_ok, List.map_toArray, List.map_cons, List.map_nil, hs, hx, hr]
  exact hK _ _ h

/-- What slices.Clone makes of n elements. -/
def cloneWorld (w : World) (e : TypeId) (zc : Array Value) (n : Nat) (news : List Value) : World :=
  (w.alloc (.cells #[] e)).drew.alloc (.cells (news.toArray ++ Builtin.zeroCells zc (grownCap (w.alloc (.cells #[] e)) n 0 e - n)) e)

set_option maxHeartbeats 1000000 in
/-- slices.Clone of a slice that is not empty. -/
theorem pv_clone_some (L : SlLaysE0.n41 P ρ) (i0 : TypeInfo) (z : Value) (hi : P.info? (ρ.t 23) = some i0) (hz0 : i0.zero = some z) (zc : Array Value) (hzc : z.cells = zc)
    (z23 : ∀ w, (Go.sizeOf (ρ.t 23)).run P w = .ok i0.size w) (ad : Addr) (n c : Nat) (news : List Value) (w : World) (hl : news.length = n * i0.size) (hn0 : 0 < n) (hn : n ≤ maxLen) (hbig : n * i0.bytes ≤ 140737488355328)
    (hc : ∀ j u, news[j]? = some u → w.cell? (ad.add j) = some u) :
    Calls P (ρ.f 41) #[.slice (some ad) n c] w fun e w' => e = .returned (.slice (some ⟨w.heap.size + 1, 0, none⟩) n (grownCap (w.alloc (.cells #[] (ρ.t 23))) n 0 (ρ.t 23))) ∧ w' = cloneWorld w (ρ.t 23) zc n news := by
  have mixed := L.mixed; have t4 := L.t4; have a4 := L.a4; have z4 := L.z4; have v4 := L.v4; have t22 := L.t22; have a22 := L.a22; have z22 := L.z22; have v22 := L.v22
  have q22 : ∀ (w : World) (a : Option Addr) (n c n' c' : Nat), (binOp .eql (ρ.t 22) (.slice a n c) (.slice none n' c')).run P w = .ok (.bool a.isNone) w := fun w a n c n' c' => Lib.run_eql_slice_nil w _ _ a n c n' c' L.t22
  have u22 : ∀ w, Sem.run P (underlying (ρ.t 22)) w = .ok (TypeDesc.slice (ρ.t 23)) w := run_underlying t22
  have A : Aside (∀ j u, news[j]? = some u → w.cell? (ad.add j) = some u) := hc
  clear hc
  unfold cloneWorld
  obtain ⟨_, _, FG⟩ := L.f41
  go_enter FG, SlBodyN.n41_ntmps ρ
  go_wp2_with (at_builtin; refine pv_append_grow rfl _ _ (ρ.t 22) rfl (ρ.t 23) i0 z t22 hi hz0 zc hzc w.heap.size rfl ad n c rfl news ?qc1 ?qc2 ?qc3 ?qc4 ?qc5 ?_)
  case qc1 => exact hl
  case qc2 =>
    intro j u hj
    exact Lib.cell?_alloc_some _ (A.out j u hj)
  case qc3 => exact hn0
  case qc4 => exact hn
  case qc5 => exact hbig
  go_wp2
  go_ret
  exact ⟨by simp, rfl⟩

end Go.Proofs

/-
  slices.Clone, for the interpreter's state.
-/
namespace Go.Pv
open Go.Shelf
variable {P : Program} {N : Nat → Nat} {W : Nat → Prop} {L : Lx} {e : Emb} {h : Heap} {w : World}

def cloneP (k : Nat) : List V → Heap → Option (V × Tn)
  | [x], h => match srcRows h x with
    | some (.inl rows, rd) => if rowsFit k (.inl rows) = true ∧ rows.length ≤ mostRows then
        (if rows.length = 0 then some (.tl [], { ra := rd }) else some (.own h.ar.length 0 0 rows.length, { push := [⟨0, k, .inl rows⟩], ra := rd, base := h.ar.length })) else none
    | _ => none
  | _, _ => none

theorem PVR.nil (a : Option Addr) : PVR N L w (.lst 0 []) (.slice a 0 0) :=
  .lst 0 [] a ⟨0, 0, none⟩ 0 0 (fun _ _ => undef) (fun r hr => by simp at hr) (Nat.le_refl _) (fun h => by simp at h) (fun i j c hc => by simp [at2] at hc) (fun i j c hc => by simp [at2] at hc) (fun _ i j c hc => by simp [at2] at hc) (fun i j c hc => by simp [at2] at hc)

theorem cloneP_ok {ρ : Ren} (LL : Go.Proofs.SlLaysE0.n41 P ρ) {fn : Nat} (hfn : N fn = ρ.f 41) {k : Nat} (hk : k ≠ 0) (i0 : TypeInfo) (z : Value) (hi : P.info? (ρ.t 23) = some i0) (hz0 : i0.zero = some z) (hzs : z.cells.size = k) (his : i0.size = k) (hby : i0.bytes ≤ 32768)
    (z23k : ∀ w, (Go.sizeOf (ρ.t 23)).run P w = .ok k w) (hent : ∀ args w, (callFunc (N fn) args).run P w = .ok (.enter (N fn) args) w)
    {vs : List V} {args : Array Value} {v : V} {tn : Tn} (hp : cloneP k vs h = some (v, tn)) (hr : HR N L e W h w)
    (hs : args.size = vs.length) (hv : ∀ (j : Nat) (x : V), vs[j]? = some x → VR N L e w x (args.getD j undef)) :
    CallGood P (N fn) args w fun v' w' => ∃ L' e', Nx N W L e w L' e' (tn.apply h) w' ∧ VR N L' e' w' v v' := by
  have z23 : ∀ w, (Go.sizeOf (ρ.t 23)).run P w = .ok i0.size w := fun w => by rw [his]; exact z23k w
  unfold cloneP at hp
  split at hp <;> first | (cases hp; done) | skip
  rename_i x
  split at hp <;> first | (cases hp; done) | skip
  rename_i rows rd hsrc
  split at hp <;> first | (cases hp; done) | skip
  rename_i hc
  obtain ⟨hfit, hmost⟩ := hc
  have hargs : ∃ v0, args = #[v0] ∧ VR N L e w x v0 := by
    have h0 := hv 0 x rfl
    have hsz : args.size = 1 := hs
    obtain ⟨l⟩ := args
    match l, hsz with
    | [v0], _ => exact ⟨v0, rfl, h0⟩
  obtain ⟨v0, rfl, hv0⟩ := hargs
  obtain ⟨B, c, ad, vals, rfl, s1, s2, s3, s4, s5⟩ := src_rows hr hv0 hsrc hfit hk
  have hlen : rowsLen (.inl rows : Sum (List (List PV)) (List (List V))) = rows.length := rfl
  rw [hlen] at s1 ⊢
  split at hp
  · rename_i h0
    injection hp with hp
    injection hp with e1 e2
    subst e1
    subst e2
    rw [h0]
    have hap : Tn.apply { ra := rd } h = h := by cases h; simp [Tn.apply]
    rw [hap]
    have h2 : VR N L e w (.tl []) (.slice none 0 0) := .tl [] none (PVR.nil _) Soft.nil
    cases B with
    | none =>
      refine .inr ⟨hent _ _, ?_⟩
      rw [hfn]
      refine (Go.Proofs.AnyE.slices_Clone_nil LL 0 c w).mono ?_
      rintro en w' ⟨rfl, rfl⟩
      exact ⟨L, e, Nx.refl hr, h2⟩
    | some a =>
      refine .inr ⟨hent _ _, ?_⟩
      rw [hfn]
      refine (Go.Proofs.pv_clone_empty LL i0 z hi hz0 z23 a c w).mono ?_
      rintro en w' ⟨g, rfl, rfl⟩
      exact ⟨L, e, Nx.idle hr _, .tl [] _ (PVR.nil _) Soft.nil⟩
  · rename_i h0
    injection hp with hp
    injection hp with e1 e2
    subst e1
    subst e2
    have hB := s1 (by omega)
    subst hB
    refine .inr ⟨hent _ _, ?_⟩
    rw [hfn]
    have hvl : vals.length = rows.length * k := by rw [s2.1, rowsOf_len]; rfl
    refine (Go.Proofs.pv_clone_some LL i0 z hi hz0 z.cells rfl z23 ad rows.length c vals w (by rw [his]; exact hvl) (by omega) (by unfold maxLen; unfold mostRows at hmost; omega) (by
      have : rows.length * i0.bytes ≤ 2147483648 * 32768 := Nat.mul_le_mul hmost hby
      omega) s3).mono ?_
    rintro en w' ⟨rfl, rfl⟩
    unfold Go.Proofs.cloneWorld
    have n1 := Nx.idle hr (.cells #[] (ρ.t 23))
    have n2 := Nx.drew n1.hr
    have n12 := n1.trans n2
    have hG := grownCap_ge (w.alloc (.cells #[] (ρ.t 23))) rows.length 0 (ρ.t 23)
    generalize grownCap (w.alloc (.cells #[] (ρ.t 23))) rows.length 0 (ρ.t 23) = G at hG ⊢
    have hsz : (vals.toArray ++ Builtin.zeroCells z.cells (G - rows.length)).size = G * k := by
      simp only [Array.size_append, List.size_toArray, size_zeroCells, hzs, hvl, ← Nat.add_mul]
      congr 1
      omega
    obtain ⟨n3, v3⟩ := new_arr n2.hr hk (n := rows.length) (c := G) (body := .inl rows) (arr := vals.toArray ++ Builtin.zeroCells z.cells (G - rows.length)) (el := ρ.t 23) (by
      rw [Array.toList_append, List.take_append_of_le_length (by simp [hvl])]
      rw [show (vals.toArray.toList).take (rows.length * k) = vals by simp [← hvl]]
      exact s2.mono n12.ext) rfl hG (by rw [hsz]; exact Nat.le_refl _) s4
    refine ⟨L, _, by rw [Tn.apply_push]; exact n12.trans n3, ?_⟩
    have hheap : ((w.alloc (.cells #[] (ρ.t 23))).drew).heap.size = w.heap.size + 1 := by simp [World.drew]
    rw [← hheap]
    exact v3

end Go.Pv

/-
  Functions that are taken by contracts of their own: what is asked of each, and a table of them.
-/
namespace Go.Pv

abbrev Prim := List V → Heap → Option (V × Tn)

/-- It looks at what it names alone, and lays what is new behind the rest. -/
structure Prim.Law (pr : Prim) : Prop where
  loc : ∀ vs h1 h2 v t, pr vs h1 = some (v, t) → Agree t h1 h2 → pr vs h2 = some (v, t)
  fit : ∀ vs h v t, pr vs h = some (v, t) → t.fit h
  old : ∀ vs h v t, pr vs h = some (v, t) → t.new = false

/-- What a function of the program does is what is said of it. -/
def Prim.Ok (P : Program) (N : Nat → Nat) (fn : Nat) (pr : Prim) : Prop :=
  ∀ (L : Lx) (e : Emb) (W : Nat → Prop) (h : Heap) (w : World) (vs : List V) (args : Array Value) (v : V) (tn : Tn), pr vs h = some (v, tn) → HR N L e W h w →
    args.size = vs.length → (∀ (j : Nat) (x : V), vs[j]? = some x → VR N L e w x (args.getD j undef)) →
    CallGood P (N fn) args w fun v' w' => ∃ L' e', Nx N W L e w L' e' (tn.apply h) w' ∧ VR N L' e' w' v v'

theorem look1_mem {α : Type} {n : Nat} {x : α} : ∀ {l : List (Nat × α)}, look1 n l = some x → (n, x) ∈ l
  | [], h => by cases h
  | (m, y) :: r, h => by
    simp only [look1] at h
    split at h
    · rename_i hm
      cases h
      subst hm
      exact List.mem_cons_self ..
    · exact List.mem_cons_of_mem _ (look1_mem h)

theorem prims_law {l : List (Nat × Prim)} (hl : ∀ x ∈ l, Prim.Law x.2) : PrimLaw (fun n => look1 n l) :=
  ⟨fun _fn _pr hf => (hl _ (look1_mem hf)).loc, fun _fn _pr hf => (hl _ (look1_mem hf)).fit, fun _fn _pr hf => (hl _ (look1_mem hf)).old⟩

theorem prims_ok {P : Program} {N : Nat → Nat} {l : List (Nat × Prim)} (hl : ∀ x ∈ l, Prim.Ok P N x.1 x.2) : PrimOk P N (fun n => look1 n l) :=
  fun _fn _pr hf => hl _ (look1_mem hf)

theorem sortP_law (k : Nat) (f : List (List PV) → Option (List (List PV))) (g : Nat) : Prim.Law (sortP k f g) where
  old := by
    intro vs h v t hh
    unfold sortP at hh
    repeat' split at hh
    all_goals first | (cases hh; done) | (injection hh with hh; injection hh with e1 e2; subst e2; rfl)
  loc := by
    intro vs h1 h2 v t hh ha
    unfold sortP at hh ⊢
    split at hh <;> first | (cases hh; done) | skip
    split at hh <;> first | (cases hh; done) | skip
    rename_i hg
    simp only [hg, if_true]
    split at hh <;> first | (cases hh; done) | skip
    · exact hh
    · rename_i id ver off len
      split at hh <;> first | (cases hh; done) | skip
      rename_i a ho
      have : (t.ra = some id ∨ t.ra2 = some id ∨ ∃ a, t.ar = some (id, a)) → ownArr h2 id ver = some a := fun hi => (ha.own hi).trans ho
      split at hh
      · rename_i h0
        injection hh with hh
        injection hh with e1 e2
        subst e1
        subst e2
        rw [this (.inl rfl)]
        simp only [h0, if_true]
      · rename_i h0
        split at hh <;> first | (cases hh; done) | skip
        rename_i rows hb
        split at hh <;> first | (cases hh; done) | skip
        rename_i hc
        split at hh <;> first | (cases hh; done) | skip
        rename_i news hn
        injection hh with hh
        injection hh with e1 e2
        subst e1
        subst e2
        rw [this (.inr (.inr ⟨_, rfl⟩))]
        simp only [h0, if_false, hb, hn]
        rw [if_pos hc]
  fit := by
    intro vs h v t hh
    unfold sortP at hh
    split at hh <;> first | (cases hh; done) | skip
    split at hh <;> first | (cases hh; done) | skip
    split at hh <;> first | (cases hh; done) | skip
    · injection hh with hh
      injection hh with e1 e2
      subst e2
      exact ⟨fun hp => absurd rfl hp, fun i a hia => by cases hia⟩
    · split at hh <;> first | (cases hh; done) | skip
      rename_i a ho
      split at hh
      · injection hh with hh
        injection hh with e1 e2
        subst e2
        exact ⟨fun hp => absurd rfl hp, fun i a hia => by cases hia⟩
      · split at hh <;> first | (cases hh; done) | skip
        split at hh <;> first | (cases hh; done) | skip
        split at hh <;> first | (cases hh; done) | skip
        injection hh with hh
        injection hh with e1 e2
        subst e2
        refine ⟨fun hp => absurd rfl hp, fun i a' hia => ?_⟩
        cases hia
        exact ownArr_lt ho

theorem cloneP_law (k : Nat) : Prim.Law (cloneP k) where
  old := by
    intro vs h v t hh
    unfold cloneP at hh
    repeat' split at hh
    all_goals first | (cases hh; done) | (injection hh with hh; injection hh with e1 e2; subst e2; rfl)
  loc := by
    intro vs h1 h2 v t hh ha
    unfold cloneP at hh ⊢
    split at hh <;> first | (cases hh; done) | skip
    split at hh <;> first | (cases hh; done) | skip
    rename_i rows rd hs
    split at hh <;> first | (cases hh; done) | skip
    rename_i hc
    split at hh
    · rename_i h0
      injection hh with hh
      injection hh with e1 e2
      subst e1
      subst e2
      rw [srcRows_loc hs (fun i hi => ha.ar i (.inl hi))]
      simp only
      rw [if_pos hc, if_pos h0]
    · rename_i h0
      injection hh with hh
      injection hh with e1 e2
      subst e1
      subst e2
      rw [srcRows_loc hs (fun i hi => ha.ar i (.inl hi))]
      simp only
      rw [if_pos hc, if_neg h0, ha.len (by simp)]
  fit := by
    intro vs h v t hh
    unfold cloneP at hh
    split at hh <;> first | (cases hh; done) | skip
    split at hh <;> first | (cases hh; done) | skip
    split at hh <;> first | (cases hh; done) | skip
    split at hh
    all_goals
      injection hh with hh
      injection hh with e1 e2
      subst e2
      refine ⟨fun hp => ?_, fun i a hia => by cases hia⟩
      first | rfl | exact absurd rfl hp

end Go.Pv

/-
  slices.Sort at numbers, for the interpreter.
-/
namespace Go.Pv
open Go.Sort
variable {P : Program} {N : Nat → Nat} {W : Nat → Prop} {L : Lx} {e : Emb} {h : Heap} {w : World}

def ltI (x y : Int) : Bool := decide (x < y)
theorem ins_sorted (x : Int) : ∀ l : List Int, l.Pairwise (· ≤ ·) → (ins ltI x l).Pairwise (· ≤ ·)
  | [], _ => List.pairwise_singleton _ _
  | y :: r, h => by
    obtain ⟨h1, h2⟩ := List.pairwise_cons.1 h
    unfold ins ltI
    by_cases hxy : y < x
    · simp only [hxy, decide_true, if_true]
      refine List.pairwise_cons.2 ⟨fun z hz => ?_, ins_sorted x r h2⟩
      rcases List.mem_cons.1 ((ins_perm _ x r).subset hz) with rfl | hz
      · omega
      · exact h1 z hz
    · simp only [hxy, decide_false, Bool.false_eq_true, if_false]
      refine List.pairwise_cons.2 ⟨fun z hz => ?_, h⟩
      rcases List.mem_cons.1 hz with rfl | hz
      · omega
      · have := h1 z hz; omega
theorem isort_sorted : ∀ l : List Int, (isort ltI l).Pairwise (· ≤ ·)
  | [] => List.Pairwise.nil
  | x :: r => ins_sorted x _ (isort_sorted r)
theorem le_uniq : ∀ (a b : List Int), a.Pairwise (· ≤ ·) → b.Pairwise (· ≤ ·) → a.Perm b → a = b
  | [], b, _, _, hp => (List.Perm.eq_nil hp.symm).symm
  | x :: a, [], _, _, hp => by simp at hp
  | x :: a, y :: b, ha, hb, hp => by
    obtain ⟨a1, a2⟩ := List.pairwise_cons.1 ha
    obtain ⟨b1, b2⟩ := List.pairwise_cons.1 hb
    have hxy : x = y := by
      have hx : x ∈ y :: b := hp.subset (List.mem_cons_self ..)
      have hy : y ∈ x :: a := hp.symm.subset (List.mem_cons_self ..)
      rcases List.mem_cons.1 hx with h | h
      · exact h
      · rcases List.mem_cons.1 hy with h' | h'
        · exact h'.symm
        · have := a1 y h'; have := b1 x h; omega
    subst hxy
    rw [le_uniq a b a2 b2 (List.Perm.cons_inv hp)]
theorem isort_merge (l : List Int) : l.mergeSort (fun x y => decide (x ≤ y)) = isort ltI l := by
  refine le_uniq _ _ ?_ (isort_sorted l) ((List.mergeSort_perm _ _).trans (isort_perm _ _).symm)
  have := List.pairwise_mergeSort (le := fun x y : Int => decide (x ≤ y)) (fun a b c h1 h2 => by simp at *; omega) (fun a b => by simp; omega) l
  simpa using this

def intDec : List PV → Option Int
  | [.int .i64 x] => some x
  | _ => none
def sortIP : List V → Heap → Option (V × Tn)
  | [x], h => match x with
    | .tl [] => some (.tup [], {})
    | .tl [r] => (match intDec r with
      | some _ => some (.tup [], {})
      | none => none)
    | .own id ver off len => match ownArr h id ver with
      | some a => if len = 0 then some (.tup [], { ra := some id }) else (match a.body with
        | .inl rows => if a.k = 1 ∧ off + len ≤ rows.length ∧ len ≤ mostRows then (match mapO intDec ((rows.drop off).take len) with
          | some l => some (.tup [], { ar := some (id, ⟨ver, 1, .inl (rows.take off ++ (isort ltI l).map (fun x => [.int .i64 x]) ++ rows.drop (off + len))⟩) })
          | none => none) else none
        | .inr _ => none)
      | none => none
    | _ => none
  | _, _ => none

theorem putRow_map (w : World) (blk off : Nat) (d : Array Int) : putRow (Value.int .i64) w blk off d = putRow id w blk off (d.map (Value.int .i64)) := by
  unfold putRow
  congr 1
  funext c
  unfold putCells
  congr 1
  funext k x
  rw [Array.size_map]
  by_cases hk : off ≤ k ∧ k < off + d.size
  · rw [if_pos hk, if_pos hk]
    have h1 : k - off < d.size := by omega
    rw [getElem!_pos d _ h1, getElem!_pos (d.map _) _ (by rw [Array.size_map]; exact h1)]
    simp
  · rw [if_neg hk, if_neg hk]

/-- New blocks behind the rest, and nothing else. -/
theorem behind (hr : HR N L e W h w) (n : Nat) (os : Array Obj) : Nx N W L e w L e h (grow (Sort.ahead w n) os) := by
  have hold : ∀ g, g < w.heap.size → (grow (Sort.ahead w n) os).heap[g]? = w.heap[g]? := by
    intro g hg
    rw [heap_grow_old _ _ (by simpa [Sort.ahead] using hg)]
    rfl
  have hsz : w.heap.size ≤ (grow (Sort.ahead w n) os).heap.size := by simp [Sort.ahead]
  obtain ⟨q1, q2⟩ := hr.quiet2 (w' := grow (Sort.ahead w n) os) (L' := L) (fun _ => False) (fun b hb => hb.elim) (fun b hb _ => hold b hb) hsz (fun _ _ h => h) (fun _ _ h => .inl h)
  refine ⟨q1, q2, ⟨rfl, rfl, rfl, hsz, fun g hg _ => hold g hg, ?_⟩, fun _ _ h => .inl h⟩
  show w.drawn ≤ w.drawn + n
  omega

theorem sortIP_ok {ρ : Go.Shelf.Ren} (LL : Go.Proofs.Lays.n189 P ρ) {fn : Nat} (hfn : N fn = ρ.f 189) (hent : ∀ args w, (callFunc (N fn) args).run P w = .ok (.enter (N fn) args) w)
    {vs : List V} {args : Array Value} {v : V} {tn : Tn} (hp : sortIP vs h = some (v, tn)) (hr : HR N L e W h w)
    (hs : args.size = vs.length) (hv : ∀ (j : Nat) (x : V), vs[j]? = some x → VR N L e w x (args.getD j undef)) :
    CallGood P (N fn) args w fun v' w' => ∃ L' e', Nx N W L e w L' e' (tn.apply h) w' ∧ VR N L' e' w' v v' := by
  have key : ∀ x, vs = [x] → ∃ v0, args = #[v0] ∧ VR N L e w x v0 := by
    rintro x rfl
    have h0 := hv 0 x rfl
    have hsz : args.size = 1 := hs
    obtain ⟨l⟩ := args
    match l, hsz with
    | [v0], _ => exact ⟨v0, rfl, h0⟩
  have fin0 : ∀ (a : Option Addr) (cap : Nat), args = #[.slice a 0 cap] → tn.apply h = h → v = .tup [] → CallGood P (N fn) args w fun v' w' => ∃ L' e', Nx N W L e w L' e' (tn.apply h) w' ∧ VR N L' e' w' v v' := by
    rintro a cap rfl ht rfl
    refine .inr ⟨hent _ _, ?_⟩
    rw [hfn]
    refine (Go.Proofs.Any.slices_Sort_int_none LL a cap w).mono ?_
    rintro en w' ⟨rfl, rfl⟩
    exact ⟨L, e, by rw [ht]; exact Nx.refl hr, .tup [] #[] rfl (fun j c hj => by simp at hj)⟩
  unfold sortIP at hp
  split at hp <;> first | (cases hp; done) | skip
  rename_i x
  obtain ⟨v0, hargs, hv0⟩ := key x rfl
  split at hp <;> first | (cases hp; done) | skip
  · injection hp with hp
    injection hp with e1 e2
    subst e1
    subst e2
    cases hv0 with
    | tl rows a hh => exact fin0 a 0 hargs (by cases h; simp [Tn.apply]) rfl
  · rename_i r
    split at hp <;> first | (cases hp; done) | skip
    rename_i x hx
    injection hp with hp
    injection hp with e1 e2
    subst e1
    subst e2
    have hr1 : r = [.int .i64 x] := by
      unfold intDec at hx
      split at hx
      · cases hx; rfl
      · cases hx
    subst hr1
    cases hv0 with
    | tl rows a hh hsoft =>
      cases hh with
      | lst _ _ _ ad _ k vs hk hc ha hcell hv hpm h1 =>
        obtain ⟨rfl, hsp, hl⟩ := ha (by simp)
        obtain ⟨blk, off, sp⟩ := ad
        dsimp only at hsp hl hcell
        subst hsp
        have hc0 := hcell 0 0 (.int .i64 x) rfl
        have hv1 := hv 0 0 (.int .i64 x) rfl
        have hv2 : vs 0 0 = .int .i64 x := by
          generalize vs 0 0 = u at hv1
          cases hv1
          rfl
        rw [hv2] at hc0
        have hblk : blk < w.heap.size := by
          rcases hl with hl | ⟨hl, _⟩
          · exact hr.lsz _ _ hl
          · exact absurd rfl hl
        have hH : Holds (Value.int .i64) w blk off [x].toArray := by
          intro j hj
          have hj0 : j = 0 := by simpa using hj
          subst hj0
          obtain ⟨arr, ty, h1⟩ := hsoft (by simp) _ rfl
          exact ⟨by simpa using hc0, by simp [World.frozen?, h1]⟩
        have hcall := Go.Proofs.Any.slices_Sort_int LL blk off 1 [x] w hH hblk (by simp)
        rw [hargs]
        refine .inr ⟨hent _ _, ?_⟩
        rw [hfn]
        refine hcall.mono ?_
        rintro en w' ⟨rfl, n, os, rfl⟩
        rw [isort_merge]
        have hself : putRow (Value.int .i64) (Sort.ahead w n) blk off (isort ltI [x]).toArray = Sort.ahead w n := putRow_self _ _ _ _ _ (by exact hH)
        refine ⟨L, e, ?_, .tup [] #[] rfl (fun j c hj => by simp at hj)⟩
        have h0 : Tn.apply {} h = h := by cases h; simp [Tn.apply]
        rw [h0, hself]
        exact behind hr n os
  · rename_i id0 ver off len
    split at hp <;> first | (cases hp; done) | skip
    rename_i a ha
    obtain ⟨ha1, ha2⟩ := ownArr_spec ha
    split at hp
    · rename_i hl
      subst hl
      injection hp with hp
      injection hp with e1 e2
      subst e1
      subst e2
      cases hv0 with
      | own _ _ _ _ a' cap _ _ _ _ => exact fin0 a' cap hargs (by cases h; simp [Tn.apply]) rfl
    · rename_i hl
      split at hp <;> first | (cases hp; done) | skip
      rename_i rows hb
      split at hp <;> first | (cases hp; done) | skip
      rename_i hc
      obtain ⟨hak, hol, hm⟩ := hc
      split at hp <;> first | (cases hp; done) | skip
      rename_i l hl2
      injection hp with hp
      injection hp with e1 e2
      subst e1
      subst e2
      obtain ⟨m1, m2⟩ := mapO_some hl2
      have hcut : ((rows.drop off).take len).length = len := by simp only [List.length_take, List.length_drop]; omega
      have hll : l.length = len := by omega
      have hdec : ∀ (r : List PV) (x : Int), intDec r = some x → r = [.int .i64 x] := by
        intro r x hx
        unfold intDec at hx
        split at hx
        · cases hx; rfl
        · cases hx
      have hrl : (rows.drop off).take len = l.map (fun x => [.int .i64 x]) := by
        apply List.ext_getElem?
        intro i
        rw [List.getElem?_map]
        rcases Nat.lt_or_ge i len with hi | hi
        · have h1 : ((rows.drop off).take len)[i]? = some (((rows.drop off).take len)[i]'(by omega)) := List.getElem?_eq_getElem (by omega)
          have h2 : l[i]? = some (l[i]'(by omega)) := List.getElem?_eq_getElem (by omega)
          rw [h2, h1]
          exact congrArg some (hdec _ _ (m2 i _ _ h1 h2))
        · rw [List.getElem?_eq_none (by omega), List.getElem?_eq_none (by omega)]
          rfl
      have hk' : a.k ≠ 0 := by rw [hak]; decide
      obtain ⟨v1, v2, v3, _⟩ := hr.ver id0 a ha1
      have hid : id0 < e.na := by rw [hr.na]; exact (List.getElem?_eq_some_iff.1 ha1).1
      have flat : ∀ (m : List Int) (i j : Nat) (c : PV), at2 (m.map fun x => [PV.int .i64 x]) i j = some c → (m.toArray.map (Value.int .i64))[i * a.k + j]! = sv c := by
        intro m i j c hc
        unfold at2 at hc
        rw [List.getElem?_map] at hc
        cases hx : m[i]? with
        | none => simp [hx] at hc
        | some x =>
          simp only [hx, Option.map_some, Option.bind_some] at hc
          match j, hc with
          | 0, hc =>
            cases hc
            have hi := (List.getElem?_eq_some_iff.1 hx).1
            rw [hak, Nat.mul_one, Nat.add_zero, getElem!_pos _ i (by simpa using hi)]
            have := (List.getElem?_eq_some_iff.1 hx).2
            simp [this, sv]
          | j + 1, hc => simp at hc
      cases hv0 with
      | own _ _ _ _ a' cap g0 g1 g2 g3 =>
        obtain ⟨k1, k2, k3, k4⟩ := g3 (by rw [v1, ha2])
        have ha' := k4 (by omega)
        subst ha'
        have hH0 : Holds id w (e.ar id0) (e.ad id0 + off * a.k) (l.toArray.map (Value.int .i64)) := by
          refine holds_row hr ha1 hb hk' hol ?_ _ (by simp [hll, hak]) ?_
          · intro r hr' c hc
            rw [hrl] at hr'
            obtain ⟨y, _, rfl⟩ := List.mem_map.1 hr'
            simp only [List.mem_cons, List.not_mem_nil, or_false] at hc
            subst hc
            rfl
          · intro i j c hc
            rw [hrl] at hc
            exact flat l i j c hc
        have hH : Holds (Value.int .i64) w (e.ar id0) (e.ad id0 + off * a.k) l.toArray := by
          intro j hj
          obtain ⟨q1, q2⟩ := hH0 j (by simpa using hj)
          refine ⟨?_, q2⟩
          rw [q1, getElem!_pos (l.toArray.map (Value.int .i64)) j (by simpa using hj), getElem!_pos l.toArray j hj]
          simp
        have hblk := hr.lt_ar hid (by rw [v2]; exact hk')
        rw [hargs]
        refine .inr ⟨hent _ _, ?_⟩
        rw [hfn]
        have hcall := Go.Proofs.Any.slices_Sort_int LL (e.ar id0) (e.ad id0 + off * e.ak id0) cap l w (by rw [v2]; exact hH) hblk (by rw [hll]; unfold mostRows at hm; omega)
        rw [hll] at hcall
        refine hcall.mono ?_
        rintro en w' ⟨rfl, n, os, rfl⟩
        rw [isort_merge]
        have hlen2 : (isort ltI l).length = len := by rw [(isort_perm ltI l).length_eq, hll]
        obtain ⟨e', hnx⟩ := inplace hr ha1 hb hk' hol (news := (isort ltI l).map fun x => [.int .i64 x]) (by simp [hlen2]) (by
          intro r hr'
          obtain ⟨y, _, rfl⟩ := List.mem_map.1 hr'
          refine ⟨by rw [hak]; rfl, fun c hc => ?_⟩
          simp only [List.mem_cons, List.not_mem_nil, or_false] at hc
          subst hc
          rfl) ((isort ltI l).toArray.map (Value.int .i64)) (by simp [hlen2, hak]) (flat _) n os _ hH0 (by simp [hll, hlen2])
        refine ⟨L, e', ?_, .tup [] #[] rfl (fun j c hj => by simp at hj)⟩
        rw [apply_arr0, ← ha2, ← hak, putRow_map, v2]
        exact hnx

theorem sortIP_law : Prim.Law sortIP where
  old := by
    intro vs h v t hh
    unfold sortIP at hh
    repeat' split at hh
    all_goals first | (cases hh; done) | (injection hh with hh; injection hh with e1 e2; subst e2; rfl)
  loc := by
    intro vs h1 h2 v t hh ha
    unfold sortIP at hh ⊢
    split at hh <;> first | (cases hh; done) | skip
    split at hh <;> first | (cases hh; done) | skip
    · exact hh
    · exact hh
    · rename_i id ver off len
      split at hh <;> first | (cases hh; done) | skip
      rename_i a ho
      have : (t.ra = some id ∨ t.ra2 = some id ∨ ∃ a, t.ar = some (id, a)) → ownArr h2 id ver = some a := fun hi => (ha.own hi).trans ho
      split at hh
      · rename_i h0
        injection hh with hh
        injection hh with e1 e2
        subst e1
        subst e2
        rw [this (.inl rfl)]
        simp only [h0, if_true]
      · rename_i h0
        split at hh <;> first | (cases hh; done) | skip
        rename_i rows hb
        split at hh <;> first | (cases hh; done) | skip
        rename_i hc
        split at hh <;> first | (cases hh; done) | skip
        rename_i news hn
        injection hh with hh
        injection hh with e1 e2
        subst e1
        subst e2
        rw [this (.inr (.inr ⟨_, rfl⟩))]
        simp only [h0, if_false, hb, hn]
        rw [if_pos hc]
  fit := by
    intro vs h v t hh
    unfold sortIP at hh
    split at hh <;> first | (cases hh; done) | skip
    split at hh <;> first | (cases hh; done) | skip
    · injection hh with hh
      injection hh with e1 e2
      subst e2
      exact ⟨fun hp => absurd rfl hp, fun i a hia => by cases hia⟩
    · split at hh <;> first | (cases hh; done) | skip
      injection hh with hh
      injection hh with e1 e2
      subst e2
      exact ⟨fun hp => absurd rfl hp, fun i a hia => by cases hia⟩
    · split at hh <;> first | (cases hh; done) | skip
      rename_i a ho
      split at hh
      · injection hh with hh
        injection hh with e1 e2
        subst e2
        exact ⟨fun hp => absurd rfl hp, fun i a hia => by cases hia⟩
      · split at hh <;> first | (cases hh; done) | skip
        split at hh <;> first | (cases hh; done) | skip
        split at hh <;> first | (cases hh; done) | skip
        injection hh with hh
        injection hh with e1 e2
        subst e2
        refine ⟨fun hp => absurd rfl hp, fun i a' hia => ?_⟩
        cases hia
        exact ownArr_lt ho

end Go.Pv

/-
  The program's data as structures, and their cells.
-/
namespace Go.Pv

structure Edge where
  fr : Int
  send : Bool
  label : Int
  to : Int
  deriving DecidableEq, Inhabited
structure Auto where
  states : Int
  start : Int
  edges : List Edge
  deriving DecidableEq, Inhabited

def Edge.c (e : Edge) : List PV := [.int .i64 e.fr, .bool e.send, .int .i64 e.label, .int .i64 e.to]
@[go_sem] theorem Edge.c_eq (e : Edge) : e.c = [.int .i64 e.fr, .bool e.send, .int .i64 e.label, .int .i64 e.to] := rfl
def Edge.dec : List PV → Option Edge
  | [.int .i64 a, .bool b, .int .i64 c, .int .i64 d] => some ⟨a, b, c, d⟩
  | _ => none
theorem Edge.dec_enc (r : List PV) (x : Edge) (h : Edge.dec r = some x) : x.c = r := by
  unfold Edge.dec at h
  split at h
  · cases h
    rfl
  · cases h
/-- An automaton, its list with a tag. -/
def Auto.p (t : Nat) (a : Auto) : PV := .agg [.int .i64 a.states, .int .i64 a.start, .lst t (a.edges.map Edge.c)]
@[go_sem] theorem Auto.p_eq (t : Nat) (a : Auto) : a.p t = .agg [.int .i64 a.states, .int .i64 a.start, .lst t (a.edges.map Edge.c)] := rfl

/-- Numbers, each a row. -/
def ints (l : List Int) : List (List PV) := l.map fun x => [.int .i64 x]
@[go_sem] theorem ints_length (l : List Int) : (ints l).length = l.length := by simp [ints]
@[go_sem] theorem ints_get (l : List Int) (i : Nat) : (ints l)[i]? = l[i]?.map fun x => [.int .i64 x] := by simp [ints]
@[go_sem] theorem ints_append (l r : List Int) : ints l ++ ints r = ints (l ++ r) := by simp [ints]
@[go_sem] theorem ints_set (l : List Int) (i : Nat) (x : Int) : (ints l).set i [.int .i64 x] = ints (l.set i x) := by simp [ints, List.map_set]

theorem ints_store {id row ver : Nat} {k : IntKind} {x : Int} {l : List Int} (h1 : row < l.length) (hk : k = .i64) : storeRow id row 0 [.pv (.int k x)] ⟨ver, 1, .inl (ints l)⟩ = some { ar := some (id, ⟨ver, 1, .inl (ints (l.set row x))⟩) } := by
  subst hk
  rw [storeRow_one (by rw [ints_length]; exact h1) rfl (.inr ⟨.int .i64 l[row], by simp [ints, h1]⟩) rfl, ints_set]
@[go_sem] theorem ints_store64 {id row ver : Nat} {x : Int} {l : List Int} (h1 : row < l.length) : storeRow id row 0 [.pv (.int .i64 x)] ⟨ver, 1, .inl (ints l)⟩ = some { ar := some (id, ⟨ver, 1, .inl (ints (l.set row x))⟩) } := ints_store h1 rfl
@[go_sem] theorem ints_made (n : Nat) (x : Int) : sameRows n [.pv (.int .i64 x)] = .inl (ints (List.replicate n x)) := by
  simp [sameRows, mapO, V.purec, PV.perm, ints]
@[go_sem] theorem ints_take (l : List Int) (n : Nat) : (ints l).take n = ints (l.take n) := by simp [ints]
@[go_sem] theorem ints_drop (l : List Int) (n : Nat) : (ints l).drop n = ints (l.drop n) := by simp [ints]

-- the order of edges
def Edge.side (e : Edge) : Int := if e.send = true then 1 else 0
def cmpI (x y : Int) : Int := if x < y then -1 else if y < x then 1 else 0
def Edge.cmp (a b : Edge) : Int := if cmpI a.fr b.fr ≠ 0 then cmpI a.fr b.fr else if cmpI a.side b.side ≠ 0 then cmpI a.side b.side else cmpI a.label b.label
def Edge.lt (a b : Edge) : Bool := if a.fr ≠ b.fr then decide (a.fr < b.fr) else if a.send ≠ b.send then b.send else decide (a.label < b.label)

theorem Edge.cmp_lt (a b : Edge) : decide (Edge.cmp a b < 0) = Edge.lt a b := by
  unfold Edge.cmp Edge.lt cmpI Edge.side
  by_cases h1 : a.fr = b.fr
  · simp only [h1, Int.lt_irrefl, if_false, ne_eq, not_true_eq_false]
    cases ha : a.send <;> cases hb : b.send <;> simp <;> (repeat' split) <;> simp <;> omega
  · rcases Int.lt_or_gt_of_ne h1 with h | h
    · simp [h, h1]
    · have : ¬ a.fr < b.fr := by omega
      simp [h, h1, this]
theorem Edge.cmp_ge (a b : Edge) : decide (0 ≤ Edge.cmp a b) = !Edge.lt a b := by
  rw [← Edge.cmp_lt]
  by_cases h : 0 ≤ Edge.cmp a b
  · have : ¬ Edge.cmp a b < 0 := by omega
    simp [h, this]
  · have : Edge.cmp a b < 0 := by omega
    simp [h, this]

theorem Edge.swo : Go.Sort.SWO Edge.lt where
  irrefl x := by simp [Edge.lt]
  trans x y z h1 h2 := by
    unfold Edge.lt at *
    by_cases a1 : x.fr = y.fr <;> by_cases a2 : y.fr = z.fr <;> by_cases b1 : x.send = y.send <;> by_cases b2 : y.send = z.send <;> simp_all <;> (try omega)
    all_goals (try (have : ¬ x.fr = z.fr := by omega); simp_all; omega)
  ntrans x y z h1 h2 := by
    unfold Edge.lt at *
    by_cases a1 : x.fr = y.fr <;> by_cases a2 : y.fr = z.fr <;> by_cases b1 : x.send = y.send <;> by_cases b2 : y.send = z.send <;> simp_all <;> (try omega)
    all_goals (try (have : ¬ x.fr = z.fr := by omega); simp_all; omega)

end Go.Pv

/-
  Automata: plain laws.
-/
namespace Go.Pv

/-- An edge of an automaton with n states. -/
def Edge.fits (e : Edge) (n : Int) : Bool := decide (0 ≤ e.fr) && decide (e.fr < n) && decide (0 ≤ e.to) && decide (e.to < n) && decide (1 ≤ e.label) && decide (e.label ≤ 1000)
/-- Edges fit and ascend. -/
def chk (n : Int) : Option Edge → List Edge → Bool
  | _, [] => true
  | p, e :: r => e.fits n && (match p with | none => true | some q => Edge.lt q e) && chk n (some e) r
/-- The error of an automaton. -/
def Auto.err (a : Auto) : Int := if 12 < a.states ∨ 100 < a.edges.length then 3 else if 0 ≤ a.start ∧ a.start < a.states then (if chk a.states none a.edges = true then 0 else 1) else 1
/-- What stands ahead of a place. -/
def ahead1 (l : List Edge) (k : Nat) : Option Edge := if k = 0 then none else l[k - 1]?
theorem ahead1_succ {l : List Edge} {k : Nat} : ahead1 l (k + 1) = l[k]? := by simp [ahead1]

end Go.Pv

/-
  Numbers of lists of actions: plain laws.
-/
namespace Go.Pv

theorem chk_fits {n : Int} : ∀ {p : Option Edge} {l : List Edge}, chk n p l = true → ∀ e ∈ l, e.fits n = true
  | _, [], _, e, he => by simp at he
  | p, x :: r, h, e, he => by
    simp only [chk, Bool.and_eq_true] at h
    rcases List.mem_cons.1 he with rfl | he
    · exact h.1.1
    · exact chk_fits h.2 e he
theorem fits_iff {e : Edge} {n : Int} : e.fits n = true ↔ 0 ≤ e.fr ∧ e.fr < n ∧ 0 ≤ e.to ∧ e.to < n ∧ 1 ≤ e.label ∧ e.label ≤ 1000 := by
  simp [Edge.fits, and_assoc]
/-- What an automaton without an error has. -/
theorem Auto.err_zero {a : Auto} (h : a.err = 0) : a.states ≤ 12 ∧ a.edges.length ≤ 100 ∧ 0 ≤ a.start ∧ a.start < a.states ∧ chk a.states none a.edges = true := by
  unfold Auto.err at h
  split at h
  · cases h
  · split at h
    · split at h
      · rename_i h1 h2 h3
        exact ⟨by omega, by omega, h2.1, h2.2, h3⟩
      · cases h
    · cases h

/-- One edge counted. -/
def cntE (l nx : List Int) (e : Edge) : List Int := nx.set e.fr.toNat (min (nx.getD e.fr.toNat 0 + l.getD e.to.toNat 0) 1000000000000001)
def cntS (n : Nat) (es : List Edge) (l : List Int) : List Int := es.foldl (cntE l) (List.replicate n 0)
/-- The numbers of lists of k actions from each state, cut. -/
def cntN (n : Nat) (es : List Edge) : Nat → List Int
  | 0 => List.replicate n 1
  | k + 1 => cntS n es (cntN n es k)

def small (l : List Int) : Prop := ∀ i, 0 ≤ l.getD i 0 ∧ l.getD i 0 ≤ 1000000000000001
theorem getD_set {l : List Int} {i j : Nat} {x : Int} : (l.set i x).getD j 0 = if i = j ∧ i < l.length then x else l.getD j 0 := by
  simp only [List.getD_eq_getElem?_getD, List.getElem?_set]
  by_cases h : i = j
  · subst h
    by_cases h2 : i < l.length
    · simp [h2]
    · simp [h2]
  · simp [h]
theorem small_rep (n : Nat) {x : Int} (h : 0 ≤ x ∧ x ≤ 1000000000000001) : small (List.replicate n x) := by
  intro i
  simp only [List.getD_eq_getElem?_getD, List.getElem?_replicate]
  split <;> simp <;> omega
theorem cntE_len (l nx : List Int) (e : Edge) : (cntE l nx e).length = nx.length := by simp [cntE]
theorem cntE_small {l nx : List Int} {e : Edge} (hl : small l) (hn : small nx) : small (cntE l nx e) := by
  intro i
  unfold cntE
  rw [getD_set]
  have h1 := hl e.to.toNat
  have h2 := hn e.fr.toNat
  have h3 := hn i
  split <;> omega
theorem fold_len {l : List Int} : ∀ (es : List Edge) (nx : List Int), (es.foldl (cntE l) nx).length = nx.length
  | [], _ => rfl
  | e :: r, nx => by rw [List.foldl_cons, fold_len r, cntE_len]
theorem fold_small {l : List Int} (hl : small l) : ∀ (es : List Edge) (nx : List Int), small nx → small (es.foldl (cntE l) nx)
  | [], _, h => h
  | _e :: r, _nx, h => fold_small hl r _ (cntE_small hl h)
theorem cntN_len (n : Nat) (es : List Edge) : ∀ k, (cntN n es k).length = n
  | 0 => by simp [cntN]
  | k + 1 => by simp [cntN, cntS, fold_len]
theorem cntN_small (n : Nat) (es : List Edge) : ∀ k, small (cntN n es k)
  | 0 => small_rep n (by omega)
  | k + 1 => fold_small (cntN_small n es k) es _ (small_rep n (by omega))
/-- The part of a count that some edges make. -/
def cntP (n : Nat) (es : List Edge) (l : List Int) (j : Nat) : List Int := (es.take j).foldl (cntE l) (List.replicate n 0)
theorem cntP_succ {n : Nat} {es : List Edge} {l : List Int} {j : Nat} {e : Edge} (h : es[j]? = some e) : cntP n es l (j + 1) = cntE l (cntP n es l j) e := by
  unfold cntP
  rw [List.take_add_one, h]
  simp [List.foldl_append]
theorem cntP_all {n : Nat} {es : List Edge} {l : List Int} {j : Nat} (h : es.length ≤ j) : cntP n es l j = cntS n es l := by
  unfold cntP cntS
  rw [List.take_of_length_le h]
theorem cntP_len (n : Nat) (es : List Edge) (l : List Int) (j : Nat) : (cntP n es l j).length = n := by simp [cntP, fold_len]
theorem cntP_small {n : Nat} {es : List Edge} {l : List Int} (hl : small l) (j : Nat) : small (cntP n es l j) := fold_small hl _ _ (small_rep n (by omega))
theorem getD_some {l : List Int} {i : Nat} (h : i < l.length) : l[i]? = some (l.getD i 0) := by simp [h]

/-- The number and the error. -/
def Auto.count (a : Auto) (n : Int) : Int × Int :=
  if a.err ≠ 0 then (0, a.err) else if n < 0 ∨ 1000 < n then (0, 7) else
    let v := (cntN a.states.toNat a.edges n.toNat).getD a.start.toNat 0
    if 1000000000000000 < v then (0, 3) else (v, 0)

theorem Auto.count_err {a : Auto} {n : Int} (h : ¬ a.err = 0) : a.count n = (0, a.err) := by
  unfold Auto.count
  rw [if_pos h]
theorem Auto.count_range {a : Auto} {n : Int} (h : a.err = 0) (h2 : n < 0 ∨ 1000 < n) : a.count n = (0, 7) := by
  unfold Auto.count
  rw [if_neg (by simp [h]), if_pos h2]
theorem Auto.count_val {a : Auto} {n : Int} (h : a.err = 0) (h2 : ¬ n < 0) (h3 : ¬ 1000 < n) {v : Int} (hv : (cntN a.states.toNat a.edges n.toNat).getD a.start.toNat 0 = v) : a.count n = if 1000000000000000 < v then (0, 3) else (v, 0) := by
  unfold Auto.count
  rw [if_neg (by simp [h]), if_neg (by omega)]
  simp only [hv]
/-- The first k are one. -/
def onesTo (n k : Nat) : List Int := List.replicate k 1 ++ List.replicate (n - k) 0
theorem onesTo_zero (n : Nat) : onesTo n 0 = List.replicate n 0 := by simp [onesTo]
theorem onesTo_all (n : Nat) : onesTo n n = List.replicate n 1 := by simp [onesTo]
@[go_sem] theorem onesTo_len {n k : Nat} (h : k ≤ n) : (onesTo n k).length = n := by simp [onesTo]; omega
theorem onesTo_succ {n k : Nat} (h : k < n) : (onesTo n k).set k 1 = onesTo n (k + 1) := by
  unfold onesTo
  rw [List.set_append_right _ _ (by simp)]
  obtain ⟨m, hm⟩ : ∃ m, n - k = m + 1 := ⟨n - k - 1, by omega⟩
  have : n - (k + 1) = m := by omega
  rw [hm, this, List.replicate_succ' (n := k), List.append_assoc]
  simp [List.replicate_succ]

/-- The arrays of a count after k rounds. -/
def cntA (n : Nat) (es : List Edge) (k : Nat) : List Arr := (List.range (k + 1)).map fun i => ⟨0, 1, .inl (ints (cntN n es i))⟩
@[go_sem] theorem cntA_len (n : Nat) (es : List Edge) (k : Nat) : (cntA n es k).length = k + 1 := by simp [cntA]
theorem cntA_get (n : Nat) (es : List Edge) (k : Nat) : (cntA n es k)[k]? = some ⟨0, 1, .inl (ints (cntN n es k))⟩ := by simp [cntA]
theorem cntA_new (n : Nat) (es : List Edge) (k : Nat) (x : Arr) : (cntA n es k ++ [x])[k + 1]? = some x := by
  rw [List.getElem?_append_right (by simp [cntA_len])]
  simp [cntA_len]
theorem cntA_old (n : Nat) (es : List Edge) (k : Nat) (x : Arr) : (cntA n es k ++ [x])[k]? = some ⟨0, 1, .inl (ints (cntN n es k))⟩ := by
  rw [List.getElem?_append_left (by simp [cntA_len]), cntA_get]
theorem cntA_set (n : Nat) (es : List Edge) (k : Nat) (x y : Arr) : (cntA n es k ++ [x]).set (k + 1) y = cntA n es k ++ [y] := by
  rw [List.set_append_right _ _ (by simp [cntA_len])]
  simp [cntA_len]
theorem cntA_succ (n : Nat) (es : List Edge) (k : Nat) : cntA n es k ++ [⟨0, 1, .inl (ints (cntS n es (cntN n es k)))⟩] = cntA n es (k + 1) := by
  unfold cntA
  rw [List.range_succ (n := k + 1), List.map_append]
  rfl

end Go.Pv

/-
  Plain data that a law is given, as structures.
-/
namespace Go.Pv
variable {P : Program}

theorem typed_int {n : Nat} {t : TypeId} {k : IntKind} {cs : List PV} (hu : P.underlying t = some (.int k)) (h : typed P (n + 1) t cs) : ∃ x, cs = [.int k x] ∧ k.min ≤ x ∧ x ≤ k.max := by
  simpa only [typed, hu] using h
theorem typed_bool {n : Nat} {t : TypeId} {cs : List PV} (hu : P.underlying t = some .bool) (h : typed P (n + 1) t cs) : ∃ b, cs = [.bool b] := by
  simpa only [typed, hu] using h
theorem typed_str {n : Nat} {t : TypeId} {cs : List PV} (hu : P.underlying t = some .string) (h : typed P (n + 1) t cs) : ∃ s, cs = [.str s] ∧ s.size ≤ maxLen := by
  simpa only [typed, hu] using h
theorem typed_slice {n : Nat} {t el : TypeId} {cs : List PV} (hu : P.underlying t = some (.slice el)) (h : typed P (n + 1) t cs) : ∃ rows, cs = [.lst 0 rows] ∧ rows.length ≤ maxLen ∧ ∀ r ∈ rows, typed P n el r := by
  simpa only [typed, hu] using h

/-- Cells of some types, one behind the other. -/
def typesOk (P : Program) (n : Nat) : List TypeId → List PV → Prop
  | [], cs => cs = []
  | t :: ts, cs => ∃ r q, cs = r ++ q ∧ typed P n t r ∧ typesOk P n ts q

theorem typed_struct {n : Nat} {t : TypeId} {fs : Array Field} {ts : List TypeId} {cs : List PV} (hu : P.underlying t = some (.struct fs)) (hts : fs.toList.map (·.type) = ts) (h : typed P (n + 1) t cs) : typesOk P n ts cs := by
  simp only [typed, hu] at h
  obtain ⟨parts, h1, rfl, h3⟩ := h
  subst hts
  have key : ∀ (l : List Field) (parts : List (List PV)), parts.length = l.length → (∀ (i : Nat) (f : Field) (r : List PV), l[i]? = some f → parts[i]? = some r → typed P n f.type r) → typesOk P n (l.map (·.type)) parts.flatten := by
    intro l
    induction l with
    | nil => intro parts hl _; simp [List.eq_nil_of_length_eq_zero hl, typesOk]
    | cons f l ih =>
      intro parts hl hp
      match parts, hl with
      | r :: parts, hl => exact ⟨r, parts.flatten, rfl, hp 0 f r rfl rfl, ih parts (by simpa using hl) (fun i g q hg hq => hp (i + 1) g q (by simpa using hg) (by simpa using hq))⟩
  exact key fs.toList parts (by simpa using h1) (fun i f r hf hr => h3 i f r (by simpa using hf) hr)

theorem typed_array {n m : Nat} {t el : TypeId} {cs : List PV} (hu : P.underlying t = some (.array m el)) (h : typed P (n + 1) t cs) : typesOk P n (List.replicate m el) cs := by
  simp only [typed, hu] at h
  obtain ⟨parts, h1, rfl, h3⟩ := h
  subst h1
  clear hu
  induction parts with
  | nil => rfl
  | cons r parts ih => exact ⟨r, parts.flatten, rfl, h3 r (by simp), ih (fun q hq => h3 q (by simp [hq]))⟩

theorem rows_map {α : Type} {c : α → List PV} : ∀ {rows : List (List PV)}, (∀ r ∈ rows, ∃ x, r = c x) → ∃ l : List α, rows = l.map c
  | [], _ => ⟨[], rfl⟩
  | r :: rows, h => by
    obtain ⟨x, rfl⟩ := h r (by simp)
    obtain ⟨l, rfl⟩ := rows_map (rows := rows) (fun q hq => h q (by simp [hq]))
    exact ⟨x :: l, rfl⟩

theorem i64_min : IntKind.min .i64 = -9223372036854775808 := by decide
theorem i64_max : IntKind.max .i64 = 9223372036854775807 := by decide

/-- An edge's type, and an automaton's. -/
structure AutoT (P : Program) (ta tl te ti tb : TypeId) : Prop where
  fa : ∃ fs, P.underlying ta = some (.struct fs) ∧ fs.toList.map (·.type) = [ti, ti, tl]
  fe : ∃ fs, P.underlying te = some (.struct fs) ∧ fs.toList.map (·.type) = [ti, tb, ti, ti]
  l : P.underlying tl = some (.slice te)
  i : P.underlying ti = some (.int .i64)
  b : P.underlying tb = some .bool

/-- Numbers fit. -/
def Edge.r64 (e : Edge) : Prop := (-9223372036854775808 ≤ e.fr ∧ e.fr ≤ 9223372036854775807) ∧ (-9223372036854775808 ≤ e.label ∧ e.label ≤ 9223372036854775807) ∧ (-9223372036854775808 ≤ e.to ∧ e.to ≤ 9223372036854775807)
def Auto.r64 (a : Auto) : Prop := (-9223372036854775808 ≤ a.states ∧ a.states ≤ 9223372036854775807) ∧ (-9223372036854775808 ≤ a.start ∧ a.start ≤ 9223372036854775807) ∧ a.edges.length ≤ 2 ^ 63 - 1 ∧ ∀ e ∈ a.edges, e.r64

theorem edge_typed {ta tl te ti tb : TypeId} (T : AutoT P ta tl te ti tb) {n : Nat} {cs : List PV} (h : typed P (n + 2) te cs) : ∃ e : Edge, cs = e.c ∧ e.r64 := by
  obtain ⟨fs, hu, hts⟩ := T.fe
  obtain ⟨r0, q0, rfl, h0, r1, q1, rfl, h1, r2, q2, rfl, h2, r3, q3, rfl, h3, rfl⟩ := typed_struct hu hts h
  obtain ⟨x, rfl, hx⟩ := typed_int T.i h0
  obtain ⟨b, rfl⟩ := typed_bool T.b h1
  obtain ⟨y, rfl, hy⟩ := typed_int T.i h2
  obtain ⟨z, rfl, hz⟩ := typed_int T.i h3
  rw [i64_min, i64_max] at hx hy hz
  exact ⟨⟨x, b, y, z⟩, rfl, hx, hy, hz⟩

theorem auto_typed {ta tl te ti tb : TypeId} (T : AutoT P ta tl te ti tb) {n : Nat} {cs : List PV} (h : typed P (n + 4) ta cs) : ∃ a : Auto, cs = [.int .i64 a.states, .int .i64 a.start, .lst 0 (a.edges.map Edge.c)] ∧ a.r64 := by
  obtain ⟨fs, hu, hts⟩ := T.fa
  obtain ⟨r0, q0, rfl, h0, r1, q1, rfl, h1, r2, q2, rfl, h2, rfl⟩ := typed_struct hu hts h
  obtain ⟨x, rfl, hx⟩ := typed_int T.i h0
  obtain ⟨y, rfl, hy⟩ := typed_int T.i h1
  obtain ⟨rows, rfl, hl, hr⟩ := typed_slice T.l h2
  rw [i64_min, i64_max] at hx hy
  obtain ⟨l, rfl⟩ := rows_map (c := fun e : {e : Edge // e.r64} => e.1.c) (rows := rows) (fun r hr' => by
    obtain ⟨e, rfl, he⟩ := edge_typed T (hr r hr')
    exact ⟨⟨e, he⟩, rfl⟩)
  refine ⟨⟨x, y, l.map (·.1)⟩, by simp [], hx, hy, by simpa [maxLen] using hl, ?_⟩
  intro e he
  obtain ⟨e', _, rfl⟩ := List.mem_map.1 he
  exact e'.2

/-- A parameter of a law: what it may be. -/
structure Arg (P : Program) (t : TypeId) (α : Type) where
  pv : α → PV
  ok : α → Prop
  dec : ∀ cs, typed P 12 t cs → ∃ x : α, ok x ∧ argPV P t cs = pv x

theorem isAgg_struct {t : TypeId} {fs : Array Field} (hu : P.underlying t = some (.struct fs)) : isAggT P t = some true := by simp [isAggT, hu]

def autoArg {ta tl te ti tb : TypeId} (T : AutoT P ta tl te ti tb) : Arg P ta Auto where
  pv a := .agg [.int .i64 a.states, .int .i64 a.start, .lst 0 (a.edges.map Edge.c)]
  ok := Auto.r64
  dec cs h := by
    obtain ⟨a, rfl, ha⟩ := auto_typed (n := 8) T h
    obtain ⟨fs, hu, _⟩ := T.fa
    exact ⟨a, ha, by simp only [argPV, isAgg_struct hu, if_true]⟩
def edgeArg {ta tl te ti tb : TypeId} (T : AutoT P ta tl te ti tb) : Arg P te Edge where
  pv e := .agg [.int .i64 e.fr, .bool e.send, .int .i64 e.label, .int .i64 e.to]
  ok := Edge.r64
  dec cs h := by
    obtain ⟨e, rfl, he⟩ := edge_typed (n := 10) T h
    obtain ⟨fs, hu, _⟩ := T.fe
    exact ⟨e, he, by simp only [argPV, isAgg_struct hu, if_true]; rfl⟩
def intArg {t : TypeId} {k : IntKind} (hu : P.underlying t = some (.int k)) : Arg P t Int where
  pv n := .int k n
  ok n := k.min ≤ n ∧ n ≤ k.max
  dec cs h := by
    obtain ⟨x, rfl, hx⟩ := typed_int (n := 11) hu h
    have : isAggT P t = some false := by simp [isAggT, hu]
    exact ⟨x, hx, by simp [argPV, this]⟩
def boolArg {t : TypeId} (hu : P.underlying t = some .bool) : Arg P t Bool where
  pv n := .bool n
  ok _ := True
  dec cs h := by
    obtain ⟨x, rfl⟩ := typed_bool (n := 11) hu h
    have : isAggT P t = some false := by simp [isAggT, hu]
    exact ⟨x, trivial, by simp [argPV, this]⟩

theorem law1 {N : Nat → Nat} {f : Nat} {t1 : TypeId} {α : Type} (A1 : Arg P t1 α) (hF : ∀ x, A1.ok x → FnR P N f [A1.pv x] [.bool true]) (css : List (List PV)) (hl : css.length = [t1].length)
    (ht : ∀ (j : Nat) (t : TypeId) (cs : List PV), [t1][j]? = some t → css[j]? = some cs → typed P 12 t cs) : FnR P N f (List.zipWith (argPV P) [t1] css) [.bool true] := by
  match css, hl with
  | [c1], _ =>
    obtain ⟨x, hx, e1⟩ := A1.dec c1 (ht 0 t1 c1 rfl rfl)
    simp only [List.zipWith, e1]
    exact hF x hx
theorem law2 {N : Nat → Nat} {f : Nat} {t1 t2 : TypeId} {α β : Type} (A1 : Arg P t1 α) (A2 : Arg P t2 β) (hF : ∀ x y, A1.ok x → A2.ok y → FnR P N f [A1.pv x, A2.pv y] [.bool true]) (css : List (List PV)) (hl : css.length = [t1, t2].length)
    (ht : ∀ (j : Nat) (t : TypeId) (cs : List PV), [t1, t2][j]? = some t → css[j]? = some cs → typed P 12 t cs) : FnR P N f (List.zipWith (argPV P) [t1, t2] css) [.bool true] := by
  match css, hl with
  | [c1, c2], _ =>
    obtain ⟨x, hx, e1⟩ := A1.dec c1 (ht 0 t1 c1 rfl rfl)
    obtain ⟨y, hy, e2⟩ := A2.dec c2 (ht 1 t2 c2 rfl rfl)
    simp only [List.zipWith, e1, e2]
    exact hF x y hx hy
theorem law3 {N : Nat → Nat} {f : Nat} {t1 t2 t3 : TypeId} {α β γ : Type} (A1 : Arg P t1 α) (A2 : Arg P t2 β) (A3 : Arg P t3 γ) (hF : ∀ x y z, A1.ok x → A2.ok y → A3.ok z → FnR P N f [A1.pv x, A2.pv y, A3.pv z] [.bool true]) (css : List (List PV)) (hl : css.length = [t1, t2, t3].length)
    (ht : ∀ (j : Nat) (t : TypeId) (cs : List PV), [t1, t2, t3][j]? = some t → css[j]? = some cs → typed P 12 t cs) : FnR P N f (List.zipWith (argPV P) [t1, t2, t3] css) [.bool true] := by
  match css, hl with
  | [c1, c2, c3], _ =>
    obtain ⟨x, hx, e1⟩ := A1.dec c1 (ht 0 t1 c1 rfl rfl)
    obtain ⟨y, hy, e2⟩ := A2.dec c2 (ht 1 t2 c2 rfl rfl)
    obtain ⟨z, hz, e3⟩ := A3.dec c3 (ht 2 t3 c3 rfl rfl)
    simp only [List.zipWith, e1, e2, e3]
    exact hF x y z hx hy hz

end Go.Pv

