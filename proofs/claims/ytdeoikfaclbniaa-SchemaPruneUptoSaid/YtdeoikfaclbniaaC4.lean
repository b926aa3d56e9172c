/-
  What the functions of the law give.
-/
import Derived.Test.YtdeoikfaclbniaaC3
set_option linter.unusedSimpArgs false
set_option linter.unusedVariables false
/-
  Chapter 07: Prune.
-/
namespace Go.Pv

noncomputable def prunedL (l : List Typ) (i : Int) : List Typ := (reachR l i).1.map fun u => remapT (reachR l i).1 (typAt l u)
noncomputable def placeL (l : List Typ) (i : Int) : List Int := if (reachR l i).2 ≠ 0 then [] else plK (reachR l i).1 l.length l.length
theorem reachR_ok {l : List Typ} {i : Int} (h : (reachR l i).2 = 0) : Sane l ∧ (reachR l i).1.Nodup ∧ ∀ u ∈ (reachR l i).1, inT l u := by
  unfold reachR at h ⊢
  split at h
  · rename_i h1
    exact absurd h h1
  · rename_i h1
    have hk : knownR l i = 0 := by simpa using h1
    rw [if_neg (by simp [hk])]
    obtain ⟨a, b⟩ := reachR_in hk
    exact ⟨valid_sane (known_zero hk).1, (isort_perm ltI _).nodup_iff.2 a, fun u hu => b u ((isort_perm ltI _).mem_iff.1 hu)⟩
theorem reachR_no {l : List Typ} {i : Int} (h : (reachR l i).2 ≠ 0) : (reachR l i).1 = [] := by
  unfold reachR at h ⊢
  split
  · rfl
  · rename_i h1
    rw [if_neg h1] at h
    exact absurd rfl h
/-- What the list of types is while it is being built. -/
def OutV (ar : List Arr) (V0 : V) (ts : List Typ) : Prop := (V0 = .tl [] ∧ ts = []) ∨ ∃ o ver, V0 = .own o ver 0 ts.length ∧ o ≠ 0 ∧ OutRep ar o ver ts
theorem cut_all {ver n : Nat} {b : Sum (List (List PV)) (List (List V))} (_h : rowsLen b = n) (_hv : ver = ver) : cutRows 0 n b = b := by
  subst _h
  cases b <;> simp [cutRows, rowsLen]
theorem mem_used {t : Typ} {m : Mem} (h : m ∈ t.mems) : m.type ∈ usesT t := by
  unfold usesT
  exact List.mem_append_left _ (List.mem_append_left _ (List.mem_map_of_mem h))
theorem elem_used {t : Typ} (h : 7 ≤ t.kind) : t.elem ∈ usesT t := by simp [usesT, elemsT, h]
theorem mixJ_store {L : List Int} {l : List Mem} {j : Nat} {m : Mem} (h : l[j]? = some m) (id : Nat) : storeRow id j 2 [.pv (.int .i64 (idxI L m.type))] ⟨0, 13, .inl ((mixJ L l j).map Mem.c)⟩ = some { ar := some (id, ⟨0, 13, .inl ((mixJ L l (j + 1)).map Mem.c)⟩) } := by
  have hj := (List.getElem?_eq_some_iff.1 h).1
  rw [storeRow_inl (l := [.int .i64 (idxI L m.type)]) (by rw [List.length_map, mixJ_len]; exact hj) rfl (by simp) rfl, ← mixJ_set h, List.map_set]
  unfold over
  have hd : ((mixJ L l j).map Mem.c).getD j [] = m.c := by rw [List.getD_eq_getElem?_getD, List.getElem?_map, mixJ_get h]; rfl
  rw [hd]
  rfl
/-- One more type. -/
theorem appOut {ar X : List Arr} {V0 y : V} {ts : List Typ} {t : Typ} {new : Sum (List (List PV)) (List (List V))} {rd : Option Nat} {row : List V} (hO : OutV ar V0 ts) (h0 : 0 < ar.length) (hm : ts.length + 1 ≤ 2147483648)
    (hs : ∀ bx, srcRows ⟨bx, ar ++ X, []⟩ y = some (new, rd)) (hn : bodyV new = [row]) (hrd : ∀ o, rd = some o → ar.length ≤ o) (hr : ∀ o, o < ar.length ∨ (ar ++ X).length ≤ o → TRow (ar ++ X) o row t) :
    ∃ V1 T ar', (∀ bx, appendV ⟨bx, ar ++ X, []⟩ 10 V0 y = some (V1, T)) ∧ (∀ bx, T.apply ⟨bx, ar ++ X, []⟩ = ⟨bx, ar', []⟩) ∧ V1.cells = [V1] ∧ V1.calm = true ∧ ar'[0]? = ar[0]? ∧ OutV ar' V1 (ts ++ [t]) := by
  have hrow : row.length = 10 := (hr _ (.inr (Nat.le_refl _))).len
  rcases hO with ⟨rfl, rfl⟩ | ⟨o, ver, rfl, ho, hrep⟩
  · refine ⟨_, _, (ar ++ X) ++ [⟨0, 10, catRows (.inl []) new⟩], fun bx => out_first (hs bx) hn hrow, fun bx => ?_, rfl, rfl, ?_, .inr ⟨(ar ++ X).length, 0, rfl, ?_, ?_⟩⟩
    · simp [Tn.apply]
    · rw [List.append_assoc, List.getElem?_append_left h0]
    · show (ar ++ X).length ≠ 0
      rw [List.length_append]
      omega
    · refine ⟨by simp, catRows (.inl []) new, by simp, ?_⟩
      rw [bodyV_cat, hn]
      have h1 : TRows ((ar ++ X) ++ [⟨0, 10, catRows (.inl []) new⟩]) (ar ++ X).length (bodyV (.inl [])) [] := ⟨rfl, fun i r u h1 _ => by simp [bodyV] at h1⟩
      exact h1.snoc ((hr _ (.inr (Nat.le_refl _))).push _)
  · obtain ⟨body, hb1, hb2⟩ := hrep.it
    have hol := (List.getElem?_eq_some_iff.1 hb1).1
    have hb1' : (ar ++ X)[o]? = some ⟨ver, 10, body⟩ := by rw [List.getElem?_append_left hol]; exact hb1
    have hbl : rowsLen body = ts.length := by rw [← bodyV_len]; exact hb2.len
    have happ := fun bx => out_next (bx := bx) (mp := []) (hs bx) hn hrow hb1' hbl (fun e => by have := hrd o e; omega) hm
    rw [cut_all (ver := ver) hbl rfl] at happ
    refine ⟨_, _, (ar ++ X).set o ⟨ver + 1, 10, catRows body new⟩, happ, fun bx => ?_, rfl, rfl, ?_, .inr ⟨o, ver + 1, by simp, ho, ?_⟩⟩
    · simp [Tn.apply]
    · rw [List.getElem?_set_ne ho, List.getElem?_append_left h0]
    · refine ⟨by simp, catRows body new, ?_, ?_⟩
      · rw [List.getElem?_set_self (by rw [List.length_append]; omega)]
      · rw [bodyV_cat, hn]
        exact (((hb2.push X).set _).snoc ((hr o (.inl hol)).set _))
/-- .. by way of a literal. -/
theorem appLit {ar X0 : List Arr} {V0 : V} {ts : List Typ} {t : Typ} {row : List V} {n : Nat} (hO : OutV ar V0 ts) (h0 : 0 < ar.length) (hm : ts.length + 1 ≤ 2147483648) (hl : (ar ++ X0).length = n)
    (hr : ∀ o, o < ar.length ∨ n + 1 ≤ o → TRow (ar ++ X0 ++ [⟨0, 10, .inr [row]⟩]) o row t) :
    ∃ V1 T ar', (∀ bx, appendV ⟨bx, ar ++ X0 ++ [⟨0, 10, .inr [row]⟩], []⟩ 10 V0 (.own n 0 0 1) = some (V1, T)) ∧ (∀ bx, T.apply ⟨bx, ar ++ X0 ++ [⟨0, 10, .inr [row]⟩], []⟩ = ⟨bx, ar', []⟩) ∧ V1.cells = [V1] ∧ V1.calm = true ∧ ar'[0]? = ar[0]? ∧ OutV ar' V1 (ts ++ [t]) := by
  rw [List.append_assoc] at hr ⊢
  refine appOut (X := X0 ++ [⟨0, 10, .inr [row]⟩]) (new := .inr [row]) (rd := some n) hO h0 hm (fun bx => ?_) rfl (fun o ho => ?_) (fun o ho => hr o ?_)
  · have hg : (ar ++ (X0 ++ [⟨0, 10, .inr [row]⟩]))[n]? = some ⟨0, 10, .inr [row]⟩ := by
      rw [← List.append_assoc, ← hl]
      simp
    simp [srcRows, ownArr, hg, cutRows]
  · injection ho with ho
    rw [← ho, ← hl, List.length_append]
    omega
  · rcases ho with ho | ho
    · exact .inl ho
    · rw [← List.append_assoc, List.length_append, hl] at ho
      exact .inr ho
set_option maxHeartbeats 16000000 in
/-- Prune. -/
theorem r275 (v : Nat) (l : List Typ) (i : Int) (hl : l.length ≤ 2147483648) (ho : ∀ t ∈ l, t.ok) (hs : ∀ t ∈ l, t.short) (hsm : ∀ t ∈ l, ∀ c ∈ t.c, Small 1048576 c) :
    res A PrA 275 [.agg [.lst v (l.map Typ.c)], .int .i64 i] = some [.agg [.lst 0 ((prunedL l i).map Typ.c)], .lst 0 (ints (placeL l i)), .int .i64 (reachR l i).2] := by
  refine res_of a275 rfl rfl ?_
  simp only [F275]
  have h273 := fun v => r273 v l i hl ho hs
  have hlen := reachR_len (l := l) (i := i)
  have hok := reachR_ok (l := l) (i := i)
  have hno := reachR_no (l := l) (i := i)
  unfold prunedL placeL
  generalize (reachR l i).1 = L at *
  generalize (reachR l i).2 = e at *
  simp (disch := omega) only [go_sem, h273]
  refine Br.ofP (fun c => ?_) (fun c => ?_) <;> simp (disch := omega) only [go_sem, c]
  rotate_left
  · rw [hno c, if_pos c]
    rfl
  subst c
  obtain ⟨hsane, hnd, hin⟩ := hok rfl
  have h32 := hsane.len
  rw [if_neg (by simp)]
  refine W.upto l.length (fun k => ⟨[(2, .ptr 2 0), (4, .ptr 4 0), (7, .pv (.lst 0 (ints L))), (9, .own 0 0 0 l.length), (31, .pv (.int .i64 l.length)), (32, .pv (.int .i64 k))], ⟨[(2, [.pv (.lst v (l.map Typ.c))]), (4, [.tl []])], [⟨0, 1, .inl (ints (plK L l.length k))⟩], []⟩⟩) (fun _ => True) ?_ trivial (fun k hk _ => ?_)
  · rw [plK_zero]
    rfl
  have hpk := plK_len L l.length k
  simp (disch := omega) only [go_sem]
  refine Br.ofP (fun c => ?_) (fun c => ?_)
  · have h118 := fun t => s118 t L (k : Int) (by omega)
    have hset := plK_set L l.length k (by omega)
    unfold idxI at hset
    simp (disch := omega) only [go_sem, h118]
    refine .of (by omega) ?_ trivial
    rw [hset]
    rfl
  obtain rfl : k = l.length := by omega
  simp (disch := omega) only [go_sem]
  have hpg : ∀ u : Int, 0 ≤ u → u < l.length → (plK L l.length l.length)[u.toNat]? = some (idxI L u) := fun u h0 h1 => plK_get h0 h1
  clear hk c
  generalize plK L l.length l.length = pl at hpk hpg
  refine W.loop (α := Nat × List Arr × V) (fun x => ⟨[(2, .ptr 2 0), (4, .ptr 4 0), (9, .own 0 0 0 l.length), (11, .ptr 11 0), (42, .pv (.lst 0 (ints L))), (43, .pv (.int .i64 L.length)), (44, .pv (.int .i64 x.1))], ⟨[(2, [.pv (.lst v (l.map Typ.c))]), (4, [.tl []]), (11, [x.2.2])], x.2.1, []⟩⟩)
    (fun x => x.1 ≤ L.length ∧ x.2.1[0]? = some ⟨0, 1, .inl (ints pl)⟩ ∧ OutV x.2.1 x.2.2 ((L.take x.1).map fun u => remapT L (typAt l u))) (fun x => L.length - x.1) (0, [⟨0, 1, .inl (ints pl)⟩], .tl []) rfl ⟨Nat.zero_le _, rfl, .inl ⟨rfl, by simp⟩⟩ fun x hx => ?_
  obtain ⟨k, ar, V0⟩ := x
  obtain ⟨hk, hP, hO⟩ := hx
  dsimp only at hk hP hO
  simp (disch := omega) only [go_sem]
  refine Br.ofP (fun c => ?_) (fun c => ?_)
  rotate_left
  · obtain rfl : k = L.length := by omega
    rw [List.take_length] at hO
    rcases hO with ⟨rfl, h1⟩ | ⟨o, ver, rfl, h0, h1⟩
    · simp (disch := omega) only [go_sem, hP]
      rw [h1, List.take_of_length_le (by omega)]
      rfl
    · have hkeep := h1.keep [(4, [V.own o ver 0 (L.map fun u => remapT L (typAt l u)).length])] []
      simp only [keepc_own4, ownArr_mk, List.length_map] at hkeep
      simp (disch := omega) only [go_sem, hP]
      rw [hkeep, List.take_of_length_le (by omega)]
      rfl
  have hu := List.getElem?_eq_getElem (l := L) (i := k) (by omega)
  generalize L[k]'(by omega) = u at hu
  obtain ⟨hu0, hu1⟩ := hin u (List.mem_of_getElem? hu)
  have hget := typAt_get hu0 hu1
  have hidx := idx_typ (v := v) hu0 hu1
  have hm := List.mem_of_getElem? hget
  have h294 := r294 (typAt l u) (ho _ hm) (hsm _ hm)
  have huses := hsane.uses _ hm
  have hsh := hs _ hm
  have hnext : (L.take (k + 1)).map (fun u => remapT L (typAt l u)) = (L.take k).map (fun u => remapT L (typAt l u)) ++ [remapT L (typAt l u)] := by
    rw [List.take_add_one, hu, List.map_append]
    rfl
  generalize typAt l u = p at *
  have hap : 0 < ar.length := (List.getElem?_eq_some_iff.1 hP).1
  unfold copC Typ.c at h294
  unfold Typ.c at hidx
  by_cases es : p.syms.map Sym.c = []
  · by_cases em : p.mems.map Mem.c = []
    · have fin : ∀ (kv ev : Int), (remapT L p).key = kv → (remapT L p).elem = ev → ∃ V1 T ar', (∀ bx, appendV ⟨bx, ar, []⟩ 10 V0 (.tl [[.int .i64 p.kind, .str p.name, .int .i64 p.low, .int .i64 p.high, .int .i64 p.max, .lst 0 [], .lst 0 [], .int .i64 kv, .int .i64 ev, .bool p.opn]]) = some (V1, T)) ∧ (∀ bx, T.apply ⟨bx, ar, []⟩ = ⟨bx, ar', []⟩) ∧ V1.cells = [V1] ∧ V1.calm = true ∧ ar'[0]? = ar[0]? ∧ OutV ar' V1 ((L.take k).map (fun u => remapT L (typAt l u)) ++ [remapT L p]) := fun kv ev e1 e2 => by
        have := appOut (X := []) (t := remapT L p) (rd := none) (new := .inl [[.int .i64 p.kind, .str p.name, .int .i64 p.low, .int .i64 p.high, .int .i64 p.max, .lst 0 [], .lst 0 [], .int .i64 kv, .int .i64 ev, .bool p.opn]]) (y := .tl [[.int .i64 p.kind, .str p.name, .int .i64 p.low, .int .i64 p.high, .int .i64 p.max, .lst 0 [], .lst 0 [], .int .i64 kv, .int .i64 ev, .bool p.opn]]) hO hap (by simp; omega) (fun bx => rfl) rfl (fun o h => by cases h) (fun o _ => ⟨.pv (.lst 0 []), .pv (.lst 0 []), by rw [e1, e2]; rfl, .inl (by rw [show (remapT L p).syms = p.syms from rfl, es]), .inl (by rw [show (remapT L p).mems = p.mems.map (remapM L) from rfl, List.map_eq_nil_iff.1 em]; rfl)⟩)
        simpa only [List.append_nil] using this
      rw [es, em, frL_nil, frL_nil] at h294
      rw [es, em] at hidx
      unfold Typ.c
      simp (disch := omega) only [go_sem, hu, hidx, h294]
      refine W.once ?_
      simp (disch := omega) only [go_sem]
      refine Br.ofP (fun c => absurd c (by omega)) (fun _ => ?_)
      simp (disch := omega) only [go_sem]
      refine Br.ofP (fun c8 => ?_) (fun c8 => ?_)
      · obtain ⟨hk0, hk1⟩ := huses p.key (key_used c8)
        have h7 : 7 ≤ p.kind := by omega
        obtain ⟨he0, he1⟩ := huses p.elem (elem_used h7)
        have hpk := hpg p.key hk0 hk1
        have hpe := hpg p.elem he0 he1
        simp (disch := omega) only [go_sem, hP, hpk]
        refine Br.ofP (fun _ => ?_) (fun c7 => absurd h7 c7)
        simp (disch := omega) only [go_sem, hP, hpe]
        obtain ⟨V1, T, ar', happ, hT, hc1, hc2, hz, hO'⟩ := fin _ _ (if_pos c8) (if_pos h7)
        simp (disch := omega) only [go_sem, happ, hT, hc1, hc2]
        refine ⟨(k + 1, ar', V1), ⟨by dsimp only; omega, by dsimp only; rw [hz, hP], by dsimp only; rw [hnext]; exact hO'⟩, by dsimp only; omega, rfl⟩
      simp (disch := omega) only [go_sem]
      refine Br.ofP (fun c7 => ?_) (fun c7 => ?_)
      · obtain ⟨he0, he1⟩ := huses p.elem (elem_used c7)
        have hpe := hpg p.elem he0 he1
        simp (disch := omega) only [go_sem, hP, hpe]
        obtain ⟨V1, T, ar', happ, hT, hc1, hc2, hz, hO'⟩ := fin _ _ (if_neg c8) (if_pos c7)
        simp (disch := omega) only [go_sem, happ, hT, hc1, hc2]
        refine ⟨(k + 1, ar', V1), ⟨by dsimp only; omega, by dsimp only; rw [hz, hP], by dsimp only; rw [hnext]; exact hO'⟩, by dsimp only; omega, rfl⟩
      · simp (disch := omega) only [go_sem]
        obtain ⟨V1, T, ar', happ, hT, hc1, hc2, hz, hO'⟩ := fin _ _ (if_neg c8) (if_neg c7)
        simp (disch := omega) only [go_sem, happ, hT, hc1, hc2]
        refine ⟨(k + 1, ar', V1), ⟨by dsimp only; omega, by dsimp only; rw [hz, hP], by dsimp only; rw [hnext]; exact hO'⟩, by dsimp only; omega, rfl⟩
    · have hml := hsh.mems
      have fin : ∀ (kv ev : Int), (remapT L p).key = kv → (remapT L p).elem = ev → ∃ V1 T ar', (∀ bx, appendV ⟨bx, ar ++ [⟨0, 13, .inl ((p.mems.map (remapM L)).map Mem.c)⟩] ++ [⟨0, 10, .inr [[.pv (.int .i64 p.kind), .pv (.str p.name), .pv (.int .i64 p.low), .pv (.int .i64 p.high), .pv (.int .i64 p.max), .pv (.lst 0 []), .own ar.length 0 0 p.mems.length, .pv (.int .i64 kv), .pv (.int .i64 ev), .pv (.bool p.opn)]]⟩], []⟩ 10 V0 (.own (ar.length + 1) 0 0 1) = some (V1, T)) ∧ (∀ bx, T.apply ⟨bx, ar ++ [⟨0, 13, .inl ((p.mems.map (remapM L)).map Mem.c)⟩] ++ [⟨0, 10, .inr [[.pv (.int .i64 p.kind), .pv (.str p.name), .pv (.int .i64 p.low), .pv (.int .i64 p.high), .pv (.int .i64 p.max), .pv (.lst 0 []), .own ar.length 0 0 p.mems.length, .pv (.int .i64 kv), .pv (.int .i64 ev), .pv (.bool p.opn)]]⟩], []⟩ = ⟨bx, ar', []⟩) ∧ V1.cells = [V1] ∧ V1.calm = true ∧ ar'[0]? = ar[0]? ∧ OutV ar' V1 ((L.take k).map (fun u => remapT L (typAt l u)) ++ [remapT L p]) := fun kv ev e1 e2 =>
        appLit (X0 := [⟨0, 13, .inl ((p.mems.map (remapM L)).map Mem.c)⟩]) hO hap (by simp; omega) (by simp) fun o ho => ⟨.pv (.lst 0 []), .own ar.length 0 0 p.mems.length, by rw [e1, e2]; rfl, .inl (by rw [show (remapT L p).syms = p.syms from rfl, es]), .inr (.inl ⟨ar.length, by simp [remapT], by omega, by simp [remapT]⟩)⟩
      have hne : p.mems.map Mem.c ≠ [] := em
      rw [es, frL_nil, show frL 13 (p.mems.map Mem.c) = .fr 13 ((mixJ L p.mems 0).map Mem.c) by rw [frL_cons hne, mixJ_zero]] at h294
      have hm0 := mixJ_len L p.mems 0
      rw [es] at hidx
      have gM : ∀ a : Arr, (ar ++ [a])[ar.length]? = some a := fun a => by simp
      have gP : ∀ a : Arr, (ar ++ [a])[0]? = some ⟨0, 1, .inl (ints pl)⟩ := fun a => by rw [List.getElem?_append_left hap]; exact hP
      have sM : ∀ a b : Arr, (ar ++ [a]).set ar.length b = ar ++ [b] := fun a b => by simp
      unfold Typ.c
      simp (disch := omega) only [go_sem, hu, hidx, h294, hm0]
      refine W.upto p.mems.length ((fun (bx0 : List (Nat × List V)) => fun j => ⟨[(2, .ptr 2 0), (4, .ptr 4 0), (9, .own 0 0 0 l.length), (11, .ptr 11 0), (14, .ptr 14 0), (42, .pv (.lst 0 (ints L))), (43, .pv (.int .i64 L.length)), (44, .pv (.int .i64 k)), (56, .pv (.int .i64 p.mems.length)), (57, .pv (.int .i64 (j : Nat)))], ⟨bx0, ar ++ [⟨0, 13, .inl ((mixJ L p.mems j).map Mem.c)⟩], []⟩⟩) _) (fun _ => True) rfl trivial (fun j hj _ => ?_)
      simp (disch := omega) only [go_sem]
      refine Br.ofP (fun c => ?_) (fun c => ?_)
      · have hr := List.getElem?_eq_getElem (l := p.mems) (i := j) (by omega)
        generalize p.mems[j]'(by omega) = m at hr
        have hmg := mixJ_get (L := L) hr
        have hms := mixJ_set (L := L) hr
        obtain ⟨ht0, ht1⟩ := huses m.type (mem_used (List.mem_of_getElem? hr))
        have hpt := hpg m.type ht0 ht1
        have hmj := mixJ_len L p.mems j
        have hst := fun id => mixJ_store (L := L) hr id
        simp (disch := omega) only [go_sem, gM, gP, sM, hmg, hpt, Mem.c, hst]
        exact .of (by omega) rfl trivial
      obtain rfl : j = p.mems.length := by omega
      rw [mixJ_all]
      simp (disch := omega) only [go_sem]
      refine Br.ofP (fun c8 => ?_) (fun c8 => ?_)
      · obtain ⟨hk0, hk1⟩ := huses p.key (key_used c8)
        have h7 : 7 ≤ p.kind := by omega
        obtain ⟨he0, he1⟩ := huses p.elem (elem_used h7)
        have hpk := hpg p.key hk0 hk1
        have hpe := hpg p.elem he0 he1
        simp (disch := omega) only [go_sem, gP, hpk]
        refine Br.ofP (fun _ => ?_) (fun c7 => absurd h7 c7)
        simp (disch := omega) only [go_sem, gP, hpe]
        obtain ⟨V1, T, ar', happ, hT, hc1, hc2, hz, hO'⟩ := fin _ _ (if_pos c8) (if_pos h7)
        simp (disch := omega) only [go_sem, happ, hT, hc1, hc2]
        refine ⟨(k + 1, ar', V1), ⟨by dsimp only; omega, by dsimp only; rw [hz, hP], by dsimp only; rw [hnext]; exact hO'⟩, by dsimp only; omega, rfl⟩
      simp (disch := omega) only [go_sem]
      refine Br.ofP (fun c7 => ?_) (fun c7 => ?_)
      · obtain ⟨he0, he1⟩ := huses p.elem (elem_used c7)
        have hpe := hpg p.elem he0 he1
        simp (disch := omega) only [go_sem, gP, hpe]
        obtain ⟨V1, T, ar', happ, hT, hc1, hc2, hz, hO'⟩ := fin _ _ (if_neg c8) (if_pos c7)
        simp (disch := omega) only [go_sem, happ, hT, hc1, hc2]
        refine ⟨(k + 1, ar', V1), ⟨by dsimp only; omega, by dsimp only; rw [hz, hP], by dsimp only; rw [hnext]; exact hO'⟩, by dsimp only; omega, rfl⟩
      · simp (disch := omega) only [go_sem]
        obtain ⟨V1, T, ar', happ, hT, hc1, hc2, hz, hO'⟩ := fin _ _ (if_neg c8) (if_neg c7)
        simp (disch := omega) only [go_sem, happ, hT, hc1, hc2]
        refine ⟨(k + 1, ar', V1), ⟨by dsimp only; omega, by dsimp only; rw [hz, hP], by dsimp only; rw [hnext]; exact hO'⟩, by dsimp only; omega, rfl⟩
  · by_cases em : p.mems.map Mem.c = []
    · have fin : ∀ (kv ev : Int), (remapT L p).key = kv → (remapT L p).elem = ev → ∃ V1 T ar', (∀ bx, appendV ⟨bx, ar ++ [⟨0, 2, .inl (p.syms.map Sym.c)⟩] ++ [⟨0, 10, .inr [[.pv (.int .i64 p.kind), .pv (.str p.name), .pv (.int .i64 p.low), .pv (.int .i64 p.high), .pv (.int .i64 p.max), .own ar.length 0 0 p.syms.length, .pv (.lst 0 []), .pv (.int .i64 kv), .pv (.int .i64 ev), .pv (.bool p.opn)]]⟩], []⟩ 10 V0 (.own (ar.length + 1) 0 0 1) = some (V1, T)) ∧ (∀ bx, T.apply ⟨bx, ar ++ [⟨0, 2, .inl (p.syms.map Sym.c)⟩] ++ [⟨0, 10, .inr [[.pv (.int .i64 p.kind), .pv (.str p.name), .pv (.int .i64 p.low), .pv (.int .i64 p.high), .pv (.int .i64 p.max), .own ar.length 0 0 p.syms.length, .pv (.lst 0 []), .pv (.int .i64 kv), .pv (.int .i64 ev), .pv (.bool p.opn)]]⟩], []⟩ = ⟨bx, ar', []⟩) ∧ V1.cells = [V1] ∧ V1.calm = true ∧ ar'[0]? = ar[0]? ∧ OutV ar' V1 ((L.take k).map (fun u => remapT L (typAt l u)) ++ [remapT L p]) := fun kv ev e1 e2 =>
        appLit (X0 := [⟨0, 2, .inl (p.syms.map Sym.c)⟩]) hO hap (by simp; omega) (by simp) fun o ho => ⟨.own ar.length 0 0 p.syms.length, .pv (.lst 0 []), by rw [e1, e2]; rfl, .inr (.inl ⟨ar.length, by simp [remapT], by omega, by simp [remapT]⟩), .inl (by rw [show (remapT L p).mems = p.mems.map (remapM L) from rfl, List.map_eq_nil_iff.1 em]; rfl)⟩
      have hns : p.syms.map Sym.c ≠ [] := es
      rw [frL_cons hns, em, frL_nil] at h294
      rw [em] at hidx
      have hsl := hsh.syms
      have gP : ∀ a : Arr, (ar ++ [a])[0]? = some ⟨0, 1, .inl (ints pl)⟩ := fun a => by rw [List.getElem?_append_left hap]; exact hP
      unfold Typ.c
      simp (disch := omega) only [go_sem, hu, hidx, h294]
      refine W.once ?_
      simp (disch := omega) only [go_sem]
      refine Br.ofP (fun c => absurd c (by omega)) (fun _ => ?_)
      simp (disch := omega) only [go_sem]
      refine Br.ofP (fun c8 => ?_) (fun c8 => ?_)
      · obtain ⟨hk0, hk1⟩ := huses p.key (key_used c8)
        have h7 : 7 ≤ p.kind := by omega
        obtain ⟨he0, he1⟩ := huses p.elem (elem_used h7)
        have hpk := hpg p.key hk0 hk1
        have hpe := hpg p.elem he0 he1
        simp (disch := omega) only [go_sem, gP, hpk]
        refine Br.ofP (fun _ => ?_) (fun c7 => absurd h7 c7)
        simp (disch := omega) only [go_sem, gP, hpe]
        obtain ⟨V1, T, ar', happ, hT, hc1, hc2, hz, hO'⟩ := fin _ _ (if_pos c8) (if_pos h7)
        simp (disch := omega) only [go_sem, happ, hT, hc1, hc2]
        refine ⟨(k + 1, ar', V1), ⟨by dsimp only; omega, by dsimp only; rw [hz, hP], by dsimp only; rw [hnext]; exact hO'⟩, by dsimp only; omega, rfl⟩
      simp (disch := omega) only [go_sem]
      refine Br.ofP (fun c7 => ?_) (fun c7 => ?_)
      · obtain ⟨he0, he1⟩ := huses p.elem (elem_used c7)
        have hpe := hpg p.elem he0 he1
        simp (disch := omega) only [go_sem, gP, hpe]
        obtain ⟨V1, T, ar', happ, hT, hc1, hc2, hz, hO'⟩ := fin _ _ (if_neg c8) (if_pos c7)
        simp (disch := omega) only [go_sem, happ, hT, hc1, hc2]
        refine ⟨(k + 1, ar', V1), ⟨by dsimp only; omega, by dsimp only; rw [hz, hP], by dsimp only; rw [hnext]; exact hO'⟩, by dsimp only; omega, rfl⟩
      · simp (disch := omega) only [go_sem]
        obtain ⟨V1, T, ar', happ, hT, hc1, hc2, hz, hO'⟩ := fin _ _ (if_neg c8) (if_neg c7)
        simp (disch := omega) only [go_sem, happ, hT, hc1, hc2]
        refine ⟨(k + 1, ar', V1), ⟨by dsimp only; omega, by dsimp only; rw [hz, hP], by dsimp only; rw [hnext]; exact hO'⟩, by dsimp only; omega, rfl⟩
    · have hml := hsh.mems
      have hsl := hsh.syms
      have fin : ∀ (kv ev : Int), (remapT L p).key = kv → (remapT L p).elem = ev → ∃ V1 T ar', (∀ bx, appendV ⟨bx, ar ++ [⟨0, 2, .inl (p.syms.map Sym.c)⟩, ⟨0, 13, .inl ((p.mems.map (remapM L)).map Mem.c)⟩] ++ [⟨0, 10, .inr [[.pv (.int .i64 p.kind), .pv (.str p.name), .pv (.int .i64 p.low), .pv (.int .i64 p.high), .pv (.int .i64 p.max), .own ar.length 0 0 p.syms.length, .own (ar.length + 1) 0 0 p.mems.length, .pv (.int .i64 kv), .pv (.int .i64 ev), .pv (.bool p.opn)]]⟩], []⟩ 10 V0 (.own (ar.length + 2) 0 0 1) = some (V1, T)) ∧ (∀ bx, T.apply ⟨bx, ar ++ [⟨0, 2, .inl (p.syms.map Sym.c)⟩, ⟨0, 13, .inl ((p.mems.map (remapM L)).map Mem.c)⟩] ++ [⟨0, 10, .inr [[.pv (.int .i64 p.kind), .pv (.str p.name), .pv (.int .i64 p.low), .pv (.int .i64 p.high), .pv (.int .i64 p.max), .own ar.length 0 0 p.syms.length, .own (ar.length + 1) 0 0 p.mems.length, .pv (.int .i64 kv), .pv (.int .i64 ev), .pv (.bool p.opn)]]⟩], []⟩ = ⟨bx, ar', []⟩) ∧ V1.cells = [V1] ∧ V1.calm = true ∧ ar'[0]? = ar[0]? ∧ OutV ar' V1 ((L.take k).map (fun u => remapT L (typAt l u)) ++ [remapT L p]) := fun kv ev e1 e2 =>
        appLit (X0 := [⟨0, 2, .inl (p.syms.map Sym.c)⟩, ⟨0, 13, .inl ((p.mems.map (remapM L)).map Mem.c)⟩]) hO hap (by simp; omega) (by simp) fun o ho => ⟨.own ar.length 0 0 p.syms.length, .own (ar.length + 1) 0 0 p.mems.length, by rw [e1, e2]; rfl, .inr (.inl ⟨ar.length, by simp [remapT], by omega, by simp [remapT]⟩), .inr (.inl ⟨ar.length + 1, by simp [remapT], by omega, by simp [remapT]⟩)⟩
      have hne : p.mems.map Mem.c ≠ [] := em
      have hns : p.syms.map Sym.c ≠ [] := es
      rw [frL_cons hns, show frL 13 (p.mems.map Mem.c) = .fr 13 ((mixJ L p.mems 0).map Mem.c) by rw [frL_cons hne, mixJ_zero]] at h294
      have hm0 := mixJ_len L p.mems 0
      have gM : ∀ a : Arr, (ar ++ [⟨0, 2, .inl (p.syms.map Sym.c)⟩, a])[ar.length + 1]? = some a := fun a => by simp
      have gP : ∀ a b : Arr, (ar ++ [b, a])[0]? = some ⟨0, 1, .inl (ints pl)⟩ := fun a b => by rw [List.getElem?_append_left hap]; exact hP
      have sM : ∀ a b : Arr, (ar ++ [⟨0, 2, .inl (p.syms.map Sym.c)⟩, a]).set (ar.length + 1) b = ar ++ [⟨0, 2, .inl (p.syms.map Sym.c)⟩, b] := fun a b => by simp
      unfold Typ.c
      simp (disch := omega) only [go_sem, hu, hidx, h294, hm0]
      refine W.upto p.mems.length ((fun (bx0 : List (Nat × List V)) => fun j => ⟨[(2, .ptr 2 0), (4, .ptr 4 0), (9, .own 0 0 0 l.length), (11, .ptr 11 0), (14, .ptr 14 0), (42, .pv (.lst 0 (ints L))), (43, .pv (.int .i64 L.length)), (44, .pv (.int .i64 k)), (56, .pv (.int .i64 p.mems.length)), (57, .pv (.int .i64 (j : Nat)))], ⟨bx0, ar ++ [⟨0, 2, .inl (p.syms.map Sym.c)⟩, ⟨0, 13, .inl ((mixJ L p.mems j).map Mem.c)⟩], []⟩⟩) _) (fun _ => True) rfl trivial (fun j hj _ => ?_)
      simp (disch := omega) only [go_sem]
      refine Br.ofP (fun c => ?_) (fun c => ?_)
      · have hr := List.getElem?_eq_getElem (l := p.mems) (i := j) (by omega)
        generalize p.mems[j]'(by omega) = m at hr
        have hmg := mixJ_get (L := L) hr
        have hms := mixJ_set (L := L) hr
        obtain ⟨ht0, ht1⟩ := huses m.type (mem_used (List.mem_of_getElem? hr))
        have hpt := hpg m.type ht0 ht1
        have hmj := mixJ_len L p.mems j
        have hst := fun id => mixJ_store (L := L) hr id
        simp (disch := omega) only [go_sem, gM, gP, sM, hmg, hpt, Mem.c, hst]
        exact .of (by omega) rfl trivial
      obtain rfl : j = p.mems.length := by omega
      rw [mixJ_all]
      simp (disch := omega) only [go_sem]
      refine Br.ofP (fun c8 => ?_) (fun c8 => ?_)
      · obtain ⟨hk0, hk1⟩ := huses p.key (key_used c8)
        have h7 : 7 ≤ p.kind := by omega
        obtain ⟨he0, he1⟩ := huses p.elem (elem_used h7)
        have hpk := hpg p.key hk0 hk1
        have hpe := hpg p.elem he0 he1
        simp (disch := omega) only [go_sem, gP, hpk]
        refine Br.ofP (fun _ => ?_) (fun c7 => absurd h7 c7)
        simp (disch := omega) only [go_sem, gP, hpe]
        obtain ⟨V1, T, ar', happ, hT, hc1, hc2, hz, hO'⟩ := fin _ _ (if_pos c8) (if_pos h7)
        simp (disch := omega) only [go_sem, happ, hT, hc1, hc2]
        refine ⟨(k + 1, ar', V1), ⟨by dsimp only; omega, by dsimp only; rw [hz, hP], by dsimp only; rw [hnext]; exact hO'⟩, by dsimp only; omega, rfl⟩
      simp (disch := omega) only [go_sem]
      refine Br.ofP (fun c7 => ?_) (fun c7 => ?_)
      · obtain ⟨he0, he1⟩ := huses p.elem (elem_used c7)
        have hpe := hpg p.elem he0 he1
        simp (disch := omega) only [go_sem, gP, hpe]
        obtain ⟨V1, T, ar', happ, hT, hc1, hc2, hz, hO'⟩ := fin _ _ (if_neg c8) (if_pos c7)
        simp (disch := omega) only [go_sem, happ, hT, hc1, hc2]
        refine ⟨(k + 1, ar', V1), ⟨by dsimp only; omega, by dsimp only; rw [hz, hP], by dsimp only; rw [hnext]; exact hO'⟩, by dsimp only; omega, rfl⟩
      · simp (disch := omega) only [go_sem]
        obtain ⟨V1, T, ar', happ, hT, hc1, hc2, hz, hO'⟩ := fin _ _ (if_neg c8) (if_neg c7)
        simp (disch := omega) only [go_sem, happ, hT, hc1, hc2]
        refine ⟨(k + 1, ar', V1), ⟨by dsimp only; omega, by dsimp only; rw [hz, hP], by dsimp only; rw [hnext]; exact hO'⟩, by dsimp only; omega, rfl⟩
end Go.Pv

/-
  Chapter 07: Prune, as the document says; the law of it.
-/
namespace Go.Pv

def mK (n k : Nat) : List Int := List.replicate k (-1) ++ List.replicate (n - k) 0
theorem mK_len {n k : Nat} (h : k ≤ n) : (mK n k).length = n := by
  simp [mK]
  omega
theorem mK_zero (n : Nat) : mK n 0 = List.replicate n 0 := by simp [mK]
theorem mK_set {n k : Nat} (h : k < n) : (mK n k).set k (-1) = mK n (k + 1) := by
  unfold mK
  have e : n - k = (n - (k + 1)) + 1 := by omega
  rw [List.set_append_right _ _ (by simp), List.length_replicate, Nat.sub_self, e, List.replicate_succ, List.set_cons_zero, List.replicate_succ', List.append_assoc]
  rfl
def plB (L : List Int) (n k : Nat) : List Int := (List.range n).map fun (j : Nat) => idxI (L.take k) (j : Int)
theorem plB_len (L : List Int) (n k : Nat) : (plB L n k).length = n := by simp [plB]
theorem plB_zero (L : List Int) (n : Nat) : plB L n 0 = mK n n := by
  apply List.ext_getElem
  · rw [plB_len, mK_len (Nat.le_refl n)]
  · intro i h1 h2
    rw [plB_len] at h1
    simp [plB, mK, idxI, firstI]
theorem plB_all (L : List Int) (n : Nat) : plB L n L.length = plK L n n := by
  unfold plB plK
  rw [List.take_length]
  apply List.map_congr_left
  intro j hj
  rw [if_pos (List.mem_range.1 hj)]
theorem idxI_snoc_ne {L : List Int} {u j : Int} (h : u ≠ j) : idxI (L ++ [u]) j = idxI L j := by
  unfold idxI firstI
  rw [List.findIdx?_append]
  have : List.findIdx? (fun y => decide (y = j)) [u] = none := by simp [List.findIdx?_cons, h]
  rw [this]
  cases L.findIdx? (fun y => decide (y = j)) <;> rfl
theorem idxI_snoc {L : List Int} {u : Int} (h : ¬ u ∈ L) : idxI (L ++ [u]) u = L.length := by
  unfold idxI firstI
  rw [List.findIdx?_append]
  have h1 : L.findIdx? (fun y => decide (y = u)) = none := by
    rw [List.findIdx?_eq_none_iff]
    intro x hx
    simp only [decide_eq_false_iff_not]
    exact fun e => h (e ▸ hx)
  have h2 : List.findIdx? (fun y => decide (y = u)) [u] = some 0 := by simp [List.findIdx?_cons]
  rw [h1, h2]
  simp
theorem plB_set {L : List Int} {n k : Nat} {u : Int} (hu : L[k]? = some u) (hd : L.Nodup) (h0 : 0 ≤ u) (_h1 : u < n) : (plB L n k).set u.toNat (k : Int) = plB L n (k + 1) := by
  have hk := (List.getElem?_eq_some_iff.1 hu).1
  have ht : L.take (k + 1) = L.take k ++ [u] := by rw [List.take_add_one, hu]; rfl
  have hn : ¬ u ∈ L.take k := by
    rw [← List.take_append_drop k L, List.nodup_append] at hd
    intro hm
    have hdr : u ∈ L.drop k := by
      rw [drop_atS hu]
      exact List.mem_cons_self ..
    exact hd.2.2 u hm u hdr rfl
  apply List.ext_getElem
  · simp [plB]
  · intro i h2 h3
    rw [List.getElem_set]
    have hi : i < n := by rw [plB_len] at h3; exact h3
    by_cases e : u.toNat = i
    · rw [if_pos e]
      have hu' : ((i : Nat) : Int) = u := by omega
      simp only [plB, List.getElem_map, List.getElem_range, hu', ht]
      rw [idxI_snoc hn, List.length_take]
      omega
    · rw [if_neg e]
      have hu' : u ≠ ((i : Nat) : Int) := by omega
      simp only [plB, List.getElem_map, List.getElem_range, ht]
      rw [idxI_snoc_ne hu']
theorem app_lst0 (h : Heap) (k : Nat) : appendV h k (.tl []) (.pv (.lst 0 [])) = some (.tl [], {}) := by
  simp [appendV, srcRows, rowsFit, rowsLen]
theorem app_lst {h : Heap} {k : Nat} {rows : List (List PV)} (h0 : rows ≠ []) (hr : ∀ r ∈ rows, r.length = k) (hm : rows.length ≤ 2147483648) : appendV h k (.tl []) (.pv (.lst 0 rows)) = some (.own h.ar.length 0 0 rows.length, { push := [⟨0, k, .inl rows⟩], base := h.ar.length }) := by
  have hl : ¬ rows.length = 0 := fun e => h0 (List.eq_nil_of_length_eq_zero e)
  have hf := rowsFit_all hr
  have h01 : (0 : Nat) ≤ 1 := by decide
  simp only [appendV, srcRows, h01, if_true, hf, rowsLen, if_neg hl, catRows, List.nil_append, List.length_nil, Nat.zero_add, mostRows]
  simp only [hm, rowsFit, List.all_nil, and_self, if_true]
set_option maxHeartbeats 16000000 in
/-- Prune, of the document. -/
theorem r276 (v : Nat) (l : List Typ) (i : Int) (hl : l.length ≤ 2147483648) (ho : ∀ t ∈ l, t.ok) (hs : ∀ t ∈ l, t.short) :
    res A PrA 276 [.agg [.lst v (l.map Typ.c)], .int .i64 i] = some [.agg [.lst 0 ((prunedL l i).map Typ.c)], .lst 0 (ints (placeL l i)), .int .i64 (reachR l i).2] := by
  refine res_of a276 rfl rfl ?_
  simp only [F276]
  have h274 := fun v => r274 v l i hl ho hs
  have hlen := reachR_len (l := l) (i := i)
  have hok := reachR_ok (l := l) (i := i)
  have hno := reachR_no (l := l) (i := i)
  unfold prunedL placeL
  generalize (reachR l i).1 = L at *
  generalize (reachR l i).2 = e at *
  simp (disch := omega) only [go_sem, h274]
  refine Br.ofP (fun c => ?_) (fun c => ?_) <;> simp (disch := omega) only [go_sem, c]
  rotate_left
  · rw [hno c, if_pos c]
    rfl
  subst c
  obtain ⟨hsane, hnd, hin⟩ := hok rfl
  have h32 := hsane.len
  rw [if_neg (by simp)]
  refine W.upto l.length (fun k => ⟨[(2, .ptr 2 0), (4, .ptr 4 0), (7, .pv (.lst 0 (ints L))), (9, .own 0 0 0 l.length), (10, .pv (.int .i64 k))], ⟨[(2, [.pv (.lst v (l.map Typ.c))]), (4, [.tl []])], [⟨0, 1, .inl (ints (mK l.length k))⟩], []⟩⟩) (fun _ => True) ?_ trivial (fun k hk _ => ?_)
  · rw [mK_zero]
    rfl
  have hpk := mK_len hk
  simp (disch := omega) only [go_sem]
  refine Br.ofP (fun c => ?_) (fun c => ?_)
  · have hset := mK_set (n := l.length) (k := k) (by omega)
    simp (disch := omega) only [go_sem]
    refine .of (by omega) ?_ trivial
    rw [hset]
    rfl
  obtain rfl : k = l.length := by omega
  rw [← plB_zero L]
  clear hk c hpk
  simp (disch := omega) only [go_sem]
  refine W.upto L.length (fun k => ⟨[(2, .ptr 2 0), (4, .ptr 4 0), (7, .pv (.lst 0 (ints L))), (9, .own 0 0 0 l.length), (11, .pv (.int .i64 k))], ⟨[(2, [.pv (.lst v (l.map Typ.c))]), (4, [.tl []])], [⟨0, 1, .inl (ints (plB L l.length k))⟩], []⟩⟩) (fun _ => True) rfl trivial (fun k hk _ => ?_)
  have hpk := plB_len L l.length k
  simp (disch := omega) only [go_sem]
  refine Br.ofP (fun c => ?_) (fun c => ?_)
  · have hu := List.getElem?_eq_getElem (l := L) (i := k) (by omega)
    generalize L[k]'(by omega) = u at hu
    obtain ⟨hu0, hu1⟩ := hin u (List.mem_of_getElem? hu)
    have hset := plB_set hu hnd hu0 hu1
    simp (disch := omega) only [go_sem, hu]
    refine .of (by omega) ?_ trivial
    rw [hset]
    rfl
  obtain rfl : k = L.length := by omega
  rw [plB_all] at *
  simp (disch := omega) only [go_sem]
  have hpg : ∀ u : Int, 0 ≤ u → u < l.length → (plK L l.length l.length)[u.toNat]? = some (idxI L u) := fun u h0 h1 => plK_get h0 h1
  clear hk c
  generalize plK L l.length l.length = pl at hpk hpg
  refine W.loop (α := Nat × List Arr × V) (fun x => ⟨[(2, .ptr 2 0), (4, .ptr 4 0), (7, .pv (.lst 0 (ints L))), (9, .own 0 0 0 l.length), (12, .ptr 12 0), (13, .pv (.int .i64 x.1))], ⟨[(2, [.pv (.lst v (l.map Typ.c))]), (4, [.tl []]), (12, [x.2.2])], x.2.1, []⟩⟩)
    (fun x => x.1 ≤ L.length ∧ x.2.1[0]? = some ⟨0, 1, .inl (ints pl)⟩ ∧ OutV x.2.1 x.2.2 ((L.take x.1).map fun u => remapT L (typAt l u))) (fun x => L.length - x.1) (0, [⟨0, 1, .inl (ints pl)⟩], .tl []) rfl ⟨Nat.zero_le _, rfl, .inl ⟨rfl, by simp⟩⟩ fun x hx => ?_
  obtain ⟨k, ar, V0⟩ := x
  obtain ⟨hk, hP, hO⟩ := hx
  dsimp only at hk hP hO
  simp (disch := omega) only [go_sem]
  refine Br.ofP (fun c => ?_) (fun c => ?_)
  rotate_left
  · obtain rfl : k = L.length := by omega
    rw [List.take_length] at hO
    rcases hO with ⟨rfl, h1⟩ | ⟨o, ver, rfl, h0, h1⟩
    · simp (disch := omega) only [go_sem, hP]
      rw [h1, List.take_of_length_le (by omega)]
      rfl
    · have hkeep := h1.keep [(4, [V.own o ver 0 (L.map fun u => remapT L (typAt l u)).length])] []
      simp only [keepc_own4, ownArr_mk, List.length_map] at hkeep
      simp (disch := omega) only [go_sem, hP]
      rw [hkeep, List.take_of_length_le (by omega)]
      rfl
  have hu := List.getElem?_eq_getElem (l := L) (i := k) (by omega)
  generalize L[k]'(by omega) = u at hu
  obtain ⟨hu0, hu1⟩ := hin u (List.mem_of_getElem? hu)
  have hget := typAt_get hu0 hu1
  have hidx := idx_typ (v := v) hu0 hu1
  have hm := List.mem_of_getElem? hget
  have hk9 := own_kind (hsane.own _ hm)
  have huses := hsane.uses _ hm
  have hsh := hs _ hm
  have hml := hsh.mems
  have hnext : (L.take (k + 1)).map (fun u => remapT L (typAt l u)) = (L.take k).map (fun u => remapT L (typAt l u)) ++ [remapT L (typAt l u)] := by
    rw [List.take_add_one, hu, List.map_append]
    rfl
  generalize typAt l u = p at *
  have hap : 0 < ar.length := (List.getElem?_eq_some_iff.1 hP).1
  unfold Typ.c at hidx
  by_cases em : p.mems.map Mem.c = []
  · have fin : ∀ (kv ev : Int), (remapT L p).key = kv → (remapT L p).elem = ev → ∃ V1 T ar', (∀ bx, appendV ⟨bx, ar ++ [⟨0, 10, .inr [[.pv (.int .i64 p.kind), .pv (.str p.name), .pv (.int .i64 p.low), .pv (.int .i64 p.high), .pv (.int .i64 p.max), .pv (.lst 0 (p.syms.map Sym.c)), .tl [], .pv (.int .i64 kv), .pv (.int .i64 ev), .pv (.bool p.opn)]]⟩], []⟩ 10 V0 (.own ar.length 0 0 1) = some (V1, T)) ∧ (∀ bx, T.apply ⟨bx, ar ++ [⟨0, 10, .inr [[.pv (.int .i64 p.kind), .pv (.str p.name), .pv (.int .i64 p.low), .pv (.int .i64 p.high), .pv (.int .i64 p.max), .pv (.lst 0 (p.syms.map Sym.c)), .tl [], .pv (.int .i64 kv), .pv (.int .i64 ev), .pv (.bool p.opn)]]⟩], []⟩ = ⟨bx, ar', []⟩) ∧ V1.cells = [V1] ∧ V1.calm = true ∧ ar'[0]? = ar[0]? ∧ OutV ar' V1 ((L.take k).map (fun u => remapT L (typAt l u)) ++ [remapT L p]) := fun kv ev e1 e2 => by
      have := appLit (X0 := []) (row := [.pv (.int .i64 p.kind), .pv (.str p.name), .pv (.int .i64 p.low), .pv (.int .i64 p.high), .pv (.int .i64 p.max), .pv (.lst 0 (p.syms.map Sym.c)), .tl [], .pv (.int .i64 kv), .pv (.int .i64 ev), .pv (.bool p.opn)]) (n := ar.length) (t := remapT L p) hO hap (by simp; omega) (by simp) fun o ho => ⟨.pv (.lst 0 (p.syms.map Sym.c)), .tl [], by rw [e1, e2]; rfl, .inl rfl, .inr (.inr (by rw [show (remapT L p).mems = p.mems.map (remapM L) from rfl, List.map_eq_nil_iff.1 em]; rfl))⟩
      simpa only [List.append_nil] using this
    rw [em] at hidx
    unfold Typ.c
    simp (disch := omega) only [go_sem, hu, hidx, app_lst0]
    refine W.once ?_
    simp (disch := omega) only [go_sem]
    refine Br.ofP (fun c => absurd c (by omega)) (fun _ => ?_)
    simp (disch := omega) only [go_sem]
    refine Br.ofP (fun c8 => ?_) (fun c8 => ?_)
    · obtain ⟨hk0, hk1⟩ := huses p.key (key_used c8)
      have h7 : 7 ≤ p.kind := by omega
      obtain ⟨he0, he1⟩ := huses p.elem (elem_used h7)
      have hpk := hpg p.key hk0 hk1
      have hpe := hpg p.elem he0 he1
      simp (disch := omega) only [go_sem, hP, hpk]
      refine Br.ofP (fun c7 => absurd c7 (by omega)) (fun c7 => ?_)
      have d7 : decide (p.kind = 7) = false := by simp [c7]
      simp (disch := omega) only [go_sem, d7]
      refine Br.ofP (fun _ => ?_) (fun c => absurd c8 c)
      have d8 : decide (p.kind = 8) = true := by simp [c8]
      simp (disch := omega) only [go_sem, hP, hpe, d8]
      obtain ⟨V1, T, ar', happ, hT, hc1, hc2, hz, hO'⟩ := fin _ _ (if_pos c8) (if_pos h7)
      simp (disch := omega) only [go_sem, happ, hT, hc1, hc2]
      exact ⟨(k + 1, ar', V1), ⟨by dsimp only; omega, by dsimp only; rw [hz, hP], by dsimp only; rw [hnext]; exact hO'⟩, by dsimp only; omega, rfl⟩
    simp (disch := omega) only [go_sem]
    refine Br.ofP (fun c7 => ?_) (fun c7 => ?_)
    · have h7 : 7 ≤ p.kind := by omega
      obtain ⟨he0, he1⟩ := huses p.elem (elem_used h7)
      have hpe := hpg p.elem he0 he1
      have d7 : decide (p.kind = 7) = true := by simp [c7]
      simp (disch := omega) only [go_sem, hP, hpe, d7]
      obtain ⟨V1, T, ar', happ, hT, hc1, hc2, hz, hO'⟩ := fin _ _ (if_neg c8) (if_pos h7)
      simp (disch := omega) only [go_sem, happ, hT, hc1, hc2]
      exact ⟨(k + 1, ar', V1), ⟨by dsimp only; omega, by dsimp only; rw [hz, hP], by dsimp only; rw [hnext]; exact hO'⟩, by dsimp only; omega, rfl⟩
    have d7 : decide (p.kind = 7) = false := by simp [c7]
    have d8 : decide (p.kind = 8) = false := by simp [c8]
    simp (disch := omega) only [go_sem, d7, d8]
    refine Br.ofP (fun c9 => ?_) (fun c9 => ?_)
    · have h7 : 7 ≤ p.kind := by omega
      obtain ⟨he0, he1⟩ := huses p.elem (elem_used h7)
      have hpe := hpg p.elem he0 he1
      simp (disch := omega) only [go_sem, hP, hpe]
      obtain ⟨V1, T, ar', happ, hT, hc1, hc2, hz, hO'⟩ := fin _ _ (if_neg c8) (if_pos h7)
      simp (disch := omega) only [go_sem, happ, hT, hc1, hc2]
      exact ⟨(k + 1, ar', V1), ⟨by dsimp only; omega, by dsimp only; rw [hz, hP], by dsimp only; rw [hnext]; exact hO'⟩, by dsimp only; omega, rfl⟩
    · have h7 : ¬ 7 ≤ p.kind := by omega
      simp (disch := omega) only [go_sem]
      obtain ⟨V1, T, ar', happ, hT, hc1, hc2, hz, hO'⟩ := fin _ _ (if_neg c8) (if_neg h7)
      simp (disch := omega) only [go_sem, happ, hT, hc1, hc2]
      exact ⟨(k + 1, ar', V1), ⟨by dsimp only; omega, by dsimp only; rw [hz, hP], by dsimp only; rw [hnext]; exact hO'⟩, by dsimp only; omega, rfl⟩
  · have fin : ∀ (kv ev : Int), (remapT L p).key = kv → (remapT L p).elem = ev → ∃ V1 T ar', (∀ bx, appendV ⟨bx, ar ++ [⟨0, 13, .inl ((p.mems.map (remapM L)).map Mem.c)⟩] ++ [⟨0, 10, .inr [[.pv (.int .i64 p.kind), .pv (.str p.name), .pv (.int .i64 p.low), .pv (.int .i64 p.high), .pv (.int .i64 p.max), .pv (.lst 0 (p.syms.map Sym.c)), .own ar.length 0 0 p.mems.length, .pv (.int .i64 kv), .pv (.int .i64 ev), .pv (.bool p.opn)]]⟩], []⟩ 10 V0 (.own (ar.length + 1) 0 0 1) = some (V1, T)) ∧ (∀ bx, T.apply ⟨bx, ar ++ [⟨0, 13, .inl ((p.mems.map (remapM L)).map Mem.c)⟩] ++ [⟨0, 10, .inr [[.pv (.int .i64 p.kind), .pv (.str p.name), .pv (.int .i64 p.low), .pv (.int .i64 p.high), .pv (.int .i64 p.max), .pv (.lst 0 (p.syms.map Sym.c)), .own ar.length 0 0 p.mems.length, .pv (.int .i64 kv), .pv (.int .i64 ev), .pv (.bool p.opn)]]⟩], []⟩ = ⟨bx, ar', []⟩) ∧ V1.cells = [V1] ∧ V1.calm = true ∧ ar'[0]? = ar[0]? ∧ OutV ar' V1 ((L.take k).map (fun u => remapT L (typAt l u)) ++ [remapT L p]) := fun kv ev e1 e2 =>
      appLit (X0 := [⟨0, 13, .inl ((p.mems.map (remapM L)).map Mem.c)⟩]) hO hap (by simp; omega) (by simp) fun o ho => ⟨.pv (.lst 0 (p.syms.map Sym.c)), .own ar.length 0 0 p.mems.length, by rw [e1, e2]; rfl, .inl rfl, .inr (.inl ⟨ar.length, by simp [remapT], by omega, by simp [remapT]⟩)⟩
    have hne : p.mems.map Mem.c ≠ [] := em
    have happ0 : ∀ bx, appendV ⟨bx, ar, []⟩ 13 (.tl []) (.pv (.lst 0 (p.mems.map Mem.c))) = some (.own ar.length 0 0 p.mems.length, { push := [⟨0, 13, .inl ((mixJ L p.mems 0).map Mem.c)⟩], base := ar.length }) := fun bx => by
      rw [app_lst hne (fun r hr => by
        obtain ⟨x, _, rfl⟩ := List.mem_map.1 hr
        rfl) (by rw [List.length_map]; omega), mixJ_zero, List.length_map]
    have gM : ∀ a : Arr, (ar ++ [a])[ar.length]? = some a := fun a => by simp
    have gP : ∀ a : Arr, (ar ++ [a])[0]? = some ⟨0, 1, .inl (ints pl)⟩ := fun a => by rw [List.getElem?_append_left hap]; exact hP
    have sM : ∀ a b : Arr, (ar ++ [a]).set ar.length b = ar ++ [b] := fun a b => by simp
    unfold Typ.c
    simp (disch := omega) only [go_sem, hu, hidx, happ0]
    refine W.upto p.mems.length ((fun (bx0 : List (Nat × List V)) => fun j => ⟨[(2, .ptr 2 0), (4, .ptr 4 0), (7, .pv (.lst 0 (ints L))), (9, .own 0 0 0 l.length), (12, .ptr 12 0), (13, .pv (.int .i64 k)), (14, .ptr 14 0), (15, .pv (.int .i64 (j : Nat)))], ⟨bx0, ar ++ [⟨0, 13, .inl ((mixJ L p.mems j).map Mem.c)⟩], []⟩⟩) _) (fun _ => True) rfl trivial (fun j hj _ => ?_)
    simp (disch := omega) only [go_sem]
    refine Br.ofP (fun c => ?_) (fun c => ?_)
    · have hr := List.getElem?_eq_getElem (l := p.mems) (i := j) (by omega)
      generalize p.mems[j]'(by omega) = m at hr
      have hmg := mixJ_get (L := L) hr
      obtain ⟨ht0, ht1⟩ := huses m.type (mem_used (List.mem_of_getElem? hr))
      have hpt := hpg m.type ht0 ht1
      have hmj := mixJ_len L p.mems j
      have hst := fun id => mixJ_store (L := L) hr id
      simp (disch := omega) only [go_sem, gM, gP, sM, hmg, hpt, Mem.c, hst]
      exact .of (by omega) rfl trivial
    obtain rfl : j = p.mems.length := by omega
    rw [mixJ_all]
    simp (disch := omega) only [go_sem]
    refine Br.ofP (fun c8 => ?_) (fun c8 => ?_)
    · obtain ⟨hk0, hk1⟩ := huses p.key (key_used c8)
      have h7 : 7 ≤ p.kind := by omega
      obtain ⟨he0, he1⟩ := huses p.elem (elem_used h7)
      have hpk := hpg p.key hk0 hk1
      have hpe := hpg p.elem he0 he1
      simp (disch := omega) only [go_sem, gP, hpk]
      refine Br.ofP (fun c7 => absurd c7 (by omega)) (fun c7 => ?_)
      have d7 : decide (p.kind = 7) = false := by simp [c7]
      simp (disch := omega) only [go_sem, d7]
      refine Br.ofP (fun _ => ?_) (fun c => absurd c8 c)
      have d8 : decide (p.kind = 8) = true := by simp [c8]
      simp (disch := omega) only [go_sem, gP, hpe, d8]
      obtain ⟨V1, T, ar', happ, hT, hc1, hc2, hz, hO'⟩ := fin _ _ (if_pos c8) (if_pos h7)
      simp (disch := omega) only [go_sem, happ, hT, hc1, hc2]
      exact ⟨(k + 1, ar', V1), ⟨by dsimp only; omega, by dsimp only; rw [hz, hP], by dsimp only; rw [hnext]; exact hO'⟩, by dsimp only; omega, rfl⟩
    simp (disch := omega) only [go_sem]
    refine Br.ofP (fun c7 => ?_) (fun c7 => ?_)
    · have h7 : 7 ≤ p.kind := by omega
      obtain ⟨he0, he1⟩ := huses p.elem (elem_used h7)
      have hpe := hpg p.elem he0 he1
      have d7 : decide (p.kind = 7) = true := by simp [c7]
      simp (disch := omega) only [go_sem, gP, hpe, d7]
      obtain ⟨V1, T, ar', happ, hT, hc1, hc2, hz, hO'⟩ := fin _ _ (if_neg c8) (if_pos h7)
      simp (disch := omega) only [go_sem, happ, hT, hc1, hc2]
      exact ⟨(k + 1, ar', V1), ⟨by dsimp only; omega, by dsimp only; rw [hz, hP], by dsimp only; rw [hnext]; exact hO'⟩, by dsimp only; omega, rfl⟩
    have d7 : decide (p.kind = 7) = false := by simp [c7]
    have d8 : decide (p.kind = 8) = false := by simp [c8]
    simp (disch := omega) only [go_sem, d7, d8]
    refine Br.ofP (fun c9 => ?_) (fun c9 => ?_)
    · have h7 : 7 ≤ p.kind := by omega
      obtain ⟨he0, he1⟩ := huses p.elem (elem_used h7)
      have hpe := hpg p.elem he0 he1
      simp (disch := omega) only [go_sem, gP, hpe]
      obtain ⟨V1, T, ar', happ, hT, hc1, hc2, hz, hO'⟩ := fin _ _ (if_neg c8) (if_pos h7)
      simp (disch := omega) only [go_sem, happ, hT, hc1, hc2]
      exact ⟨(k + 1, ar', V1), ⟨by dsimp only; omega, by dsimp only; rw [hz, hP], by dsimp only; rw [hnext]; exact hO'⟩, by dsimp only; omega, rfl⟩
    · have h7 : ¬ 7 ≤ p.kind := by omega
      simp (disch := omega) only [go_sem]
      obtain ⟨V1, T, ar', happ, hT, hc1, hc2, hz, hO'⟩ := fin _ _ (if_neg c8) (if_neg h7)
      simp (disch := omega) only [go_sem, happ, hT, hc1, hc2]
      exact ⟨(k + 1, ar', V1), ⟨by dsimp only; omega, by dsimp only; rw [hz, hP], by dsimp only; rw [hnext]; exact hO'⟩, by dsimp only; omega, rfl⟩
end Go.Pv

/-
  Chapter 07: the law of Prune.
-/
namespace Go.Pv

theorem idxI_small {L : List Int} (h : L.length ≤ 32) (j : Int) : I64 (idxI L j) := by
  have := firstI_ge (fun y => decide (y = j)) L
  unfold idxI I64
  omega
theorem remapT_ok {L : List Int} (h : L.length ≤ 32) {t : Typ} (ht : t.ok) : (remapT L t).ok := by
  obtain ⟨⟨h1, h2, h3, h4, h5, h6, h7⟩, ⟨h8, h9⟩, h10, h11⟩ := ht
  refine ⟨⟨h1, h2, h3, h4, h5, ?_, ?_⟩, ⟨h8, ?_⟩, h10, ?_⟩
  · show I64 (if t.kind = 8 then idxI L t.key else t.key)
    split
    · exact idxI_small h _
    · exact h6
  · show I64 (if 7 ≤ t.kind then idxI L t.elem else t.elem)
    split
    · exact idxI_small h _
    · exact h7
  · show lenOk (t.mems.map (remapM L))
    unfold lenOk at *
    rw [List.length_map]
    exact h9
  · intro m hm
    obtain ⟨q, hq, rfl⟩ := List.mem_map.1 hm
    obtain ⟨g1, g2, g3, g4⟩ := h11 q hq
    exact ⟨g1, g2, idxI_small h _, g4⟩
theorem pruned_ok {l : List Typ} {i : Int} (ho : ∀ t ∈ l, t.ok) : (prunedL l i).length ≤ l.length ∧ ∀ t ∈ prunedL l i, t.ok := by
  have hlen := reachR_len (l := l) (i := i)
  refine ⟨by unfold prunedL; rw [List.length_map]; exact hlen, fun t ht => ?_⟩
  by_cases hz : (reachR l i).2 = 0
  · obtain ⟨h1, h2, h3⟩ := reachR_ok hz
    obtain ⟨u, hu, rfl⟩ := List.mem_map.1 ht
    obtain ⟨u0, u1⟩ := h3 u hu
    exact remapT_ok (Nat.le_trans hlen h1.len) (ho _ (List.mem_of_getElem? (typAt_get u0 u1)))
  · unfold prunedL at ht
    rw [reachR_no hz] at ht
    simp at ht
theorem placeL_len (l : List Typ) (i : Int) : (placeL l i).length ≤ l.length := by
  unfold placeL
  split
  · exact Nat.zero_le _
  · rw [plK_len]
    exact Nat.le_refl _
set_option maxHeartbeats 1000000 in
/-- SchemaPrune, given that the chapter is awake. -/
theorem r262 (r265 : res A PrA 265 [] = some [.bool true]) (l : List Typ) (i : Int) (hl : l.length ≤ 1048576) (ho : ∀ t ∈ l, t.ok) (hs : ∀ t ∈ l, t.short) (hsm : ∀ t ∈ l, ∀ c ∈ t.c, Small 1048576 c) : res A PrA 262 [.agg [.lst 0 (l.map Typ.c)], .int .i64 i] = some [.bool true] := by
  refine res_of a262 rfl rfl ?_
  simp only [F262]
  have h266 := fun u => r266 u l ho
  have e1 := fun t => r275 t l i (by omega) ho hs hsm
  have e2 := fun t => r276 t l i (by omega) ho hs
  obtain ⟨p1, p2⟩ := pruned_ok (i := i) ho
  have p3 := placeL_len l i
  have h94 := fun t u => s94 t u (placeL l i) (placeL l i) (by omega) (by omega)
  have h277 := fun t u => r277 t u (prunedL l i) (prunedL l i) (by omega) (by omega) p2 p2
  rw [eqv_same] at h94 h277
  generalize few l = f at h266
  simp (disch := omega) only [go_sem, r265, h266]
  cases f with
  | false => simp (disch := omega) only [go_sem, r265]
  | true => simp (disch := omega) only [go_sem, e1, e2, h94, h277]
end Go.Pv

