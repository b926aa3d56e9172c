/-
  What the functions of the law give.
-/
import Derived.Test.YtppmbamefnacaaaDoorC1
set_option linter.unusedSimpArgs false
set_option linter.unusedVariables false
namespace Go.Pv
def OwnL (ars : List Arr) (x : V) (l : List Int) : Prop :=
  ((x = .tl [] ∨ x = .pv (.lst 0 [])) ∧ l = []) ∨ ∃ id ver,x = .own (id + 1) ver 0 l.length ∧ l ≠ [] ∧ ars[id]? = some ⟨ver,1,.inl (ints l)⟩
structure Lists (n : Nat) (s : List (List Int)) (xs : List V) (ars : List Arr) : Prop where
  xl : xs.length = n
  sl : s.length = n
  own : ∀ (v : Nat) (x : V) (l : List Int),xs[v]? = some x → s[v]? = some l → OwnL ars x l
  dis : ∀ (v w : Nat) (x y : V) (i : Nat),xs[v]? = some x → xs[w]? = some y → ownId x = some i → ownId y = some i → v = w
def rowsV (xs : List V) : List (List V) := xs.map fun x => [x]
@[go_sem] theorem rowsV_get (xs : List V) (i : Nat) : (rowsV xs)[i]? = xs[i]?.map fun x => [x] := by simp [rowsV]
theorem rowsV_set (xs : List V) (i : Nat) (x : V) : (rowsV xs).set i [x] = rowsV (xs.set i x) := by simp [rowsV,List.map_set]
theorem rowsV_store {id row ver : Nat} {xs : List V} {y : V} (h1 : row < xs.length) (hc : y.calm = true) : storeRow id row 0 [y] ⟨ver,1,.inr (rowsV xs)⟩ = some { ar := some (id,⟨ver,1,.inr (rowsV (xs.set row y))⟩) } := by
  have h2 : row < (⟨ver,1,.inr (rowsV xs)⟩ : Arr).size := by simp [Arr.size,rowsV,h1]
  obtain ⟨z,hz⟩ : ∃ z,xs[row]? = some z := ⟨xs[row],by simp [h1]⟩
  have h3 : (rowsV xs).getD row [] = [z] := by simp [rowsV,hz]
  simp [storeRow,h2,hc,setBody,← rowsV_set]
  simp [rowsV,hz]
theorem rowsV_made (n : Nat) : sameRows n [.tl []] = .inr (rowsV (List.replicate n (.tl []))) := by
  simp [sameRows,mapO,V.purec,rowsV]
attribute [go_sem] rowsV_made
theorem rep_get {α : Type} {n i : Nat} {a x : α} (h : (List.replicate n a)[i]? = some x) : x = a := List.eq_of_mem_replicate (List.mem_of_getElem? h)
theorem Lists.start (n : Nat) : Lists n (List.replicate n []) (List.replicate n (.tl [])) [] where
  xl := by simp
  sl := by simp
  own v x l hx hl := .inl ⟨.inl (rep_get hx),rep_get hl⟩
  dis v w x y i hx _ hi _ := by
    rw [rep_get hx] at hi
    simp [ownId] at hi
theorem OwnL.id_lt {ars : List Arr} {x : V} {l : List Int} (h : OwnL ars x l) {i : Nat} (hi : ownId x = some i) : ∃ id ver,i = id + 1 ∧ x = .own (id + 1) ver 0 l.length ∧ ars[id]? = some ⟨ver,1,.inl (ints l)⟩ := by
  rcases h with ⟨rfl | rfl,_⟩ | ⟨id,ver,rfl,_,h⟩
  · simp [ownId] at hi
  · simp [ownId] at hi
  · simp [ownId] at hi
    exact ⟨id,ver,hi.symm,rfl,h⟩
theorem OwnL.set {ars : List Arr} {x : V} {l : List Int} (h : OwnL ars x l) {id : Nat} {a : Arr} (hne : ownId x ≠ some (id + 1)) : OwnL (ars.set id a) x l := by
  rcases h with h | ⟨j,ver,rfl,h1,h2⟩
  · exact .inl h
  · refine .inr ⟨j,ver,rfl,h1,?_⟩
    rw [List.getElem?_set_ne]
    · exact h2
    · intro e
      exact hne (by rw [e]; rfl)
theorem OwnL.push {ars : List Arr} {x : V} {l : List Int} (h : OwnL ars x l) (a : List Arr) : OwnL (ars ++ a) x l := by
  rcases h with h | ⟨j,ver,rfl,h1,h2⟩
  · exact .inl h
  · exact .inr ⟨j,ver,rfl,h1,by rw [List.getElem?_append_left (List.getElem?_eq_some_iff.1 h2).1]; exact h2⟩
theorem Lists.upd {n : Nat} {s : List (List Int)} {xs : List V} {ars ars' : List Arr} (h : Lists n s xs ars) {v : Nat} {x' : V} {l' : List Int} (hv : v < n) (hx : OwnL ars' x' l')
    (hk : ∀ (w : Nat) (y : V) (l : List Int),w ≠ v → xs[w]? = some y → s[w]? = some l → OwnL ars' y l) (hd : ∀ (w : Nat) (y : V) (i : Nat),w ≠ v → xs[w]? = some y → ownId y = some i → ownId x' ≠ some i) : Lists n (s.set v l') (xs.set v x') ars' where
  xl := by rw [List.length_set]; exact h.xl
  sl := by rw [List.length_set]; exact h.sl
  own w y l hy hl := by
    by_cases e : w = v
    · subst e
      rw [List.getElem?_set_self (by rw [h.xl]; exact hv)] at hy
      rw [List.getElem?_set_self (by rw [h.sl]; exact hv)] at hl
      cases hy
      cases hl
      exact hx
    · rw [List.getElem?_set_ne (Ne.symm e)] at hy hl
      exact hk w y l e hy hl
  dis w w' y y' i hy hy' hi hi' := by
    by_cases e : w = v
    · subst e
      rw [List.getElem?_set_self (by rw [h.xl]; exact hv)] at hy
      cases hy
      by_cases e' : w' = w
      · exact e'.symm
      · rw [List.getElem?_set_ne (Ne.symm e')] at hy'
        exact (hd w' y' i e' hy' hi' hi).elim
    · rw [List.getElem?_set_ne (Ne.symm e)] at hy
      by_cases e' : w' = v
      · subst e'
        rw [List.getElem?_set_self (by rw [h.xl]; exact hv)] at hy'
        cases hy'
        exact (hd w y i e hy hi hi').elim
      · rw [List.getElem?_set_ne (Ne.symm e')] at hy'
        exact h.dis w w' y y' i hy hy' hi hi'
theorem Lists.get {n : Nat} {s : List (List Int)} {xs : List V} {ars : List Arr} (h : Lists n s xs ars) {v : Nat} (hv : v < n) : ∃ x l,xs[v]? = some x ∧ s[v]? = some l ∧ OwnL ars x l := by
  have h1 : v < xs.length := by rw [h.xl]; exact hv
  have h2 : v < s.length := by rw [h.sl]; exact hv
  exact ⟨xs[v],s[v],by simp,by simp,h.own v _ _ (by simp) (by simp)⟩
theorem Lists.lt {n : Nat} {s : List (List Int)} {xs : List V} {ars : List Arr} (h : Lists n s xs ars) {v i : Nat} {x : V} (hx : xs[v]? = some x) (hi : ownId x = some i) : i ≤ ars.length := by
  have hv : v < n := by rw [← h.xl]; exact (List.getElem?_eq_some_iff.1 hx).1
  obtain ⟨x',l,h1,h2,h3⟩ := h.get hv
  rw [hx] at h1
  cases h1
  obtain ⟨id,ver,rfl,_,h4⟩ := h3.id_lt hi
  exact (List.getElem?_eq_some_iff.1 h4).1
theorem Lists.first {n : Nat} {s : List (List Int)} {xs : List V} {ars : List Arr} (h : Lists n s xs ars) {v : Nat} {l : List Int} (hv : v < n) (hl : l ≠ []) : Lists n (s.set v l) (xs.set v (.own (ars.length + 1) 0 0 l.length)) (ars ++ [⟨0,1,.inl (ints l)⟩]) :=
  h.upd hv (.inr ⟨ars.length,0,rfl,hl,by simp⟩) (fun w y l _ hy hl => (h.own w y l hy hl).push _) fun w y i _ hy hi e => by
    have := h.lt hy hi
    simp only [ownId,Option.some.injEq] at e
    omega
theorem Lists.same {n : Nat} {s : List (List Int)} {xs : List V} {ars : List Arr} (h : Lists n s xs ars) {v id ver ver' m : Nat} {l : List Int} (hv : v < n) (hx : xs[v]? = some (.own (id + 1) ver 0 m)) (hl : l ≠ []) : Lists n (s.set v l) (xs.set v (.own (id + 1) ver' 0 l.length)) (ars.set id ⟨ver',1,.inl (ints l)⟩) := by
  have hlt := h.lt hx rfl
  refine h.upd hv (.inr ⟨id,ver',rfl,hl,by rw [List.getElem?_set_self (by omega)]⟩) (fun w y l hw hy hl => (h.own w y l hy hl).set fun e => hw (h.dis w v y _ (id + 1) hy hx e rfl)) fun w y i hw hy hi e => ?_
  simp only [ownId,Option.some.injEq] at e
  subst e
  exact hw (h.dis w v y _ (id + 1) hy hx hi rfl)
def lls (s : List (List Int)) : List (List PV) := s.map fun l => [.lst 0 (ints l)]
@[go_sem] theorem lls_len (s : List (List Int)) : (lls s).length = s.length := by simp [lls]
@[go_sem] theorem lls_get (s : List (List Int)) (i : Nat) : (lls s)[i]? = s[i]?.map fun l => [.lst 0 (ints l)] := by simp [lls]
end Go.Pv
namespace Go.Pv
@[go_sem] theorem rowsV_store_own {id row ver a b c d : Nat} {xs : List V} (h1 : row < xs.length) : storeRow id row 0 [.own a b c d] ⟨ver,1,.inr (rowsV xs)⟩ = some { ar := some (id,⟨ver,1,.inr (rowsV (xs.set row (.own a b c d)))⟩) } := rowsV_store h1 rfl
@[go_sem] theorem rowsV_store_pv {id row ver : Nat} {xs : List V} (h1 : row < xs.length) : storeRow id row 0 [.pv (.lst 0 [])] ⟨ver,1,.inr (rowsV xs)⟩ = some { ar := some (id,⟨ver,1,.inr (rowsV (xs.set row (.pv (.lst 0 []))))⟩) } := rowsV_store h1 rfl
theorem not_set {xs : List V} {x y : V} {i : Nat} (h : x ∉ xs) (hy : x ≠ y) : x ∉ xs.set i y := fun hm => by
  rcases List.mem_or_eq_of_mem_set hm with hm | hm
  · exact h hm
  · exact hy hm
def outP (es : List (Int × Int)) (v : Int) : List Int := (es.filter fun e => e.1 == v).map (·.2)
theorem outP_len (es : List (Int × Int)) (v : Int) : (outP es v).length ≤ es.length := by
  unfold outP
  rw [List.length_map]
  exact List.length_filter_le _ _
end Go.Pv
namespace Go.Pv
def nxt (s : List (List Int)) (v : Int) : List Int := s.getD v.toNat []
end Go.Pv
namespace Go.Pv
theorem ends_len (a : Auto) : a.ends.length ≤ 12 := by
  unfold Auto.ends
  split
  · have := endsTo_len a.edges a.states.toNat
    omega
  · simp
end Go.Pv
namespace Go.Pv
theorem outP_mem {es : List (Int × Int)} {v x : Int} : x ∈ outP es v ↔ (v,x) ∈ es := by
  unfold outP
  rw [List.mem_map]
  constructor
  · rintro ⟨e,he,rfl⟩
    obtain ⟨h1,h2⟩ := List.mem_filter.1 he
    simp only [beq_iff_eq] at h2
    rw [← h2]
    exact h1
  · exact fun h => ⟨_,List.mem_filter.2 ⟨h,by simp⟩,rfl⟩
end Go.Pv
namespace Go.Pv
def esT (rows : List (List Int)) (i : Nat) : List (Int × Int) := (List.range i).flatMap fun j => (rows.getD j []).map fun k => (k,(j : Int))
theorem esT_succ (rows : List (List Int)) (i : Nat) : esT rows (i + 1) = esT rows i ++ (rows.getD i []).map fun k => (k,(i : Int)) := by
  simp [esT,List.range_succ,List.flatMap_append]
theorem esT_mem {rows : List (List Int)} {i : Nat} {u v : Int} : (u,v) ∈ esT rows i ↔ ∃ j : Nat,j < i ∧ v = (j : Int) ∧ u ∈ rows.getD j [] := by
  simp only [esT,List.mem_flatMap,List.mem_range,List.mem_map,Prod.mk.injEq]
  constructor
  · rintro ⟨j,hj,k,hk,rfl,rfl⟩
    exact ⟨j,hj,rfl,hk⟩
  · rintro ⟨j,hj,rfl,hk⟩
    exact ⟨j,hj,u,hk,rfl,rfl⟩
def succA (n : Nat) (es : List (Int × Int)) : List (List Int) := (List.range n).map fun (v : Nat) => outP es v
theorem succA_get {n : Nat} {es : List (Int × Int)} {v : Nat} (h : v < n) : (succA n es)[v]? = some (outP es v) := by simp [succA,h]
theorem succA_nil (n : Nat) : succA n [] = List.replicate n [] := by
  apply List.ext_getElem?
  intro i
  unfold succA outP
  rcases Nat.lt_or_ge i n with hi | hi
  · simp [hi]
  · simp [hi]
theorem succA_snoc {n : Nat} {es : List (Int × Int)} {e : Int × Int} (h : 0 ≤ e.1 ∧ e.1 < n) : (succA n es).set e.1.toNat (outP es e.1 ++ [e.2]) = succA n (es ++ [e]) := by
  apply List.ext_getElem?
  intro i
  rcases Nat.lt_or_ge i n with hi | hi
  · rw [succA_get hi]
    unfold outP
    rw [List.filter_append,List.map_append]
    by_cases hx : e.1.toNat = i
    · have hx' : e.1 = (i : Int) := by omega
      rw [hx,List.getElem?_set_self (by simp [succA,hi])]
      simp [hx']
    · have hx' : ¬ e.1 = (i : Int) := by omega
      rw [List.getElem?_set_ne hx,succA_get hi]
      simp [hx',outP]
  · rw [List.getElem?_eq_none (by simp [succA,hi]),List.getElem?_eq_none (by simp [succA,hi])]
theorem nxt_succA {n : Nat} {es : List (Int × Int)} (h : ∀ e ∈ es,0 ≤ e.1 ∧ e.1 < (n : Int)) {v x : Int} (hv : 0 ≤ v) : x ∈ nxt (succA n es) v ↔ (v,x) ∈ es := by
  unfold nxt
  rcases Nat.lt_or_ge v.toNat n with hn | hn
  · have : (succA n es)[v.toNat]? = some (outP es v) := by
      rw [succA_get hn,show ((v.toNat : Nat) : Int) = v by omega]
    simp only [List.getD_eq_getElem?_getD,this,Option.getD_some]
    exact outP_mem
  · have h1 : (succA n es)[v.toNat]? = none := List.getElem?_eq_none (by simp [succA,hn])
    simp only [List.getD_eq_getElem?_getD,h1,Option.getD_none]
    constructor
    · intro hh; cases hh
    · intro hh
      have := (h _ hh).2
      dsimp only at this
      omega
def ranksC (rows : List (List Int)) (dn : List Int) : List Int := levels (nxt (succA rows.length (esT rows rows.length))) rows.length dn
def edR (rows : List (List Int)) (v u : Int) : Prop := 0 ≤ v ∧ u ∈ rows.getD v.toNat []
theorem back_in {rows : List (List Int)} (hr : ∀ l ∈ rows,∀ x ∈ l,0 ≤ x ∧ x < (rows.length : Int)) : ∀ e ∈ esT rows rows.length,(0 ≤ e.1 ∧ e.1 < (rows.length : Int)) ∧ (0 ≤ e.2 ∧ e.2 < (rows.length : Int)) := fun e he => by
  obtain ⟨u,v⟩ := e
  obtain ⟨j,hj,rfl,hu⟩ := esT_mem.1 he
  have hg : rows.getD j [] = rows[j] := by simp [hj]
  rw [hg] at hu
  exact ⟨hr _ (List.getElem_mem _) u hu,by omega,by omega⟩
theorem nx_in {rows : List (List Int)} (hr : ∀ l ∈ rows,∀ x ∈ l,0 ≤ x ∧ x < (rows.length : Int)) : ∀ v x,x ∈ nxt (succA rows.length (esT rows rows.length)) v → 0 ≤ x ∧ x < (rows.length : Int) := fun v x hx => by
  unfold nxt at hx
  cases hg : (succA rows.length (esT rows rows.length))[v.toNat]? with
  | none => simp [hg] at hx
  | some l =>
    simp only [List.getD_eq_getElem?_getD,hg,Option.getD_some] at hx
    obtain ⟨w,_,rfl⟩ := List.mem_map.1 (List.mem_of_getElem? hg)
    exact (back_in hr _ (outP_mem.1 hx)).2
theorem ranks_dist {rows : List (List Int)} {dn : List Int} (hr : ∀ l ∈ rows,∀ x ∈ l,0 ≤ x ∧ x < (rows.length : Int)) (hd : ∀ x ∈ dn,0 ≤ x ∧ x < (rows.length : Int)) : Dist rows.length (edR rows) dn (ranksC rows dn) := by
  have h := levels_dist (nx := nxt (succA rows.length (esT rows rows.length))) (nx_in hr) hd
  have key : ∀ v u : Int,0 ≤ u → (0 ≤ v ∧ v < (rows.length : Int)) → (v ∈ nxt (succA rows.length (esT rows rows.length)) u ↔ edR rows v u) := fun v u hu hv => by
    rw [nxt_succA (fun e he => (back_in hr e he).1) hu,esT_mem]
    constructor
    · rintro ⟨j,hj,rfl,h⟩
      exact ⟨hv.1,by rw [Int.toNat_natCast]; exact h⟩
    · rintro ⟨h1,h2⟩
      exact ⟨v.toNat,by omega,by omega,h2⟩
  exact ⟨h.len,h.low,h.zero,fun v u he hr' hp => h.step v u ((key v u hr'.2.2.1 ⟨hr'.1,hr'.2.1⟩).2 he) hr' hp,fun v h0 h1 hp => by
    obtain ⟨u,u1,u2,u3,u4⟩ := h.back v h0 h1 hp
    exact ⟨u,(key v u u2 ⟨h0,h1⟩).1 u1,u2,u3,u4⟩⟩
end Go.Pv
namespace Go.Pv
theorem dig_inj {n m : Nat} (hn : n < 10) (hm : m < 10) (h : UInt8.ofNat (48 + n) = UInt8.ofNat (48 + m)) : n = m := by
  have := congrArg UInt8.toNat h
  simp only [UInt8.toNat_ofNat'] at this
  omega
theorem dig_ne {n k : Nat} (hn : n < 10) (hk : k < 48 ∨ 57 < k) (hk2 : k < 256) : UInt8.ofNat (48 + n) ≠ UInt8.ofNat k := fun h => by
  have := congrArg UInt8.toNat h
  simp only [UInt8.toNat_ofNat'] at this
  omega
def Cfg.ok (c : Cfg) : Prop := smallI c.a = true ∧ smallI c.b = true ∧ c.toA.all smallI = true ∧ c.toB.all smallI = true ∧ c.toA.length ≤ 1000 ∧ c.toB.length ≤ 1000
def Cfg.key (c : Cfg) : ByteArray := keyS c.a c.b c.toA c.toB
end Go.Pv
namespace Go.Pv
def spN (n : Int) : List UInt8 := 32 :: encN n
def keyB (a b : Int) (l m : List Int) : List UInt8 := encN a ++ (spN b ++ (l.flatMap spN ++ (59 :: m.flatMap spN)))
def keyBS (a b : Int) (l m : List Int) : ByteArray := ⟨(keyB a b l m).toArray⟩
def Cfg.keyB (c : Cfg) : ByteArray := keyBS c.a c.b c.toA c.toB
def stops : List UInt8 → Prop
  | [] => True
  | x :: _ => x = 32 ∨ x = 59
theorem stops32 (t : List UInt8) : stops (32 :: t) := Or.inl rfl
theorem stops59 (t : List UInt8) : stops (59 :: t) := Or.inr rfl
theorem encN_stop {x y : Int} {p q : List UInt8} (hx : smallI x = true) (hy : smallI y = true) (hp : stops p) (hq : stops q) (h : encN x ++ p = encN y ++ q) : x = y ∧ p = q := by
  simp only [smallI,Bool.and_eq_true,decide_eq_true_eq] at hx hy
  have key : ∀ (n : Nat) (r : List UInt8),n < 10 → stops r → UInt8.ofNat (48 + n) :: r ≠ r ∧ ∀ t,stops (UInt8.ofNat (48 + n) :: t) → False := fun n r hn _ => ⟨fun e => by simpa using congrArg List.length e,fun t ht => by
    rcases ht with ht | ht
    · exact dig_ne hn (k := 32) (.inl (by omega)) (by omega) ht
    · exact dig_ne hn (k := 59) (.inr (by omega)) (by omega) ht⟩
  unfold encN at h
  by_cases h1 : x < 10 <;> by_cases h2 : y < 10
  · rw [if_pos h1,if_pos h2] at h
    simp only [List.cons_append,List.nil_append,List.cons.injEq] at h
    have := dig_inj (n := x.toNat) (m := y.toNat) (by omega) (by omega) h.1
    exact ⟨by omega,h.2⟩
  · rw [if_pos h1,if_neg h2] at h
    simp only [List.cons_append,List.nil_append,List.cons.injEq] at h
    rw [h.2] at hp
    exact ((key (y.toNat % 10) [] (by omega) trivial).2 _ hp).elim
  · rw [if_neg h1,if_pos h2] at h
    simp only [List.cons_append,List.nil_append,List.cons.injEq] at h
    rw [← h.2] at hq
    exact ((key (x.toNat % 10) [] (by omega) trivial).2 _ hq).elim
  · rw [if_neg h1,if_neg h2] at h
    simp only [List.cons_append,List.nil_append,List.cons.injEq] at h
    have e1 := dig_inj (n := x.toNat / 10) (m := y.toNat / 10) (by omega) (by omega) h.1
    have e2 := dig_inj (n := x.toNat % 10) (m := y.toNat % 10) (by omega) (by omega) h.2.1
    exact ⟨by omega,h.2.2⟩
theorem stops_sp {l : List Int} {r : List UInt8} (hr : stops r) : stops (l.flatMap spN ++ r) := by
  cases l with
  | nil => exact hr
  | cons x l => exact .inl rfl
theorem flat_inj : ∀ {l l' : List Int} {p q : List UInt8},l.all smallI = true → l'.all smallI = true → (p = [] ∨ ∃ t,p = 59 :: t) → (q = [] ∨ ∃ t,q = 59 :: t) → l.flatMap spN ++ p = l'.flatMap spN ++ q → l = l' ∧ p = q
  | [],[],p,q,_,_,_,_,h => ⟨rfl,h⟩
  | [],y :: l',p,q,_,_,hp,_,h => by
    rcases hp with rfl | ⟨t,rfl⟩
    · simp [spN] at h
    · simp [spN] at h
  | x :: l,[],p,q,_,_,_,hq,h => by
    rcases hq with rfl | ⟨t,rfl⟩
    · simp [spN] at h
    · simp [spN] at h
  | x :: l,y :: l',p,q,h1,h2,hp,hq,h => by
    have sp : stops p := hp.elim (fun h => by rw [h]; trivial) fun ⟨t,h⟩ => by rw [h]; exact .inr rfl
    have sq : stops q := hq.elim (fun h => by rw [h]; trivial) fun ⟨t,h⟩ => by rw [h]; exact .inr rfl
    simp only [List.all_cons,Bool.and_eq_true] at h1 h2
    simp only [List.flatMap_cons,spN,List.cons_append,List.append_assoc,List.cons.injEq,true_and] at h
    obtain ⟨e1,e2⟩ := encN_stop h1.1 h2.1 (stops_sp sp) (stops_sp sq) h
    obtain ⟨e3,e4⟩ := flat_inj h1.2 h2.2 hp hq e2
    exact ⟨by rw [e1,e3],e4⟩
theorem keyB_inj {c d : Cfg} (hc : c.ok) (hd : d.ok) (h : c.keyB = d.keyB) : c = d := by
  obtain ⟨c1,c2,c3,c4,_⟩ := hc
  obtain ⟨d1,d2,d3,d4,_⟩ := hd
  have h : keyB c.a c.b c.toA c.toB = keyB d.a d.b d.toA d.toB := by
    have := congrArg (fun b : ByteArray => b.data.toList) h
    simpa [Cfg.keyB,keyBS] using this
  unfold keyB at h
  obtain ⟨e1,h⟩ := encN_stop c1 d1 (stops32 _) (stops32 _) h
  have h := (List.cons.inj h).2
  obtain ⟨e2,h⟩ := encN_stop c2 d2 (stops_sp (stops59 _)) (stops_sp (stops59 _)) h
  obtain ⟨e3,h⟩ := flat_inj c3 d3 (.inr ⟨_,rfl⟩) (.inr ⟨_,rfl⟩) h
  simp only [List.cons.injEq,true_and] at h
  obtain ⟨e4,_⟩ := flat_inj (p := []) (q := []) c4 d4 (.inl rfl) (.inl rfl) (by simpa using h)
  cases c; cases d
  simp only at e1 e2 e3 e4
  subst e1; subst e2; subst e3; subst e4
  rfl
end Go.Pv
namespace Go.Pv
section
variable {α : Type} [DecidableEq α]
def addU (out : List α) (c : α) : List α := if c ∈ out then out else out ++ [c]
def addUs (lim : Nat) : List α → List α → Option (List α)
  | out,[] => some out
  | out,c :: l => if lim < (addU out c).length then none else addUs lim (addU out c) l
def bfsL (succ : α → List α) (lim : Nat) : Nat → List α → Nat → Option (List α)
  | 0,_,_ => none
  | n + 1,out,i => match out[i]? with
    | none => some out
    | some c => match addUs lim out (succ c) with
      | none => none
      | some out' => bfsL succ lim n out' (i + 1)
theorem addU_mem {out : List α} {c x : α} : x ∈ addU out c ↔ x ∈ out ∨ x = c := by
  unfold addU
  split
  · rename_i h
    exact ⟨.inl,fun hh => hh.elim id fun e => e ▸ h⟩
  · simp
theorem addU_nodup {out : List α} {c : α} (h : out.Nodup) : (addU out c).Nodup := by
  unfold addU
  split
  · exact h
  · rename_i hc
    exact List.nodup_append.2 ⟨h,by simp,fun a ha b hb => by
      rw [List.mem_singleton.1 hb]
      exact fun e => hc (e ▸ ha)⟩
theorem addU_pre {out : List α} {c : α} : out <+: addU out c := by
  unfold addU
  split
  · exact List.prefix_refl _
  · exact List.prefix_append _ _
theorem addUs_some {lim : Nat} : ∀ {l out out' : List α},addUs lim out l = some out' → out <+: out' ∧ (∀ x,x ∈ out' ↔ x ∈ out ∨ x ∈ l) ∧ (out.Nodup → out'.Nodup) ∧ (out.length ≤ lim → out'.length ≤ lim)
  | [],out,out',h => by
    cases h
    exact ⟨List.prefix_refl _,by simp,id,id⟩
  | c :: l,out,out',h => by
    unfold addUs at h
    split at h
    · cases h
    · rename_i hl
      obtain ⟨h1,h2,h3,h4⟩ := addUs_some h
      refine ⟨addU_pre.trans h1,fun x => ?_,fun hn => h3 (addU_nodup hn),fun _ => h4 (by omega)⟩
      rw [h2,addU_mem,List.mem_cons,or_assoc]
theorem addUs_total {lim : Nat} {U : List α} (hU : U.length ≤ lim) : ∀ {l out : List α},out.Nodup → (∀ x ∈ out,x ∈ U) → (∀ x ∈ l,x ∈ U) → ∃ out',addUs lim out l = some out'
  | [],out,_,_,_ => ⟨out,rfl⟩
  | c :: l,out,hn,h1,h2 => by
    have hm : ∀ x ∈ addU out c,x ∈ U := fun x hx => by
      rcases addU_mem.1 hx with hx | rfl
      · exact h1 x hx
      · exact h2 _ (List.mem_cons_self ..)
    have hl : (addU out c).length ≤ U.length := (addU_nodup hn).length_le_of_subset hm
    unfold addUs
    rw [if_neg (by omega)]
    exact addUs_total hU (addU_nodup hn) hm fun x hx => h2 x (List.mem_cons_of_mem _ hx)
structure Bfs (succ : α → List α) (s : α) (out : List α) (i : Nat) : Prop where
  nd : out.Nodup
  st : s ∈ out
  dn : ∀ j c,j < i → out[j]? = some c → ∀ x ∈ succ c,x ∈ out
theorem Bfs.next {succ : α → List α} {s c : α} {out out' : List α} {i lim : Nat} (h : Bfs succ s out i) (hc : out[i]? = some c) (ha : addUs lim out (succ c) = some out') : Bfs succ s out' (i + 1) := by
  obtain ⟨h1,h2,h3,_⟩ := addUs_some ha
  refine ⟨h3 h.nd,(h2 s).2 (.inl h.st),fun j d hj hd x hx => ?_⟩
  have hlt : i < out.length := (List.getElem?_eq_some_iff.1 hc).1
  have hd' : out[j]? = some d := by
    obtain ⟨r,rfl⟩ := h1
    rwa [List.getElem?_append_left (by omega)] at hd
  rcases Nat.lt_or_ge j i with hji | hji
  · exact (h2 x).2 (.inl (h.dn j d hji hd' x hx))
  · obtain rfl : j = i := by omega
    rw [hc] at hd'
    cases hd'
    exact (h2 x).2 (.inr hx)
theorem bfsL_spec {succ : α → List α} {s : α} {lim : Nat} {p : α → Prop} (hp : ∀ c,p c → ∀ x ∈ succ c,p x) : ∀ {n : Nat} {out out' : List α} {i : Nat},Bfs succ s out i → (∀ x ∈ out,p x) → bfsL succ lim n out i = some out' → Bfs succ s out' out'.length ∧ (∀ x ∈ out',p x) ∧ out <+: out'
  | 0,_,_,_,_,_,h => by cases h
  | n + 1,out,out',i,hb,ho,h => by
    unfold bfsL at h
    split at h
    · rename_i hi
      cases h
      have : out.length ≤ i := List.getElem?_eq_none_iff.1 hi
      exact ⟨⟨hb.nd,hb.st,fun j c hj => hb.dn j c (by omega)⟩,ho,List.prefix_refl _⟩
    · rename_i c hc
      split at h
      · cases h
      · rename_i o2 ha
        obtain ⟨h1,h2,_,_⟩ := addUs_some ha
        obtain ⟨q1,q2,q3⟩ := bfsL_spec hp (hb.next hc ha) (fun x hx => by
          rcases (h2 x).1 hx with hx | hx
          · exact ho x hx
          · exact hp c (ho c (List.mem_of_getElem? hc)) x hx) h
        exact ⟨q1,q2,h1.trans q3⟩
theorem bfsL_total {succ : α → List α} {s : α} {lim : Nat} {U : List α} (hU : U.length ≤ lim) (hp : ∀ c ∈ U,∀ x ∈ succ c,x ∈ U) : ∀ {n : Nat} {out : List α} {i : Nat},Bfs succ s out i → (∀ x ∈ out,x ∈ U) → i ≤ out.length → lim + 2 ≤ n + i → ∃ out',bfsL succ lim n out i = some out'
  | 0,out,i,hb,ho,hi,hn => by
    have : out.length ≤ U.length := hb.nd.length_le_of_subset ho
    omega
  | n + 1,out,i,hb,ho,hi,hn => by
    unfold bfsL
    split
    · exact ⟨_,rfl⟩
    · rename_i c hc
      have hcU := ho c (List.mem_of_getElem? hc)
      obtain ⟨o2,ha⟩ := addUs_total hU (l := succ c) hb.nd ho (hp c hcU)
      rw [ha]
      obtain ⟨h1,h2,_,_⟩ := addUs_some ha
      have hlt : i < out.length := (List.getElem?_eq_some_iff.1 hc).1
      refine bfsL_total hU hp (hb.next hc ha) (fun x hx => ?_) (by have := h1.length_le; omega) (by omega)
      rcases (h2 x).1 hx with hx | hx
      · exact ho x hx
      · exact hp c hcU x hx
theorem bfs0 (succ : α → List α) (s : α) : Bfs succ s [s] 0 := ⟨by simp,by simp,fun j c hj => by omega⟩
end
end Go.Pv
namespace Go.Pv
def seenS (l : List ByteArray) : List (PV × PV) := l.map fun s => (.str s,.bool true)
def lookS (x : ByteArray) (l : List ByteArray) : Option (Nat × PV) := (l.findIdx? fun s => decide (s = x)).map fun i => (i,.bool true)
def hasS (l : List ByteArray) (x : ByteArray) : Bool := l.any fun s => decide (s = x)
theorem hasS_iff {l : List ByteArray} {x : ByteArray} : hasS l x = true ↔ x ∈ l := by simp [hasS]
def insS (l : List ByteArray) (x : ByteArray) : List ByteArray := if hasS l x = true then l else l ++ [x]
theorem keyEq_str (a b : ByteArray) : keyEq false [2] (.str a) (.str b) = some (decide (a = b)) := by
  show eqsAll [2] [.str a] [.str b] = _
  rw [eqsAll_cons,eqs_str,eqsAll_nil]
  simp
theorem findKey_str (x : ByteArray) : ∀ (l : List ByteArray) (i : Nat),findKey false [2] (.str x) (seenS l) i = some ((lookS x l).map fun p => (p.1 + i,p.2))
  | [],i => by
    show (if (keyEq false [2] (.str x) (.str x)).isSome then some none else none) = _
    rw [keyEq_str]
    rfl
  | y :: l,i => by
    show (match keyEq false [2] (.str x) (.str y) with
      | some true => some (some (i,PV.bool true))
      | some false => findKey false [2] (.str x) (seenS l) (i + 1)
      | none => none) = _
    rw [keyEq_str]
    by_cases h : x = y
    · subst h
      simp [lookS,List.findIdx?_cons]
    · have h' : ¬ y = x := fun e => h e.symm
      simp only [h,decide_false]
      rw [findKey_str x l (i + 1)]
      simp only [lookS,List.findIdx?_cons,h',decide_false]
      cases l.findIdx? fun s => decide (s = x) with
      | none => rfl
      | some j => simp; omega
@[go_sem] theorem find_seenS (x : ByteArray) (l : List ByteArray) : findKey false [2] (.str x) (seenS l) 0 = some (lookS x l) := by
  rw [findKey_str]
  cases lookS x l <;> rfl
theorem lookS_some {x : ByteArray} {l : List ByteArray} : (lookS x l).isSome = true ↔ x ∈ l := by
  unfold lookS
  rw [Option.isSome_map,List.findIdx?_isSome,List.any_eq_true]
  simp
@[go_sem] theorem upd_seenS (x : ByteArray) (l : List ByteArray) (id : Nat) : updM false [2] (.str x) (.bool true) id (seenS l) = some { mp := some (id,seenS (insS l x)) } := by
  unfold updM
  rw [find_seenS]
  have h := lookS_some (x := x) (l := l)
  rw [← hasS_iff] at h
  cases hl : lookS x l with
  | none =>
    rw [hl] at h
    have : hasS l x = false := by
      cases hx : hasS l x with
      | false => rfl
      | true => simpa using h.2 hx
    simp [insS,this,seenS]
  | some p =>
    rw [hl] at h
    have hx : hasS l x = true := h.1 rfl
    unfold lookS at hl
    obtain ⟨i,hi,rfl⟩ := Option.map_eq_some_iff.1 hl
    obtain ⟨h1,h2,_⟩ := List.findIdx?_eq_some_iff_getElem.1 hi
    have h3 : l[i] = x := by simpa using h2
    simp only [insS,hx,if_true]
    congr 4
    apply List.ext_getElem?
    intro j
    rw [List.getElem?_set]
    split
    · rename_i hj
      subst hj
      simp [seenS,h1,h3]
    · rfl
end Go.Pv
namespace Go.Pv
end Go.Pv
namespace Go.Pv
def Draft.from (d : Draft) (s : Int) : Auto := ⟨1 + d.n % 4,s % (1 + d.n % 4),d.auto.edges⟩
end Go.Pv
namespace Go.Pv
end Go.Pv
namespace Go.Pv
end Go.Pv
namespace Go.Pv
structure Mv where
  send : Bool
  label : Int
  cls : Int
  deriving DecidableEq,Inhabited
def Mv.c (m : Mv) : List PV := [.bool m.send,.int .i64 m.label,.int .i64 m.cls]
def mvs (l : List Mv) : List (List PV) := l.map Mv.c
@[go_sem] theorem mvs_nil : mvs [] = [] := rfl
@[go_sem] theorem Mv.c_eq (m : Mv) : m.c = [.bool m.send,.int .i64 m.label,.int .i64 m.cls] := rfl
def movesL (es : List Edge) (s : Int) (c : List Int) : List Mv := (es.filter fun e => e.fr == s).map fun e => ⟨e.send,e.label,c.getD e.to.toNat 0⟩
def simB (es : List Edge) (c : List Int) (k i : Nat) : Bool := decide (c.getD k 0 = c.getD i 0) && decide (movesL es (k : Int) c = movesL es (i : Int) c)
def leastC (es : List Edge) (c : List Int) (i : Nat) : Nat := ((List.range i).find? fun k => simB es c k i).getD i
def stepC (n : Nat) (es : List Edge) (c : List Int) : List Int := (List.range n).map fun i => (leastC es c i : Int)
def cls (n : Nat) (es : List Edge) : Nat → List Int
  | 0 => List.replicate n 0
  | j + 1 => stepC n es (cls n es j)
end Go.Pv
namespace Go.Pv
end Go.Pv
namespace Go.Pv
def edgesOf (es : List Edge) (s : Int) : List Edge := es.filter fun e => e.fr == s
def lackE (a b : List Edge) (p q : Int) : Option Edge := (edgesOf a p).find? fun e => !(nextE q e.send e.label b).isSome
def ent (M : List (List Int)) (p q : Int) : Int := (M.getD p.toNat []).getD q.toNat 0
def nearP (b : List Edge) (M : List (List Int)) (q k : Int) (e : Edge) : Bool := match nextE q e.send e.label b with
  | some n => decide (ent M e.to n = k)
  | none => false
def nearE (a b : List Edge) (M : List (List Int)) (p q k : Int) : Option Edge := (edgesOf a p).find? (nearP b M q k)
end Go.Pv
namespace Go.Pv
def rowArr (r : List Int) : Arr := ⟨0,1,.inl (ints r)⟩
def mAr (M : List (List Int)) : List Arr := M.map rowArr
@[go_sem] theorem mAr_get (M : List (List Int)) (i : Nat) : (mAr M)[i]? = M[i]?.map fun r => ⟨0,1,.inl (ints r)⟩ := by
  unfold mAr
  rw [List.getElem?_map]
  rfl
end Go.Pv
namespace Go.Pv
def lkB (a b : List Edge) (p q : Int) : Bool := (lackE a b p q).isSome || (lackE b a q p).isSome
def b01 (c : Bool) : Int := if c = true then 1 else 0
def bTo (a b : List Edge) (nb p q : Nat) : List Int := partTo (fun (q : Nat) => b01 (lkB a b p q)) 0 (List.range nb) q
def baseM (a b : List Edge) (nb m : Nat) : List (List Int) := (List.range m).map fun p => bTo a b nb p nb
def setM (M : List (List Int)) (p q : Nat) (v : Int) : List (List Int) := M.set p ((M.getD p []).set q v)
def stepM (a b : List Edge) (k : Int) (p : Nat) (M : List (List Int)) (q : Nat) : List (List Int) := if (nearE a b M p q k).isSome = true ∧ ent M p q = 0 then setM M p q (k + 1) else M
def rowM (a b : List Edge) (nb : Nat) (k : Int) (M : List (List Int)) (p : Nat) : List (List Int) := (List.range nb).foldl (stepM a b k p) M
def roundM (a b : List Edge) (na nb : Nat) (k : Int) (M : List (List Int)) : List (List Int) := (List.range na).foldl (rowM a b nb k) M
def difM (a b : List Edge) (na nb : Nat) : Nat → List (List Int)
  | 0 => baseM a b nb na
  | j + 1 => roundM a b na nb ((j + 1 : Nat) : Int) (difM a b na nb j)
def differ (a b : Auto) : List (List Int) := difM a.edges b.edges a.states.toNat b.states.toNat (a.states.toNat * b.states.toNat)
end Go.Pv
namespace Go.Pv
def OptR (R : Int → Int → Prop) : Option Int → Option Int → Prop
  | none,none => True
  | some x,some y => R x y
  | _,_ => False
def Ev (a b : List Edge) : Nat → Int → Int → Prop
  | 0,_,_ => True
  | j + 1,p,q => ∀ d x,OptR (Ev a b j) (nextE p d x a) (nextE q d x b)
open Classical in
noncomputable def lst (a b : List Edge) : Nat → Int → Int → Nat
  | 0,_,_ => 0
  | k + 1,p,q => if lst a b k p q ≠ 0 then lst a b k p q else if Ev a b (k + 1) p q then 0 else k + 1
end Go.Pv
namespace Go.Pv
end Go.Pv
namespace Go.Pv
def Mv.lt (a b : Mv) : Bool := if a.send ≠ b.send then b.send else decide (a.label < b.label)
def leastR (D : List (List Int)) (n : Nat) (p : Nat) : Nat := ((List.range n).find? fun (q : Nat) => decide (ent D p q = 0)).getD 0
def Auto.classes (a : Auto) : List Int := (List.range a.states.toNat).map fun p => (leastR (differ a a) a.states.toNat p : Int)
end Go.Pv
namespace Go.Pv
end Go.Pv
namespace Go.Pv
end Go.Pv
namespace Go.Pv
theorem r77 (g t u : Nat) (cs : List PV) (l : List Edge) (p : Edge → Bool) (hl : l.length ≤ 2 ^ 63 - 1) (hi : inls A g = false) (hp : PrA g = none) (ht : takes A g = false) (hf : ∀ x ∈ l,res A PrA g [.agg [.int .i64 x.fr,.bool x.send,.int .i64 x.label,.int .i64 x.to],.ro u cs] = some [.bool (p x)]) : res A PrA 77 [.lst t (edgs l),.func g [.ro u cs]] = some [.int .i64 (idxP p l)] := by
  refine res_of a77 rfl rfl ?_
  simp only [F77]
  simp (disch := omega) only [go_sem]
  refine W.find l p (fun k => ⟨[(0,.pv (.lst t (edgs l))),(1,.pv (.func g [.ro u cs])),(7,.pv (.int .i64 l.length)),(8,.pv (.int .i64 k))],⟨[],[],[]⟩⟩) rfl (fun k x hx hk hfd => ?_) (fun hn => ?_)
  · have hfx := hf x (List.mem_of_getElem? hx)
    simp (disch := omega) only [go_sem]
    refine Br.ofP (fun h => ?_) (fun h => (h (by omega)).elim)
    simp (disch := omega) only [go_sem,hx,CW_none hi hp ht,hfx]
    refine Br.of (fun h2 => ?_) (fun h2 => ?_) <;> simp (disch := omega) only [go_sem]
    · rw [(hfd h2).idxP]
    · exact findK.of h2 rfl
  · simp (disch := omega) only [go_sem]
    rw [hn.idxP]
end Go.Pv
namespace Go.Pv
theorem rowsFit_rows {k : Nat} {rows : List (List PV)} (h : ∀ r ∈ rows,r.length = k) : rowsFit k (.inl rows) = true := by
  simp only [rowsFit,List.all_eq_true,beq_iff_eq]
  exact h
@[go_sem] theorem rowsFit_ints (l : List Int) : rowsFit 1 (.inl (ints l)) = true := rowsFit_rows fun r hr => by
  obtain ⟨x,_,rfl⟩ := List.mem_map.1 hr
  rfl
@[go_sem] theorem sl_lst_to (g : Opd → V) (h : Heap) (k t : Nat) (rows : List (List PV)) (hi : Opd) :
    sliceV g h k (.pv (.lst t rows)) none (some hi) none = if rowsFit k (.inl rows) = true then (intOf (g hi)).bind fun i => chkR i rows.length (.pv (.lst t (rows.take i.toNat)),{}) else none := by
  cases hf : rowsFit k (.inl rows) with
  | false => simp [sliceV,hf]
  | true =>
    cases hj : intOf (g hi) with
    | none => simp [sliceV,hf,bounds,bound,hj]
    | some i => by_cases h0 : 0 ≤ i ∧ i ≤ rows.length <;> simp [sliceV,hf,bounds,bound,hj,h0,chkR]
@[go_sem] theorem sl_lst_from (g : Opd → V) (h : Heap) (k t : Nat) (rows : List (List PV)) (lo : Opd) :
    sliceV g h k (.pv (.lst t rows)) (some lo) none none = if rowsFit k (.inl rows) = true then (intOf (g lo)).bind fun i => chkR i rows.length (.pv (.lst t (rows.drop i.toNat)),{}) else none := by
  cases hf : rowsFit k (.inl rows) with
  | false => simp [sliceV,hf]
  | true =>
    cases hj : intOf (g lo) with
    | none => simp [sliceV,hf,bounds,bound,hj]
    | some i => by_cases h0 : 0 ≤ i ∧ i ≤ rows.length <;> simp [sliceV,hf,bounds,bound,hj,h0,chkR]
end Go.Pv
namespace Go.Pv
theorem r198 {Pr : Prims} (b : Bool) : res A Pr 198 [.bool b] = some [.int .i64 (if b = true then 1 else 0)] := by
  refine res_of a198 rfl rfl ?_
  simp only [F198]
  cases b <;> simp (disch := omega) only [go_sem]
theorem r197 {Pr : Prims} (h66 : Pr 66 = none) (h60 : Pr 60 = none) (h59 : Pr 59 = none) (h198 : Pr 198 = none) (a b : Mov) : res A Pr 197 [.agg a.c,.agg b.c] = some [.int .i64 (Mov.cmp a b)] := by
  refine res_of a197 rfl rfl ?_
  simp only [F197]
  have e59 := fun x y z => r59 (Pr := Pr) 0 [x,y,z] (by simp)
  simp only [ints,List.map_cons,List.map_nil] at e59
  simp (disch := omega) only [go_sem,CW_CN (by kernel_rfl) h60 tk60,CW_CN (by kernel_rfl) h59 tk59,CW_CN (by kernel_rfl) h198 tk198,r60 h66,r198,e59]
  unfold Mov.cmp Edge.cmp Edge.side Mov.e
  by_cases h : cmpI a.label b.label = 0 <;> simp [orI,h]
def sysErr (a b : Auto) (cap : Int) : Int := if a.err ≠ 0 then a.err else if b.err ≠ 0 then b.err else if cap < 1 ∨ 3 < cap then 7 else 0
set_option maxHeartbeats 1000000 in
@[go_sem] theorem r152 (t1 t2 : Nat) (a b : Auto) (cap : Int) (ha : a.edges.length ≤ 2 ^ 63 - 1) (hb : b.edges.length ≤ 2 ^ 63 - 1) : res A PrA 152 [.agg [.int .i64 a.states,.int .i64 a.start,.lst t1 (a.edges.map Edge.c),.int .i64 b.states,.int .i64 b.start,.lst t2 (b.edges.map Edge.c),.int .i64 cap]] = some [.int .i64 (sysErr a b cap)] := by
  refine res_of a152 rfl rfl ?_
  simp only [F152]
  unfold sysErr
  simp (disch := omega) only [go_sem]
  by_cases h1 : a.err = 0
  · by_cases h2 : b.err = 0
    · by_cases h3 : cap < 1
      · simp (disch := omega) only [go_sem,h1,h2,h3]
        simp
      · by_cases h4 : 3 < cap
        · simp (disch := omega) only [go_sem,h1,h2,h3,h4]
          simp
        · simp (disch := omega) only [go_sem,h1,h2,h3,h4]
          simp
    · simp (disch := omega) only [go_sem,h1,h2]
      simp [h2]
  · simp (disch := omega) only [go_sem,h1]
    simp [h1]
set_option maxHeartbeats 1000000 in
@[go_sem] theorem r153 (t1 t2 : Nat) (a b : Auto) (cap : Int) (ha : a.edges.length ≤ 2 ^ 63 - 1) (hb : b.edges.length ≤ 2 ^ 63 - 1) : res A PrA 153 [.agg [.int .i64 a.states,.int .i64 a.start,.lst t1 (a.edges.map Edge.c),.int .i64 b.states,.int .i64 b.start,.lst t2 (b.edges.map Edge.c),.int .i64 cap]] = some [.int .i64 (sysErr a b cap)] := by
  refine res_of a153 rfl rfl ?_
  simp only [F153]
  unfold sysErr
  simp (disch := omega) only [go_sem]
  by_cases h1 : a.err = 0
  · by_cases h2 : b.err = 0
    · by_cases h3 : cap < 1
      · simp (disch := omega) only [go_sem,h1,h2,h3]
        simp
      · by_cases h4 : 3 < cap
        · simp (disch := omega) only [go_sem,h1,h2,h3,h4]
          simp
        · simp (disch := omega) only [go_sem,h1,h2,h3,h4]
          simp
    · simp (disch := omega) only [go_sem,h1,h2]
      simp [h2]
  · simp (disch := omega) only [go_sem,h1]
    simp [h1]
@[go_sem] theorem r155 (t1 t2 : Nat) (a b : Auto) (cap : Int) : res A PrA 155 [.agg [.int .i64 a.states,.int .i64 a.start,.lst t1 (a.edges.map Edge.c),.int .i64 b.states,.int .i64 b.start,.lst t2 (b.edges.map Edge.c),.int .i64 cap]] = some [.agg [.int .i64 a.start,.int .i64 b.start,.lst 0 [],.lst 0 []]] := by
  refine res_of a155 rfl rfl ?_
  simp only [F155]
  simp (disch := omega) only [go_sem]
@[go_sem] theorem r176 (t u : Nat) (a b : List Int) (ha : a.length ≤ 2 ^ 63 - 1) (_hb : b.length ≤ 2 ^ 63 - 1) : res A PrA 176 [.lst t (ints a),.lst u (ints b)] = some [.bool (decide (a = b))] := by
  refine res_of a176 rfl rfl ?_
  simp only [F176]
  simp (disch := omega) only [go_sem]
  refine Br.ofP (fun h => ?_) (fun h => ?_) <;> simp (disch := omega) only [go_sem,h]
  case refine_2 =>
    have : ¬ a = b := fun e => h (by rw [e])
    simp [this]
  refine W.upto a.length (fun k => ⟨[(0,.pv (.lst t (ints a))),(1,.pv (.lst u (ints b))),(5,.pv (.int .i64 k))],⟨[],[],[]⟩⟩) (fun k => a.take k = b.take k) rfl rfl fun k hk hi => ?_
  simp (disch := omega) only [go_sem]
  refine Br.ofP (fun g => ?_) (fun g => ?_)
  · obtain ⟨x,hx⟩ := get_at (l := a) (k := k) (by omega)
    obtain ⟨y,hy⟩ := get_at (l := b) (k := k) (by omega)
    simp (disch := omega) only [go_sem,hx,hy]
    refine Br.ofP (fun f => ?_) (fun f => ?_) <;> simp (disch := omega) only [go_sem,f]
    · exact .of (by omega) rfl (take_step hx hy hi f)
    · have : ¬ a = b := fun e => f (by rw [e,hy] at hx; exact (Option.some.inj hx).symm)
      simp [this]
  · simp (disch := omega) only [go_sem]
    have := takes_all (k := k) (by omega) (by omega) hi
    simp [this]
@[go_sem] theorem r154 (u1 u2 w1 w2 : Nat) (x y x' y' : Int) (l m l' m' : List Int) (hl : l.length ≤ 2 ^ 63 - 1) (hm : m.length ≤ 2 ^ 63 - 1) (hl' : l'.length ≤ 2 ^ 63 - 1) (hm' : m'.length ≤ 2 ^ 63 - 1) : res A PrA 154 [.agg [.int .i64 x,.int .i64 y,.lst u1 (ints l),.lst u2 (ints m)],.agg [.int .i64 x',.int .i64 y',.lst w1 (ints l'),.lst w2 (ints m')]] = some [.bool (decide ((⟨x,y,l,m⟩ : Cfg) = ⟨x',y',l',m'⟩))] := by
  refine res_of a154 rfl rfl ?_
  simp only [F154]
  simp (disch := omega) only [go_sem]
  by_cases h1 : x = x'
  · by_cases h2 : y = y'
    · by_cases h3 : l = l'
      · simp (disch := omega) only [go_sem,h1,h2,h3]
        simp
      · simp (disch := omega) only [go_sem,h1,h2,h3]
        simp [h3]
    · simp (disch := omega) only [go_sem,h1,h2]
      simp [h2]
  · simp (disch := omega) only [go_sem,h1]
    simp [h1]
def badL (x : Int) : Bool := decide (x < 1) || decide (1000 < x)
def chanB (l : List Int) (cap : Int) : Bool := decide ((l.length : Int) ≤ cap) && !l.any badL
theorem r188 (x : Int) : res A PrA 188 [.int .i64 x] = some [.bool (badL x)] := by
  refine res_of a188 rfl rfl ?_
  simp only [F188]
  simp (disch := omega) only [go_sem]
  unfold badL
  by_cases c1 : x < 1
  · simp (disch := omega) only [go_sem,c1]
  · simp (disch := omega) only [go_sem,c1]
theorem r117c (g t : Nat) (l : List Int) (p : Int → Bool) (hl : l.length ≤ 2 ^ 63 - 1) (hi : inls A g = false) (hp : PrA g = none) (ht : takes A g = false) (hf : ∀ x ∈ l,res A PrA g [.int .i64 x] = some [.bool (p x)]) : res A PrA 117 [.lst t (ints l),.func g []] = some [.int .i64 (idxP p l)] := by
  refine res_of a117 rfl rfl ?_
  simp only [F117]
  simp (disch := omega) only [go_sem]
  refine W.find l p (fun k => ⟨[(0,.pv (.lst t (ints l))),(1,.pv (.func g [])),(7,.pv (.int .i64 l.length)),(8,.pv (.int .i64 k))],⟨[],[],[]⟩⟩) rfl (fun k x hx hk hfd => ?_) (fun hn => ?_)
  · have hfx := hf x (List.mem_of_getElem? hx)
    simp (disch := omega) only [go_sem]
    refine Br.ofP (fun h => ?_) (fun h => (h (by omega)).elim)
    simp (disch := omega) only [go_sem,hx,CW_none hi hp ht,hfx]
    refine Br.of (fun h2 => ?_) (fun h2 => ?_) <;> simp (disch := omega) only [go_sem]
    · rw [(hfd h2).idxP]
    · exact findK.of h2 rfl
  · simp (disch := omega) only [go_sem]
    rw [hn.idxP]
theorem r108c (t : Nat) (l : List Int) (hl : l.length ≤ 2 ^ 63 - 1) : res A PrA 108 [.lst t (ints l),.func 188 []] = some [.bool (l.any badL)] := by
  refine res_of a108 rfl rfl ?_
  simp only [F108]
  have := r117c 188 t l badL hl (by kernel_rfl) (by kernel_rfl) (by kernel_rfl) (fun x _ => r188 x)
  simp (disch := omega) only [go_sem,this]
  rw [idxP_pos]
@[go_sem] theorem r177 (t : Nat) (l : List Int) (cap : Int) (hl : l.length ≤ 2000000000) : res A PrA 177 [.lst t (ints l),.int .i64 cap] = some [.bool (chanB l cap)] := by
  refine res_of a177 rfl rfl ?_
  simp only [F177]
  have h108 := r108c t l (by omega)
  unfold chanB
  by_cases c : (l.length : Int) ≤ cap
  · simp (disch := omega) only [go_sem,c,h108]
  · simp (disch := omega) only [go_sem,c]
def fitsB (a b : Auto) (cap : Int) (x y : Int) (l m : List Int) : Bool := decide (sysErr a b cap = 0) && decide (0 ≤ x) && decide (x < a.states) && decide (0 ≤ y) && decide (y < b.states) && chanB l cap && chanB m cap
end Go.Pv
namespace Go.Pv
theorem bool_le {a b : Int} : decide (0 ≤ min a b) = (decide (0 ≤ a) && decide (0 ≤ b)) := by
  by_cases h1 : 0 ≤ a <;> by_cases h2 : 0 ≤ b <;> simp [h1,h2] <;> omega
set_option maxHeartbeats 2000000 in
@[go_sem] theorem r157 (t1 t2 : Nat) (a b : Auto) (cap : Int) (u1 u2 : Nat) (x y : Int) (l m : List Int) (ha : a.edges.length ≤ 2 ^ 63 - 1) (hb : b.edges.length ≤ 2 ^ 63 - 1) (hl : l.length ≤ 2000000000) (hm : m.length ≤ 2000000000) : res A PrA 157 [.agg [.int .i64 a.states,.int .i64 a.start,.lst t1 (a.edges.map Edge.c),.int .i64 b.states,.int .i64 b.start,.lst t2 (b.edges.map Edge.c),.int .i64 cap],.agg [.int .i64 x,.int .i64 y,.lst u1 (ints l),.lst u2 (ints m)]] = some [.bool (fitsB a b cap x y l m)] := by
  refine res_of a157 rfl rfl ?_
  simp only [F157]
  simp (disch := omega) only [go_sem]
  unfold fitsB
  rw [bool_le]
  cases hb2 : decide (0 ≤ x)
  · cases hb1 : decide (sysErr a b cap = 0) <;> simp (disch := omega) only [go_sem,hb1]
  · cases hb4 : decide (0 ≤ y)
    · cases hb1 : decide (sysErr a b cap = 0) <;> simp (disch := omega) only [go_sem,hb1]
    · cases hb3 : decide (x < a.states)
      · cases hb1 : decide (sysErr a b cap = 0) <;> simp (disch := omega) only [go_sem,hb1,hb3]
      · cases hb5 : decide (y < b.states)
        · cases hb1 : decide (sysErr a b cap = 0) <;> simp (disch := omega) only [go_sem,hb1,hb3,hb5]
        · cases hb1 : decide (sysErr a b cap = 0)
          · simp (disch := omega) only [go_sem,hb1,hb3,hb5]
          · cases hb6 : chanB l cap
            · simp (disch := omega) only [go_sem,hb1,hb3,hb5,hb6]
            · simp (disch := omega) only [go_sem,hb1,hb3,hb5,hb6]
theorem r181 (t : Nat) (e : Edge) (s : Int) : res A PrA 181 [.agg [.int .i64 e.fr,.bool e.send,.int .i64 e.label,.int .i64 e.to],.ro t [.int .i64 s]] = some [.bool (decide (e.fr = s))] := by
  refine res_of a181 rfl rfl ?_
  simp only [F181]
  simp (disch := omega) only [go_sem]
theorem isEnd_any (s : Int) : ∀ l : List Edge,isEnd s l = !(l.any fun e => decide (e.fr = s))
  | [] => rfl
  | e :: r => by
    unfold isEnd
    rw [List.any_cons,isEnd_any s r]
    by_cases h : e.fr = s <;> simp [h]
theorem r180 (t u : Nat) (l : List Edge) (s : Int) (hl : l.length ≤ 2 ^ 63 - 1) : res A PrA 180 [.lst t (l.map Edge.c),.func 181 [.ro u [.int .i64 s]]] = some [.bool (!isEnd s l)] := by
  refine res_of a180 rfl rfl ?_
  simp only [F180]
  have h77 := r77 181 t u [.int .i64 s] l (fun e => decide (e.fr = s)) hl (by kernel_rfl) (by kernel_rfl) (by kernel_rfl) (fun e _ => r181 u e s)
  have e1 : edgs l = l.map Edge.c := rfl
  rw [e1] at h77
  simp (disch := omega) only [go_sem,h77]
  rw [idxP_pos,isEnd_any,Bool.not_not]
@[go_sem] theorem r179 (t : Nat) (a : Auto) (s : Int) (hl : a.edges.length ≤ 2 ^ 63 - 1) : res A PrA 179 [.agg [.int .i64 a.states,.int .i64 a.start,.lst t (a.edges.map Edge.c)],.int .i64 s] = some [.bool (!isEnd s a.edges)] := by
  refine res_of a179 rfl rfl ?_
  simp only [F179]
  have h180 := fun t u => r180 t u a.edges s hl
  simp (disch := omega) only [go_sem,h180]
def doneB (a b : Auto) (cap : Int) (x y : Int) (l m : List Int) : Bool := fitsB a b cap x y l m && decide (l.length + m.length = 0) && isEnd x a.edges && isEnd y b.edges
set_option maxHeartbeats 2000000 in
@[go_sem] theorem r159 (t1 t2 : Nat) (a b : Auto) (cap : Int) (u1 u2 : Nat) (x y : Int) (l m : List Int) (ha : a.edges.length ≤ 2 ^ 63 - 1) (hb : b.edges.length ≤ 2 ^ 63 - 1) (hl : l.length ≤ 2000000000) (hm : m.length ≤ 2000000000) : res A PrA 159 [.agg [.int .i64 a.states,.int .i64 a.start,.lst t1 (a.edges.map Edge.c),.int .i64 b.states,.int .i64 b.start,.lst t2 (b.edges.map Edge.c),.int .i64 cap],.agg [.int .i64 x,.int .i64 y,.lst u1 (ints l),.lst u2 (ints m)]] = some [.bool (doneB a b cap x y l m)] := by
  refine res_of a159 rfl rfl ?_
  simp only [F159]
  simp (disch := omega) only [go_sem]
  unfold doneB
  cases hb1 : fitsB a b cap x y l m
  · simp (disch := omega) only [go_sem]
  · by_cases hc : l.length + m.length = 0
    · have q1 : ¬ (0 < (l.length : Int) + m.length) := by omega
      simp (disch := omega) only [go_sem,q1]
      cases hb2 : isEnd x a.edges
      · simp (disch := omega) only [go_sem]
      · simp (disch := omega) only [go_sem]
        simp [hc]
    · have q1 : (0 < (l.length : Int) + m.length) := by omega
      simp (disch := omega) only [go_sem,q1]
      rw [decide_eq_false hc]
      rfl
def chkE (a b : Auto) (cap : Int) (x y : Int) (l m : List Int) : Int := if sysErr a b cap ≠ 0 then sysErr a b cap else if fitsB a b cap x y l m = true then 0 else 1
@[go_sem] theorem r187 (t1 t2 : Nat) (a b : Auto) (cap : Int) (u1 u2 : Nat) (x y : Int) (l m : List Int) (ha : a.edges.length ≤ 2 ^ 63 - 1) (hb : b.edges.length ≤ 2 ^ 63 - 1) (hl : l.length ≤ 2000000000) (hm : m.length ≤ 2000000000) : res A PrA 187 [.agg [.int .i64 a.states,.int .i64 a.start,.lst t1 (a.edges.map Edge.c),.int .i64 b.states,.int .i64 b.start,.lst t2 (b.edges.map Edge.c),.int .i64 cap],.agg [.int .i64 x,.int .i64 y,.lst u1 (ints l),.lst u2 (ints m)]] = some [.int .i64 (chkE a b cap x y l m)] := by
  refine res_of a187 rfl rfl ?_
  simp only [F187]
  simp (disch := omega) only [go_sem]
  unfold chkE
  by_cases h1 : sysErr a b cap = 0
  · simp (disch := omega) only [go_sem,h1]
    cases hb1 : fitsB a b cap x y l m
    · simp (disch := omega) only [go_sem]
      rw [if_neg (by simp [h1])]
    · simp (disch := omega) only [go_sem]
      rw [if_neg (by simp [h1])]
  · simp (disch := omega) only [go_sem,h1]
    simp [h1]
end Go.Pv
namespace Go.Pv
end Go.Pv
namespace Go.Pv
variable {A : Nat → Option AFunc} {Pr : Prims}
def rndM {α : Type} (kt kb : List Nat) (S : α → St) (P : α → Prop) (m : α → Nat) (x : α) (Q : Ex → St → Prop) (_t : Tie (kt,kb,S,P,m,x,Q) := .mk) : Ex → St → Prop
  | .normal,s => ∃ y,P y ∧ m y < m x ∧ s.mask kt kb = S y
  | .exit i,s => Q (.exit i) s
  | .ret,s => Q .ret s
@[go_sem] theorem rndM_exit {α : Type} (kt kb : List Nat) (S : α → St) (P : α → Prop) (m : α → Nat) (x : α) (Q : Ex → St → Prop) (i : Nat) (s : St) : rndM kt kb S P m x Q .mk (.exit i) s = Q (.exit i) s := rfl
@[go_sem] theorem rndM_ret {α : Type} (kt kb : List Nat) (S : α → St) (P : α → Prop) (m : α → Nat) (x : α) (Q : Ex → St → Prop) (s : St) : rndM kt kb S P m x Q .mk .ret s = Q .ret s := rfl
end Go.Pv
namespace Go.Pv
end Go.Pv
namespace Go.Pv
end Go.Pv
namespace Go.Pv
theorem cloneIntsT {l : List Int} (hm : l.length ≤ 2147483648) (t : Nat) (ht : t ≤ 1) : (l = [] ∧ ∀ h,cloneP 1 [.pv (.lst t [])] h = some (.tl [],{})) ∨ (l ≠ [] ∧ ∀ h,cloneP 1 [.pv (.lst t (ints l))] h = some (.own h.ar.length 0 0 l.length,{ push := [⟨0,1,.inl (ints l)⟩],base := h.ar.length })) := by
  by_cases h0 : l = []
  · subst h0
    exact .inl ⟨rfl,fun h => by simp [cloneP,srcRows,rowsFit,ht]⟩
  · refine .inr ⟨h0,fun h => ?_⟩
    have hl : ¬ l.length = 0 := fun e => h0 (List.eq_nil_of_length_eq_zero e)
    have hf := rowsFit_ints l
    have hil : (ints l).length = l.length := ints_length l
    simp [cloneP,srcRows,hf,hl,mostRows,hm,ht,hil]
def cfgP (c : Cfg) : PV := .agg [.int .i64 c.a,.int .i64 c.b,.lst 0 (ints c.toA),.lst 0 (ints c.toB)]
@[go_sem] theorem cfgP_eq (c : Cfg) : cfgP c = .agg [.int .i64 c.a,.int .i64 c.b,.lst 0 (ints c.toA),.lst 0 (ints c.toB)] := rfl
def cfg0 : Cfg := ⟨0,0,[],[]⟩
def putC (x y : Int) (party state : Int) (i o : List Int) : Cfg := if party = 0 then ⟨state,y,i,o⟩ else ⟨x,state,o,i⟩
set_option maxHeartbeats 2000000 in
theorem r190 (u1 u2 w1 w2 : Nat) (x y party state : Int) (l m i o : List Int) (hw1 : w1 ≤ 1) (hw2 : w2 ≤ 1) (hi : i.length ≤ 2147483648) (ho : o.length ≤ 2147483648) : res A PrA 190 [.agg [.int .i64 x,.int .i64 y,.lst u1 (ints l),.lst u2 (ints m)],.int .i64 party,.int .i64 state,.lst w1 (ints i),.lst w2 (ints o)] = some [cfgP (putC x y party state i o)] := by
  refine res_of a190 rfl rfl ?_
  simp only [F190]
  unfold putC cfgP
  rcases cloneIntsT hi w1 hw1 with ⟨rfl,hc⟩ | ⟨h0,hc⟩ <;> rcases cloneIntsT ho w2 hw2 with ⟨rfl,hd⟩ | ⟨h2,hd⟩
  all_goals
    by_cases hp : party = 0
    · have dp : decide (party = 0) = true := by simp [hp]
      simp (disch := omega) only [go_sem,dp,hc,hd,List.take_length,if_pos hp]
    · have dp : decide (party = 0) = false := by simp [hp]
      simp (disch := omega) only [go_sem,dp,hc,hd,List.take_length,if_neg hp]
theorem r189 (a b : Auto) (cap : Int) (x y : Int) (l m : List Int) (party : Int) : res A PrA 189 [.agg [.int .i64 a.states,.int .i64 a.start,.lst 0 (a.edges.map Edge.c),.int .i64 b.states,.int .i64 b.start,.lst 0 (b.edges.map Edge.c),.int .i64 cap],.agg [.int .i64 x,.int .i64 y,.lst 0 (ints l),.lst 0 (ints m)],.int .i64 party] = some [if party = 0 then .agg [.int .i64 a.states,.int .i64 a.start,.lst 0 (a.edges.map Edge.c),.int .i64 x,.lst 0 (ints l),.lst 0 (ints m),.int .i64 cap] else .agg [.int .i64 b.states,.int .i64 b.start,.lst 0 (b.edges.map Edge.c),.int .i64 y,.lst 0 (ints m),.lst 0 (ints l),.int .i64 cap]] := by
  refine res_of a189 rfl rfl ?_
  simp only [F189]
  by_cases hp : party = 0
  · have dp : decide (party = 0) = true := by simp [hp]
    simp (disch := omega) only [go_sem,dp,if_pos hp]
  · have dp : decide (party = 0) = false := by simp [hp]
    simp (disch := omega) only [go_sem,dp,if_neg hp]
def sideC (es : List Edge) (cap st : Int) (i o : List Int) (send : Bool) (label : Int) : Option (Int × List Int × List Int) × Bool :=
  match nextE st send label es with
  | none => (none,false)
  | some q => if send = true then (some (q,i,o ++ [label]),decide ((o.length : Int) < cap)) else match i with
    | [] => (none,false)
    | z :: r => if z = label then (some (q,r,o),true) else (none,false)
def afterC (a b : Auto) (cap x y : Int) (l m : List Int) (mv : Mov) : Cfg × Bool :=
  if mv.party = 0 then (match sideC a.edges cap x l m mv.send mv.label with
    | (none,ok) => (cfg0,ok)
    | (some (q,i,o),ok) => (⟨q,y,i,o⟩,ok))
  else if mv.party = 1 then (match sideC b.edges cap y m l mv.send mv.label with
    | (none,ok) => (cfg0,ok)
    | (some (q,i,o),ok) => (⟨x,q,o,i⟩,ok))
  else (cfg0,false)
set_option maxHeartbeats 4000000 in
theorem r182 (a b : Auto) (cap : Int) (x y : Int) (l m : List Int) (mv : Mov) (ha : a.edges.length ≤ 2 ^ 63 - 1) (hb : b.edges.length ≤ 2 ^ 63 - 1) (hl : l.length ≤ 2000000000) (hm : m.length ≤ 2000000000) : res A PrA 182 [.agg [.int .i64 a.states,.int .i64 a.start,.lst 0 (a.edges.map Edge.c),.int .i64 b.states,.int .i64 b.start,.lst 0 (b.edges.map Edge.c),.int .i64 cap],.agg [.int .i64 x,.int .i64 y,.lst 0 (ints l),.lst 0 (ints m)],.agg [.int .i64 mv.party,.bool mv.send,.int .i64 mv.label]] = some [cfgP (afterC a b cap x y l m mv).1,.bool (afterC a b cap x y l m mv).2] := by
  refine res_of a182 rfl rfl ?_
  simp only [F182]
  obtain ⟨p,send,label⟩ := mv
  have h190 := fun u1 u2 w1 w2 x y q s l m i o h1 h2 h3 h4 => r190 u1 u2 w1 w2 x y q s l m i o h1 h2 h3 h4
  have h189 := r189 a b cap x y l m
  by_cases hp : p = 0
  · subst hp
    have d0 : decide (((0 : Nat) : Int) = 0) = true := rfl
    have hA : afterC a b cap x y l m ⟨0,send,label⟩ = (match sideC a.edges cap x l m send label with
      | (none,ok) => (cfg0,ok)
      | (some (q,i,o),ok) => (⟨q,y,i,o⟩,ok)) := rfl
    rw [hA]
    unfold sideC
    have h189 := h189 0
    rw [if_pos rfl] at h189
    cases hn : nextE x send label a.edges with
    | none =>
      simp (disch := omega) only [go_sem,h189,hn,Option.isSome_none,Option.getD_none]
      rfl
    | some q =>
      cases send with
      | true =>
        have htk : (m ++ [label]).take (m.length + 1) = m ++ [label] := List.take_of_length_le (by simp)
        have hml : (m ++ [label]).length = m.length + 1 := by simp
        have h190' := fun u1 u2 w1 w2 h1 h2 => h190 u1 u2 w1 w2 x y 0 q l m l (m ++ [label]) h1 h2 (by omega) (by omega)
        rcases cloneIntsT (l := m) (by omega) 0 (by omega) with ⟨rfl,hd⟩ | ⟨h2,hd⟩
        · simp only [ints_nil,List.nil_append] at h189 h190'
          simp (disch := omega) only [go_sem,h189,h190',hn,hd,Option.isSome_some,Option.getD_some]
          rfl
        · simp (disch := omega) only [go_sem,h189,hn,hd,Option.isSome_some,Option.getD_some,htk,h190']
          rfl
      | false =>
        cases l with
        | nil =>
          simp only [ints_nil] at h189 h190
          simp (disch := omega) only [go_sem,h189,hn,Option.isSome_some,Option.getD_some,d0]
          rfl
        | cons z r =>
          have dz : decide (((r.length + 1 : Nat) : Int) = 0) = false := by rw [decide_eq_false_iff_not]; omega
          simp (disch := omega) only [go_sem,h189,hn,Option.isSome_some,Option.getD_some,dz,idxR_int]
          by_cases hz : z = label
          · have dl : decide (z = label) = true := by simp [hz]
            have hl' : r.length + 1 ≤ 2000000000 := hl
            have h190z := fun u1 u2 w1 w2 l' h1 h2 => h190 u1 u2 w1 w2 x y 0 q l' m r m h1 h2 (by omega) (by omega)
            simp (disch := omega) only [go_sem,dl,h190z,if_pos hz]
            rfl
          · have dl : decide (z = label) = false := by simp [hz]
            simp (disch := omega) only [go_sem,dl,if_neg hz]
            rfl
  · by_cases hp1 : p = 1
    · subst hp1
      have d0 : decide (((0 : Nat) : Int) = 0) = true := rfl
      have hA : afterC a b cap x y l m ⟨1,send,label⟩ = (match sideC b.edges cap y m l send label with
        | (none,ok) => (cfg0,ok)
        | (some (q,i,o),ok) => (⟨x,q,o,i⟩,ok)) := rfl
      rw [hA]
      unfold sideC
      have h189 := h189 1
      rw [if_neg (by decide)] at h189
      cases hn : nextE y send label b.edges with
      | none =>
        simp (disch := omega) only [go_sem,h189,hn,Option.isSome_none,Option.getD_none]
        rfl
      | some q =>
        cases send with
        | true =>
          have htk : (l ++ [label]).take (l.length + 1) = l ++ [label] := List.take_of_length_le (by simp)
          have hml : (l ++ [label]).length = l.length + 1 := by simp
          have h190' := fun u1 u2 w1 w2 h1 h2 => h190 u1 u2 w1 w2 x y 1 q l m m (l ++ [label]) h1 h2 (by omega) (by omega)
          rcases cloneIntsT (l := l) (by omega) 0 (by omega) with ⟨rfl,hd⟩ | ⟨h2,hd⟩
          · simp only [ints_nil,List.nil_append] at h189 h190'
            simp (disch := omega) only [go_sem,h189,h190',hn,hd,Option.isSome_some,Option.getD_some]
            rfl
          · simp (disch := omega) only [go_sem,h189,hn,hd,Option.isSome_some,Option.getD_some,htk,h190']
            rfl
        | false =>
          cases m with
          | nil =>
            simp only [ints_nil] at h189 h190
            simp (disch := omega) only [go_sem,h189,hn,Option.isSome_some,Option.getD_some,d0]
            rfl
          | cons z r =>
            have dz : decide (((r.length + 1 : Nat) : Int) = 0) = false := by rw [decide_eq_false_iff_not]; omega
            simp (disch := omega) only [go_sem,h189,hn,Option.isSome_some,Option.getD_some,dz,idxR_int]
            by_cases hz : z = label
            · have dl : decide (z = label) = true := by simp [hz]
              have hl' : r.length + 1 ≤ 2000000000 := hm
              have h190z := fun u1 u2 w1 w2 l' h1 h2 => h190 u1 u2 w1 w2 x y 1 q l l' r l h1 h2 (by omega) (by omega)
              simp (disch := omega) only [go_sem,dl,h190z,if_pos hz]
              rfl
            · have dl : decide (z = label) = false := by simp [hz]
              simp (disch := omega) only [go_sem,dl,if_neg hz]
              rfl
    · have hA : afterC a b cap x y l m ⟨p,send,label⟩ = (cfg0,false) := by
        unfold afterC
        rw [if_neg hp,if_neg hp1]
      rw [hA]
      have e0 : decide (p = 0) = false := by simp [hp]
      have e1 : decide (p = 1) = false := by simp [hp1]
      simp (disch := omega) only [go_sem,e0,e1]
      rfl
end Go.Pv
namespace Go.Pv
end Go.Pv
namespace Go.Pv
def mvs3 (l : List Mov) : List (List PV) := l.map Mov.c
@[go_sem] theorem mvs3_length (l : List Mov) : (mvs3 l).length = l.length := by simp [mvs3]
@[go_sem] theorem mvs3_nil : mvs3 [] = [] := rfl
@[go_sem] theorem mvs3_get (l : List Mov) (i : Nat) : (mvs3 l)[i]? = l[i]?.map fun x => [.int .i64 x.party,.bool x.send,.int .i64 x.label] := by simp [mvs3]; rfl
@[go_sem] theorem mvs3_snoc (l : List Mov) (a : Int) (b : Bool) (c : Int) : mvs3 l ++ [[.int .i64 a,.bool b,.int .i64 c]] = mvs3 (l ++ [⟨a,b,c⟩]) := by simp [mvs3,Mov.c]
@[go_sem] theorem grow03 (bx : List (Nat × List V)) (mp : List (List (PV × PV))) (rows : List (List PV)) (a b c : PV) (hm : rows.length + 1 ≤ 2147483648) : appendV ⟨bx,grA 3 rows,mp⟩ 3 (grV 0 rows) (.tl [[a,b,c]]) = some (grV 0 (rows ++ [[a,b,c]]),grT 0 3 rows [a,b,c]) := grow0 bx mp 3 rows [a,b,c] rfl hm
def Edge.mv (p : Int) (e : Edge) : Mov := ⟨p,e.send,e.label⟩
def mvsOf (a b : Auto) (cap x y : Int) (l m : List Int) (p st : Int) (es : List Edge) : List Mov :=
  (es.filter fun e => decide (e.fr = st) && (afterC a b cap x y l m (e.mv p)).2).map (Edge.mv p)
def movesC (a b : Auto) (cap x y : Int) (l m : List Int) : List Mov := mvsOf a b cap x y l m 0 x a.edges ++ mvsOf a b cap x y l m 1 y b.edges
theorem mvsOf_snoc (a b : Auto) (cap x y : Int) (l m : List Int) (p st : Int) {es : List Edge} {k : Nat} {e : Edge} (h : es[k]? = some e) : mvsOf a b cap x y l m p st (es.take (k + 1)) = if e.fr = st ∧ (afterC a b cap x y l m (e.mv p)).2 = true then mvsOf a b cap x y l m p st (es.take k) ++ [e.mv p] else mvsOf a b cap x y l m p st (es.take k) := by
  unfold mvsOf
  rw [List.take_add_one,h,List.filter_append,List.map_append]
  by_cases h1 : e.fr = st
  · cases h2 : (afterC a b cap x y l m (e.mv p)).2 <;> simp [h1,h2]
  · simp [h1]
theorem mvsOf_len (a b : Auto) (cap x y : Int) (l m : List Int) (p st : Int) (es : List Edge) : (mvsOf a b cap x y l m p st es).length ≤ es.length := by
  unfold mvsOf
  rw [List.length_map]
  exact List.length_filter_le _ _
end Go.Pv
namespace Go.Pv
theorem isort_id {α : Type} {lt : α → α → Bool} (asym : ∀ x y,lt x y = true → lt y x = false) : ∀ {l : List α},l.Pairwise (fun a b => lt a b = true) → isort lt l = l
  | [],_ => rfl
  | x :: l,h => by
    obtain ⟨h1,h2⟩ := List.pairwise_cons.1 h
    unfold isort
    rw [isort_id asym h2]
    cases l with
    | nil => rfl
    | cons y r =>
      unfold ins
      rw [if_neg (by rw [asym x y (h1 y (by simp))]; decide)]
theorem Mov.asym (x y : Mov) (h : Mov.lt x y = true) : Mov.lt y x = false := by
  cases hc : Mov.lt y x with
  | false => rfl
  | true =>
    have := Mov.swo.trans x y x h hc
    rw [Mov.swo.irrefl] at this
    cases this
theorem mvs3_dec (l : List Mov) : mapO Mov.dec (mvs3 l) = some l := by
  induction l with
  | nil => rfl
  | cons x l ih =>
    show mapO Mov.dec (x.c :: mvs3 l) = _
    have : Mov.dec x.c = some x := rfl
    simp only [mapO,this,ih]
def srtM (l : List Mov) : Tn := if l.length = 0 then {} else { ar := some (0,⟨l.length - 1,3,.inl (mvs3 l)⟩) }
theorem sortP_mvs {bx : List (Nat × List V)} {mp : List (List (PV × PV))} {l : List Mov} (hm : l.length ≤ 2147483648) (hs : l.Pairwise (fun a b => Mov.lt a b = true)) :
    sortP 3 (sortRows Mov.c Mov.dec Mov.lt) 197 [grV 0 (mvs3 l),.func 197 []] ⟨bx,grA 3 (mvs3 l),mp⟩ = some (.tup [],srtM l) := by
  rcases Nat.eq_zero_or_pos l.length with h | h
  · have : l = [] := List.eq_nil_of_length_eq_zero h
    subst this
    simp [srtM,grV,sortP,mvs3]
  · obtain ⟨q,hq⟩ : ∃ q,(mvs3 l).length = q + 1 := ⟨l.length - 1,by rw [mvs3_length]; omega⟩
    have e1 : (mvs3 l).length = l.length := mvs3_length l
    rw [grV_own hq,grA_own hq]
    have hr := rising_of hs
    have hid := isort_id Mov.asym hs
    have hl : q + 1 = l.length := by omega
    have ho : ownArr ⟨bx,[⟨q,3,.inl (mvs3 l)⟩],mp⟩ 0 q = some ⟨q,3,.inl (mvs3 l)⟩ := by simp [ownArr]
    rw [hl]
    have h0 : ¬ l.length = 0 := by omega
    have hlq : l.length - 1 = q := by omega
    simp [sortP,ho,h0,e1,mostRows,hm,sortRows,mvs3_dec,hr,hid,List.take_of_length_le (Nat.le_of_eq e1),List.drop_eq_nil_of_le (Nat.le_of_eq e1),srtM,hlq]
    rfl
@[go_sem] theorem srtM_apply (bx : List (Nat × List V)) (mp : List (List (PV × PV))) (l : List Mov) : (srtM l).apply ⟨bx,grA 3 (mvs3 l),mp⟩ = ⟨bx,grA 3 (mvs3 l),mp⟩ := by
  rcases Nat.eq_zero_or_pos l.length with h | h
  · have : l = [] := List.eq_nil_of_length_eq_zero h
    subst this
    simp [srtM,mvs3,Tn.apply,grA]
  · obtain ⟨q,hq⟩ : ∃ q,(mvs3 l).length = q + 1 := ⟨l.length - 1,by rw [mvs3_length]; omega⟩
    have e1 : (mvs3 l).length = l.length := mvs3_length l
    have h0 : ¬ l.length = 0 := by omega
    have hlq : l.length - 1 = q := by omega
    rw [grA_own hq]
    simp [srtM,h0,hlq,Tn.apply]
theorem mvsOf_mem {a b : Auto} {cap x y : Int} {l m : List Int} {p st : Int} {es : List Edge} {mv : Mov} : mv ∈ mvsOf a b cap x y l m p st es ↔ ∃ e ∈ es,e.fr = st ∧ mv = e.mv p ∧ (afterC a b cap x y l m mv).2 = true := by
  unfold mvsOf
  rw [List.mem_map]
  constructor
  · rintro ⟨e,he,rfl⟩
    obtain ⟨h1,h2⟩ := List.mem_filter.1 he
    rw [Bool.and_eq_true,decide_eq_true_eq] at h2
    exact ⟨e,h1,h2.1,rfl,h2.2⟩
  · rintro ⟨e,h1,h2,rfl,h3⟩
    exact ⟨e,List.mem_filter.2 ⟨h1,by rw [h3,decide_eq_true h2]; rfl⟩,rfl⟩
theorem mvsOf_asc {a b : Auto} {cap x y : Int} {l m : List Int} {p st : Int} {es : List Edge} (h : es.Pairwise (fun x y => Edge.lt x y = true)) : (mvsOf a b cap x y l m p st es).Pairwise (fun x y => Mov.lt x y = true) := by
  unfold mvsOf
  rw [List.pairwise_map]
  refine (h.filter _).imp_of_mem fun {e f} he hf hlt => ?_
  have h1 := (List.mem_filter.1 he).2
  have h2 := (List.mem_filter.1 hf).2
  rw [Bool.and_eq_true,decide_eq_true_eq] at h1 h2
  have h3 : e.fr = f.fr := h1.1.trans h2.1.symm
  unfold Mov.lt Mov.e Edge.mv
  unfold Edge.lt at hlt ⊢
  simpa [h3] using hlt
theorem movesC_asc {a b : Auto} {cap x y : Int} {l m : List Int} (ha : a.edges.Pairwise (fun x y => Edge.lt x y = true)) (hb : b.edges.Pairwise (fun x y => Edge.lt x y = true)) : (movesC a b cap x y l m).Pairwise (fun x y => Mov.lt x y = true) := by
  unfold movesC
  rw [List.pairwise_append]
  refine ⟨mvsOf_asc ha,mvsOf_asc hb,fun u hu v hv => ?_⟩
  obtain ⟨e,_,_,rfl,_⟩ := mvsOf_mem.1 hu
  obtain ⟨f,_,_,rfl,_⟩ := mvsOf_mem.1 hv
  unfold Mov.lt Mov.e Edge.mv Edge.lt
  simp
theorem sys_good {a b : Auto} {cap : Int} (h : sysErr a b cap = 0) : a.Good ∧ b.Good ∧ 1 ≤ cap ∧ cap ≤ 3 := by
  unfold sysErr at h
  by_cases h1 : a.err = 0
  · rw [if_neg (by simp [h1])] at h
    by_cases h2 : b.err = 0
    · rw [if_neg (by simp [h2])] at h
      refine ⟨Auto.good_iff.1 h1,Auto.good_iff.1 h2,?_⟩
      by_cases h3 : cap < 1 ∨ 3 < cap
      · rw [if_pos h3] at h
        cases h
      · omega
    · rw [if_pos (by simp [h2])] at h
      exact absurd h h2
  · rw [if_pos (by simp [h1])] at h
    exact absurd h h1
set_option maxHeartbeats 8000000 in
theorem r186 (a b : Auto) (cap : Int) (x y : Int) (l m : List Int) (ha : a.edges.length ≤ 1000000) (hb : b.edges.length ≤ 1000000) (hl : l.length ≤ 2000000000) (hm : m.length ≤ 2000000000) (hs : (movesC a b cap x y l m).Pairwise (fun x y => Mov.lt x y = true)) : res A PrA 186 [.agg [.int .i64 a.states,.int .i64 a.start,.lst 0 (a.edges.map Edge.c),.int .i64 b.states,.int .i64 b.start,.lst 0 (b.edges.map Edge.c),.int .i64 cap],.agg [.int .i64 x,.int .i64 y,.lst 0 (ints l),.lst 0 (ints m)]] = some [.lst 0 (mvs3 (movesC a b cap x y l m))] := by
  refine res_of a186 rfl rfl ?_
  simp only [F186]
  have h182 := fun mv => r182 a b cap x y l m mv (by omega) (by omega) hl hm
  have h1890 := r189 a b cap x y l m ((0 : Nat) : Int)
  have h1891 := r189 a b cap x y l m ((1 : Nat) : Int)
  rw [if_pos (by rfl)] at h1890
  rw [if_neg (by decide)] at h1891
  simp (disch := omega) only [go_sem]
  refine W.upto 2 (fun k => ⟨[(2,.ptr 2 0),(3,.ptr 3 0),(5,grV 0 (mvs3 (if k = 0 then [] else if k = 1 then mvsOf a b cap x y l m 0 x a.edges else movesC a b cap x y l m))),(13,.pv (.int .i64 k))],⟨[(2,[.pv (.int .i64 a.states),.pv (.int .i64 a.start),.pv (.lst 0 (a.edges.map Edge.c)),.pv (.int .i64 b.states),.pv (.int .i64 b.start),.pv (.lst 0 (b.edges.map Edge.c)),.pv (.int .i64 cap)]),(3,[.pv (.int .i64 x),.pv (.int .i64 y),.pv (.lst 0 (ints l)),.pv (.lst 0 (ints m))])],grA 3 (mvs3 (if k = 0 then [] else if k = 1 then mvsOf a b cap x y l m 0 x a.edges else movesC a b cap x y l m)),[]⟩⟩) (fun _ => True) rfl trivial fun k hk _ => ?_
  have d0 : decide (((0 : Nat) : Int) < 2) = true := rfl
  have d1 : decide (((1 : Nat) : Int) < 2) = true := rfl
  have d2 : decide (((2 : Nat) : Int) < 2) = false := rfl
  have hl0 := mvsOf_len a b cap x y l m 0 x a.edges
  obtain rfl | rfl | rfl : k = 0 ∨ k = 1 ∨ k = 2 := by omega
  · simp (disch := omega) only [go_sem,d0,h1890]
    refine W.upto a.edges.length (fun k => ⟨[(2,.ptr 2 0),(3,.ptr 3 0),(5,grV 0 (mvs3 (mvsOf a b cap x y l m 0 x (a.edges.take k)))),(6,.pv (.int .i64 0)),(7,.ptr 7 0),(13,.pv (.int .i64 0)),(22,.pv (.lst 0 (a.edges.map Edge.c))),(23,.pv (.int .i64 a.edges.length)),(24,.pv (.int .i64 k))],⟨[(2,[.pv (.int .i64 a.states),.pv (.int .i64 a.start),.pv (.lst 0 (a.edges.map Edge.c)),.pv (.int .i64 b.states),.pv (.int .i64 b.start),.pv (.lst 0 (b.edges.map Edge.c)),.pv (.int .i64 cap)]),(3,[.pv (.int .i64 x),.pv (.int .i64 y),.pv (.lst 0 (ints l)),.pv (.lst 0 (ints m))]),(7,[.pv (.int .i64 a.states),.pv (.int .i64 a.start),.pv (.lst 0 (a.edges.map Edge.c)),.pv (.int .i64 x),.pv (.lst 0 (ints l)),.pv (.lst 0 (ints m)),.pv (.int .i64 cap)])],grA 3 (mvs3 (mvsOf a b cap x y l m 0 x (a.edges.take k))),[]⟩⟩) (fun _ => True) ?_ trivial fun k hk _ => ?_
    · rw [show mvsOf a b cap x y l m 0 x (a.edges.take 0) = [] from rfl]
      rfl
    simp (disch := omega) only [go_sem]
    refine Br.ofP (fun c => ?_) (fun c => ?_)
    · obtain ⟨e,he⟩ := get_at (l := a.edges) (k := k) (by omega)
      have hlen : (mvsOf a b cap x y l m 0 x (a.edges.take k)).length ≤ k := Nat.le_trans (mvsOf_len a b cap x y l m 0 x _) (by rw [List.length_take]; omega)
      have hs : mvsOf a b cap x y l m 0 x (a.edges.take (k + 1)) = if e.fr = x ∧ (afterC a b cap x y l m ⟨0,e.send,e.label⟩).2 = true then (mvsOf a b cap x y l m 0 x (a.edges.take k)) ++ [⟨0,e.send,e.label⟩] else mvsOf a b cap x y l m 0 x (a.edges.take k) := by
        rw [mvsOf_snoc a b cap x y l m 0 x he]
        rfl
      have h182e := h182 ⟨0,e.send,e.label⟩
      have hql : (mvsOf a b cap x y l m 0 x (a.edges.take k)).length ≤ 3000000 := by omega
      generalize mvsOf a b cap x y l m 0 x (a.edges.take k) = q at *
      have hq2 : (mvs3 q).length ≤ 3000000 := by rw [mvs3_length]; exact hql
      simp (disch := omega) only [go_sem,he]
      by_cases c1 : e.fr = x
      · have e1 : decide (e.fr = x) = true := by simp [c1]
        simp (disch := omega) only [go_sem,e1,h182e]
        refine Br.of (fun g => ?_) (fun g => ?_) <;> simp (disch := omega) only [go_sem,g]
        · refine .of (by omega) ?_ trivial
          rw [hs,if_pos ⟨c1,g⟩]
          rfl
        · refine .of (by omega) ?_ trivial
          rw [hs,if_neg (fun h => by rw [h.2] at g; cases g)]
          rfl
      · have e1 : decide (e.fr = x) = false := by simp [c1]
        simp (disch := omega) only [go_sem,e1]
        refine .of (by omega) ?_ trivial
        rw [hs,if_neg (fun h => c1 h.1)]
        rfl
    · obtain rfl : k = a.edges.length := by omega
      rw [List.take_length]
      simp (disch := omega) only [go_sem]
      refine .of (by omega) ?_ trivial
      rfl
  · simp (disch := omega) only [go_sem,d1,h1891]
    refine W.upto b.edges.length (fun k => ⟨[(2,.ptr 2 0),(3,.ptr 3 0),(5,grV 0 (mvs3 (mvsOf a b cap x y l m 0 x a.edges ++ mvsOf a b cap x y l m 1 y (b.edges.take k)))),(6,.pv (.int .i64 1)),(7,.ptr 7 0),(13,.pv (.int .i64 1)),(22,.pv (.lst 0 (b.edges.map Edge.c))),(23,.pv (.int .i64 b.edges.length)),(24,.pv (.int .i64 k))],⟨[(2,[.pv (.int .i64 a.states),.pv (.int .i64 a.start),.pv (.lst 0 (a.edges.map Edge.c)),.pv (.int .i64 b.states),.pv (.int .i64 b.start),.pv (.lst 0 (b.edges.map Edge.c)),.pv (.int .i64 cap)]),(3,[.pv (.int .i64 x),.pv (.int .i64 y),.pv (.lst 0 (ints l)),.pv (.lst 0 (ints m))]),(7,[.pv (.int .i64 b.states),.pv (.int .i64 b.start),.pv (.lst 0 (b.edges.map Edge.c)),.pv (.int .i64 y),.pv (.lst 0 (ints m)),.pv (.lst 0 (ints l)),.pv (.int .i64 cap)])],grA 3 (mvs3 (mvsOf a b cap x y l m 0 x a.edges ++ mvsOf a b cap x y l m 1 y (b.edges.take k))),[]⟩⟩) (fun _ => True) ?_ trivial fun k hk _ => ?_
    · rw [show mvsOf a b cap x y l m 0 x a.edges ++ mvsOf a b cap x y l m 1 y (b.edges.take 0) = mvsOf a b cap x y l m 0 x a.edges from List.append_nil _]
      rfl
    simp (disch := omega) only [go_sem]
    refine Br.ofP (fun c => ?_) (fun c => ?_)
    · obtain ⟨e,he⟩ := get_at (l := b.edges) (k := k) (by omega)
      have hlen : (mvsOf a b cap x y l m 1 y (b.edges.take k)).length ≤ k := Nat.le_trans (mvsOf_len a b cap x y l m 1 y _) (by rw [List.length_take]; omega)
      have hs : mvsOf a b cap x y l m 0 x a.edges ++ mvsOf a b cap x y l m 1 y (b.edges.take (k + 1)) = if e.fr = y ∧ (afterC a b cap x y l m ⟨1,e.send,e.label⟩).2 = true then (mvsOf a b cap x y l m 0 x a.edges ++ mvsOf a b cap x y l m 1 y (b.edges.take k)) ++ [⟨1,e.send,e.label⟩] else mvsOf a b cap x y l m 0 x a.edges ++ mvsOf a b cap x y l m 1 y (b.edges.take k) := by
        rw [mvsOf_snoc a b cap x y l m 1 y he]
        unfold Edge.mv; split <;> simp
      have h182e := h182 ⟨1,e.send,e.label⟩
      have hql : (mvsOf a b cap x y l m 0 x a.edges ++ mvsOf a b cap x y l m 1 y (b.edges.take k)).length ≤ 3000000 := by rw [List.length_append]; omega
      generalize mvsOf a b cap x y l m 0 x a.edges ++ mvsOf a b cap x y l m 1 y (b.edges.take k) = q at *
      have hq2 : (mvs3 q).length ≤ 3000000 := by rw [mvs3_length]; exact hql
      simp (disch := omega) only [go_sem,he]
      by_cases c1 : e.fr = y
      · have e1 : decide (e.fr = y) = true := by simp [c1]
        simp (disch := omega) only [go_sem,e1,h182e]
        refine Br.of (fun g => ?_) (fun g => ?_) <;> simp (disch := omega) only [go_sem,g]
        · refine .of (by omega) ?_ trivial
          rw [hs,if_pos ⟨c1,g⟩]
          rfl
        · refine .of (by omega) ?_ trivial
          rw [hs,if_neg (fun h => by rw [h.2] at g; cases g)]
          rfl
      · have e1 : decide (e.fr = y) = false := by simp [c1]
        simp (disch := omega) only [go_sem,e1]
        refine .of (by omega) ?_ trivial
        rw [hs,if_neg (fun h => c1 h.1)]
        rfl
    · obtain rfl : k = b.edges.length := by omega
      rw [List.take_length]
      simp (disch := omega) only [go_sem]
      refine .of (by omega) ?_ trivial
      rfl
  · have hml : (movesC a b cap x y l m).length ≤ 2000000 := by
      have := mvsOf_len a b cap x y l m 1 y b.edges
      unfold movesC
      rw [List.length_append]
      omega
    have hsp := fun bx mp => sortP_mvs (bx := bx) (mp := mp) (l := movesC a b cap x y l m) (by omega) hs
    have e20 : ((if 2 = 0 then [] else if 2 = 1 then mvsOf a b cap x y l m 0 x a.edges else movesC a b cap x y l m) : List Mov) = movesC a b cap x y l m := rfl
    rw [e20]
    generalize movesC a b cap x y l m = q at *
    simp (disch := omega) only [go_sem,d2,hsp]
end Go.Pv
namespace Go.Pv
def Cfg.c (c : Cfg) : List PV := [.int .i64 c.a,.int .i64 c.b,.lst 0 (ints c.toA),.lst 0 (ints c.toB)]
def cfgs (l : List Cfg) : List (List PV) := l.map Cfg.c
@[go_sem] theorem cfgs_length (l : List Cfg) : (cfgs l).length = l.length := List.length_map _
theorem cfgs_get (l : List Cfg) (i : Nat) : (cfgs l)[i]? = l[i]?.map Cfg.c := by simp [cfgs]
theorem cfgs_snoc (l : List Cfg) (c : Cfg) : cfgs l ++ [[.int .i64 c.a,.int .i64 c.b,.lst 0 (ints c.toA),.lst 0 (ints c.toB)]] = cfgs (l ++ [c]) := by simp [cfgs,Cfg.c]
def sucC (a b : Auto) (cap : Int) (c : Cfg) : List Cfg := (movesC a b cap c.a c.b c.toA c.toB).map fun m => (afterC a b cap c.a c.b c.toA c.toB m).1
structure Runs29 (a b : Auto) (cap : Int) (p : Cfg → Prop) : Prop where
  st : p ⟨a.start,b.start,[],[]⟩
  nx : ∀ c,p c → ∀ x ∈ sucC a b cap c,p x
  ok : ∀ c,p c → c.ok
  so : ∀ c,p c → (movesC a b cap c.a c.b c.toA c.toB).Pairwise (fun x y => Mov.lt x y = true)
def cfgStart (a b : Auto) : Cfg := ⟨a.start,b.start,[],[]⟩
end Go.Pv
namespace Go.Pv
def txt (l : List UInt8) : ByteArray := ⟨l.toArray⟩
def itoaS (n : Int) : ByteArray := txt (encN n)
theorem itoa_all : (List.range 100).map (fun n : Nat => callBy A (exec A PrA 60) 194 [.int .i64 (n : Int)]) = (List.range 100).map (fun n : Nat => some [.str (itoaS (n : Int))]) := by kernel_rfl
theorem r194 (n : Int) (h : smallI n = true) : res A PrA 194 [.int .i64 n] = some [.str (itoaS n)] := by
  simp only [smallI,Bool.and_eq_true,decide_eq_true_eq] at h
  have := congrArg (fun l => l[n.toNat]?) itoa_all
  simp only [List.getElem?_map] at this
  rw [List.getElem?_range (by omega)] at this
  simp only [Option.map_some,Option.some.injEq] at this
  rw [show ((n.toNat : Nat) : Int) = n by omega] at this
  exact res_some.2 ⟨60,this⟩
theorem bcat (a b : List UInt8) : txt a ++ txt b = txt (a ++ b) := by
  apply ByteArray.ext
  simp [txt]
theorem bsize (a : List UInt8) : (txt a).size = a.length := by simp [ByteArray.size,txt]
theorem addT (a b : List UInt8) (h : a.length + b.length ≤ 1000000) : binV .add (.pv (.str (txt a))) (.pv (.str (txt b))) = some (.pv (.str (txt (a ++ b)))) := by
  simp only [binV,strBin,bsize]
  rw [if_pos (by omega),bcat]
  rfl
theorem txt32 : (⟨#[32]⟩ : ByteArray) = txt [32] := rfl
theorem txt59 : (⟨#[59]⟩ : ByteArray) = txt [59] := rfl
theorem txt0 : (⟨#[]⟩ : ByteArray) = txt [] := rfl
theorem encN_len (n : Int) : (encN n).length ≤ 2 := by unfold encN; split <;> simp
theorem spN_len (l : List Int) : (l.flatMap spN).length ≤ 3 * l.length := by
  induction l with
  | nil => simp
  | cons x l ih =>
    have := encN_len x
    simp only [List.flatMap_cons,List.length_append,List.length_cons,spN]
    omega
theorem spN_snoc {l : List Int} {k : Nat} {x : Int} (h : l[k]? = some x) : (l.take (k + 1)).flatMap spN = (l.take k).flatMap spN ++ spN x := by
  rw [List.take_add_one,h,List.flatMap_append]
  simp
set_option maxHeartbeats 4000000 in
theorem r251 (t u : Nat) (a b : Int) (l m : List Int) (h : Cfg.ok ⟨a,b,l,m⟩) : res A PrA 251 [.agg [.int .i64 a,.int .i64 b,.lst t (ints l),.lst u (ints m)]] = some [.str (keyBS a b l m)] := by
  refine res_of a251 rfl rfl ?_
  simp only [F251]
  obtain ⟨h1,h2,h3,h4,h5,h6⟩ := h
  simp only at h1 h2 h3 h4 h5 h6
  have ha := r194 a h1
  have hb := r194 b h2
  have la := encN_len a
  have lb := encN_len b
  have e32 : ([32] : List UInt8).length = 1 := rfl
  have hl63 : l.length ≤ 2 ^ 63 - 1 := by omega
  have hm63 : m.length ≤ 2 ^ 63 - 1 := by omega
  simp (disch := first | omega | (simp only [List.length_append,List.length_cons,List.length_nil]; omega)) only [go_sem,ha,hb,txt32,txt59,txt0,itoaS,addT]
  refine W.upto l.length (fun k => ⟨[(1,.ptr 1 0),(3,.pv (.str (txt (encN a ++ [32] ++ encN b ++ (l.take k).flatMap spN)))),(17,.pv (.lst t (ints l))),(18,.pv (.int .i64 l.length)),(19,.pv (.int .i64 k))],⟨[(1,[.pv (.int .i64 a),.pv (.int .i64 b),.pv (.lst t (ints l)),.pv (.lst u (ints m))])],[],[]⟩⟩) (fun _ => True) (by simp) trivial fun k hk _ => ?_
  simp (disch := omega) only [go_sem]
  refine Br.ofP (fun c => ?_) (fun c => ?_)
  · have hx := List.getElem?_eq_getElem (l := l) (i := k) (by omega)
    generalize l[k]'(by omega) = x at hx
    have hx1 := r194 x (List.all_eq_true.1 h3 x (List.mem_of_getElem? hx))
    have hs := spN_snoc hx
    have lk := spN_len (l.take k)
    have lx := encN_len x
    have lt : (l.take k).length ≤ l.length := by rw [List.length_take]; omega
    simp (disch := first | omega | (simp only [List.length_append,List.length_cons,List.length_nil]; omega)) only [go_sem,hx,hx1,itoaS,addT]
    refine .of (by omega) ?_ trivial
    rw [hs]
    simp [spN]
  obtain rfl : k = l.length := by omega
  clear hk c
  rw [List.take_length]
  have lk := spN_len l
  simp (disch := first | omega | (simp only [List.length_append,List.length_cons,List.length_nil]; omega)) only [go_sem,addT]
  refine W.upto m.length (fun k => ⟨[(3,.pv (.str (txt (encN a ++ [32] ++ encN b ++ l.flatMap spN ++ [59] ++ (m.take k).flatMap spN)))),(32,.pv (.lst u (ints m))),(33,.pv (.int .i64 m.length)),(34,.pv (.int .i64 k))],⟨[],[],[]⟩⟩) (fun _ => True) (by simp) trivial fun k hk _ => ?_
  simp (disch := omega) only [go_sem]
  refine Br.ofP (fun c => ?_) (fun c => ?_)
  · have hx := List.getElem?_eq_getElem (l := m) (i := k) (by omega)
    generalize m[k]'(by omega) = x at hx
    have hx1 := r194 x (List.all_eq_true.1 h4 x (List.mem_of_getElem? hx))
    have hs := spN_snoc hx
    have lk2 := spN_len (m.take k)
    have lx := encN_len x
    have lt : (m.take k).length ≤ m.length := by rw [List.length_take]; omega
    simp (disch := first | omega | (simp only [List.length_append,List.length_cons,List.length_nil]; omega)) only [go_sem,hx,hx1,itoaS,addT]
    refine .of (by omega) ?_ trivial
    rw [hs]
    simp [spN]
  obtain rfl : k = m.length := by omega
  rw [List.take_length]
  simp (disch := omega) only [go_sem]
  simp [keyBS,keyB,txt,spN]
end Go.Pv
